/- Lemmas and walks for the statements of the texts ZTZ..: the declarations that they need, taken together by a program of this session. Conditions: as each says. -/
import Derived.Test.YtdkalnkplgfgoaaZTa
import Derived.Test.YtdkalnkplgfgoaaZTb
set_option maxHeartbeats 8000000
set_option maxRecDepth 100000
set_option linter.unusedVariables false
set_option linter.unusedSimpArgs false
namespace Go.Proofs.Ytdkalnkplgfgoaa.PA
open Go.RowKit Go.Proofs.YtdkalnkplgfgoaaW.PrintWords Go.Proofs.YtdkalnkplgfgoaaW.PrintLast Go.Proofs.YtdkalnkplgfgoaaW.PrintMore
attribute [local go_sem] dR dU fD fE dC dD dS dV
attribute [local go_sem high] eqA45
def dI.f (k:Nat) (l0:List (S47)):Option (Int):=(bJ.f k l0).bind fun bt214=>(if bt214.2=0 then (some 0) else (some 155))
theorem dI.calls (k:Nat) (A0:Option Addr) (c0:Nat) (l0:List (S47)) (r:Int) (w:World) (hr0:Kd.C k47 w A0 l0.length l0) (hc0:l0.length≤c0) (h:dI.f k l0=some r) :
 Calls Try.prog 68 #[.slice A0 l0.length c0] w fun e w'=>e = .returned (.int .i64 r)∧Below w.heap.size w w':=by
 have HR0:=aa.mk hr0
 have HC0:=aa.mk hc0
 clear hr0 hc0
 have HB:=aa.mk (Below.refl w.heap.size w)
 have H:((bJ.f k l0).bind fun bt214=>(if bt214.2=0 then (some 0) else (some 155)))=some r:=h
 clear h
 replace H:=Option.bind_eq_some_iff.mp H
 obtain ⟨⟨t214,t215⟩,A20,H⟩:=H
 replace H:(if t215=0 then (some 0) else (some 155))=some r:=H
 have A2:=aa.mk A20
 clear A20
 replace H:=cK H
 obtain ⟨H,-,_,_⟩ | ⟨H,c3,_,_⟩:=H
 · cases H
   go_enter Try.func68,Try.ntmps68
   go_wp2_with (go_at_call 52;(with_reducible refine (bJ.calls _ _ _ _ _ _ _ ?side1 HC0.out A2.out).mono ?_);(case side1=>repeat (first | exact HR0.out | (with_reducible refine Kd.iE ?_ _) | (with_reducible refine Kd.jl ?_ _) | (with_reducible refine Kd.kv ?_)));rintro e w4 ⟨rfl,hb⟩;replace HB:=di HB hb)
   go_ret
   exact ⟨dL,bU⟩
 cases H
 go_enter Try.func68,Try.ntmps68
 go_wp2_with (go_at_call 52;(with_reducible refine (bJ.calls _ _ _ _ _ _ _ ?side1 HC0.out A2.out).mono ?_);(case side1=>repeat (first | exact HR0.out | (with_reducible refine Kd.iE ?_ _) | (with_reducible refine Kd.jl ?_ _) | (with_reducible refine Kd.kv ?_)));rintro e w5 ⟨rfl,hb⟩;replace HB:=di HB hb)
 go_ret
 exact ⟨dL,bU⟩
def bB.l0:Nat→Int→Int→Int→Int→List (S47)→Int→Int→Option (Int × Int)
 | 0,_,_,_,_,_,_,_=>none
 | k+1,x1,x2,x3,x11,x19,x20,x21=>if x21<x20 then (if 0≤x21 then (if x21<(x19.length:Int) then (if ((av x19 x21).f1)=1 then (bB.l0 k x1 x2 x3 (wrap64 ((wrap64 (x11+(((av x19 x21).f0).length:Int)))+x1)) x19 x20 (wrap64 (x21+1))) else (if ((av x19 x21).f1)=2 then (bB.l0 k x1 x2 x3 (wrap64 ((wrap64 (x11+(((av x19 x21).f0).length:Int)))+x2)) x19 x20 (wrap64 (x21+1))) else (bB.l0 k x1 x2 x3 (wrap64 ((wrap64 (x11+(((av x19 x21).f0).length:Int)))+x3)) x19 x20 (wrap64 (x21+1))))) else (none)) else (none)) else (some (x11,0))
def bB.f (k:Nat) (l0:List (S47)) (a1:Int) (a2:Int) (a3:Int):Option (Int × Int):=(dI.f k l0).bind fun t216=>(if t216=0 then (bB.l0 k a1 a2 a3 0 l0 (l0.length:Int) 0) else (some (0,t216)))
theorem bB.calls (k:Nat) (A0:Option Addr) (c0:Nat) (l0:List (S47)) (a1:Int) (a2:Int) (a3:Int) (r1:Int) (r2:Int) (w:World) (hr0:Kd.C k47 w A0 l0.length l0) (hc0:l0.length≤c0) (h:bB.f k l0 a1 a2 a3=some (r1,r2)) :
 Calls Try.prog 75 #[.slice A0 l0.length c0,.int .i64 a1,.int .i64 a2,.int .i64 a3] w fun e w'=>e = .returned (.tuple #[.int .i64 r1,.int .i64 r2])∧Below w.heap.size w w':=by
 have hu47:=Try.underlying47
 have HR0:=aa.mk hr0
 have HC0:=aa.mk hc0
 clear hr0 hc0
 have HB:=aa.mk (Below.refl w.heap.size w)
 have H:((dI.f k l0).bind fun t216=>(if t216=0 then (bB.l0 k a1 a2 a3 0 l0 (l0.length:Int) 0) else (some (0,t216))))=some (r1,r2):=h
 clear h
 replace H:=bnd H
 obtain ⟨t216,A5,H⟩:=H
 replace H:=cK H
 obtain ⟨H,-,_,_⟩ | ⟨H,c6,_,_⟩:=H
 · replace H:=aa.mk H
   go_enter Try.func75,Try.ntmps75
   go_wp2_with (go_at_call 68;(with_reducible refine (dI.calls _ _ _ _ _ _ ?side1 HC0.out A5.out).mono ?_);(case side1=>repeat (first | exact HR0.out | (with_reducible refine Kd.iE ?_ _) | (with_reducible refine Kd.jl ?_ _) | (with_reducible refine Kd.kv ?_)));rintro e w7 ⟨rfl,hb⟩;replace HB:=di HB hb)
   go_loopg [11,21] k (fun kq v11 v21 w'=>∃ (x11_1:Int) (x21_1:Int),v11 = .int .i64 x11_1∧v21 = .int .i64 x21_1∧aa (bB.l0 kq a1 a2 a3 x11_1 l0 (l0.length:Int) x21_1=some (r1,r2))∧aa (kq≤k)∧aa (Below w.heap.size w w'))
   case atStart=>exact ⟨_,_,bT,bT,H,⟨Nat.le_refl _⟩,⟨bU⟩⟩
   case round=>
    clear H
    obtain ⟨x11_1,x21_1,rfl,rfl,HA,HK1,HB⟩:=hrel
    cases gk with
    | zero=>exact absurd HA.out (by simp [bB.l0])
    | succ k1=>
     have H:=HA.out
     clear HA
     simp only [bB.l0] at H
     replace H:=kL H
     obtain ⟨H,-,_⟩ | ⟨H,-,_⟩:=H
     · replace H:=kL H
       obtain ⟨H,-,_⟩ | ⟨H,c9,-⟩:=H
       · replace H:=kL H
         obtain ⟨H,-,_⟩ | ⟨H,c10,-⟩:=H
         · iterate 2
            replace H:=cK H
            obtain ⟨H,-,_,_⟩ | ⟨H,c11,_,_⟩:=H
            · replace H:=aa.mk H
              obtain ⟨ad217,rfl⟩:=rQ HR0 x21_1 (by assumption) (by assumption)
              obtain ⟨A217_0,c217_0,_,_,_,_,_,_,_,_,HR217_0,HC217_0,_,_⟩:=zQ HR0 HB x21_1 (by assumption) (by assumption)
              go_wp2_with ((with_reducible refine bA (N:=13) rfl ?_);refine fe (N:=13) (cs:=#[.slice none 0 0,.int .i64 0,.int .u16 0,.int .u8 0,.int .u8 0,.int .u32 0,.int .i64 0,.int .i64 0]) (t:=47) ?_;intro gb218 hg w12 hbox hb;have GE218:=geN HB hg;have BK218:=aa.mk hbox;replace HB:=di HB hb;clear hb hbox hg;obtain ⟨_,_,_,_,_,_,_,_,_,_,_,_,_,_,_,_⟩:=cz8 BK218)
              go_roundg k1
              case measure=>have:=HK1.out;omega
              case rel=>exact ⟨_,_,bT,bT,H,⟨by have:=HK1.out;omega⟩,⟨bU⟩⟩
           replace H:=aa.mk H
           obtain ⟨ad217,rfl⟩:=rQ HR0 x21_1 (by assumption) (by assumption)
           obtain ⟨A217_0,c217_0,_,_,_,_,_,_,_,_,HR217_0,HC217_0,_,_⟩:=zQ HR0 HB x21_1 (by assumption) (by assumption)
           go_wp2_with ((with_reducible refine bA (N:=13) rfl ?_);refine fe (N:=13) (cs:=#[.slice none 0 0,.int .i64 0,.int .u16 0,.int .u8 0,.int .u8 0,.int .u32 0,.int .i64 0,.int .i64 0]) (t:=47) ?_;intro gb218 hg w17 hbox hb;have GE218:=geN HB hg;have BK218:=aa.mk hbox;replace HB:=di HB hb;clear hb hbox hg;obtain ⟨_,_,_,_,_,_,_,_,_,_,_,_,_,_,_,_⟩:=cz8 BK218)
           go_roundg k1
           case measure=>have:=HK1.out;omega
           case rel=>exact ⟨_,_,bT,bT,H,⟨by have:=HK1.out;omega⟩,⟨bU⟩⟩
         exact absurd H (by simp)
       exact absurd H (by simp)
     obtain ⟨rfl,rfl⟩:=so2 H
     go_wp2
     go_ret2
     exact ⟨dL,bU⟩
 obtain ⟨rfl,rfl⟩:=so2 H
 go_enter Try.func75,Try.ntmps75
 go_wp2_with (go_at_call 68;(with_reducible refine (dI.calls _ _ _ _ _ _ ?side1 HC0.out A5.out).mono ?_);(case side1=>repeat (first | exact HR0.out | (with_reducible refine Kd.iE ?_ _) | (with_reducible refine Kd.jl ?_ _) | (with_reducible refine Kd.kv ?_)));rintro e w19 ⟨rfl,hb⟩;replace HB:=di HB hb)
 go_ret2
 exact ⟨dL,bU⟩
def dX.f (k:Nat) (l0:List (S47)):Option (Int × Int):=(bB.f k l0 1 1 3).bind fun bt219=>(some (bt219.1,bt219.2))
theorem dX.calls (k:Nat) (A0:Option Addr) (c0:Nat) (l0:List (S47)) (r1:Int) (r2:Int) (w:World) (hr0:Kd.C k47 w A0 l0.length l0) (hc0:l0.length≤c0) (h:dX.f k l0=some (r1,r2)) :
 Calls Try.prog 42 #[.slice A0 l0.length c0] w fun e w'=>e = .returned (.tuple #[.int .i64 r1,.int .i64 r2])∧Below w.heap.size w w':=by
 have HR0:=aa.mk hr0
 have HC0:=aa.mk hc0
 clear hr0 hc0
 have HB:=aa.mk (Below.refl w.heap.size w)
 have H:((bB.f k l0 1 1 3).bind fun bt219=>(some (bt219.1,bt219.2)))=some (r1,r2):=h
 clear h
 replace H:=Option.bind_eq_some_iff.mp H
 obtain ⟨⟨t219,t220⟩,A20,H⟩:=H
 replace H:(some (t219,t220))=some (r1,r2):=H
 have A2:=aa.mk A20
 clear A20
 obtain ⟨rfl,rfl⟩:=so2 H
 go_enter Try.func42,Try.ntmps42
 go_wp2_with (go_at_call 75;(with_reducible refine (bB.calls _ _ _ _ _ _ _ _ _ _ ?side1 HC0.out A2.out).mono ?_);(case side1=>repeat (first | exact HR0.out | (with_reducible refine Kd.iE ?_ _) | (with_reducible refine Kd.jl ?_ _) | (with_reducible refine Kd.kv ?_)));rintro e w3 ⟨rfl,hb⟩;replace HB:=di HB hb)
 go_ret2
 exact ⟨dL,bU⟩
def aU.l0:Nat→List (S47)→List (S47)→Int→Option ((List (S47)))
 | 0,_,_,_=>none
 | k+1,x0,x3,x4=>if x4<(x0.length:Int) then (if 0≤x4 then ((dx.f ((av x0 x4).f0)).bind fun t269=>(if x3.length<2513169434916 then (aU.l0 k x0 (x3++[(⟨t269,(av x0 x4).f1,(⟨(av x0 x4).f2.f0,(av x0 x4).f2.f1,(av x0 x4).f2.f2,(av x0 x4).f2.f3⟩:S45),(av x0 x4).f3,(av x0 x4).f4⟩:S47)]) (wrap64 (x4+1))) else (none))) else (none)) else (some x3)
def aU.f (k:Nat) (l0:List (S47)):Option ((List (S47))):=aU.l0 k l0 ([]:List (S47)) 0
theorem aU.calls (k:Nat) (A0:Option Addr) (c0:Nat) (l0:List (S47)) (r:List (S47)) (w:World) (hr0:Kd.C k47 w A0 l0.length l0) (hc0:l0.length≤c0) (h:aU.f k l0=some r) :
 Calls Try.prog 18 #[.slice A0 l0.length c0] w fun e w'=>∃ v0_:Value,e = .returned (v0_)∧Kd.S k47 47 w' w.heap.size (fun _=>True) v0_ r∧Below w.heap.size w w':=by
 have hu47:=Try.underlying47
 have HR0:=aa.mk hr0
 have HC0:=aa.mk hc0
 clear hr0 hc0
 have HB:=aa.mk (Below.refl w.heap.size w)
 have H:(aU.l0 k l0 ([]:List (S47)) 0)=some r:=h
 clear h
 replace H:=aa.mk H
 go_enter Try.func18,Try.ntmps18
 go_wp2
 go_loopg [3,4] k (fun kq v3 v4 w'=>∃ (x3_1:List (S47)) (x4_1:Int),v4 = .int .i64 x4_1∧aa (aU.l0 kq l0 x3_1 x4_1=some r)∧aa (kq≤k)∧aa (Kd.S k47 47 w' w.heap.size (fun _=>True) v3 x3_1)∧aa (Below w.heap.size w w'))
 case atStart=>exact ⟨_,_,bT,H,⟨Nat.le_refl _⟩,⟨by first | exact Kd.S_nil _ _ _ _ _ | exact Kd.N_nil _ _ _ _ _ | exact Kd.V_nil _ _ _ _ _ | exact Kd.Q_nil _ _ _ _ _ | exact Kd.kX _ _ _ _ _⟩,⟨bU⟩⟩
 case round=>
  clear H
  obtain ⟨x3_1,x4_1,rfl,HA,HK1,HO_3,HB⟩:=hrel
  cases gk with
  | zero=>exact absurd HA.out (by simp [aU.l0])
  | succ k1=>
   have H:=HA.out
   clear HA
   simp only [aU.l0] at H
   replace H:=kL H
   obtain ⟨H,-,_⟩ | ⟨H,-,_⟩:=H
   · replace H:=kL H
     obtain ⟨H,-,_⟩ | ⟨H,c3,-⟩:=H
     · replace H:=bnd H
       obtain ⟨t269,A4,H⟩:=H
       replace H:=rY H
       obtain ⟨H,c5⟩ | ⟨H,c5⟩:=H
       · have LMc5:=aa.mk c5
         clear c5
         obtain ⟨y272,hy272⟩:∃ y_:List (S47),y_=(x3_1++[(⟨t269,(av l0 x4_1).f1,(⟨(av l0 x4_1).f2.f0,(av l0 x4_1).f2.f1,(av l0 x4_1).f2.f2,(av l0 x4_1).f2.f3⟩:S45),(av l0 x4_1).f3,(av l0 x4_1).f4⟩:S47)]):=⟨_,rfl⟩
         replace H:(aU.l0 k1 l0 y272 (wrap64 (x4_1+1)))=some r:=by first | (rw [hy272];with_reducible exact H) | (have H2_:=(Option.bind_some _ _).symm.trans H;rw [hy272];with_reducible exact H2_) | (have H2_:=(Option.bind_some _ _).symm.trans H;with_reducible exact H2_) | with_reducible exact H | (rw [hy272];exact H) | exact H
         have Ny272:=aa.mk hy272
         clear hy272
         replace H:=aa.mk H
         obtain ⟨ad266,rfl⟩:=rQ HR0 x4_1 (by assumption) (by assumption)
         obtain ⟨A266_0,c266_0,_,_,_,_,_,_,_,_,HR266_0,HC266_0,_,_⟩:=zQ HR0 HB x4_1 (by assumption) (by assumption)
         go_wp2_with (first | ((with_reducible refine bA (N:=5) rfl ?_);refine fe (N:=5) (cs:=#[.slice none 0 0,.int .i64 0,.int .u16 0,.int .u8 0,.int .u8 0,.int .u32 0,.int .i64 0,.int .i64 0]) (t:=47) ?_;intro gb267 hg w6 hbox hb;have GE267:=geN HB hg;replace HO_3:=aa.mk (Kd.ni (Kd.wQ (by (with_reducible repeat (first | apply Kd.kN | apply Kd.kP | apply Kd.lZ));exact HO_3.out) gb267 (Nat.le_of_eq hg.symm)) hb);have BK267:=aa.mk hbox;replace HB:=di HB hb;clear hb hbox hg;obtain ⟨_,_,_,_,_,_,_,_,_,_,_,_,_,_,_,_⟩:=cz8 BK267;have p268:0≤(x4_1:Int):=of_decide_eq_true (by first | (with_reducible assumption) | assumption);have q268:x4_1<(l0.length:Int):=of_decide_eq_true (by first | (with_reducible assumption) | assumption);obtain ⟨ad268,A268_0,c268_0,e268,hx268_0,hx268_1,hx268_2,hx268_3,hx268_4,hx268_5,hx268_6,hx268_7,hl268_0,hi268_0⟩:=nQ HR0.out x4_1 p268 q268;obtain rfl:ad266=ad268:=(by injection e268);have hn268_0:ad266.block≠gb267:=Nat.ne_of_lt (Nat.lt_of_lt_of_le (by have:=World.block_lt_of_cell? _ _ hx268_0;first | rwa [add_block] at this | exact this) GE267.out);have hn268_1:=hn268_0;have hn268_2:=hn268_0;have hn268_3:=hn268_0;have hn268_4:=hn268_0;have hn268_5:=hn268_0;have hn268_6:=hn268_0;have hn268_7:=hn268_0;replace hx268_0:=(HB.out.cell (World.block_lt_of_cell? w _ hx268_0)).trans hx268_0;replace hx268_1:=(HB.out.cell (World.block_lt_of_cell? w _ hx268_1)).trans hx268_1;replace hx268_2:=(HB.out.cell (World.block_lt_of_cell? w _ hx268_2)).trans hx268_2;replace hx268_3:=(HB.out.cell (World.block_lt_of_cell? w _ hx268_3)).trans hx268_3;replace hx268_4:=(HB.out.cell (World.block_lt_of_cell? w _ hx268_4)).trans hx268_4;replace hx268_5:=(HB.out.cell (World.block_lt_of_cell? w _ hx268_5)).trans hx268_5;replace hx268_6:=(HB.out.cell (World.block_lt_of_cell? w _ hx268_6)).trans hx268_6;replace hx268_7:=(HB.out.cell (World.block_lt_of_cell? w _ hx268_7)).trans hx268_7;have HR268_0:=aa.mk hi268_0;have HC268_0:=aa.mk hl268_0;clear hi268_0 hl268_0;replace hx268_0:=(cell_far (p:=⟨gb267,0,none⟩) (ab0 hn268_0) (.slice A266_0 ((av l0 x4_1).f0).length c266_0)).trans hx268_0;replace hx268_1:=(cell_far (p:=⟨gb267,0,none⟩) (ab0 hn268_0) (.slice A266_0 ((av l0 x4_1).f0).length c266_0)).trans hx268_1;replace hx268_2:=(cell_far (p:=⟨gb267,0,none⟩) (ab0 hn268_0) (.slice A266_0 ((av l0 x4_1).f0).length c266_0)).trans hx268_2;replace hx268_3:=(cell_far (p:=⟨gb267,0,none⟩) (ab0 hn268_0) (.slice A266_0 ((av l0 x4_1).f0).length c266_0)).trans hx268_3;replace hx268_4:=(cell_far (p:=⟨gb267,0,none⟩) (ab0 hn268_0) (.slice A266_0 ((av l0 x4_1).f0).length c266_0)).trans hx268_4;replace hx268_5:=(cell_far (p:=⟨gb267,0,none⟩) (ab0 hn268_0) (.slice A266_0 ((av l0 x4_1).f0).length c266_0)).trans hx268_5;replace hx268_6:=(cell_far (p:=⟨gb267,0,none⟩) (ab0 hn268_0) (.slice A266_0 ((av l0 x4_1).f0).length c266_0)).trans hx268_6;replace hx268_7:=(cell_far (p:=⟨gb267,0,none⟩) (ab0 hn268_0) (.slice A266_0 ((av l0 x4_1).f0).length c266_0)).trans hx268_7;replace hx268_0:=(cell_far (p:=⟨gb267,1,none⟩) (ab0 hn268_1) (.int .i64 ((av l0 x4_1).f1))).trans hx268_0;replace hx268_1:=(cell_far (p:=⟨gb267,1,none⟩) (ab0 hn268_1) (.int .i64 ((av l0 x4_1).f1))).trans hx268_1;replace hx268_2:=(cell_far (p:=⟨gb267,1,none⟩) (ab0 hn268_1) (.int .i64 ((av l0 x4_1).f1))).trans hx268_2;replace hx268_3:=(cell_far (p:=⟨gb267,1,none⟩) (ab0 hn268_1) (.int .i64 ((av l0 x4_1).f1))).trans hx268_3;replace hx268_4:=(cell_far (p:=⟨gb267,1,none⟩) (ab0 hn268_1) (.int .i64 ((av l0 x4_1).f1))).trans hx268_4;replace hx268_5:=(cell_far (p:=⟨gb267,1,none⟩) (ab0 hn268_1) (.int .i64 ((av l0 x4_1).f1))).trans hx268_5;replace hx268_6:=(cell_far (p:=⟨gb267,1,none⟩) (ab0 hn268_1) (.int .i64 ((av l0 x4_1).f1))).trans hx268_6;replace hx268_7:=(cell_far (p:=⟨gb267,1,none⟩) (ab0 hn268_1) (.int .i64 ((av l0 x4_1).f1))).trans hx268_7;replace hx268_0:=(cell_far (p:=⟨gb267,2,none⟩) (ab0 hn268_2) (.int .u16 ((av l0 x4_1).f2.f0))).trans hx268_0;replace hx268_1:=(cell_far (p:=⟨gb267,2,none⟩) (ab0 hn268_2) (.int .u16 ((av l0 x4_1).f2.f0))).trans hx268_1;replace hx268_2:=(cell_far (p:=⟨gb267,2,none⟩) (ab0 hn268_2) (.int .u16 ((av l0 x4_1).f2.f0))).trans hx268_2;replace hx268_3:=(cell_far (p:=⟨gb267,2,none⟩) (ab0 hn268_2) (.int .u16 ((av l0 x4_1).f2.f0))).trans hx268_3;replace hx268_4:=(cell_far (p:=⟨gb267,2,none⟩) (ab0 hn268_2) (.int .u16 ((av l0 x4_1).f2.f0))).trans hx268_4;replace hx268_5:=(cell_far (p:=⟨gb267,2,none⟩) (ab0 hn268_2) (.int .u16 ((av l0 x4_1).f2.f0))).trans hx268_5;replace hx268_6:=(cell_far (p:=⟨gb267,2,none⟩) (ab0 hn268_2) (.int .u16 ((av l0 x4_1).f2.f0))).trans hx268_6;replace hx268_7:=(cell_far (p:=⟨gb267,2,none⟩) (ab0 hn268_2) (.int .u16 ((av l0 x4_1).f2.f0))).trans hx268_7;replace hx268_0:=(cell_far (p:=⟨gb267,3,none⟩) (ab0 hn268_3) (.int .u8 ((av l0 x4_1).f2.f1))).trans hx268_0;replace hx268_1:=(cell_far (p:=⟨gb267,3,none⟩) (ab0 hn268_3) (.int .u8 ((av l0 x4_1).f2.f1))).trans hx268_1;replace hx268_2:=(cell_far (p:=⟨gb267,3,none⟩) (ab0 hn268_3) (.int .u8 ((av l0 x4_1).f2.f1))).trans hx268_2;replace hx268_3:=(cell_far (p:=⟨gb267,3,none⟩) (ab0 hn268_3) (.int .u8 ((av l0 x4_1).f2.f1))).trans hx268_3;replace hx268_4:=(cell_far (p:=⟨gb267,3,none⟩) (ab0 hn268_3) (.int .u8 ((av l0 x4_1).f2.f1))).trans hx268_4;replace hx268_5:=(cell_far (p:=⟨gb267,3,none⟩) (ab0 hn268_3) (.int .u8 ((av l0 x4_1).f2.f1))).trans hx268_5;replace hx268_6:=(cell_far (p:=⟨gb267,3,none⟩) (ab0 hn268_3) (.int .u8 ((av l0 x4_1).f2.f1))).trans hx268_6;replace hx268_7:=(cell_far (p:=⟨gb267,3,none⟩) (ab0 hn268_3) (.int .u8 ((av l0 x4_1).f2.f1))).trans hx268_7;replace hx268_0:=(cell_far (p:=⟨gb267,4,none⟩) (ab0 hn268_4) (.int .u8 ((av l0 x4_1).f2.f2))).trans hx268_0;replace hx268_1:=(cell_far (p:=⟨gb267,4,none⟩) (ab0 hn268_4) (.int .u8 ((av l0 x4_1).f2.f2))).trans hx268_1;replace hx268_2:=(cell_far (p:=⟨gb267,4,none⟩) (ab0 hn268_4) (.int .u8 ((av l0 x4_1).f2.f2))).trans hx268_2;replace hx268_3:=(cell_far (p:=⟨gb267,4,none⟩) (ab0 hn268_4) (.int .u8 ((av l0 x4_1).f2.f2))).trans hx268_3;replace hx268_4:=(cell_far (p:=⟨gb267,4,none⟩) (ab0 hn268_4) (.int .u8 ((av l0 x4_1).f2.f2))).trans hx268_4;replace hx268_5:=(cell_far (p:=⟨gb267,4,none⟩) (ab0 hn268_4) (.int .u8 ((av l0 x4_1).f2.f2))).trans hx268_5;replace hx268_6:=(cell_far (p:=⟨gb267,4,none⟩) (ab0 hn268_4) (.int .u8 ((av l0 x4_1).f2.f2))).trans hx268_6;replace hx268_7:=(cell_far (p:=⟨gb267,4,none⟩) (ab0 hn268_4) (.int .u8 ((av l0 x4_1).f2.f2))).trans hx268_7;replace hx268_0:=(cell_far (p:=⟨gb267,5,none⟩) (ab0 hn268_5) (.int .u32 ((av l0 x4_1).f2.f3))).trans hx268_0;replace hx268_1:=(cell_far (p:=⟨gb267,5,none⟩) (ab0 hn268_5) (.int .u32 ((av l0 x4_1).f2.f3))).trans hx268_1;replace hx268_2:=(cell_far (p:=⟨gb267,5,none⟩) (ab0 hn268_5) (.int .u32 ((av l0 x4_1).f2.f3))).trans hx268_2;replace hx268_3:=(cell_far (p:=⟨gb267,5,none⟩) (ab0 hn268_5) (.int .u32 ((av l0 x4_1).f2.f3))).trans hx268_3;replace hx268_4:=(cell_far (p:=⟨gb267,5,none⟩) (ab0 hn268_5) (.int .u32 ((av l0 x4_1).f2.f3))).trans hx268_4;replace hx268_5:=(cell_far (p:=⟨gb267,5,none⟩) (ab0 hn268_5) (.int .u32 ((av l0 x4_1).f2.f3))).trans hx268_5;replace hx268_6:=(cell_far (p:=⟨gb267,5,none⟩) (ab0 hn268_5) (.int .u32 ((av l0 x4_1).f2.f3))).trans hx268_6;replace hx268_7:=(cell_far (p:=⟨gb267,5,none⟩) (ab0 hn268_5) (.int .u32 ((av l0 x4_1).f2.f3))).trans hx268_7;replace hx268_0:=(cell_far (p:=⟨gb267,6,none⟩) (ab0 hn268_6) (.int .i64 ((av l0 x4_1).f3))).trans hx268_0;replace hx268_1:=(cell_far (p:=⟨gb267,6,none⟩) (ab0 hn268_6) (.int .i64 ((av l0 x4_1).f3))).trans hx268_1;replace hx268_2:=(cell_far (p:=⟨gb267,6,none⟩) (ab0 hn268_6) (.int .i64 ((av l0 x4_1).f3))).trans hx268_2;replace hx268_3:=(cell_far (p:=⟨gb267,6,none⟩) (ab0 hn268_6) (.int .i64 ((av l0 x4_1).f3))).trans hx268_3;replace hx268_4:=(cell_far (p:=⟨gb267,6,none⟩) (ab0 hn268_6) (.int .i64 ((av l0 x4_1).f3))).trans hx268_4;replace hx268_5:=(cell_far (p:=⟨gb267,6,none⟩) (ab0 hn268_6) (.int .i64 ((av l0 x4_1).f3))).trans hx268_5;replace hx268_6:=(cell_far (p:=⟨gb267,6,none⟩) (ab0 hn268_6) (.int .i64 ((av l0 x4_1).f3))).trans hx268_6;replace hx268_7:=(cell_far (p:=⟨gb267,6,none⟩) (ab0 hn268_6) (.int .i64 ((av l0 x4_1).f3))).trans hx268_7;replace hx268_0:=(cell_far (p:=⟨gb267,7,none⟩) (ab0 hn268_7) (.int .i64 ((av l0 x4_1).f4))).trans hx268_0;replace hx268_1:=(cell_far (p:=⟨gb267,7,none⟩) (ab0 hn268_7) (.int .i64 ((av l0 x4_1).f4))).trans hx268_1;replace hx268_2:=(cell_far (p:=⟨gb267,7,none⟩) (ab0 hn268_7) (.int .i64 ((av l0 x4_1).f4))).trans hx268_2;replace hx268_3:=(cell_far (p:=⟨gb267,7,none⟩) (ab0 hn268_7) (.int .i64 ((av l0 x4_1).f4))).trans hx268_3;replace hx268_4:=(cell_far (p:=⟨gb267,7,none⟩) (ab0 hn268_7) (.int .i64 ((av l0 x4_1).f4))).trans hx268_4;replace hx268_5:=(cell_far (p:=⟨gb267,7,none⟩) (ab0 hn268_7) (.int .i64 ((av l0 x4_1).f4))).trans hx268_5;replace hx268_6:=(cell_far (p:=⟨gb267,7,none⟩) (ab0 hn268_7) (.int .i64 ((av l0 x4_1).f4))).trans hx268_6;replace hx268_7:=(cell_far (p:=⟨gb267,7,none⟩) (ab0 hn268_7) (.int .i64 ((av l0 x4_1).f4))).trans hx268_7;clear hn268_0;clear hn268_1;clear hn268_2;clear hn268_3;clear hn268_4;clear hn268_5;clear hn268_6;clear hn268_7;replace p268:=eq_true p268;replace q268:=eq_true q268) | (go_at_call 22;(with_reducible refine (dx.calls _ _ _ _ _ ?side1 HC268_0.out A4.out).mono ?_);(case side1=>exact Kd.bY HR268_0.out bU);rintro e w8 ⟨v270,rfl,ho0,hb⟩;have HO271:=aa.mk (Kd.jT ho0 (fA bU));replace HO_3:=aa.mk (Kd.wP (by (with_reducible repeat (first | apply Kd.kN | apply Kd.kP | apply Kd.lZ));exact (Kd.kw (Kd.lq (p:=⟨gb267,7,none⟩) (Kd.lq (p:=⟨gb267,6,none⟩) (Kd.lq (p:=⟨gb267,5,none⟩) (Kd.lq (p:=⟨gb267,4,none⟩) (Kd.lq (p:=⟨gb267,3,none⟩) (Kd.lq (p:=⟨gb267,2,none⟩) (Kd.lq (p:=⟨gb267,1,none⟩) (Kd.lq (p:=⟨gb267,0,none⟩) (Kd.kw HO_3.out (fun k_ hk=>(⟨hk,hk.2⟩:_∧k_≠gb267))) (fun _ hk=>hk.2) (.slice A266_0 ((av l0 x4_1).f0).length c266_0)) (fun _ hk=>hk.2) (.int .i64 ((av l0 x4_1).f1))) (fun _ hk=>hk.2) (.int .u16 ((av l0 x4_1).f2.f0))) (fun _ hk=>hk.2) (.int .u8 ((av l0 x4_1).f2.f1))) (fun _ hk=>hk.2) (.int .u8 ((av l0 x4_1).f2.f2))) (fun _ hk=>hk.2) (.int .u32 ((av l0 x4_1).f2.f3))) (fun _ hk=>hk.2) (.int .i64 ((av l0 x4_1).f3))) (fun _ hk=>hk.2) (.int .i64 ((av l0 x4_1).f4))) (fun _ h_=>h_.1))) (Kd.nO ho0) hb);replace BK267:=aa.mk (ak (g:=gb267) (o := .cells #[.slice A266_0 ((av l0 x4_1).f0).length c266_0,.int .i64 ((av l0 x4_1).f1),.int .u16 ((av l0 x4_1).f2.f0),.int .u8 ((av l0 x4_1).f2.f1),.int .u8 ((av l0 x4_1).f2.f2),.int .u32 ((av l0 x4_1).f2.f3),.int .i64 ((av l0 x4_1).f3),.int .i64 ((av l0 x4_1).f4)] 47 (0,0)) (by (with_reducible repeat (first | refine aV ?_ _ | refine aY ?_ | refine aH ?_ _));refine aI (cs:=#[.slice A266_0 ((av l0 x4_1).f0).length c266_0,.int .i64 ((av l0 x4_1).f1),.int .u16 ((av l0 x4_1).f2.f0),.int .u8 ((av l0 x4_1).f2.f1),.int .u8 ((av l0 x4_1).f2.f2),.int .u32 ((av l0 x4_1).f2.f3),.int .i64 ((av l0 x4_1).f3),.int .i64 0]) ?_ 7 _ rfl;(with_reducible repeat (first | refine aV ?_ _ | refine aY ?_ | refine aH ?_ _));refine aI (cs:=#[.slice A266_0 ((av l0 x4_1).f0).length c266_0,.int .i64 ((av l0 x4_1).f1),.int .u16 ((av l0 x4_1).f2.f0),.int .u8 ((av l0 x4_1).f2.f1),.int .u8 ((av l0 x4_1).f2.f2),.int .u32 ((av l0 x4_1).f2.f3),.int .i64 0,.int .i64 0]) ?_ 6 _ rfl;(with_reducible repeat (first | refine aV ?_ _ | refine aY ?_ | refine aH ?_ _));refine aI (cs:=#[.slice A266_0 ((av l0 x4_1).f0).length c266_0,.int .i64 ((av l0 x4_1).f1),.int .u16 ((av l0 x4_1).f2.f0),.int .u8 ((av l0 x4_1).f2.f1),.int .u8 ((av l0 x4_1).f2.f2),.int .u32 0,.int .i64 0,.int .i64 0]) ?_ 5 _ rfl;(with_reducible repeat (first | refine aV ?_ _ | refine aY ?_ | refine aH ?_ _));refine aI (cs:=#[.slice A266_0 ((av l0 x4_1).f0).length c266_0,.int .i64 ((av l0 x4_1).f1),.int .u16 ((av l0 x4_1).f2.f0),.int .u8 ((av l0 x4_1).f2.f1),.int .u8 0,.int .u32 0,.int .i64 0,.int .i64 0]) ?_ 4 _ rfl;(with_reducible repeat (first | refine aV ?_ _ | refine aY ?_ | refine aH ?_ _));refine aI (cs:=#[.slice A266_0 ((av l0 x4_1).f0).length c266_0,.int .i64 ((av l0 x4_1).f1),.int .u16 ((av l0 x4_1).f2.f0),.int .u8 0,.int .u8 0,.int .u32 0,.int .i64 0,.int .i64 0]) ?_ 3 _ rfl;(with_reducible repeat (first | refine aV ?_ _ | refine aY ?_ | refine aH ?_ _));refine aI (cs:=#[.slice A266_0 ((av l0 x4_1).f0).length c266_0,.int .i64 ((av l0 x4_1).f1),.int .u16 0,.int .u8 0,.int .u8 0,.int .u32 0,.int .i64 0,.int .i64 0]) ?_ 2 _ rfl;(with_reducible repeat (first | refine aV ?_ _ | refine aY ?_ | refine aH ?_ _));refine aI (cs:=#[.slice A266_0 ((av l0 x4_1).f0).length c266_0,.int .i64 0,.int .u16 0,.int .u8 0,.int .u8 0,.int .u32 0,.int .i64 0,.int .i64 0]) ?_ 1 _ rfl;(with_reducible repeat (first | refine aV ?_ _ | refine aY ?_ | refine aH ?_ _));refine aI (cs:=#[.slice none 0 0,.int .i64 0,.int .u16 0,.int .u8 0,.int .u8 0,.int .u32 0,.int .i64 0,.int .i64 0]) ?_ 0 _ rfl;(with_reducible repeat (first | refine aV ?_ _ | refine aY ?_ | refine aH ?_ _));exact BK267.out) hb);replace HB:=di HB hb;obtain ⟨Ao9,co9,eo9⟩:=Kd.iU HO271.out;subst eo9;obtain ⟨_,_,_,_,_,_,_,_,_,_,_,_,_,_,_,_⟩:=cz8 BK267) | ((with_reducible refine sM (t:=26) (p:=22) rfl ?_);refine r9 (t:=26) (p:=22) (v:=?vo_w11) (w1:=(w8.setCell ⟨gb267,0,none⟩ (.slice Ao9 t269.length co9))) ?hg ?ho ?hn ?hr ?_;(case ho=>rfl);(case hg=>rfl);(case hn=>rfl);(case hr=>first | (go_simp;done) | (go_simp;rfl));intro w11 hw;have n0_:aa (Kd.S k47 47 w11 w.heap.size (fun k_=>some k_≠(.slice Ao9 t269.length co9:Value).ownBlock∧k_≠gb267) u3 x3_1):=⟨(by rw [hw];exact (by (with_reducible repeat (first | apply Kd.kN | apply Kd.kP | apply Kd.lZ));exact Kd.kw (Kd.lq (p:=⟨gb267,0,none⟩) (Kd.kw HO_3.out (fun k_ hk=>(⟨hk,hk.1.2⟩:_∧k_≠gb267))) (fun _ hk=>hk.2) (.slice Ao9 t269.length co9)) (fun _ hk=>⟨hk.1.2,hk.1.1.2⟩)))⟩;have n1_:aa (Kd.R k45 45 w11 w.heap.size (fun _=>True) (.slice Ao9 t269.length co9) t269):=⟨(by rw [hw];exact (by (with_reducible repeat (first | apply Kd.iR | apply Kd.iT | apply Kd.jH));exact Kd.gK (Kd.R_far (p:=⟨gb267,0,none⟩) (Kd.ng HO271.out BK267.out (by decide)) (fun _ hk=>hk.2) (.slice Ao9 t269.length co9)) (fun _ hk=>trivial)))⟩;have n2_:aa (w11.heap[gb267]?=some (.cells #[.slice Ao9 t269.length co9,.int .i64 ((av l0 x4_1).f1),.int .u16 ((av l0 x4_1).f2.f0),.int .u8 ((av l0 x4_1).f2.f1),.int .u8 ((av l0 x4_1).f2.f2),.int .u32 ((av l0 x4_1).f2.f3),.int .i64 ((av l0 x4_1).f3),.int .i64 ((av l0 x4_1).f4)] 47 (0,0))):=⟨(by rw [hw];exact (by (with_reducible repeat (first | refine aV ?_ _ | refine aY ?_ | refine aH ?_ _));refine aI (cs:=#[.slice A266_0 ((av l0 x4_1).f0).length c266_0,.int .i64 ((av l0 x4_1).f1),.int .u16 ((av l0 x4_1).f2.f0),.int .u8 ((av l0 x4_1).f2.f1),.int .u8 ((av l0 x4_1).f2.f2),.int .u32 ((av l0 x4_1).f2.f3),.int .i64 ((av l0 x4_1).f3),.int .i64 ((av l0 x4_1).f4)]) ?_ 0 _ rfl;(with_reducible repeat (first | refine aV ?_ _ | refine aY ?_ | refine aH ?_ _));exact BK267.out))⟩;have n3_:aa (Below w.heap.size w w11):=⟨(by rw [hw];exact bU)⟩;clear hw;clear HO_3;clear HO271;clear BK267;clear HB;have HO_3:=n0_;have HO271:=n1_;have BK267:=n2_;have HB:=n3_;clear n0_ n1_ n2_ n3_;obtain ⟨_,_,_,_,_,_,_,_,_,_,_,_,_,_,_,_⟩:=cz8 BK267) | ((with_reducible refine jW (b := .append) (xs:=#[.tmp 23,.tmp 25]) rfl ?_);at_builtin;refine Kd.wO k47 (w0:=w) w.heap.size rfl (.tmp 23) (.tmp 25) 22 47 (.agg #[(.slice none 0 0),(.int .i64 0),(.int .u16 0),(.int .u8 0),(.int .u8 0),(.int .u32 0),(.int .i64 0),(.int .i64 0)]) 56 rfl Try.underlying22 oo rfl (by decide) (by omega) u3 x3_1 (⟨t269,(av l0 x4_1).f1,(⟨(av l0 x4_1).f2.f0,(av l0 x4_1).f2.f1,(av l0 x4_1).f2.f2,(av l0 x4_1).f2.f3⟩:S45),(av l0 x4_1).f3,(av l0 x4_1).f4⟩:S47) [.slice Ao9 t269.length co9,.int .i64 ((av l0 x4_1).f1),.int .u16 ((av l0 x4_1).f2.f0),.int .u8 ((av l0 x4_1).f2.f1),.int .u8 ((av l0 x4_1).f2.f2),.int .u32 ((av l0 x4_1).f2.f3),.int .i64 ((av l0 x4_1).f3),.int .i64 ((av l0 x4_1).f4)] (fun k_=>k_≠gb267) (fun k_=>some k_=(.slice Ao9 t269.length co9:Value).ownBlock) rfl rfl ?aP (fun k_ hk_=>((Kd.gK (ok':=fun k_=>((fun k_=>k_≠gb267)) k_∧some k_≠(u3:Value).ownBlock) (Kd.ng (Kd.qZ (HO271.out) (Kd.uw HO_3.out) (by decide)) BK267.out (by decide)) (fun k_ hk=>⟨hk.2,hk.1.2⟩))).1 k_ hk_.symm) ?aF ?aO ?aB ?aS ?aL ?_;(case aP=>exact nH _ _ _ (⟨t269,(av l0 x4_1).f1,(⟨(av l0 x4_1).f2.f0,(av l0 x4_1).f2.f1,(av l0 x4_1).f2.f2,(av l0 x4_1).f2.f3⟩:S45),(av l0 x4_1).f3,(av l0 x4_1).f4⟩:S47) (Kd.gK (Kd.ut rfl (Kd.gK (ok':=fun k_=>((fun k_=>k_≠gb267)) k_∧some k_≠(u3:Value).ownBlock) (Kd.ng (Kd.qZ (HO271.out) (Kd.uw HO_3.out) (by decide)) BK267.out (by decide)) (fun k_ hk=>⟨hk.2,hk.1.2⟩))) (fun _ h_=>h_)));(case aB=>exact bU);(case aF=>exact (fun k_ hk=>Kd.freshB (g:=gb267) (o := .cells #[.slice Ao9 t269.length co9,.int .i64 ((av l0 x4_1).f1),.int .u16 ((av l0 x4_1).f2.f0),.int .u8 ((av l0 x4_1).f2.f1),.int .u8 ((av l0 x4_1).f2.f2),.int .u32 ((av l0 x4_1).f2.f3),.int .i64 ((av l0 x4_1).f3),.int .i64 ((av l0 x4_1).f4)] 47 (0,0)) kV k_ hk));(case aO=>exact (by (with_reducible repeat (first | apply Kd.kN | apply Kd.kP | apply Kd.lZ));exact Kd.kw HO_3.out (fun k_ hk=>⟨hk.2,fun e_=>hk.1 e_⟩)));(case aS=>exact (fA bU));(case aL=>have:=LMc5.out;omega);intro v273 w13 ho hb hg hat;rw [←Ny272.out] at ho;replace BK267:=aa.mk (pF (g:=gb267) (o := .cells #[.slice Ao9 t269.length co9,.int .i64 ((av l0 x4_1).f1),.int .u16 ((av l0 x4_1).f2.f0),.int .u8 ((av l0 x4_1).f2.f1),.int .u8 ((av l0 x4_1).f2.f2),.int .u32 ((av l0 x4_1).f2.f3),.int .i64 ((av l0 x4_1).f3),.int .i64 ((av l0 x4_1).f4)] 47 (0,0)) kV hg (Kd.S_away HO_3.out (fun _ hk=>hk.2)));have HO274:=aa.mk (ho);replace HB:=aa.mk hb;clear HO_3 HO271;clear ho hb hg hat))
         go_roundg k1
         case measure=>have:=HK1.out;omega
         case rel=>exact ⟨_,_,bT,H,⟨by have:=HK1.out;omega⟩,⟨by (with_reducible repeat (first | apply Kd.kN | apply Kd.kP | apply Kd.lZ));exact Kd.kw HO274.out (fun _ hk=>trivial)⟩,⟨bU⟩⟩
       exact absurd H (by simp)
     exact absurd H (by simp)
   obtain rfl:=Option.some.inj H
   go_wp2
   go_ret
   exact ⟨_,dL,by (with_reducible repeat (first | apply Kd.kN | apply Kd.kP | apply Kd.lZ));exact HO_3.out,bU⟩
def gQ.f (a0:Int) (a1:Int) (a2:Int):Option (Bool):=if a1≥0 then (if a2≥0 then (if a2≤a0 then (some (decide (a1≤(wrap64 (a0 - a2))))) else (some false)) else (some false)) else (some false)
mutual
def bu.j0:Nat→List Int→Int→Int→Bool→Option (Int × Bool)
 | 0,_,_,_,_=>none
 | k+1,x0,x1,x2,x27=>if x27=true then (some (0,false)) else (bu.l0 k x0 x1 x2 0 0)
def bu.l0:Nat→List Int→Int→Int→Int→Int→Option (Int × Bool)
 | 0,_,_,_,_,_=>none
 | k+1,x0,x1,x2,x8,x9=>if x9<x2 then (if 0≤(wrap64 (x1+x9)) then (if (wrap64 (x1+x9))<(x0.length:Int) then (bu.l0 k x0 x1 x2 (Go.bits .or .u32 ((x8*256) % 4294967296) ((rd x0 (wrap64 (x1+x9))) % 4294967296)) (wrap64 (x9+1))) else (none)) else (none)) else (some (x8,true))
end
def bu.f (k:Nat) (l0:List Int) (a1:Int) (a2:Int):Option (Int × Bool):=if a2=1 then ((gQ.f (l0.length:Int) a1 a2).bind fun t275=>(bu.j0 k l0 a1 a2 (!t275))) else (if a2=2 then ((gQ.f (l0.length:Int) a1 a2).bind fun t276=>(bu.j0 k l0 a1 a2 (!t276))) else (if a2=4 then ((gQ.f (l0.length:Int) a1 a2).bind fun t277=>(bu.j0 k l0 a1 a2 (!t277))) else (bu.j0 k l0 a1 a2 true)))
attribute [local go_sem] dR dU fD fE dC dD dS dV
def gU.f (k:Nat) (l0:List Int) (a1:Int) (a2:Int):Option (Int × Int):=if a1>(IntKind.u64.wrap ((l0.length:Int))) then (some (0,1)) else ((bu.f k l0 (wrap64 (a1)) a2).bind fun bt279=>(if bt279.2=true then (some (bt279.1,0)) else (some (0,1))))
def gV.j0:Nat→Int→Bool→Option (Int)
 | 0,_,_=>none
 | k+1,x3,x4=>if x4=true then (some 4) else (if x3=40 then (some 2) else (if x3=72 then (some 2) else (some 1)))
def gV.f (k:Nat) (a0:Int):Option (Int):=if a0=32 then (gV.j0 k a0 (a0==32)) else (gV.j0 k a0 (a0==64))
def bP.f (a0:Int) (a1:Int) (a2:Bool):Option (Int):=if a1>31 then (some 0) else (if a2=true then (if 0≤a1 then (some (shl .u32 a0 a1)) else (none)) else (if 0≤a1 then (some (shr .u32 a0 a1)) else (none)))
def eH.f (a0:Int) (a1:Int) (a2:Int):Option (Int × Int):=if (Go.bits .andNot .u16 a0 8)=4 then (some ((a1+a2) % 4294967296,0)) else (if (Go.bits .andNot .u16 a0 8)=20 then (some ((a1 - a2) % 4294967296,0)) else (if (Go.bits .andNot .u16 a0 8)=36 then (some ((a1*a2) % 4294967296,0)) else (if (Go.bits .andNot .u16 a0 8)=68 then (some (Go.bits .or .u32 a1 a2,0)) else (if (Go.bits .andNot .u16 a0 8)=84 then (some (Go.bits .and .u32 a1 a2,0)) else (if (Go.bits .andNot .u16 a0 8)=164 then (some (Go.bits .xor .u32 a1 a2,0)) else (if (Go.bits .andNot .u16 a0 8)=100 then ((bP.f a1 a2 true).bind fun t281=>(some (t281,0))) else (if (Go.bits .andNot .u16 a0 8)=116 then ((bP.f a1 a2 false).bind fun t282=>(some (t282,0))) else (if a2=0 then (some (0,2)) else (if (Go.bits .andNot .u16 a0 8)=52 then (some ((Int.tdiv a1 a2) % 4294967296,0)) else (some (Int.tmod a1 a2,0)))))))))))
def dF.j0:Nat→Int→Int→Int→Int→Int→Int→Option (Bool)
 | 0,_,_,_,_,_,_=>none
 | k+1,x1,x7,x284000,x284001,x284002,x284003=>if (Go.bits .andNot .u16 x284000 8)=21 then (some (x1==x7)) else (if (Go.bits .andNot .u16 x284000 8)=37 then (some (decide (x1>x7))) else (if (Go.bits .andNot .u16 x284000 8)=53 then (some (decide (x1≥x7))) else (some ((Go.bits .and .u32 x1 x7) != 0))))
def dF.f (k:Nat) (a0_0:Int) (a0_1:Int) (a0_2:Int) (a0_3:Int) (a1:Int) (a2:Int):Option (Bool):=(eF.f k a0_0).bind fun t284=>(if t284=true then (dF.j0 k a1 a2 a0_0 a0_1 a0_2 a0_3) else (dF.j0 k a1 a0_3 a0_0 a0_1 a0_2 a0_3))
end Go.Proofs.Ytdkalnkplgfgoaa.PA
namespace Go.Proofs.Ytdkalnkplgfgoaa.Ln
open Go.RowKit Go.Maps Go.Proofs.YtdkalnkplgfgoaaW.PrintWords Go.Proofs.YtdkalnkplgfgoaaW.PrintLast Go.Proofs.YtdkalnkplgfgoaaW.PrintMore Go.Proofs.Ytdkalnkplgfgoaa.PA
structure bg where
 a:Int
 x:Int
 m:List Int
def rdP (p:List Int) (at_ size:Int):Int × Int:=(gU.f 10 p at_ size).getD (0,0)
def szP (c:Int):Int:=(gV.f 10 c).getD 0
def opP (c a b:Int):Int × Int:=(eH.f c a b).getD (0,0)
def byX (c:Int):Bool:=(eF.f 10 c).getD false
def ix (k:Int):Nat:=(Go.bits .and .u32 k 15).toNat
def bH (i:S45) (p:List Int) (M:bg):bg × Int:=
 let c:=i.f0
 if c=0 then ({M with a:=i.f3},0)
 else if c=32∨c=40∨c=48 then ({M with a:=(rdP p (IntKind.u64.wrap i.f3) (szP c)).1},(rdP p (IntKind.u64.wrap i.f3) (szP c)).2)
 else if c=64∨c=72∨c=80 then ({M with a:=(rdP p (IntKind.u64.wrap (IntKind.u64.wrap i.f3+IntKind.u64.wrap M.x)) (szP c)).1},(rdP p (IntKind.u64.wrap (IntKind.u64.wrap i.f3+IntKind.u64.wrap M.x)) (szP c)).2)
 else if c=96 then ({M with a:=M.m.getD (ix i.f3) 0},0)
 else if c=128 then ({M with a:=IntKind.u32.wrap (p.length:Int)},0)
 else if c=1 then ({M with x:=i.f3},0)
 else if c=97 then ({M with x:=M.m.getD (ix i.f3) 0},0)
 else if c=129 then ({M with x:=IntKind.u32.wrap (p.length:Int)},0)
 else if c=177 then ({M with x:=IntKind.u32.wrap (4*Go.bits .and .u32 (rdP p (IntKind.u64.wrap i.f3) 1).1 15)},(rdP p (IntKind.u64.wrap i.f3) 1).2)
 else if c=2 then ({M with m:=M.m.set (ix i.f3) M.a},0)
 else if c=3 then ({M with m:=M.m.set (ix i.f3) M.x},0)
 else if c=132 then ({M with a:=IntKind.u32.wrap (-M.a)},0)
 else if c=7 then ({M with x:=M.a},0)
 else if c=135 then ({M with a:=M.x},0)
 else ({M with a:=(opP c M.a (if byX c then M.x else i.f3)).1},(opP c M.a (if byX c then M.x else i.f3)).2)
theorem gB {α:Type} {P:α→Prop} {c:Prop} [Decidable c] {a b:α} (h1:c→P a) (h2:¬c→P b):P (if c then a else b):=by
 by_cases h:c
 · rw [if_pos h];exact h1 h
 rw [if_neg h];exact h2 h
theorem wB (i:S45) (pk:List Int) (M:bg):(bH i pk M).1.m.length=M.m.length:=by
 show (fun s:bg × Int=>s.1.m.length=M.m.length) (bH i pk M)
 unfold bH
 dsimp only
 repeat (refine gB (P:=fun s:bg × Int=>s.1.m.length=M.m.length) (fun _=>by first | rfl | exact List.length_set) (fun _=>?_))
 rfl
end Go.Proofs.Ytdkalnkplgfgoaa.Ln
namespace Go.Proofs.Ytdkalnkplgfgoaa.PA
open Go.RowKit Go.Proofs.YtdkalnkplgfgoaaW.PrintWords Go.Proofs.YtdkalnkplgfgoaaW.PrintLast Go.Proofs.YtdkalnkplgfgoaaW.PrintMore
attribute [local go_sem] dR dU fD fE dC dD dS dV
def fZ.f (k:Nat) (l0:List (S47)):Option (Int × Int):=(bB.f k l0 1 0 1).bind fun bt557=>(some (bt557.1,bt557.2))
theorem fZ.calls (k:Nat) (A0:Option Addr) (c0:Nat) (l0:List (S47)) (r1:Int) (r2:Int) (w:World) (hr0:Kd.C k47 w A0 l0.length l0) (hc0:l0.length≤c0) (h:fZ.f k l0=some (r1,r2)) :
 Calls Try.prog 41 #[.slice A0 l0.length c0] w fun e w'=>e = .returned (.tuple #[.int .i64 r1,.int .i64 r2])∧Below w.heap.size w w':=by
 have HR0:=aa.mk hr0
 have HC0:=aa.mk hc0
 clear hr0 hc0
 have HB:=aa.mk (Below.refl w.heap.size w)
 have H:((bB.f k l0 1 0 1).bind fun bt557=>(some (bt557.1,bt557.2)))=some (r1,r2):=h
 clear h
 replace H:=Option.bind_eq_some_iff.mp H
 obtain ⟨⟨t557,t558⟩,A20,H⟩:=H
 replace H:(some (t557,t558))=some (r1,r2):=H
 have A2:=aa.mk A20
 clear A20
 obtain ⟨rfl,rfl⟩:=so2 H
 go_enter Try.func41,Try.ntmps41
 go_wp2_with (go_at_call 75;(with_reducible refine (bB.calls _ _ _ _ _ _ _ _ _ _ ?side1 HC0.out A2.out).mono ?_);(case side1=>repeat (first | exact HR0.out | (with_reducible refine Kd.iE ?_ _) | (with_reducible refine Kd.jl ?_ _) | (with_reducible refine Kd.kv ?_)));rintro e w3 ⟨rfl,hb⟩;replace HB:=di HB hb)
 go_ret2
 exact ⟨dL,bU⟩
def aZ.f (a0:Int) (a1:Int) (a2:Int):Option (Int × Bool):=if (Go.bits .andNot .u16 a0 8)=4 then (some ((a1+a2) % 4294967296,true)) else (if (Go.bits .andNot .u16 a0 8)=20 then (some ((a1 - a2) % 4294967296,true)) else (if (Go.bits .andNot .u16 a0 8)=36 then (some ((a1*a2) % 4294967296,true)) else (if (Go.bits .andNot .u16 a0 8)=68 then (some (Go.bits .or .u32 a1 a2,true)) else (if (Go.bits .andNot .u16 a0 8)=84 then (some (Go.bits .and .u32 a1 a2,true)) else (if (Go.bits .andNot .u16 a0 8)=164 then (some (Go.bits .xor .u32 a1 a2,true)) else (if (Go.bits .andNot .u16 a0 8)=100 then (if 0≤a2 then (some (shl .u32 a1 a2,true)) else (none)) else (if (Go.bits .andNot .u16 a0 8)=116 then (if 0≤a2 then (some (shr .u32 a1 a2,true)) else (none)) else (if a2=0 then (some (0,false)) else (if (Go.bits .andNot .u16 a0 8)=52 then (some ((Int.tdiv a1 a2) % 4294967296,true)) else (some (Int.tmod a1 a2,true)))))))))))
theorem aZ.calls (a0:Int) (a1:Int) (a2:Int) (r1:Int) (r2:Bool) (w:World) (h:aZ.f a0 a1 a2=some (r1,r2)) :
 Calls Try.prog 155 #[.int .u16 a0,.int .u32 a1,.int .u32 a2] w fun e w'=>e = .returned (.tuple #[.int .u32 r1,.bool r2])∧df w w':=by
 have H:(if (Go.bits .andNot .u16 a0 8)=4 then (some ((a1+a2) % 4294967296,true)) else (if (Go.bits .andNot .u16 a0 8)=20 then (some ((a1 - a2) % 4294967296,true)) else (if (Go.bits .andNot .u16 a0 8)=36 then (some ((a1*a2) % 4294967296,true)) else (if (Go.bits .andNot .u16 a0 8)=68 then (some (Go.bits .or .u32 a1 a2,true)) else (if (Go.bits .andNot .u16 a0 8)=84 then (some (Go.bits .and .u32 a1 a2,true)) else (if (Go.bits .andNot .u16 a0 8)=164 then (some (Go.bits .xor .u32 a1 a2,true)) else (if (Go.bits .andNot .u16 a0 8)=100 then (if 0≤a2 then (some (shl .u32 a1 a2,true)) else (none)) else (if (Go.bits .andNot .u16 a0 8)=116 then (if 0≤a2 then (some (shr .u32 a1 a2,true)) else (none)) else (if a2=0 then (some (0,false)) else (if (Go.bits .andNot .u16 a0 8)=52 then (some ((Int.tdiv a1 a2) % 4294967296,true)) else (some (Int.tmod a1 a2,true))))))))))))=some (r1,r2):=h
 clear h
 iterate 2
  replace H:=cK H
  obtain ⟨H,-,_,_⟩ | ⟨H,c4,_,_⟩:=H
  · obtain ⟨rfl,rfl⟩:=so2 H
    go_enter Try.func155,Try.ntmps155
    go_wp2
    go_ret2
    exact ⟨bT,cZ⟩
 iterate 2
  replace H:=cK H
  obtain ⟨H,-,_,_⟩ | ⟨H,c6,_,_⟩:=H
  · obtain ⟨rfl,rfl⟩:=so2 H
    go_enter Try.func155,Try.ntmps155
    go_wp2
    go_ret2
    exact ⟨bT,cZ⟩
 iterate 2
  replace H:=cK H
  obtain ⟨H,-,_,_⟩ | ⟨H,c8,_,_⟩:=H
  · obtain ⟨rfl,rfl⟩:=so2 H
    go_enter Try.func155,Try.ntmps155
    go_wp2
    go_ret2
    exact ⟨bT,cZ⟩
 replace H:=cK H
 obtain ⟨H,-,_,_⟩ | ⟨H,c10,_,_⟩:=H
 · replace H:=rY H
   obtain ⟨H,c11⟩ | ⟨H,c11⟩:=H
   · have c11b0:=eq_true c11
     have c11b1:decide (0≤a2)=true:=decide_eq_true c11
     clear c11
     obtain ⟨ji12,hji12⟩:∃ j_:Int,(shl .u32 a1 a2)=j_:=⟨_,rfl⟩
     replace H:(some (ji12,true))=some (r1,r2):=by first | (rw [hji12] at H;exact H) | (simp only [hji12] at H ⊢;exact H)
     have hji12_:(IntKind.u32.wrap (a1*2 ^ min a2.toNat 32))=ji12:=hji12
     have hji12z:a2≤32→(IntKind.u32.wrap (a1*2 ^ a2.toNat))=ji12:=wy hji12
     obtain ⟨rfl,rfl⟩:=so2 H
     go_enter Try.func155,Try.ntmps155
     go_wp2
     go_ret2
     exact ⟨by first | rfl | (simp;done) | (simp only [←hji12]<;>(first | rfl | simp)) | (simp [*];done),cZ⟩
   exact absurd H (by simp)
 replace H:=cK H
 obtain ⟨H,-,_,_⟩ | ⟨H,c13,_,_⟩:=H
 · replace H:=rY H
   obtain ⟨H,c14⟩ | ⟨H,c14⟩:=H
   · have c14b0:=eq_true c14
     have c14b1:decide (0≤a2)=true:=decide_eq_true c14
     clear c14
     obtain ⟨ji15,hji15⟩:∃ j_:Int,(shr .u32 a1 a2)=j_:=⟨_,rfl⟩
     replace H:(some (ji15,true))=some (r1,r2):=by first | (rw [hji15] at H;exact H) | (simp only [hji15] at H ⊢;exact H)
     have hji15_:(a1 / 2 ^ min a2.toNat 32)=ji15:=hji15
     have hji15z:a2≤32→(a1 / 2 ^ a2.toNat)=ji15:=wz hji15
     obtain ⟨rfl,rfl⟩:=so2 H
     go_enter Try.func155,Try.ntmps155
     go_wp2
     go_ret2
     exact ⟨by first | rfl | (simp;done) | (simp only [←hji15]<;>(first | rfl | simp)) | (simp [*];done),cZ⟩
   exact absurd H (by simp)
 iterate 2
  replace H:=cK H
  obtain ⟨H,-,_,_⟩ | ⟨H,c16,_,_⟩:=H
  · obtain ⟨rfl,rfl⟩:=so2 H
    go_enter Try.func155,Try.ntmps155
    go_wp2
    go_ret2
    exact ⟨bT,cZ⟩
 obtain ⟨rfl,rfl⟩:=so2 H
 go_enter Try.func155,Try.ntmps155
 go_wp2
 go_ret2
 exact ⟨bT,cZ⟩
def dA.f (a0:Int) (a1:Int) (a2:Int):Option (Bool):=if (Go.bits .andNot .u16 a0 8)=21 then (some (a1==a2)) else (if (Go.bits .andNot .u16 a0 8)=37 then (some (decide (a1>a2))) else (if (Go.bits .andNot .u16 a0 8)=53 then (some (decide (a1≥a2))) else (some ((Go.bits .and .u32 a1 a2) != 0))))
theorem dA.calls (a0:Int) (a1:Int) (a2:Int) (r:Bool) (w:World) (h:dA.f a0 a1 a2=some r) :
 Calls Try.prog 157 #[.int .u16 a0,.int .u32 a1,.int .u32 a2] w fun e w'=>e = .returned (.bool r)∧df w w':=by
 have H:(if (Go.bits .andNot .u16 a0 8)=21 then (some (a1==a2)) else (if (Go.bits .andNot .u16 a0 8)=37 then (some (decide (a1>a2))) else (if (Go.bits .andNot .u16 a0 8)=53 then (some (decide (a1≥a2))) else (some ((Go.bits .and .u32 a1 a2) != 0)))))=some r:=h
 clear h
 replace H:=cK H
 obtain ⟨H,-,_,_⟩ | ⟨H,c4,_,_⟩:=H
 · cases H
   go_enter Try.func157,Try.ntmps157
   go_wp2
   go_ret
   exact ⟨bT,cZ⟩
 iterate 2
  replace H:=cK H
  obtain ⟨H,-,_,_⟩ | ⟨H,c5,_,_⟩:=H
  · cases H
    go_enter Try.func157,Try.ntmps157
    go_wp2
    go_ret
    exact ⟨bT,cZ⟩
 cases H
 go_enter Try.func157,Try.ntmps157
 go_wp2
 go_ret
 exact ⟨bT,cZ⟩
def fP.f (a0:Int):Option (Bool × Int):=some (true,a0)
theorem fP.calls (a0:Int) (r1:Bool) (r2:Int) (w:World) (h:fP.f a0=some (r1,r2)) :
 Calls Try.prog 125 #[.int .u32 a0] w fun e w'=>e = .returned (.agg #[.bool r1,.int .u32 r2])∧Below w.heap.size w w':=by
 have hu149:=Try.underlying149
 have HB:=aa.mk (Below.refl w.heap.size w)
 have H:(some (true,a0))=some (r1,r2):=h
 clear h
 obtain ⟨rfl,rfl⟩:=so2 H
 go_enter Try.func125,Try.ntmps125
 go_wp2_with ((with_reducible refine bA (N:=2) rfl ?_);refine fe (N:=2) (cs:=#[.bool false,.int .u32 0]) (t:=149) ?_;intro gb562 hg w2 hbox hb;have GE562:=geN HB hg;have BK562:=aa.mk hbox;replace HB:=di HB hb;clear hb hbox hg;have hcz3_0:w2.cell? ⟨gb562,0,none⟩=some (.bool false):=(ae BK562.out 0).trans rfl;have hcz3_1:w2.cell? ⟨gb562,1,none⟩=some (.int .u32 0):=(ae BK562.out 1).trans rfl;have hfz3_0:=ah BK562.out 0;have hfz3_1:=ah BK562.out 1)
 refine bodyPost_ret (results_cell_row rfl _ _ gb562 149 #[.bool true,.int .u32 a0] (0,0) _ rfl (by (with_reducible repeat (first | refine aV ?_ _ | refine aY ?_ | refine aH ?_ _));refine aI (cs:=#[.bool true,.int .u32 0]) ?_ 1 _ rfl;(with_reducible repeat (first | refine aV ?_ _ | refine aY ?_ | refine aH ?_ _));refine aI (cs:=#[.bool false,.int .u32 0]) ?_ 0 _ rfl;(with_reducible repeat (first | refine aV ?_ _ | refine aY ?_ | refine aH ?_ _));exact BK562.out) Try.underlying149 rfl (by kernel_rfl)) rfl ?_
 exact ⟨dL,bU⟩
def iC.f (a0_0:Int) (a0_1:Int) (a0_2:Int) (a0_3:Int):Option (Int × Int × Bool):=if a0_0=96 then (some (wrap64 (2+(wrap64 (a0_3))),0,true)) else (if a0_0=97 then (some (wrap64 (2+(wrap64 (a0_3))),1,true)) else (if a0_0=2 then (some (0,wrap64 (2+(wrap64 (a0_3))),true)) else (if a0_0=3 then (some (1,wrap64 (2+(wrap64 (a0_3))),true)) else (if a0_0=7 then (some (0,1,true)) else (if a0_0=135 then (some (1,0,true)) else (some (0,0,false)))))))
theorem iC.calls (a0_0:Int) (a0_1:Int) (a0_2:Int) (a0_3:Int) (r1:Int) (r2:Int) (r3:Bool) (w:World) (h:iC.f a0_0 a0_1 a0_2 a0_3=some (r1,r2,r3)) :
 Calls Try.prog 131 #[.agg #[.int .u16 a0_0,.int .u8 a0_1,.int .u8 a0_2,.int .u32 a0_3]] w fun e w'=>e = .returned (.tuple #[.int .i64 r1,.int .i64 r2,.bool r3])∧Below w.heap.size w w':=by
 have hu45:=Try.underlying45
 have HB:=aa.mk (Below.refl w.heap.size w)
 have H:(if a0_0=96 then (some (wrap64 (2+(wrap64 (a0_3))),0,true)) else (if a0_0=97 then (some (wrap64 (2+(wrap64 (a0_3))),1,true)) else (if a0_0=2 then (some (0,wrap64 (2+(wrap64 (a0_3))),true)) else (if a0_0=3 then (some (1,wrap64 (2+(wrap64 (a0_3))),true)) else (if a0_0=7 then (some (0,1,true)) else (if a0_0=135 then (some (1,0,true)) else (some (0,0,false))))))))=some (r1,r2,r3):=h
 clear h
 iterate 2
  replace H:=cK H
  obtain ⟨H,-,_,_⟩ | ⟨H,c2,_,_⟩:=H
  · obtain ⟨rfl,rfl,rfl⟩:=so3 H
    go_enter Try.func131,Try.ntmps131
    go_wp2_with ((with_reducible refine bA (N:=1) rfl ?_);refine fe (N:=1) (cs:=#[.int .u16 a0_0,.int .u8 a0_1,.int .u8 a0_2,.int .u32 a0_3]) (t:=45) ?_;intro gb563 hg w3 hbox hb;have GE563:=geN HB hg;have BK563:=aa.mk hbox;replace HB:=di HB hb;clear hb hbox hg;obtain ⟨_,_,_,_,_,_,_,_⟩:=cz4 BK563)
    repeat (go_quiet (first | ((with_reducible refine bA (N:=1) rfl ?_);refine fe (N:=1) (cs:=#[.int .u16 a0_0,.int .u8 a0_1,.int .u8 a0_2,.int .u32 a0_3]) (t:=45) ?_;intro gb563 hg w3 hbox hb;have GE563:=geN HB hg;have BK563:=aa.mk hbox;replace HB:=di HB hb;clear hb hbox hg;obtain ⟨_,_,_,_,_,_,_,_⟩:=cz4 BK563));try go_wp2_with ((with_reducible refine bA (N:=1) rfl ?_);refine fe (N:=1) (cs:=#[.int .u16 a0_0,.int .u8 a0_1,.int .u8 a0_2,.int .u32 a0_3]) (t:=45) ?_;intro gb563 hg w3 hbox hb;have GE563:=geN HB hg;have BK563:=aa.mk hbox;replace HB:=di HB hb;clear hb hbox hg;obtain ⟨_,_,_,_,_,_,_,_⟩:=cz4 BK563))
    go_ret3
    exact ⟨dL,bU⟩
 iterate 2
  replace H:=cK H
  obtain ⟨H,-,_,_⟩ | ⟨H,c8,_,_⟩:=H
  · obtain ⟨rfl,rfl,rfl⟩:=so3 H
    go_enter Try.func131,Try.ntmps131
    go_wp2_with ((with_reducible refine bA (N:=1) rfl ?_);refine fe (N:=1) (cs:=#[.int .u16 a0_0,.int .u8 a0_1,.int .u8 a0_2,.int .u32 a0_3]) (t:=45) ?_;intro gb563 hg w9 hbox hb;have GE563:=geN HB hg;have BK563:=aa.mk hbox;replace HB:=di HB hb;clear hb hbox hg;obtain ⟨_,_,_,_,_,_,_,_⟩:=cz4 BK563)
    repeat (go_quiet (first | ((with_reducible refine bA (N:=1) rfl ?_);refine fe (N:=1) (cs:=#[.int .u16 a0_0,.int .u8 a0_1,.int .u8 a0_2,.int .u32 a0_3]) (t:=45) ?_;intro gb563 hg w9 hbox hb;have GE563:=geN HB hg;have BK563:=aa.mk hbox;replace HB:=di HB hb;clear hb hbox hg;obtain ⟨_,_,_,_,_,_,_,_⟩:=cz4 BK563));try go_wp2_with ((with_reducible refine bA (N:=1) rfl ?_);refine fe (N:=1) (cs:=#[.int .u16 a0_0,.int .u8 a0_1,.int .u8 a0_2,.int .u32 a0_3]) (t:=45) ?_;intro gb563 hg w9 hbox hb;have GE563:=geN HB hg;have BK563:=aa.mk hbox;replace HB:=di HB hb;clear hb hbox hg;obtain ⟨_,_,_,_,_,_,_,_⟩:=cz4 BK563))
    go_ret3
    exact ⟨dL,bU⟩
 iterate 2
  replace H:=cK H
  obtain ⟨H,-,_,_⟩ | ⟨H,c14,_,_⟩:=H
  · obtain ⟨rfl,rfl,rfl⟩:=so3 H
    go_enter Try.func131,Try.ntmps131
    go_wp2_with ((with_reducible refine bA (N:=1) rfl ?_);refine fe (N:=1) (cs:=#[.int .u16 a0_0,.int .u8 a0_1,.int .u8 a0_2,.int .u32 a0_3]) (t:=45) ?_;intro gb563 hg w15 hbox hb;have GE563:=geN HB hg;have BK563:=aa.mk hbox;replace HB:=di HB hb;clear hb hbox hg;obtain ⟨_,_,_,_,_,_,_,_⟩:=cz4 BK563)
    repeat (go_quiet (first | ((with_reducible refine bA (N:=1) rfl ?_);refine fe (N:=1) (cs:=#[.int .u16 a0_0,.int .u8 a0_1,.int .u8 a0_2,.int .u32 a0_3]) (t:=45) ?_;intro gb563 hg w15 hbox hb;have GE563:=geN HB hg;have BK563:=aa.mk hbox;replace HB:=di HB hb;clear hb hbox hg;obtain ⟨_,_,_,_,_,_,_,_⟩:=cz4 BK563));try go_wp2_with ((with_reducible refine bA (N:=1) rfl ?_);refine fe (N:=1) (cs:=#[.int .u16 a0_0,.int .u8 a0_1,.int .u8 a0_2,.int .u32 a0_3]) (t:=45) ?_;intro gb563 hg w15 hbox hb;have GE563:=geN HB hg;have BK563:=aa.mk hbox;replace HB:=di HB hb;clear hb hbox hg;obtain ⟨_,_,_,_,_,_,_,_⟩:=cz4 BK563))
    go_ret3
    exact ⟨dL,bU⟩
 obtain ⟨rfl,rfl,rfl⟩:=so3 H
 go_enter Try.func131,Try.ntmps131
 go_wp2_with ((with_reducible refine bA (N:=1) rfl ?_);refine fe (N:=1) (cs:=#[.int .u16 a0_0,.int .u8 a0_1,.int .u8 a0_2,.int .u32 a0_3]) (t:=45) ?_;intro gb563 hg w20 hbox hb;have GE563:=geN HB hg;have BK563:=aa.mk hbox;replace HB:=di HB hb;clear hb hbox hg;obtain ⟨_,_,_,_,_,_,_,_⟩:=cz4 BK563)
 repeat (go_quiet (first | ((with_reducible refine bA (N:=1) rfl ?_);refine fe (N:=1) (cs:=#[.int .u16 a0_0,.int .u8 a0_1,.int .u8 a0_2,.int .u32 a0_3]) (t:=45) ?_;intro gb563 hg w20 hbox hb;have GE563:=geN HB hg;have BK563:=aa.mk hbox;replace HB:=di HB hb;clear hb hbox hg;obtain ⟨_,_,_,_,_,_,_,_⟩:=cz4 BK563));try go_wp2_with ((with_reducible refine bA (N:=1) rfl ?_);refine fe (N:=1) (cs:=#[.int .u16 a0_0,.int .u8 a0_1,.int .u8 a0_2,.int .u32 a0_3]) (t:=45) ?_;intro gb563 hg w20 hbox hb;have GE563:=geN HB hg;have BK563:=aa.mk hbox;replace HB:=di HB hb;clear hb hbox hg;obtain ⟨_,_,_,_,_,_,_,_⟩:=cz4 BK563))
 go_ret3
 exact ⟨dL,bU⟩
def bV.j0:Nat→Int→Bool→Int→Int→Int→Int→Option (Int)
 | 0,_,_,_,_,_,_=>none
 | k+1,x5,x8,x565000,x565001,x565002,x565003=>if x8=true then (some (wrap64 (2+(wrap64 (x565003))))) else (if x5=7 then (if x565000=7 then (some 1) else (some 0)) else (some 0))
def bV.f (k:Nat) (a0_0:Int) (a0_1:Int) (a0_2:Int) (a0_3:Int):Option (Int):=(aC.f k a0_0).bind fun t565=>(if t565=1 then (some 1) else (if t565=2 then (bV.j0 k t565 (t565==2) a0_0 a0_1 a0_2 a0_3) else (bV.j0 k t565 (t565==3) a0_0 a0_1 a0_2 a0_3)))
theorem bV.calls (k:Nat) (a0_0:Int) (a0_1:Int) (a0_2:Int) (a0_3:Int) (r:Int) (w:World) (h:bV.f k a0_0 a0_1 a0_2 a0_3=some r) :
 Calls Try.prog 133 #[.agg #[.int .u16 a0_0,.int .u8 a0_1,.int .u8 a0_2,.int .u32 a0_3]] w fun e w'=>e = .returned (.int .i64 r)∧Below w.heap.size w w':=by
 have hu45:=Try.underlying45
 have HB:=aa.mk (Below.refl w.heap.size w)
 have H:((aC.f k a0_0).bind fun t565=>(if t565=1 then (some 1) else (if t565=2 then (bV.j0 k t565 (t565==2) a0_0 a0_1 a0_2 a0_3) else (bV.j0 k t565 (t565==3) a0_0 a0_1 a0_2 a0_3))))=some r:=h
 clear h
 replace H:=bnd H
 obtain ⟨t565,A2,H⟩:=H
 replace H:=cK H
 obtain ⟨H,-,_,_⟩ | ⟨H,c3,_,_⟩:=H
 · cases H
   go_enter Try.func133,Try.ntmps133
   go_wp2_with (first | ((with_reducible refine bA (N:=1) rfl ?_);refine fe (N:=1) (cs:=#[.int .u16 a0_0,.int .u8 a0_1,.int .u8 a0_2,.int .u32 a0_3]) (t:=45) ?_;intro gb564 hg w4 hbox hb;have GE564:=geN HB hg;have BK564:=aa.mk hbox;replace HB:=di HB hb;clear hb hbox hg;obtain ⟨_,_,_,_,_,_,_,_⟩:=cz4 BK564) | (go_at_call 99;(with_reducible refine (aC.calls _ _ _ _ A2.out).mono ?_);rintro e w' ⟨rfl,⟨nd,rfl⟩⟩))
   go_ret
   exact ⟨dL,bU⟩
 have HC6:=aa.mk H
 clear H
 go_enter Try.func133,Try.ntmps133
 go_upto_if 8 with (first | ((with_reducible refine bA (N:=1) rfl ?_);refine fe (N:=1) (cs:=#[.int .u16 a0_0,.int .u8 a0_1,.int .u8 a0_2,.int .u32 a0_3]) (t:=45) ?_;intro gb564 hg w7 hbox hb;have GE564:=geN HB hg;have BK564:=aa.mk hbox;replace HB:=di HB hb;clear hb hbox hg;obtain ⟨_,_,_,_,_,_,_,_⟩:=cz4 BK564) | (go_at_call 99;(with_reducible refine (aC.calls _ _ _ _ A2.out).mono ?_);rintro e w' ⟨rfl,⟨nd,rfl⟩⟩))
 (try simp only [Act.put,List.setIfInBounds_toArray,List.set_cons_zero,List.set_cons_succ])
 go_cut [8] (fun v8 wc=>∃ (kq:Nat) (x8_5:Bool),v8 = .bool x8_5∧aa (bV.j0 kq t565 x8_5 a0_0 a0_1 a0_2 a0_3=some r)∧aa (kq≤k)∧aa (wc.heap[gb564]?=some (.cells #[.int .u16 a0_0,.int .u8 a0_1,.int .u8 a0_2,.int .u32 a0_3] 45 (0,0)))∧aa (Below w.heap.size w wc))
 case first=>
  have H:=HC6.out
  clear HC6
  replace H:=cK H
  obtain ⟨H,-,c9b0,_⟩ | ⟨H,c9,c9b0,_⟩:=H
  · (first | rw [c9b0] | (simp only [aQ,aN];rw [c9b0]) | skip)
    replace H:=aa.mk H
    go_wp2
    go_meet
    case rel=>exact ⟨_,_,bT,H,⟨le0⟩,⟨kV⟩,⟨bU⟩⟩
  (first | rw [c9b0] | (simp only [aQ,aN];rw [c9b0]) | skip)
  replace H:=aa.mk H
  go_wp2
  go_meet
  case rel=>exact ⟨_,_,bT,H,⟨le0⟩,⟨kV⟩,⟨bU⟩⟩
 case rest=>
  clear HC6
  obtain ⟨kq,x8_5,rfl,HA,HJ5,BK564,HB⟩:=hcut
  cases kq with
  | zero=>exact absurd HA.out (by simp [bV.j0])
  | succ kj5=>
   have H:=HA.out
   clear HA
   simp only [bV.j0] at H
   by_cases c10:x8_5=true
   · subst c10
     have H1:(some (wrap64 (2+(wrap64 (a0_3)))))=some r:=by rw [if_pos rfl] at H;exact H
     clear H
     have H:=H1
     clear H1
     cases H
     obtain ⟨_,_,_,_,_,_,_,_⟩:=cz4 BK564
     go_wp2
     go_ret
     exact ⟨dL,bU⟩
   replace c10:=Bool.eq_false_iff.mpr c10
   subst c10
   have H1:(if t565=7 then (if a0_0=7 then (some 1) else (some 0)) else (some 0))=some r:=by rw [if_neg (show ¬(false=true) by decide)] at H;exact H
   clear H
   have H:=H1
   clear H1
   replace H:=cK H
   obtain ⟨H,-,_,_⟩ | ⟨H,c12,_,_⟩:=H
   · replace H:=cK H
     obtain ⟨H,-,_,_⟩ | ⟨H,c13,_,_⟩:=H
     · cases H
       obtain ⟨_,_,_,_,_,_,_,_⟩:=cz4 BK564
       go_wp2
       go_ret
       exact ⟨dL,bU⟩
     cases H
     obtain ⟨_,_,_,_,_,_,_,_⟩:=cz4 BK564
     go_wp2
     go_ret
     exact ⟨dL,bU⟩
   cases H
   go_wp2
   go_ret
   exact ⟨dL,bU⟩
end Go.Proofs.Ytdkalnkplgfgoaa.PA
namespace Go.Proofs.Ytdkalnkplgfgoaa.Ln
open Go.RowKit Go.Maps Go.Proofs.YtdkalnkplgfgoaaW.PrintWords Go.Proofs.YtdkalnkplgfgoaaW.PrintLast Go.Proofs.YtdkalnkplgfgoaaW.PrintMore Go.Proofs.Ytdkalnkplgfgoaa.PA
def cB (M:bg) (P:Value) (f:Int) (R:List Value):Array Value:=(.int .u32 M.a :: .int .u32 M.x :: (M.m.map (fun v=>Value.int .u32 v)++(P :: .int .i64 f :: R))).toArray
section
variable (M:bg) (P:Value) (f:Int) (R:List Value)
theorem oG:(cB M P f R)[0]?=some (.int .u32 M.a):=rfl
theorem rO:(cB M P f R)[1]?=some (.int .u32 M.x):=rfl
theorem pc_m (j:Nat) (h:j<M.m.length):(cB M P f R)[2+j]?=some (.int .u32 (M.m.getD j 0)):=by
  unfold cB
  rw [List.getElem?_toArray,Nat.add_comm 2 j,List.getElem?_cons_succ,List.getElem?_cons_succ,List.getElem?_append_left (by rw [List.length_map];exact h),List.getElem?_map,List.getD_eq_getElem?_getD,List.getElem?_eq_getElem h]
  rfl
theorem pc_t (h:M.m.length=16) (j:Nat):(cB M P f R)[18+j]?=(P :: .int .i64 f :: R)[j]?:=by
  unfold cB
  rw [List.getElem?_toArray,show 18+j=(16+j)+1+1 by omega,List.getElem?_cons_succ,List.getElem?_cons_succ,List.getElem?_append_right (by rw [List.length_map,h];omega),List.length_map,h,show 16+j - 16=j by omega]
theorem pc_p (h:M.m.length=16):(cB M P f R)[18]?=some P:=pc_t M P f R h 0
theorem vS (h:M.m.length=16):(cB M P f R)[19]?=some (.int .i64 f):=pc_t M P f R h 1
theorem vT (h:M.m.length=16) (j:Nat):(cB M P f R)[20+j]?=R[j]?:=by
  rw [show 20+j=18+(j+2) by omega,pc_t M P f R h];rfl
theorem pc_seta (v:Int):(cB M P f R).setIfInBounds 0 (.int .u32 v)=cB {M with a:=v} P f R:=by
  unfold cB;rw [List.setIfInBounds_toArray];rfl
theorem pc_setx (v:Int):(cB M P f R).setIfInBounds 1 (.int .u32 v)=cB {M with x:=v} P f R:=by
  unfold cB;rw [List.setIfInBounds_toArray];rfl
theorem pc_setm (j:Nat) (h:j<M.m.length) (v:Int):(cB M P f R).setIfInBounds (2+j) (.int .u32 v)=cB {M with m:=M.m.set j v} P f R:=by
  unfold cB;rw [List.setIfInBounds_toArray,Nat.add_comm 2 j,List.set_cons_succ,List.set_cons_succ,List.set_append_left _ _ (by rw [List.length_map];exact h),←List.map_set]
theorem uN (h:M.m.length=16) (j:Nat) (v:Value):(cB M P f R).setIfInBounds (18+j) v=(Value.int .u32 M.a :: .int .u32 M.x :: (M.m.map (fun v=>Value.int .u32 v)++(P :: .int .i64 f :: R).set j v)).toArray:=by
  unfold cB
  rw [List.setIfInBounds_toArray,show 18+j=(16+j)+1+1 by omega,List.set_cons_succ,List.set_cons_succ,List.set_append_right _ _ (by rw [List.length_map,h];omega),List.length_map,h,show 16+j - 16=j by omega]
theorem pc_setf (h:M.m.length=16) (v:Int):(cB M P f R).setIfInBounds 19 (.int .i64 v)=cB M P v R:=uN M P f R h 1 _
theorem pc_setr (h:M.m.length=16) (j:Nat) (v:Value):(cB M P f R).setIfInBounds (20+j) v=cB M P f (R.set j v):=by
  rw [show 20+j=18+(j+2) by omega,uN M P f R h];rfl
end
structure PM (w:World) (g T:Nat) (M:bg) (P:Value) (f:Int) (R:List Value):Prop where
  me:w.heap[g]?=some (.cells (cB M P f R) T (0,0))
  len:M.m.length=16
def SP (w:World) (gm T:Nat) (M1:bg) (P:Value) (f1:Int) (R:List Value):Ending→World→Prop:=fun e w'=>e = .returned (.tuple #[])∧PM w' gm T M1 P f1 R∧Kp (fun k=>k=gm) w w'
section
variable {w w1:World} {g T:Nat} {M:bg} {P:Value} {f:Int} {R:List Value}
theorem PM.below (h:PM w g T M P f R) (hb:Below w.heap.size w w1):PM w1 g T M P f R:=⟨ak h.me hb,h.len⟩
theorem PM.uh (h:PM w g T M P f R) (v:Int):PM (w.setCell ⟨g,0,none⟩ (.int .u32 v)) g T {M with a:=v} P f R:=⟨aI h.me 0 _ (pc_seta M P f R v),h.len⟩
theorem PM.Aq (h:PM w g T M P f R) (v:Int):PM (w.setCell ⟨g,1,none⟩ (.int .u32 v)) g T {M with x:=v} P f R:=⟨aI h.me 1 _ (pc_setx M P f R v),h.len⟩
theorem PM.setm (h:PM w g T M P f R) (j:Nat) (hj:j<16) (v:Int):PM (w.setCell ⟨g,2+j,none⟩ (.int .u32 v)) g T {M with m:=M.m.set j v} P f R:=⟨aI h.me (2+j) _ (pc_setm M P f R j (by rw [h.len];exact hj) v),by show (M.m.set j v).length=16;rw [List.length_set];exact h.len⟩
theorem PM.setf (h:PM w g T M P f R) (v:Int):PM (w.setCell ⟨g,19,none⟩ (.int .i64 v)) g T M P v R:=⟨aI h.me 19 _ (pc_setf M P f R h.len v),h.len⟩
theorem PM.Ao (h:PM w g T M P f R) (j:Nat) (v:Value):PM (w.setCell ⟨g,20+j,none⟩ v) g T M P f (R.set j v):=⟨aI h.me (20+j) _ (pc_setr M P f R h.len j v),h.len⟩
end
structure BX (Y:World) (gi gm T:Nat) (cc i1 i2 k:Int) (arr:Array Value):Prop where
  ci:Y.heap[gi]?=some (.cells #[.int .u16 cc,.int .u8 i1,.int .u8 i2,.int .u32 k] 45 (0,0))
  cm:Y.heap[gm]?=some (.cells arr T (0,0))
section
variable {Y Z:World} {gi gm T:Nat} {cc i1 i2 k:Int} {arr:Array Value}
theorem BX.below (h:BX Y gi gm T cc i1 i2 k arr) (hb:Below Y.heap.size Y Z):BX Z gi gm T cc i1 i2 k arr:=⟨ak h.ci hb,ak h.cm hb⟩
theorem BX.k0 (h:BX Y gi gm T cc i1 i2 k arr):Y.cell? ⟨gi,0,none⟩=some (.int .u16 cc):=(ae h.ci 0).trans rfl
theorem BX.k1 (h:BX Y gi gm T cc i1 i2 k arr):Y.cell? ⟨gi,1,none⟩=some (.int .u8 i1):=(ae h.ci 1).trans rfl
theorem BX.k2 (h:BX Y gi gm T cc i1 i2 k arr):Y.cell? ⟨gi,2,none⟩=some (.int .u8 i2):=(ae h.ci 2).trans rfl
theorem BX.k3 (h:BX Y gi gm T cc i1 i2 k arr):Y.cell? ⟨gi,3,none⟩=some (.int .u32 k):=(ae h.ci 3).trans rfl
end
theorem SP.drew {w X:World} {gm T:Nat} {M1:bg} {P:Value} {f1:Int} {R:List Value} {e:Ending} (h:SP w gm T M1 P f1 R e X):SP w gm T M1 P f1 R e X.drew:=
  ⟨h.1,h.2.1.below (af (Below.refl _ _)),h.2.2.below (af (Below.refl _ _))⟩
theorem SP.fin {w:World} {gm T j:Nat} {M1:bg} {P v:Value} {f1:Int} {R:List Value} {o:Obj} (h:PM (w.setCell ⟨gm,j,none⟩ v) gm T M1 P f1 R):SP w gm T M1 P f1 R (.returned (.tuple #[])) ((w.setCell ⟨gm,j,none⟩ v).alloc o):=
  ⟨rfl,h.below (ai (Below.refl _ _) _),(Kp.set (S:=fun k=>k=gm) (g:=gm) (Kp.refl _ w) (.inl rfl) _ _).below (ai (Below.refl _ _) _)⟩
theorem SP.set {w X:World} {gm T j:Nat} {M1:bg} {P v:Value} {f1:Int} {R:List Value} (h:Kp (fun k=>k=gm) w X) (h1:PM (X.setCell ⟨gm,j,none⟩ v) gm T M1 P f1 R):SP w gm T M1 P f1 R (.returned (.tuple #[])) (X.setCell ⟨gm,j,none⟩ v):=
  ⟨rfl,h1,Kp.set (S:=fun k=>k=gm) (g:=gm) h (.inl rfl) _ _⟩
def okF (b:Bool):Int:=if b=true then 0 else 1
theorem mG (w:World) (gm T:Nat) (M:bg) (t s:Int) (p:List Int) (A:Option Addr) (c:Nat) (R:List Value) (h:PM w gm T M (.slice A p.length c) 0 R) (hP:Kd.C (Kd.int .u8) w A p.length p) (hc:p.length≤c) (hl:p.length<2 ^ 62) (h0:0≤t) (h1:t<2 ^ 62) (hs:s=1∨s=2∨s=4) :
    Calls Try.prog 154 #[.pointer (some ⟨gm,0,none⟩),.int .u64 t,.int .i64 s] w fun e w'=>e = .returned (.tuple #[.int .u32 (rdG p t s).1,.bool (rdG p t s).2])∧PM w' gm T M (.slice A p.length c) (okF (rdG p t s).2) R∧Kp (fun k=>k=gm) w w':=by
  have cp:=(ae h.me 18).trans (pc_p M _ _ _ h.len)
  have cf:=(ae h.me 19).trans (vS M _ _ _ h.len)
  have ff:=ah h.me 19
  have HG:=aa.mk (vJ w p A c t s hP hc hl h0 h1 hs)
  have hlt:=ay h.me
  have H:=aa.mk h
  by_cases hb:t<(p.length:Int)
  · have hbb:decide (t<(p.length:Int))=true:=decide_eq_true hb
    have hp1:(p.length:Int)<4611686018427387904:=by omega
    clear h hP hc hs hl
    obtain ⟨⟨v,ok⟩,er⟩:∃ r,r=rdG p t s:=⟨_,rfl⟩
    rw [←er] at HG ⊢
    clear er
    dsimp only at HG ⊢
    cases ok
    · go_enter Try.func154,Try.ntmps154
      go_wp2_with (go_at_call 164;refine HG.out.mono ?_;rintro e w' ⟨rfl,⟨nd,rfl⟩⟩)
      go_ret2
      exact ⟨rfl,(H.out.below (aj (Below.refl _ _) _)).setf 1,Kp.set (S:=fun k=>k=gm) (g:=gm) ((Kp.refl _ w).below (aj (Below.refl _ _) _)) (.inl rfl) _ _⟩
    · go_enter Try.func154,Try.ntmps154
      go_wp2_with (go_at_call 164;refine HG.out.mono ?_;rintro e w' ⟨rfl,⟨nd,rfl⟩⟩)
      go_ret2
      exact ⟨rfl,H.out.below (aj (Below.refl _ _) _),(Kp.refl _ w).below (aj (Below.refl _ _) _)⟩
  · have hbb:decide (t<(p.length:Int))=false:=decide_eq_false hb
    have hr:rdG p t s=(0,false):=by unfold rdG;rw [if_neg (by rcases hs with rfl | rfl | rfl<;>omega)]
    have hp1:(p.length:Int)<4611686018427387904:=by omega
    rw [hr]
    clear h hP hc hs hl hr HG
    go_enter Try.func154,Try.ntmps154
    go_wp2
    go_ret2
    exact ⟨rfl,H.out.setf 1,Kp.set (S:=fun k=>k=gm) (g:=gm) (Kp.refl _ w) (.inl rfl) _ _⟩
def ldA (M:bg) (r:Int × Bool):bg:=if r.2=true then {M with a:=r.1} else M
def ldX (M:bg) (r:Int × Bool):bg:=if r.2=true then {M with x:=4*Go.bits .and .u32 r.1 15 % 4294967296} else M
theorem iA (w:World) (gm T:Nat) (M:bg) (t s:Int) (p:List Int) (A:Option Addr) (c:Nat) (R:List Value) (h:PM w gm T M (.slice A p.length c) 0 R) (hP:Kd.C (Kd.int .u8) w A p.length p) (hc:p.length≤c) (hl:p.length<2 ^ 62) (h0:0≤t) (h1:t<2 ^ 62) (hs:s=1∨s=2∨s=4) :
    Calls Try.prog 153 #[.pointer (some ⟨gm,0,none⟩),.int .u64 t,.int .i64 s] w (SP w gm T (ldA M (rdG p t s)) (.slice A p.length c) (okF (rdG p t s).2) R):=by
  have HG:=aa.mk (mG w gm T M t s p A c R h hP hc hl h0 h1 hs)
  obtain ⟨⟨v,ok⟩,er⟩:∃ r,r=rdG p t s:=⟨_,rfl⟩
  rw [←er] at HG ⊢
  clear er h hP hc hl h0 h1 hs
  dsimp only at HG ⊢
  cases ok
  · go_enter Try.func153,Try.ntmps153
    go_wp2_with (go_at_call 154;refine HG.out.mono ?_;rintro e X ⟨rfl,hM,hK⟩;have HM:=aa.mk (And.intro hM hK);clear hM hK)
    go_end0
    exact ⟨rfl,HM.out.1,HM.out.2⟩
  · go_enter Try.func153,Try.ntmps153
    go_wp2_with (go_at_call 154;refine HG.out.mono ?_;rintro e X ⟨rfl,hM,hK⟩;have HM:=aa.mk (And.intro hM hK);have ca:=(ae hM.me 0).trans (oG M _ _ _);have fa:=ah hM.me 0;clear hM hK)
    go_end0
    exact .set HM.out.2 (HM.out.1.uh _)
theorem mP (w:World) (gm:Nat) (arr:Array Value) (T:Nat) (a1 x cc i1 i2 k:Int) (h:w.heap[gm]?=some (.cells arr T (0,0))) (hx:arr[1]?=some (.int .u32 x)) :
    Calls Try.prog 156 #[.pointer (some ⟨gm,0,none⟩),.agg #[.int .u16 cc,.int .u8 i1,.int .u8 i2,.int .u32 k]] w fun e w'=>e = .returned (.int .u32 (if (Go.bits .and .u16 cc 8 != 0)=true then x else k))∧Below w.heap.size w w':=by
  have cx:=(ae h 1).trans hx
  have hlt:=ay h
  clear h hx
  cases hb:(Go.bits .and .u16 cc 8 != 0)
  · go_enter Try.func156,Try.ntmps156
    go_wp2
    go_ret
    exact ⟨rfl,ai (Below.refl _ _) _⟩
  · go_enter Try.func156,Try.ntmps156
    go_wp2
    go_ret
    exact ⟨rfl,ai (Below.refl _ _) _⟩
theorem rq (w:World) (gm:Nat) (arr:Array Value) (T:Nat) (a1 cc i1 i2 k:Int) (h:w.heap[gm]?=some (.cells arr T (0,0))) (ha:arr[0]?=some (.int .u32 a1)) :
    Calls Try.prog 120 #[.pointer (some ⟨gm,0,none⟩),.agg #[.int .u16 cc,.int .u8 i1,.int .u8 i2,.int .u32 k]] w fun e w'=>e = .returned (.int .u32 (if cc=22 then a1 else k))∧Below w.heap.size w w':=by
  have cx:=(ae h 0).trans ha
  have hlt:=ay h
  clear h ha
  by_cases hb:cc=22
  · rw [if_pos hb]
    have hbb:(cc==22)=true:=beq_iff_eq.mpr hb
    go_enter Try.func120,Try.ntmps120
    go_wp2
    go_ret
    exact ⟨rfl,ai (Below.refl _ _) _⟩
  · rw [if_neg hb]
    have hbb:(cc==22)=false:=beq_eq_false_iff_ne.mpr hb
    go_enter Try.func120,Try.ntmps120
    go_wp2
    go_ret
    exact ⟨rfl,ai (Below.refl _ _) _⟩
theorem q9 (w:World) (gm:Nat) (arr:Array Value) (T:Nat) (a1 x cc i1 i2 k:Int) (r:Bool) (h:w.heap[gm]?=some (.cells arr T (0,0))) (ha:arr[0]?=some (.int .u32 a1)) (hx:arr[1]?=some (.int .u32 x))
    (hr:dA.f cc a1 (if (Go.bits .and .u16 cc 8 != 0)=true then x else k)=some r) :
    Calls Try.prog 121 #[.pointer (some ⟨gm,0,none⟩),.agg #[.int .u16 cc,.int .u8 i1,.int .u8 i2,.int .u32 k]] w fun e w'=>e = .returned (.bool r)∧Below w.heap.size w w':=by
  have HRC:=aa.mk (fun (W:World) (hW:W.heap[gm]?=some (.cells arr T (0,0)))=>mP W gm arr T a1 x cc i1 i2 k hW hx)
  obtain ⟨y,ey⟩:∃ y,y=if (Go.bits .and .u16 cc 8 != 0)=true then x else k:=⟨_,rfl⟩
  rw [←ey] at hr HRC
  have HR:=aa.mk hr
  have HA:=aa.mk ha
  have HM:=aa.mk h
  have hlt:=ay h
  clear h ha hx hr ey
  go_enter Try.func121,Try.ntmps121
  go_upto_region 1 with (fail)
  refine forget (fun X=>∃ gi,gi=w.heap.size∧Below w.heap.size w X∧BX X gi gm T cc i1 i2 k arr) ⟨_,rfl,ai (Below.refl _ _) _,heap_alloc_new _ _,ak HM.out (ai (Below.refl _ _) _)⟩ ?_
  rintro Y ⟨gi,egi,hb,hx⟩
  rw [←egi]
  have HX:=aa.mk hx
  have HB:=aa.mk hb
  clear egi hb hx HM
  refine jK (n:=11) (S:=fun w'=>w'.cell? ⟨gi,0,none⟩=some (.int .u16 cc)∧w'.cell? ⟨gi,1,none⟩=some (.int .u8 i1)∧w'.cell? ⟨gi,2,none⟩=some (.int .u8 i2)∧w'.cell? ⟨gi,3,none⟩=some (.int .u32 k)∧w'.cell? ⟨gm,0,none⟩=some (.int .u32 a1)) (ds:=[]) #[false,false,false,false,false,false,false,false,false,false,false] (by kernel_rfl) rfl rfl ⟨(HX.out.below (by repeat (first | (with_reducible exact Below.refl _ _) | apply aj | apply af))).k0,(HX.out.below (by repeat (first | (with_reducible exact Below.refl _ _) | apply aj | apply af))).k1,(HX.out.below (by repeat (first | (with_reducible exact Below.refl _ _) | apply aj | apply af))).k2,(HX.out.below (by repeat (first | (with_reducible exact Below.refl _ _) | apply aj | apply af))).k3,((ae (HX.out.below (by repeat (first | (with_reducible exact Below.refl _ _) | apply aj | apply af))).cm 0).trans HA.out)⟩ (fun hHeld=>?_)
  refine bG (i:=0) (N:=some 5) (v:=?_) (a':=?_) #[true,false,false,false,false,false,false,false,false,false,false] rfl rfl (by kernel_rfl) (fun _ _ _ h=>h) (Or.inl ⟨by rfl,?_⟩) ?_ ?_
  rotate_left
  · intro w'
    go_simp
    with_reducible rfl
  rotate_left
  · simp only [Act.put,List.setIfInBounds_toArray,List.set_cons_zero,List.set_cons_succ,aQ,aN]
    rfl
  refine bG (i:=2) (N:=some 7) (v:=?_) (a':=?_) #[true,false,true,false,false,false,false,false,false,false,false] rfl rfl (by kernel_rfl) (fun _ _ _ h=>h) (Or.inl ⟨by rfl,?_⟩) ?_ ?_
  rotate_left
  · intro w'
    go_simp
    with_reducible rfl
  rotate_left
  · simp only [Act.put,List.setIfInBounds_toArray,List.set_cons_zero,List.set_cons_succ,aQ,aN]
    rfl
  refine bG (i:=3) (N:=some 8) (v:=?_) (a':=?_) #[true,false,true,true,false,false,false,false,false,false,false] rfl rfl (by kernel_rfl) (fun _ _ _ h=>h) (Or.inl ⟨by rfl,?_⟩) ?_ ?_
  rotate_left
  · intro w'
    go_simp
    with_reducible rfl
  rotate_left
  · simp only [Act.put,List.setIfInBounds_toArray,List.set_cons_zero,List.set_cons_succ,aQ,aN]
    rfl
  refine bG (i:=4) (N:=some 9) (v:=?_) (a':=?_) #[true,false,true,true,true,false,false,false,false,false,false] rfl rfl (by kernel_rfl) (fun _ _ _ h=>h) (Or.inl ⟨by rfl,?_⟩) ?_ ?_
  rotate_left
  · intro w'
    go_simp
    with_reducible rfl
  rotate_left
  · simp only [Act.put,List.setIfInBounds_toArray,List.set_cons_zero,List.set_cons_succ,aQ,aN]
    rfl
  refine bG (i:=6) (N:=some 11) (v:=?_) (a':=?_) #[true,false,true,true,true,false,true,false,false,false,false] rfl rfl (by kernel_rfl) (fun _ _ _ h=>h) (Or.inl ⟨by rfl,?_⟩) ?_ ?_
  rotate_left
  · intro w'
    go_simp
    with_reducible rfl
  rotate_left
  · simp only [Act.put,List.setIfInBounds_toArray,List.set_cons_zero,List.set_cons_succ,aQ,aN]
    rfl
  refine fI (i:=1) (N:=some 6) (v:=?_) (a':=?_) #[true,true,true,true,true,false,true,false,false,false,false] rfl rfl (by kernel_rfl) (fun _ _ _ h=>h) (Or.inl ⟨by rfl,?_⟩) hHeld ?_ ?_
  rotate_left
  · rintro w' ⟨s0,s1,s2,s3,s4⟩
    go_simp
    with_reducible rfl
  rotate_left
  · simp only [Act.put,List.setIfInBounds_toArray,List.set_cons_zero,List.set_cons_succ,aQ,aN]
    rfl
  refine fI (i:=5) (N:=some 10) (v:=?_) (a':=?_) #[true,true,true,true,true,true,true,false,false,false,false] rfl rfl (by kernel_rfl) (fun _ _ _ h=>h) (Or.inl ⟨by rfl,?_⟩) hHeld ?_ ?_
  rotate_left
  · rintro w' ⟨s0,s1,s2,s3,s4⟩
    go_simp
    with_reducible rfl
  rotate_left
  · simp only [Act.put,List.setIfInBounds_toArray,List.set_cons_zero,List.set_cons_succ,aQ,aN]
    rfl
  refine fI (i:=7) (N:=some 12) (v:=?_) (a':=?_) #[true,true,true,true,true,true,true,true,false,false,false] rfl rfl (by kernel_rfl) (fun _ _ _ h=>h) (Or.inl ⟨by rfl,?_⟩) hHeld ?_ ?_
  rotate_left
  · rintro w' ⟨s0,s1,s2,s3,s4⟩
    go_simp
    with_reducible rfl
  rotate_left
  · simp only [Act.put,List.setIfInBounds_toArray,List.set_cons_zero,List.set_cons_succ,aQ,aN]
    rfl
  refine tJ (i:=8) (N:=some 13) #[true,true,true,true,true,true,true,true,true,false,false] rfl rfl (by kernel_rfl) (by decide) (fun K hK=>?_)
  refine kY Try.func156 (by kernel_rfl) rfl #[.pointer (some ⟨gm,0,none⟩),.agg #[.int .u16 cc,.int .u8 i1,.int .u8 i2,.int .u32 k]] (by rfl) rfl rfl (by simp only [List.map_toArray,List.map_cons,List.map_nil];rfl) ?_
  with_reducible refine (HRC.out _ (HX.out.below (by repeat (first | (with_reducible exact Below.refl _ _) | apply aj | apply af))).cm).mono ?_
  rintro e w3 ⟨rfl,hb3⟩
  refine ⟨_,rfl,?_⟩
  refine hK.out _ _ ⟨(HX.out.below (au (af (Below.refl _ _)) hb3)).k0,(HX.out.below (au (af (Below.refl _ _)) hb3)).k1,(HX.out.below (au (af (Below.refl _ _)) hb3)).k2,(HX.out.below (au (af (Below.refl _ _)) hb3)).k3,((ae (HX.out.below (au (af (Below.refl _ _)) hb3)).cm 0).trans HA.out)⟩ (fun hHeld=>?_)
  clear hK K
  refine kI (a':=?_) ?_ ?_
  rotate_left
  · show Act.put _ (some 13) _=_
    simp only [Act.put,List.setIfInBounds_toArray,List.set_cons_zero,List.set_cons_succ,aQ,aN]
    rfl
  refine tJ (i:=9) (N:=some 14) #[true,true,true,true,true,true,true,true,true,true,false] rfl rfl (by kernel_rfl) (by decide) (fun K hK=>?_)
  refine kY Try.func157 (by kernel_rfl) rfl #[.int .u16 cc,.int .u32 a1,.int .u32 y] (by rfl) rfl rfl (by simp only [List.map_toArray,List.map_cons,List.map_nil];rfl) ?_
  with_reducible refine (dA.calls _ _ _ _ _ HR.out).mono ?_
  rintro e w4 ⟨rfl,⟨nd4,rfl⟩⟩
  refine ⟨_,rfl,?_⟩
  refine hK.out _ _ ⟨(HX.out.below (aj (au (af (Below.refl _ _)) hb3) _)).k0,(HX.out.below (aj (au (af (Below.refl _ _)) hb3) _)).k1,(HX.out.below (aj (au (af (Below.refl _ _)) hb3) _)).k2,(HX.out.below (aj (au (af (Below.refl _ _)) hb3) _)).k3,((ae (HX.out.below (aj (au (af (Below.refl _ _)) hb3) _)).cm 0).trans HA.out)⟩ (fun hHeld=>?_)
  clear hK K
  refine kI (a':=?_) ?_ ?_
  rotate_left
  · show Act.put _ (some 14) _=_
    simp only [Act.put,List.setIfInBounds_toArray,List.set_cons_zero,List.set_cons_succ,aQ,aN]
    rfl
  refine bG (i:=10) (N:=some 4) (v:=?_) (a':=?_) #[true,true,true,true,true,true,true,true,true,true,true] rfl rfl (by kernel_rfl) (fun _ _ _ h=>h) (Or.inl ⟨by rfl,?_⟩) ?_ ?_
  rotate_left
  · intro w'
    go_simp
    with_reducible rfl
  rotate_left
  · simp only [Act.put,List.setIfInBounds_toArray,List.set_cons_zero,List.set_cons_succ,aQ,aN]
    rfl
  refine fO (by kernel_rfl) ?_
  go_wp2
  go_ret
  exact ⟨rfl,au HB.out (aj (au (af (Below.refl _ _)) hb3) _)⟩
theorem g_ldImm (w:World) (gm T:Nat) (M:bg) (cc i1 i2 k:Int) (p:List Int) (A:Option Addr) (c:Nat) (R:List Value) (h:PM w gm T M (.slice A p.length c) 0 R) :
    Calls Try.prog 101 #[.pointer (some ⟨gm,0,none⟩),.agg #[.int .u16 cc,.int .u8 i1,.int .u8 i2,.int .u32 k]] w (SP w gm T {M with a:=k} (.slice A p.length c) 0 R):=by
  have ca:=(ae h.me 0).trans (oG M _ _ _)
  have fa:=ah h.me 0
  have hlt:=ay h.me
  have H:=aa.mk h
  clear h
  go_enter Try.func101,Try.ntmps101
  go_wp2
  go_end0
  exact (SP.fin (H.out.uh _))
theorem ym (w:World) (gm T:Nat) (M:bg) (cc i1 i2 k:Int) (p:List Int) (A:Option Addr) (c:Nat) (R:List Value) (h:PM w gm T M (.slice A p.length c) 0 R) :
    Calls Try.prog 110 #[.pointer (some ⟨gm,0,none⟩),.agg #[.int .u16 cc,.int .u8 i1,.int .u8 i2,.int .u32 k]] w (SP w gm T {M with x:=k} (.slice A p.length c) 0 R):=by
  have cx:=(ae h.me 1).trans (rO M _ _ _)
  have fx:=ah h.me 1
  have hlt:=ay h.me
  have H:=aa.mk h
  clear h
  go_enter Try.func110,Try.ntmps110
  go_wp2
  go_end0
  exact (SP.fin (H.out.Aq _))
theorem g_tax (w:World) (gm T:Nat) (M:bg) (cc i1 i2 k:Int) (p:List Int) (A:Option Addr) (c:Nat) (R:List Value) (h:PM w gm T M (.slice A p.length c) 0 R) :
    Calls Try.prog 117 #[.pointer (some ⟨gm,0,none⟩),.agg #[.int .u16 cc,.int .u8 i1,.int .u8 i2,.int .u32 k]] w (SP w gm T {M with x:=M.a} (.slice A p.length c) 0 R):=by
  have ca:=(ae h.me 0).trans (oG M _ _ _)
  have fa:=ah h.me 0
  have cx:=(ae h.me 1).trans (rO M _ _ _)
  have fx:=ah h.me 1
  have hlt:=ay h.me
  have H:=aa.mk h
  clear h
  go_enter Try.func117,Try.ntmps117
  go_wp2
  go_end0
  exact (SP.fin (H.out.Aq _))
theorem g_txa (w:World) (gm T:Nat) (M:bg) (cc i1 i2 k:Int) (p:List Int) (A:Option Addr) (c:Nat) (R:List Value) (h:PM w gm T M (.slice A p.length c) 0 R) :
    Calls Try.prog 118 #[.pointer (some ⟨gm,0,none⟩),.agg #[.int .u16 cc,.int .u8 i1,.int .u8 i2,.int .u32 k]] w (SP w gm T {M with a:=M.x} (.slice A p.length c) 0 R):=by
  have ca:=(ae h.me 0).trans (oG M _ _ _)
  have fa:=ah h.me 0
  have cx:=(ae h.me 1).trans (rO M _ _ _)
  have fx:=ah h.me 1
  have hlt:=ay h.me
  have H:=aa.mk h
  clear h
  go_enter Try.func118,Try.ntmps118
  go_wp2
  go_end0
  exact (SP.fin (H.out.uh _))
theorem g_ldMem (w:World) (gm T:Nat) (M:bg) (cc i1 i2 k v:Int) (p:List Int) (A:Option Addr) (c:Nat) (R:List Value) (h:PM w gm T M (.slice A p.length c) 0 R) (hv:M.m.getD k.toNat 0=v) (hk0:0≤k) (hk1:k<16) :
    Calls Try.prog 108 #[.pointer (some ⟨gm,0,none⟩),.agg #[.int .u16 cc,.int .u8 i1,.int .u8 i2,.int .u32 k]] w (SP w gm T {M with a:=v} (.slice A p.length c) 0 R):=by
  have ca:=(ae h.me 0).trans (oG M _ _ _)
  have fa:=ah h.me 0
  have c2:=(ae h.me (2+k.toNat)).trans ((pc_m M _ _ _ k.toNat (by rw [h.len];omega)).trans (congrArg (fun z=>some (Value.int .u32 z)) hv))
  have f2:=ah h.me (2+k.toNat)
  have hlt:=ay h.me
  have H:=aa.mk h
  clear h
  go_enter Try.func108,Try.ntmps108
  go_wp2
  go_region
  go_wp2
  go_end0
  exact (SP.fin (H.out.uh _)).drew
theorem yt (w:World) (gm T:Nat) (M:bg) (cc i1 i2 k v:Int) (p:List Int) (A:Option Addr) (c:Nat) (R:List Value) (h:PM w gm T M (.slice A p.length c) 0 R) (hv:M.m.getD k.toNat 0=v) (hk0:0≤k) (hk1:k<16) :
    Calls Try.prog 111 #[.pointer (some ⟨gm,0,none⟩),.agg #[.int .u16 cc,.int .u8 i1,.int .u8 i2,.int .u32 k]] w (SP w gm T {M with x:=v} (.slice A p.length c) 0 R):=by
  have cx:=(ae h.me 1).trans (rO M _ _ _)
  have fx:=ah h.me 1
  have c2:=(ae h.me (2+k.toNat)).trans ((pc_m M _ _ _ k.toNat (by rw [h.len];omega)).trans (congrArg (fun z=>some (Value.int .u32 z)) hv))
  have f2:=ah h.me (2+k.toNat)
  have hlt:=ay h.me
  have H:=aa.mk h
  clear h
  go_enter Try.func111,Try.ntmps111
  go_wp2
  go_region
  go_wp2
  go_end0
  exact (SP.fin (H.out.Aq _)).drew
theorem g_st (w:World) (gm T:Nat) (M:bg) (cc i1 i2 k v:Int) (p:List Int) (A:Option Addr) (c:Nat) (R:List Value) (h:PM w gm T M (.slice A p.length c) 0 R) (hv:M.m.getD k.toNat 0=v) (hk0:0≤k) (hk1:k<16) :
    Calls Try.prog 114 #[.pointer (some ⟨gm,0,none⟩),.agg #[.int .u16 cc,.int .u8 i1,.int .u8 i2,.int .u32 k]] w (SP w gm T {M with m:=M.m.set k.toNat M.a} (.slice A p.length c) 0 R):=by
  have ca:=(ae h.me 0).trans (oG M _ _ _)
  have fa:=ah h.me 0
  have c2:=(ae h.me (2+k.toNat)).trans ((pc_m M _ _ _ k.toNat (by rw [h.len];omega)).trans (congrArg (fun z=>some (Value.int .u32 z)) hv))
  have f2:=ah h.me (2+k.toNat)
  have hlt:=ay h.me
  have H:=aa.mk h
  clear h
  go_enter Try.func114,Try.ntmps114
  go_wp2
  go_region
  go_wp2
  go_end0
  exact (SP.fin (H.out.setm _ (by omega) _)).drew
theorem g_stx (w:World) (gm T:Nat) (M:bg) (cc i1 i2 k v:Int) (p:List Int) (A:Option Addr) (c:Nat) (R:List Value) (h:PM w gm T M (.slice A p.length c) 0 R) (hv:M.m.getD k.toNat 0=v) (hk0:0≤k) (hk1:k<16) :
    Calls Try.prog 115 #[.pointer (some ⟨gm,0,none⟩),.agg #[.int .u16 cc,.int .u8 i1,.int .u8 i2,.int .u32 k]] w (SP w gm T {M with m:=M.m.set k.toNat M.x} (.slice A p.length c) 0 R):=by
  have cx:=(ae h.me 1).trans (rO M _ _ _)
  have fx:=ah h.me 1
  have c2:=(ae h.me (2+k.toNat)).trans ((pc_m M _ _ _ k.toNat (by rw [h.len];omega)).trans (congrArg (fun z=>some (Value.int .u32 z)) hv))
  have f2:=ah h.me (2+k.toNat)
  have hlt:=ay h.me
  have H:=aa.mk h
  clear h
  go_enter Try.func115,Try.ntmps115
  go_wp2
  go_region
  go_wp2
  go_end0
  exact (SP.fin (H.out.setm _ (by omega) _)).drew
theorem g_neg (w:World) (gm T:Nat) (M:bg) (cc i1 i2 k:Int) (p:List Int) (A:Option Addr) (c:Nat) (R:List Value) (h:PM w gm T M (.slice A p.length c) 0 R) :
    Calls Try.prog 116 #[.pointer (some ⟨gm,0,none⟩),.agg #[.int .u16 cc,.int .u8 i1,.int .u8 i2,.int .u32 k]] w (SP w gm T {M with a:=(-M.a) % 4294967296} (.slice A p.length c) 0 R):=by
  have ca:=(ae h.me 0).trans (oG M _ _ _)
  have fa:=ah h.me 0
  have hlt:=ay h.me
  have H:=aa.mk h
  clear h
  go_enter Try.func116,Try.ntmps116
  go_wp2
  go_end0
  exact (SP.fin (H.out.uh _))
theorem g_ldLen (w:World) (gm T:Nat) (M:bg) (cc i1 i2 k:Int) (p:List Int) (A:Option Addr) (c:Nat) (R:List Value) (h:PM w gm T M (.slice A p.length c) 0 R) :
    Calls Try.prog 109 #[.pointer (some ⟨gm,0,none⟩),.agg #[.int .u16 cc,.int .u8 i1,.int .u8 i2,.int .u32 k]] w (SP w gm T {M with a:=(p.length:Int) % 4294967296} (.slice A p.length c) 0 R):=by
  have ca:=(ae h.me 0).trans (oG M _ _ _)
  have fa:=ah h.me 0
  have cp:=(ae h.me 18).trans (pc_p M _ _ _ h.len)
  have fp:=ah h.me 18
  have hlt:=ay h.me
  have H:=aa.mk h
  clear h
  go_enter Try.func109,Try.ntmps109
  go_wp2
  go_end0
  exact (SP.fin (H.out.uh _))
theorem yo (w:World) (gm T:Nat) (M:bg) (cc i1 i2 k:Int) (p:List Int) (A:Option Addr) (c:Nat) (R:List Value) (h:PM w gm T M (.slice A p.length c) 0 R) :
    Calls Try.prog 112 #[.pointer (some ⟨gm,0,none⟩),.agg #[.int .u16 cc,.int .u8 i1,.int .u8 i2,.int .u32 k]] w (SP w gm T {M with x:=(p.length:Int) % 4294967296} (.slice A p.length c) 0 R):=by
  have cx:=(ae h.me 1).trans (rO M _ _ _)
  have fx:=ah h.me 1
  have cp:=(ae h.me 18).trans (pc_p M _ _ _ h.len)
  have fp:=ah h.me 18
  have hlt:=ay h.me
  have H:=aa.mk h
  clear h
  go_enter Try.func112,Try.ntmps112
  go_wp2
  go_end0
  exact (SP.fin (H.out.Aq _))
theorem yg (w:World) (gm T:Nat) (M:bg) (cc i1 i2 k:Int) (p:List Int) (A:Option Addr) (c:Nat) (R:List Value) (h:PM w gm T M (.slice A p.length c) 0 R) (hP:Kd.C (Kd.int .u8) w A p.length p) (hc:p.length≤c) (hl:p.length<2 ^ 62) (hk0:0≤k) (hk1:k<4294967296) :
    Calls Try.prog 102 #[.pointer (some ⟨gm,0,none⟩),.agg #[.int .u16 cc,.int .u8 i1,.int .u8 i2,.int .u32 k]] w (SP w gm T (ldA M (rdG p k 4)) (.slice A p.length c) (okF (rdG p k 4).2) R):=by
  have HIC:=aa.mk (fun (W:World) (hb:Below w.heap.size w W)=>iA W gm T M k 4 p A c R (h.below hb) (Kd.bY hP hb) hc hl hk0 (by omega) (by decide))
  have hlt:=ay h.me
  clear h hP hc hl
  go_enter Try.func102,Try.ntmps102
  go_wp2_with (go_at_call 153;refine (HIC.out _ (ai (Below.refl _ _) _)).mono ?_;rintro e X ⟨rfl,hM,hK⟩;have HM:=aa.mk (And.intro hM hK);clear hM hK)
  go_end0
  exact ⟨rfl,HM.out.1,((Kp.refl _ w).below (ai (Below.refl _ _) _)).trans HM.out.2⟩
theorem yl (w:World) (gm T:Nat) (M:bg) (cc i1 i2 k:Int) (p:List Int) (A:Option Addr) (c:Nat) (R:List Value) (h:PM w gm T M (.slice A p.length c) 0 R) (hP:Kd.C (Kd.int .u8) w A p.length p) (hc:p.length≤c) (hl:p.length<2 ^ 62) (hk0:0≤k) (hk1:k<4294967296) (hx0:0≤M.x) (hx1:M.x<4294967296) :
    Calls Try.prog 105 #[.pointer (some ⟨gm,0,none⟩),.agg #[.int .u16 cc,.int .u8 i1,.int .u8 i2,.int .u32 k]] w (SP w gm T (ldA M (rdG p (M.x+k) 4)) (.slice A p.length c) (okF (rdG p (M.x+k) 4).2) R):=by
  have HIC:=aa.mk (fun (W:World) (hW:PM W gm T M (.slice A p.length c) 0 R) (hb:Below w.heap.size w W)=>(show Calls Try.prog 153 #[.pointer (some ⟨gm,0,none⟩),.int .u64 (IntKind.u64.wrap (IntKind.u64.wrap M.x+IntKind.u64.wrap k)),.int .i64 4] W (SP W gm T (ldA M (rdG p (M.x+k) 4)) (.slice A p.length c) (okF (rdG p (M.x+k) 4).2) R) by
    rw [show IntKind.u64.wrap (IntKind.u64.wrap M.x+IntKind.u64.wrap k)=M.x+k by simp only [IntKind.wrap_u64];omega]
    exact iA W gm T M (M.x+k) 4 p A c R hW (Kd.bY hP hb) hc hl (by omega) (by omega) (by decide)))
  have H:=aa.mk h
  have hlt:=ay h.me
  clear h hP hc hl
  go_enter Try.func105,Try.ntmps105
  go_upto_region 1 with (fail)
  refine forget (fun X=>∃ gi,gi=w.heap.size∧Below w.heap.size w X∧BX X gi gm T cc i1 i2 k (cB M (.slice A p.length c) 0 R)) ⟨_,rfl,ai (Below.refl _ _) _,heap_alloc_new _ _,(H.out.below (ai (Below.refl _ _) _)).me⟩ ?_
  rintro Y ⟨gi,egi,hb,hx⟩
  rw [←egi]
  have HX:=aa.mk hx
  have HB:=aa.mk hb
  clear egi hb hx
  refine jK (n:=12) (S:=fun w'=>w'.cell? ⟨gi,0,none⟩=some (.int .u16 cc)∧w'.cell? ⟨gi,1,none⟩=some (.int .u8 i1)∧w'.cell? ⟨gi,2,none⟩=some (.int .u8 i2)∧w'.cell? ⟨gi,3,none⟩=some (.int .u32 k)∧w'.cell? ⟨gm,1,none⟩=some (.int .u32 M.x)) (ds:=[11]) #[false,false,false,false,false,false,false,false,false,false,false,false] (by kernel_rfl) rfl rfl ⟨(HX.out.below (by repeat (first | (with_reducible exact Below.refl _ _) | apply aj | apply af))).k0,(HX.out.below (by repeat (first | (with_reducible exact Below.refl _ _) | apply aj | apply af))).k1,(HX.out.below (by repeat (first | (with_reducible exact Below.refl _ _) | apply aj | apply af))).k2,(HX.out.below (by repeat (first | (with_reducible exact Below.refl _ _) | apply aj | apply af))).k3,((ae (HX.out.below (by repeat (first | (with_reducible exact Below.refl _ _) | apply aj | apply af))).cm 1).trans rfl)⟩ (fun hHeld=>?_)
  refine bG (i:=0) (N:=some 4) (v:=?_) (a':=?_) #[true,false,false,false,false,false,false,false,false,false,false,false] rfl rfl (by kernel_rfl) (fun _ _ _ h=>h) (Or.inl ⟨by rfl,?_⟩) ?_ ?_
  rotate_left
  · intro w'
    go_simp
    with_reducible rfl
  rotate_left
  · simp only [Act.put,List.setIfInBounds_toArray,List.set_cons_zero,List.set_cons_succ,aQ,aN]
    rfl
  refine bG (i:=1) (N:=some 5) (v:=?_) (a':=?_) #[true,true,false,false,false,false,false,false,false,false,false,false] rfl rfl (by kernel_rfl) (fun _ _ _ h=>h) (Or.inl ⟨by rfl,?_⟩) ?_ ?_
  rotate_left
  · intro w'
    go_simp
    with_reducible rfl
  rotate_left
  · simp only [Act.put,List.setIfInBounds_toArray,List.set_cons_zero,List.set_cons_succ,aQ,aN]
    rfl
  refine bG (i:=2) (N:=some 6) (v:=?_) (a':=?_) #[true,true,true,false,false,false,false,false,false,false,false,false] rfl rfl (by kernel_rfl) (fun _ _ _ h=>h) (Or.inl ⟨by rfl,?_⟩) ?_ ?_
  rotate_left
  · intro w'
    go_simp
    with_reducible rfl
  rotate_left
  · simp only [Act.put,List.setIfInBounds_toArray,List.set_cons_zero,List.set_cons_succ,aQ,aN]
    rfl
  refine bG (i:=3) (N:=some 7) (v:=?_) (a':=?_) #[true,true,true,true,false,false,false,false,false,false,false,false] rfl rfl (by kernel_rfl) (fun _ _ _ h=>h) (Or.inl ⟨by rfl,?_⟩) ?_ ?_
  rotate_left
  · intro w'
    go_simp
    with_reducible rfl
  rotate_left
  · simp only [Act.put,List.setIfInBounds_toArray,List.set_cons_zero,List.set_cons_succ,aQ,aN]
    rfl
  refine bG (i:=4) (N:=some 8) (v:=?_) (a':=?_) #[true,true,true,true,true,false,false,false,false,false,false,false] rfl rfl (by kernel_rfl) (fun _ _ _ h=>h) (Or.inl ⟨by rfl,?_⟩) ?_ ?_
  rotate_left
  · intro w'
    go_simp
    with_reducible rfl
  rotate_left
  · simp only [Act.put,List.setIfInBounds_toArray,List.set_cons_zero,List.set_cons_succ,aQ,aN]
    rfl
  refine bG (i:=7) (N:=some 11) (v:=?_) (a':=?_) #[true,true,true,true,true,false,false,true,false,false,false,false] rfl rfl (by kernel_rfl) (fun _ _ _ h=>h) (Or.inl ⟨by rfl,?_⟩) ?_ ?_
  rotate_left
  · intro w'
    go_simp
    with_reducible rfl
  rotate_left
  · simp only [Act.put,List.setIfInBounds_toArray,List.set_cons_zero,List.set_cons_succ,aQ,aN]
    rfl
  refine fI (i:=5) (N:=some 9) (v:=?_) (a':=?_) #[true,true,true,true,true,true,false,true,false,false,false,false] rfl rfl (by kernel_rfl) (fun _ _ _ h=>h) (Or.inl ⟨by rfl,?_⟩) hHeld ?_ ?_
  rotate_left
  · rintro w' ⟨s0,s1,s2,s3,s4⟩
    go_simp
    with_reducible rfl
  rotate_left
  · simp only [Act.put,List.setIfInBounds_toArray,List.set_cons_zero,List.set_cons_succ,aQ,aN]
    rfl
  refine bG (i:=6) (N:=some 10) (v:=?_) (a':=?_) #[true,true,true,true,true,true,true,true,false,false,false,false] rfl rfl (by kernel_rfl) (fun _ _ _ h=>h) (Or.inl ⟨by rfl,?_⟩) ?_ ?_
  rotate_left
  · intro w'
    go_simp
    with_reducible rfl
  rotate_left
  · simp only [Act.put,List.setIfInBounds_toArray,List.set_cons_zero,List.set_cons_succ,aQ,aN]
    rfl
  refine fI (i:=8) (N:=some 12) (v:=?_) (a':=?_) #[true,true,true,true,true,true,true,true,true,false,false,false] rfl rfl (by kernel_rfl) (fun _ _ _ h=>h) (Or.inl ⟨by rfl,?_⟩) hHeld ?_ ?_
  rotate_left
  · rintro w' ⟨s0,s1,s2,s3,s4⟩
    go_simp
    with_reducible rfl
  rotate_left
  · simp only [Act.put,List.setIfInBounds_toArray,List.set_cons_zero,List.set_cons_succ,aQ,aN]
    rfl
  refine bG (i:=9) (N:=some 13) (v:=?_) (a':=?_) #[true,true,true,true,true,true,true,true,true,true,false,false] rfl rfl (by kernel_rfl) (fun _ _ _ h=>h) (Or.inl ⟨by rfl,?_⟩) ?_ ?_
  rotate_left
  · intro w'
    go_simp
    with_reducible rfl
  rotate_left
  · simp only [Act.put,List.setIfInBounds_toArray,List.set_cons_zero,List.set_cons_succ,aQ,aN]
    rfl
  refine bG (i:=10) (N:=some 14) (v:=?_) (a':=?_) #[true,true,true,true,true,true,true,true,true,true,true,false] rfl rfl (by kernel_rfl) (fun _ _ _ h=>h) (Or.inl ⟨by rfl,?_⟩) ?_ ?_
  rotate_left
  · intro w'
    go_simp
    with_reducible rfl
  rotate_left
  · simp only [Act.put,List.setIfInBounds_toArray,List.set_cons_zero,List.set_cons_succ,aQ,aN]
    rfl
  refine oq (i:=11) (N:=some 15) #[true,true,true,true,true,true,true,true,true,true,true,true] rfl rfl (by kernel_rfl) (by decide) (fun K hK=>?_)
  refine kY Try.func153 (by kernel_rfl) rfl #[.pointer (some ⟨gm,0,none⟩),.int .u64 (IntKind.u64.wrap (IntKind.u64.wrap M.x+IntKind.u64.wrap k)),.int .i64 4] (by rfl) rfl rfl (by simp only [List.map_toArray,List.map_cons,List.map_nil];rfl) ?_
  with_reducible refine (HIC.out _ ⟨(HX.out.below (by repeat (first | (with_reducible exact Below.refl _ _) | apply aj | apply af))).cm,H.out.len⟩ (au HB.out (by repeat (first | (with_reducible exact Below.refl _ _) | apply aj | apply af)))).mono ?_
  rintro e w3 ⟨rfl,hM,hK⟩
  refine ⟨_,rfl,?_⟩
  have HM:=aa.mk (And.intro hM hK)
  clear hM hK
  refine hK.out _ _ ?_
  clear hK K
  refine kI (a':=?_) ?_ ?_
  rotate_left
  · show Act.put _ (some 15) _=_
    simp only [Act.put,List.setIfInBounds_toArray,List.set_cons_zero,List.set_cons_succ,aQ,aN]
    rfl
  refine fO (by kernel_rfl) ?_
  go_wp2
  go_end0
  exact ⟨rfl,HM.out.1,((Kp.refl _ w).below (au HB.out (af (Below.refl _ _)))).trans HM.out.2⟩
theorem yf (w:World) (gm T:Nat) (M:bg) (cc i1 i2 k:Int) (p:List Int) (A:Option Addr) (c:Nat) (R:List Value) (h:PM w gm T M (.slice A p.length c) 0 R) (hP:Kd.C (Kd.int .u8) w A p.length p) (hc:p.length≤c) (hl:p.length<2 ^ 62) (hk0:0≤k) (hk1:k<4294967296) :
    Calls Try.prog 103 #[.pointer (some ⟨gm,0,none⟩),.agg #[.int .u16 cc,.int .u8 i1,.int .u8 i2,.int .u32 k]] w (SP w gm T (ldA M (rdG p k 2)) (.slice A p.length c) (okF (rdG p k 2).2) R):=by
  have HIC:=aa.mk (fun (W:World) (hb:Below w.heap.size w W)=>iA W gm T M k 2 p A c R (h.below hb) (Kd.bY hP hb) hc hl hk0 (by omega) (by decide))
  have hlt:=ay h.me
  clear h hP hc hl
  go_enter Try.func103,Try.ntmps103
  go_wp2_with (go_at_call 153;refine (HIC.out _ (ai (Below.refl _ _) _)).mono ?_;rintro e X ⟨rfl,hM,hK⟩;have HM:=aa.mk (And.intro hM hK);clear hM hK)
  go_end0
  exact ⟨rfl,HM.out.1,((Kp.refl _ w).below (ai (Below.refl _ _) _)).trans HM.out.2⟩
theorem yj (w:World) (gm T:Nat) (M:bg) (cc i1 i2 k:Int) (p:List Int) (A:Option Addr) (c:Nat) (R:List Value) (h:PM w gm T M (.slice A p.length c) 0 R) (hP:Kd.C (Kd.int .u8) w A p.length p) (hc:p.length≤c) (hl:p.length<2 ^ 62) (hk0:0≤k) (hk1:k<4294967296) (hx0:0≤M.x) (hx1:M.x<4294967296) :
    Calls Try.prog 106 #[.pointer (some ⟨gm,0,none⟩),.agg #[.int .u16 cc,.int .u8 i1,.int .u8 i2,.int .u32 k]] w (SP w gm T (ldA M (rdG p (M.x+k) 2)) (.slice A p.length c) (okF (rdG p (M.x+k) 2).2) R):=by
  have HIC:=aa.mk (fun (W:World) (hW:PM W gm T M (.slice A p.length c) 0 R) (hb:Below w.heap.size w W)=>(show Calls Try.prog 153 #[.pointer (some ⟨gm,0,none⟩),.int .u64 (IntKind.u64.wrap (IntKind.u64.wrap M.x+IntKind.u64.wrap k)),.int .i64 2] W (SP W gm T (ldA M (rdG p (M.x+k) 2)) (.slice A p.length c) (okF (rdG p (M.x+k) 2).2) R) by
    rw [show IntKind.u64.wrap (IntKind.u64.wrap M.x+IntKind.u64.wrap k)=M.x+k by simp only [IntKind.wrap_u64];omega]
    exact iA W gm T M (M.x+k) 2 p A c R hW (Kd.bY hP hb) hc hl (by omega) (by omega) (by decide)))
  have H:=aa.mk h
  have hlt:=ay h.me
  clear h hP hc hl
  go_enter Try.func106,Try.ntmps106
  go_upto_region 1 with (fail)
  refine forget (fun X=>∃ gi,gi=w.heap.size∧Below w.heap.size w X∧BX X gi gm T cc i1 i2 k (cB M (.slice A p.length c) 0 R)) ⟨_,rfl,ai (Below.refl _ _) _,heap_alloc_new _ _,(H.out.below (ai (Below.refl _ _) _)).me⟩ ?_
  rintro Y ⟨gi,egi,hb,hx⟩
  rw [←egi]
  have HX:=aa.mk hx
  have HB:=aa.mk hb
  clear egi hb hx
  refine jK (n:=12) (S:=fun w'=>w'.cell? ⟨gi,0,none⟩=some (.int .u16 cc)∧w'.cell? ⟨gi,1,none⟩=some (.int .u8 i1)∧w'.cell? ⟨gi,2,none⟩=some (.int .u8 i2)∧w'.cell? ⟨gi,3,none⟩=some (.int .u32 k)∧w'.cell? ⟨gm,1,none⟩=some (.int .u32 M.x)) (ds:=[11]) #[false,false,false,false,false,false,false,false,false,false,false,false] (by kernel_rfl) rfl rfl ⟨(HX.out.below (by repeat (first | (with_reducible exact Below.refl _ _) | apply aj | apply af))).k0,(HX.out.below (by repeat (first | (with_reducible exact Below.refl _ _) | apply aj | apply af))).k1,(HX.out.below (by repeat (first | (with_reducible exact Below.refl _ _) | apply aj | apply af))).k2,(HX.out.below (by repeat (first | (with_reducible exact Below.refl _ _) | apply aj | apply af))).k3,((ae (HX.out.below (by repeat (first | (with_reducible exact Below.refl _ _) | apply aj | apply af))).cm 1).trans rfl)⟩ (fun hHeld=>?_)
  refine bG (i:=0) (N:=some 4) (v:=?_) (a':=?_) #[true,false,false,false,false,false,false,false,false,false,false,false] rfl rfl (by kernel_rfl) (fun _ _ _ h=>h) (Or.inl ⟨by rfl,?_⟩) ?_ ?_
  rotate_left
  · intro w'
    go_simp
    with_reducible rfl
  rotate_left
  · simp only [Act.put,List.setIfInBounds_toArray,List.set_cons_zero,List.set_cons_succ,aQ,aN]
    rfl
  refine bG (i:=1) (N:=some 5) (v:=?_) (a':=?_) #[true,true,false,false,false,false,false,false,false,false,false,false] rfl rfl (by kernel_rfl) (fun _ _ _ h=>h) (Or.inl ⟨by rfl,?_⟩) ?_ ?_
  rotate_left
  · intro w'
    go_simp
    with_reducible rfl
  rotate_left
  · simp only [Act.put,List.setIfInBounds_toArray,List.set_cons_zero,List.set_cons_succ,aQ,aN]
    rfl
  refine bG (i:=2) (N:=some 6) (v:=?_) (a':=?_) #[true,true,true,false,false,false,false,false,false,false,false,false] rfl rfl (by kernel_rfl) (fun _ _ _ h=>h) (Or.inl ⟨by rfl,?_⟩) ?_ ?_
  rotate_left
  · intro w'
    go_simp
    with_reducible rfl
  rotate_left
  · simp only [Act.put,List.setIfInBounds_toArray,List.set_cons_zero,List.set_cons_succ,aQ,aN]
    rfl
  refine bG (i:=3) (N:=some 7) (v:=?_) (a':=?_) #[true,true,true,true,false,false,false,false,false,false,false,false] rfl rfl (by kernel_rfl) (fun _ _ _ h=>h) (Or.inl ⟨by rfl,?_⟩) ?_ ?_
  rotate_left
  · intro w'
    go_simp
    with_reducible rfl
  rotate_left
  · simp only [Act.put,List.setIfInBounds_toArray,List.set_cons_zero,List.set_cons_succ,aQ,aN]
    rfl
  refine bG (i:=4) (N:=some 8) (v:=?_) (a':=?_) #[true,true,true,true,true,false,false,false,false,false,false,false] rfl rfl (by kernel_rfl) (fun _ _ _ h=>h) (Or.inl ⟨by rfl,?_⟩) ?_ ?_
  rotate_left
  · intro w'
    go_simp
    with_reducible rfl
  rotate_left
  · simp only [Act.put,List.setIfInBounds_toArray,List.set_cons_zero,List.set_cons_succ,aQ,aN]
    rfl
  refine bG (i:=7) (N:=some 11) (v:=?_) (a':=?_) #[true,true,true,true,true,false,false,true,false,false,false,false] rfl rfl (by kernel_rfl) (fun _ _ _ h=>h) (Or.inl ⟨by rfl,?_⟩) ?_ ?_
  rotate_left
  · intro w'
    go_simp
    with_reducible rfl
  rotate_left
  · simp only [Act.put,List.setIfInBounds_toArray,List.set_cons_zero,List.set_cons_succ,aQ,aN]
    rfl
  refine fI (i:=5) (N:=some 9) (v:=?_) (a':=?_) #[true,true,true,true,true,true,false,true,false,false,false,false] rfl rfl (by kernel_rfl) (fun _ _ _ h=>h) (Or.inl ⟨by rfl,?_⟩) hHeld ?_ ?_
  rotate_left
  · rintro w' ⟨s0,s1,s2,s3,s4⟩
    go_simp
    with_reducible rfl
  rotate_left
  · simp only [Act.put,List.setIfInBounds_toArray,List.set_cons_zero,List.set_cons_succ,aQ,aN]
    rfl
  refine bG (i:=6) (N:=some 10) (v:=?_) (a':=?_) #[true,true,true,true,true,true,true,true,false,false,false,false] rfl rfl (by kernel_rfl) (fun _ _ _ h=>h) (Or.inl ⟨by rfl,?_⟩) ?_ ?_
  rotate_left
  · intro w'
    go_simp
    with_reducible rfl
  rotate_left
  · simp only [Act.put,List.setIfInBounds_toArray,List.set_cons_zero,List.set_cons_succ,aQ,aN]
    rfl
  refine fI (i:=8) (N:=some 12) (v:=?_) (a':=?_) #[true,true,true,true,true,true,true,true,true,false,false,false] rfl rfl (by kernel_rfl) (fun _ _ _ h=>h) (Or.inl ⟨by rfl,?_⟩) hHeld ?_ ?_
  rotate_left
  · rintro w' ⟨s0,s1,s2,s3,s4⟩
    go_simp
    with_reducible rfl
  rotate_left
  · simp only [Act.put,List.setIfInBounds_toArray,List.set_cons_zero,List.set_cons_succ,aQ,aN]
    rfl
  refine bG (i:=9) (N:=some 13) (v:=?_) (a':=?_) #[true,true,true,true,true,true,true,true,true,true,false,false] rfl rfl (by kernel_rfl) (fun _ _ _ h=>h) (Or.inl ⟨by rfl,?_⟩) ?_ ?_
  rotate_left
  · intro w'
    go_simp
    with_reducible rfl
  rotate_left
  · simp only [Act.put,List.setIfInBounds_toArray,List.set_cons_zero,List.set_cons_succ,aQ,aN]
    rfl
  refine bG (i:=10) (N:=some 14) (v:=?_) (a':=?_) #[true,true,true,true,true,true,true,true,true,true,true,false] rfl rfl (by kernel_rfl) (fun _ _ _ h=>h) (Or.inl ⟨by rfl,?_⟩) ?_ ?_
  rotate_left
  · intro w'
    go_simp
    with_reducible rfl
  rotate_left
  · simp only [Act.put,List.setIfInBounds_toArray,List.set_cons_zero,List.set_cons_succ,aQ,aN]
    rfl
  refine oq (i:=11) (N:=some 15) #[true,true,true,true,true,true,true,true,true,true,true,true] rfl rfl (by kernel_rfl) (by decide) (fun K hK=>?_)
  refine kY Try.func153 (by kernel_rfl) rfl #[.pointer (some ⟨gm,0,none⟩),.int .u64 (IntKind.u64.wrap (IntKind.u64.wrap M.x+IntKind.u64.wrap k)),.int .i64 2] (by rfl) rfl rfl (by simp only [List.map_toArray,List.map_cons,List.map_nil];rfl) ?_
  with_reducible refine (HIC.out _ ⟨(HX.out.below (by repeat (first | (with_reducible exact Below.refl _ _) | apply aj | apply af))).cm,H.out.len⟩ (au HB.out (by repeat (first | (with_reducible exact Below.refl _ _) | apply aj | apply af)))).mono ?_
  rintro e w3 ⟨rfl,hM,hK⟩
  refine ⟨_,rfl,?_⟩
  have HM:=aa.mk (And.intro hM hK)
  clear hM hK
  refine hK.out _ _ ?_
  clear hK K
  refine kI (a':=?_) ?_ ?_
  rotate_left
  · show Act.put _ (some 15) _=_
    simp only [Act.put,List.setIfInBounds_toArray,List.set_cons_zero,List.set_cons_succ,aQ,aN]
    rfl
  refine fO (by kernel_rfl) ?_
  go_wp2
  go_end0
  exact ⟨rfl,HM.out.1,((Kp.refl _ w).below (au HB.out (af (Below.refl _ _)))).trans HM.out.2⟩
theorem yc (w:World) (gm T:Nat) (M:bg) (cc i1 i2 k:Int) (p:List Int) (A:Option Addr) (c:Nat) (R:List Value) (h:PM w gm T M (.slice A p.length c) 0 R) (hP:Kd.C (Kd.int .u8) w A p.length p) (hc:p.length≤c) (hl:p.length<2 ^ 62) (hk0:0≤k) (hk1:k<4294967296) :
    Calls Try.prog 104 #[.pointer (some ⟨gm,0,none⟩),.agg #[.int .u16 cc,.int .u8 i1,.int .u8 i2,.int .u32 k]] w (SP w gm T (ldA M (rdG p k 1)) (.slice A p.length c) (okF (rdG p k 1).2) R):=by
  have HIC:=aa.mk (fun (W:World) (hb:Below w.heap.size w W)=>iA W gm T M k 1 p A c R (h.below hb) (Kd.bY hP hb) hc hl hk0 (by omega) (by decide))
  have hlt:=ay h.me
  clear h hP hc hl
  go_enter Try.func104,Try.ntmps104
  go_wp2_with (go_at_call 153;refine (HIC.out _ (ai (Below.refl _ _) _)).mono ?_;rintro e X ⟨rfl,hM,hK⟩;have HM:=aa.mk (And.intro hM hK);clear hM hK)
  go_end0
  exact ⟨rfl,HM.out.1,((Kp.refl _ w).below (ai (Below.refl _ _) _)).trans HM.out.2⟩
theorem yh (w:World) (gm T:Nat) (M:bg) (cc i1 i2 k:Int) (p:List Int) (A:Option Addr) (c:Nat) (R:List Value) (h:PM w gm T M (.slice A p.length c) 0 R) (hP:Kd.C (Kd.int .u8) w A p.length p) (hc:p.length≤c) (hl:p.length<2 ^ 62) (hk0:0≤k) (hk1:k<4294967296) (hx0:0≤M.x) (hx1:M.x<4294967296) :
    Calls Try.prog 107 #[.pointer (some ⟨gm,0,none⟩),.agg #[.int .u16 cc,.int .u8 i1,.int .u8 i2,.int .u32 k]] w (SP w gm T (ldA M (rdG p (M.x+k) 1)) (.slice A p.length c) (okF (rdG p (M.x+k) 1).2) R):=by
  have HIC:=aa.mk (fun (W:World) (hW:PM W gm T M (.slice A p.length c) 0 R) (hb:Below w.heap.size w W)=>(show Calls Try.prog 153 #[.pointer (some ⟨gm,0,none⟩),.int .u64 (IntKind.u64.wrap (IntKind.u64.wrap M.x+IntKind.u64.wrap k)),.int .i64 1] W (SP W gm T (ldA M (rdG p (M.x+k) 1)) (.slice A p.length c) (okF (rdG p (M.x+k) 1).2) R) by
    rw [show IntKind.u64.wrap (IntKind.u64.wrap M.x+IntKind.u64.wrap k)=M.x+k by simp only [IntKind.wrap_u64];omega]
    exact iA W gm T M (M.x+k) 1 p A c R hW (Kd.bY hP hb) hc hl (by omega) (by omega) (by decide)))
  have H:=aa.mk h
  have hlt:=ay h.me
  clear h hP hc hl
  go_enter Try.func107,Try.ntmps107
  go_upto_region 1 with (fail)
  refine forget (fun X=>∃ gi,gi=w.heap.size∧Below w.heap.size w X∧BX X gi gm T cc i1 i2 k (cB M (.slice A p.length c) 0 R)) ⟨_,rfl,ai (Below.refl _ _) _,heap_alloc_new _ _,(H.out.below (ai (Below.refl _ _) _)).me⟩ ?_
  rintro Y ⟨gi,egi,hb,hx⟩
  rw [←egi]
  have HX:=aa.mk hx
  have HB:=aa.mk hb
  clear egi hb hx
  refine jK (n:=12) (S:=fun w'=>w'.cell? ⟨gi,0,none⟩=some (.int .u16 cc)∧w'.cell? ⟨gi,1,none⟩=some (.int .u8 i1)∧w'.cell? ⟨gi,2,none⟩=some (.int .u8 i2)∧w'.cell? ⟨gi,3,none⟩=some (.int .u32 k)∧w'.cell? ⟨gm,1,none⟩=some (.int .u32 M.x)) (ds:=[11]) #[false,false,false,false,false,false,false,false,false,false,false,false] (by kernel_rfl) rfl rfl ⟨(HX.out.below (by repeat (first | (with_reducible exact Below.refl _ _) | apply aj | apply af))).k0,(HX.out.below (by repeat (first | (with_reducible exact Below.refl _ _) | apply aj | apply af))).k1,(HX.out.below (by repeat (first | (with_reducible exact Below.refl _ _) | apply aj | apply af))).k2,(HX.out.below (by repeat (first | (with_reducible exact Below.refl _ _) | apply aj | apply af))).k3,((ae (HX.out.below (by repeat (first | (with_reducible exact Below.refl _ _) | apply aj | apply af))).cm 1).trans rfl)⟩ (fun hHeld=>?_)
  refine bG (i:=0) (N:=some 4) (v:=?_) (a':=?_) #[true,false,false,false,false,false,false,false,false,false,false,false] rfl rfl (by kernel_rfl) (fun _ _ _ h=>h) (Or.inl ⟨by rfl,?_⟩) ?_ ?_
  rotate_left
  · intro w'
    go_simp
    with_reducible rfl
  rotate_left
  · simp only [Act.put,List.setIfInBounds_toArray,List.set_cons_zero,List.set_cons_succ,aQ,aN]
    rfl
  refine bG (i:=1) (N:=some 5) (v:=?_) (a':=?_) #[true,true,false,false,false,false,false,false,false,false,false,false] rfl rfl (by kernel_rfl) (fun _ _ _ h=>h) (Or.inl ⟨by rfl,?_⟩) ?_ ?_
  rotate_left
  · intro w'
    go_simp
    with_reducible rfl
  rotate_left
  · simp only [Act.put,List.setIfInBounds_toArray,List.set_cons_zero,List.set_cons_succ,aQ,aN]
    rfl
  refine bG (i:=2) (N:=some 6) (v:=?_) (a':=?_) #[true,true,true,false,false,false,false,false,false,false,false,false] rfl rfl (by kernel_rfl) (fun _ _ _ h=>h) (Or.inl ⟨by rfl,?_⟩) ?_ ?_
  rotate_left
  · intro w'
    go_simp
    with_reducible rfl
  rotate_left
  · simp only [Act.put,List.setIfInBounds_toArray,List.set_cons_zero,List.set_cons_succ,aQ,aN]
    rfl
  refine bG (i:=3) (N:=some 7) (v:=?_) (a':=?_) #[true,true,true,true,false,false,false,false,false,false,false,false] rfl rfl (by kernel_rfl) (fun _ _ _ h=>h) (Or.inl ⟨by rfl,?_⟩) ?_ ?_
  rotate_left
  · intro w'
    go_simp
    with_reducible rfl
  rotate_left
  · simp only [Act.put,List.setIfInBounds_toArray,List.set_cons_zero,List.set_cons_succ,aQ,aN]
    rfl
  refine bG (i:=4) (N:=some 8) (v:=?_) (a':=?_) #[true,true,true,true,true,false,false,false,false,false,false,false] rfl rfl (by kernel_rfl) (fun _ _ _ h=>h) (Or.inl ⟨by rfl,?_⟩) ?_ ?_
  rotate_left
  · intro w'
    go_simp
    with_reducible rfl
  rotate_left
  · simp only [Act.put,List.setIfInBounds_toArray,List.set_cons_zero,List.set_cons_succ,aQ,aN]
    rfl
  refine bG (i:=7) (N:=some 11) (v:=?_) (a':=?_) #[true,true,true,true,true,false,false,true,false,false,false,false] rfl rfl (by kernel_rfl) (fun _ _ _ h=>h) (Or.inl ⟨by rfl,?_⟩) ?_ ?_
  rotate_left
  · intro w'
    go_simp
    with_reducible rfl
  rotate_left
  · simp only [Act.put,List.setIfInBounds_toArray,List.set_cons_zero,List.set_cons_succ,aQ,aN]
    rfl
  refine fI (i:=5) (N:=some 9) (v:=?_) (a':=?_) #[true,true,true,true,true,true,false,true,false,false,false,false] rfl rfl (by kernel_rfl) (fun _ _ _ h=>h) (Or.inl ⟨by rfl,?_⟩) hHeld ?_ ?_
  rotate_left
  · rintro w' ⟨s0,s1,s2,s3,s4⟩
    go_simp
    with_reducible rfl
  rotate_left
  · simp only [Act.put,List.setIfInBounds_toArray,List.set_cons_zero,List.set_cons_succ,aQ,aN]
    rfl
  refine bG (i:=6) (N:=some 10) (v:=?_) (a':=?_) #[true,true,true,true,true,true,true,true,false,false,false,false] rfl rfl (by kernel_rfl) (fun _ _ _ h=>h) (Or.inl ⟨by rfl,?_⟩) ?_ ?_
  rotate_left
  · intro w'
    go_simp
    with_reducible rfl
  rotate_left
  · simp only [Act.put,List.setIfInBounds_toArray,List.set_cons_zero,List.set_cons_succ,aQ,aN]
    rfl
  refine fI (i:=8) (N:=some 12) (v:=?_) (a':=?_) #[true,true,true,true,true,true,true,true,true,false,false,false] rfl rfl (by kernel_rfl) (fun _ _ _ h=>h) (Or.inl ⟨by rfl,?_⟩) hHeld ?_ ?_
  rotate_left
  · rintro w' ⟨s0,s1,s2,s3,s4⟩
    go_simp
    with_reducible rfl
  rotate_left
  · simp only [Act.put,List.setIfInBounds_toArray,List.set_cons_zero,List.set_cons_succ,aQ,aN]
    rfl
  refine bG (i:=9) (N:=some 13) (v:=?_) (a':=?_) #[true,true,true,true,true,true,true,true,true,true,false,false] rfl rfl (by kernel_rfl) (fun _ _ _ h=>h) (Or.inl ⟨by rfl,?_⟩) ?_ ?_
  rotate_left
  · intro w'
    go_simp
    with_reducible rfl
  rotate_left
  · simp only [Act.put,List.setIfInBounds_toArray,List.set_cons_zero,List.set_cons_succ,aQ,aN]
    rfl
  refine bG (i:=10) (N:=some 14) (v:=?_) (a':=?_) #[true,true,true,true,true,true,true,true,true,true,true,false] rfl rfl (by kernel_rfl) (fun _ _ _ h=>h) (Or.inl ⟨by rfl,?_⟩) ?_ ?_
  rotate_left
  · intro w'
    go_simp
    with_reducible rfl
  rotate_left
  · simp only [Act.put,List.setIfInBounds_toArray,List.set_cons_zero,List.set_cons_succ,aQ,aN]
    rfl
  refine oq (i:=11) (N:=some 15) #[true,true,true,true,true,true,true,true,true,true,true,true] rfl rfl (by kernel_rfl) (by decide) (fun K hK=>?_)
  refine kY Try.func153 (by kernel_rfl) rfl #[.pointer (some ⟨gm,0,none⟩),.int .u64 (IntKind.u64.wrap (IntKind.u64.wrap M.x+IntKind.u64.wrap k)),.int .i64 1] (by rfl) rfl rfl (by simp only [List.map_toArray,List.map_cons,List.map_nil];rfl) ?_
  with_reducible refine (HIC.out _ ⟨(HX.out.below (by repeat (first | (with_reducible exact Below.refl _ _) | apply aj | apply af))).cm,H.out.len⟩ (au HB.out (by repeat (first | (with_reducible exact Below.refl _ _) | apply aj | apply af)))).mono ?_
  rintro e w3 ⟨rfl,hM,hK⟩
  refine ⟨_,rfl,?_⟩
  have HM:=aa.mk (And.intro hM hK)
  clear hM hK
  refine hK.out _ _ ?_
  clear hK K
  refine kI (a':=?_) ?_ ?_
  rotate_left
  · show Act.put _ (some 15) _=_
    simp only [Act.put,List.setIfInBounds_toArray,List.set_cons_zero,List.set_cons_succ,aQ,aN]
    rfl
  refine fO (by kernel_rfl) ?_
  go_wp2
  go_end0
  exact ⟨rfl,HM.out.1,((Kp.refl _ w).below (au HB.out (af (Below.refl _ _)))).trans HM.out.2⟩
theorem yu (w:World) (gm T:Nat) (M:bg) (cc i1 i2 k:Int) (p:List Int) (A:Option Addr) (c:Nat) (R:List Value) (h:PM w gm T M (.slice A p.length c) 0 R) (hP:Kd.C (Kd.int .u8) w A p.length p) (hc:p.length≤c) (hl:p.length<2 ^ 62) (hk0:0≤k) (hk1:k<4294967296) :
    Calls Try.prog 113 #[.pointer (some ⟨gm,0,none⟩),.agg #[.int .u16 cc,.int .u8 i1,.int .u8 i2,.int .u32 k]] w (SP w gm T (ldX M (rdG p k 1)) (.slice A p.length c) (okF (rdG p k 1).2) R):=by
  have HLC:=aa.mk (fun (W:World) (hb:Below w.heap.size w W)=>mG W gm T M k 1 p A c R (h.below hb) (Kd.bY hP hb) hc hl hk0 (by omega) (by decide))
  have hlt:=ay h.me
  obtain ⟨⟨v,ok⟩,er⟩:∃ r,r=rdG p k 1:=⟨_,rfl⟩
  rw [←er] at HLC ⊢
  clear h hP hc hl er
  dsimp only at HLC ⊢
  cases ok
  · go_enter Try.func113,Try.ntmps113
    go_wp2_with (go_at_call 154;refine (HLC.out _ (ai (Below.refl _ _) _)).mono ?_;rintro e X ⟨rfl,hM,hK⟩;have HM:=aa.mk (And.intro hM hK);clear hM hK)
    go_end0
    exact ⟨rfl,HM.out.1,((Kp.refl _ w).below (ai (Below.refl _ _) _)).trans HM.out.2⟩
  · go_enter Try.func113,Try.ntmps113
    go_wp2_with (go_at_call 154;refine (HLC.out _ (ai (Below.refl _ _) _)).mono ?_;rintro e X ⟨rfl,hM,hK⟩;have HM:=aa.mk (And.intro hM hK);have cx:=(ae hM.me 1).trans (rO M _ _ _);have fx:=ah hM.me 1;clear hM hK)
    go_end0
    exact .set (((Kp.refl _ w).below (ai (Below.refl _ _) _)).trans HM.out.2) (HM.out.1.Aq _)
theorem g_alu (w:World) (gm T:Nat) (M:bg) (cc i1 i2 k r1:Int) (r2:Bool) (P:Value) (R:List Value) (h:PM w gm T M P 0 R) (hr:aZ.f cc M.a (if (Go.bits .and .u16 cc 8 != 0)=true then M.x else k)=some (r1,r2)) :
    Calls Try.prog 119 #[.pointer (some ⟨gm,0,none⟩),.agg #[.int .u16 cc,.int .u8 i1,.int .u8 i2,.int .u32 k]] w (SP w gm T (if r2=true then {M with a:=r1} else M) P (if r2=true then 0 else 2) R):=by
  obtain ⟨arr,earr⟩:∃ arr,arr=cB M P 0 R:=⟨_,rfl⟩
  have hm:=h.me
  rw [←earr] at hm
  have HRC:=aa.mk (fun (W:World) (hW:W.heap[gm]?=some (.cells arr T (0,0)))=>mP W gm arr T M.a M.x cc i1 i2 k hW (by rw [earr];rfl))
  obtain ⟨y,ey⟩:∃ y,y=if (Go.bits .and .u16 cc 8 != 0)=true then M.x else k:=⟨_,rfl⟩
  rw [←ey] at hr HRC
  have HR:=aa.mk hr
  have HA:=aa.mk (show arr[0]?=some (.int .u32 M.a) by rw [earr];rfl)
  have HE:=aa.mk earr
  have H:=aa.mk hm
  have HL:=aa.mk h.len
  have hlt:=ay hm
  clear h hm hr ey earr
  go_enter Try.func119,Try.ntmps119
  go_upto_region 1 with (fail)
  refine forget (fun X=>∃ gi,gi=w.heap.size∧Below w.heap.size w X∧BX X gi gm T cc i1 i2 k arr) ⟨_,rfl,ai (Below.refl _ _) _,heap_alloc_new _ _,ak H.out (ai (Below.refl _ _) _)⟩ ?_
  rintro Y ⟨gi,egi,hb,hx⟩
  rw [←egi]
  have HX:=aa.mk hx
  have HB:=aa.mk hb
  clear egi hb hx H
  refine jK (n:=18) (S:=fun w'=>w'.cell? ⟨gi,0,none⟩=some (.int .u16 cc)∧w'.cell? ⟨gi,1,none⟩=some (.int .u8 i1)∧w'.cell? ⟨gi,2,none⟩=some (.int .u8 i2)∧w'.cell? ⟨gi,3,none⟩=some (.int .u32 k)∧w'.cell? ⟨gm,0,none⟩=some (.int .u32 M.a)) (ds:=[]) #[false,false,false,false,false,false,false,false,false,false,false,false,false,false,false,false,false,false] (by kernel_rfl) rfl rfl ⟨(HX.out.below (by repeat (first | (with_reducible exact Below.refl _ _) | apply aj | apply af))).k0,(HX.out.below (by repeat (first | (with_reducible exact Below.refl _ _) | apply aj | apply af))).k1,(HX.out.below (by repeat (first | (with_reducible exact Below.refl _ _) | apply aj | apply af))).k2,(HX.out.below (by repeat (first | (with_reducible exact Below.refl _ _) | apply aj | apply af))).k3,((ae (HX.out.below (by repeat (first | (with_reducible exact Below.refl _ _) | apply aj | apply af))).cm 0).trans HA.out)⟩ (fun hHeld=>?_)
  refine bG (i:=0) (N:=some 7) (v:=?_) (a':=?_) #[true,false,false,false,false,false,false,false,false,false,false,false,false,false,false,false,false,false] rfl rfl (by kernel_rfl) (fun _ _ _ h=>h) (Or.inl ⟨by rfl,?_⟩) ?_ ?_
  rotate_left
  · intro w'
    go_simp
    with_reducible rfl
  rotate_left
  · simp only [Act.put,List.setIfInBounds_toArray,List.set_cons_zero,List.set_cons_succ,aQ,aN]
    rfl
  refine bG (i:=2) (N:=some 9) (v:=?_) (a':=?_) #[true,false,true,false,false,false,false,false,false,false,false,false,false,false,false,false,false,false] rfl rfl (by kernel_rfl) (fun _ _ _ h=>h) (Or.inl ⟨by rfl,?_⟩) ?_ ?_
  rotate_left
  · intro w'
    go_simp
    with_reducible rfl
  rotate_left
  · simp only [Act.put,List.setIfInBounds_toArray,List.set_cons_zero,List.set_cons_succ,aQ,aN]
    rfl
  refine bG (i:=3) (N:=some 10) (v:=?_) (a':=?_) #[true,false,true,true,false,false,false,false,false,false,false,false,false,false,false,false,false,false] rfl rfl (by kernel_rfl) (fun _ _ _ h=>h) (Or.inl ⟨by rfl,?_⟩) ?_ ?_
  rotate_left
  · intro w'
    go_simp
    with_reducible rfl
  rotate_left
  · simp only [Act.put,List.setIfInBounds_toArray,List.set_cons_zero,List.set_cons_succ,aQ,aN]
    rfl
  refine bG (i:=4) (N:=some 11) (v:=?_) (a':=?_) #[true,false,true,true,true,false,false,false,false,false,false,false,false,false,false,false,false,false] rfl rfl (by kernel_rfl) (fun _ _ _ h=>h) (Or.inl ⟨by rfl,?_⟩) ?_ ?_
  rotate_left
  · intro w'
    go_simp
    with_reducible rfl
  rotate_left
  · simp only [Act.put,List.setIfInBounds_toArray,List.set_cons_zero,List.set_cons_succ,aQ,aN]
    rfl
  refine bG (i:=5) (N:=some 12) (v:=?_) (a':=?_) #[true,false,true,true,true,true,false,false,false,false,false,false,false,false,false,false,false,false] rfl rfl (by kernel_rfl) (fun _ _ _ h=>h) (Or.inl ⟨by rfl,?_⟩) ?_ ?_
  rotate_left
  · intro w'
    go_simp
    with_reducible rfl
  rotate_left
  · simp only [Act.put,List.setIfInBounds_toArray,List.set_cons_zero,List.set_cons_succ,aQ,aN]
    rfl
  refine bG (i:=7) (N:=some 14) (v:=?_) (a':=?_) #[true,false,true,true,true,true,false,true,false,false,false,false,false,false,false,false,false,false] rfl rfl (by kernel_rfl) (fun _ _ _ h=>h) (Or.inl ⟨by rfl,?_⟩) ?_ ?_
  rotate_left
  · intro w'
    go_simp
    with_reducible rfl
  rotate_left
  · simp only [Act.put,List.setIfInBounds_toArray,List.set_cons_zero,List.set_cons_succ,aQ,aN]
    rfl
  refine bG (i:=8) (N:=some 15) (v:=?_) (a':=?_) #[true,false,true,true,true,true,false,true,true,false,false,false,false,false,false,false,false,false] rfl rfl (by kernel_rfl) (fun _ _ _ h=>h) (Or.inl ⟨by rfl,?_⟩) ?_ ?_
  rotate_left
  · intro w'
    go_simp
    with_reducible rfl
  rotate_left
  · simp only [Act.put,List.setIfInBounds_toArray,List.set_cons_zero,List.set_cons_succ,aQ,aN]
    rfl
  refine bG (i:=9) (N:=some 16) (v:=?_) (a':=?_) #[true,false,true,true,true,true,false,true,true,true,false,false,false,false,false,false,false,false] rfl rfl (by kernel_rfl) (fun _ _ _ h=>h) (Or.inl ⟨by rfl,?_⟩) ?_ ?_
  rotate_left
  · intro w'
    go_simp
    with_reducible rfl
  rotate_left
  · simp only [Act.put,List.setIfInBounds_toArray,List.set_cons_zero,List.set_cons_succ,aQ,aN]
    rfl
  refine fI (i:=1) (N:=some 8) (v:=?_) (a':=?_) #[true,true,true,true,true,true,false,true,true,true,false,false,false,false,false,false,false,false] rfl rfl (by kernel_rfl) (fun _ _ _ h=>h) (Or.inl ⟨by rfl,?_⟩) hHeld ?_ ?_
  rotate_left
  · rintro w' ⟨s0,s1,s2,s3,s4⟩
    go_simp
    with_reducible rfl
  rotate_left
  · simp only [Act.put,List.setIfInBounds_toArray,List.set_cons_zero,List.set_cons_succ,aQ,aN]
    rfl
  refine fI (i:=6) (N:=some 13) (v:=?_) (a':=?_) #[true,true,true,true,true,true,true,true,true,true,false,false,false,false,false,false,false,false] rfl rfl (by kernel_rfl) (fun _ _ _ h=>h) (Or.inl ⟨by rfl,?_⟩) hHeld ?_ ?_
  rotate_left
  · rintro w' ⟨s0,s1,s2,s3,s4⟩
    go_simp
    with_reducible rfl
  rotate_left
  · simp only [Act.put,List.setIfInBounds_toArray,List.set_cons_zero,List.set_cons_succ,aQ,aN]
    rfl
  refine fI (i:=10) (N:=some 17) (v:=?_) (a':=?_) #[true,true,true,true,true,true,true,true,true,true,true,false,false,false,false,false,false,false] rfl rfl (by kernel_rfl) (fun _ _ _ h=>h) (Or.inl ⟨by rfl,?_⟩) hHeld ?_ ?_
  rotate_left
  · rintro w' ⟨s0,s1,s2,s3,s4⟩
    go_simp
    with_reducible rfl
  rotate_left
  · simp only [Act.put,List.setIfInBounds_toArray,List.set_cons_zero,List.set_cons_succ,aQ,aN]
    rfl
  refine tJ (i:=11) (N:=some 18) #[true,true,true,true,true,true,true,true,true,true,true,true,false,false,false,false,false,false] rfl rfl (by kernel_rfl) (by decide) (fun K hK=>?_)
  refine kY Try.func156 (by kernel_rfl) rfl #[.pointer (some ⟨gm,0,none⟩),.agg #[.int .u16 cc,.int .u8 i1,.int .u8 i2,.int .u32 k]] (by rfl) rfl rfl (by simp only [List.map_toArray,List.map_cons,List.map_nil];rfl) ?_
  with_reducible refine (HRC.out _ (HX.out.below (by repeat (first | (with_reducible exact Below.refl _ _) | apply aj | apply af))).cm).mono ?_
  rintro e w3 ⟨rfl,hb3⟩
  refine ⟨_,rfl,?_⟩
  refine hK.out _ _ ⟨(HX.out.below (au (af (Below.refl _ _)) hb3)).k0,(HX.out.below (au (af (Below.refl _ _)) hb3)).k1,(HX.out.below (au (af (Below.refl _ _)) hb3)).k2,(HX.out.below (au (af (Below.refl _ _)) hb3)).k3,((ae (HX.out.below (au (af (Below.refl _ _)) hb3)).cm 0).trans HA.out)⟩ (fun hHeld=>?_)
  clear hK K
  refine kI (a':=?_) ?_ ?_
  rotate_left
  · show Act.put _ (some 18) _=_
    simp only [Act.put,List.setIfInBounds_toArray,List.set_cons_zero,List.set_cons_succ,aQ,aN]
    rfl
  refine tJ (i:=12) (N:=some 19) #[true,true,true,true,true,true,true,true,true,true,true,true,true,false,false,false,false,false] rfl rfl (by kernel_rfl) (by decide) (fun K hK=>?_)
  refine kY Try.func155 (by kernel_rfl) rfl #[.int .u16 cc,.int .u32 M.a,.int .u32 y] (by rfl) rfl rfl (by simp only [List.map_toArray,List.map_cons,List.map_nil];rfl) ?_
  with_reducible refine (aZ.calls _ _ _ _ _ _ HR.out).mono ?_
  rintro e w4 ⟨rfl,⟨nd4,rfl⟩⟩
  refine ⟨_,rfl,?_⟩
  refine hK.out _ _ ⟨(HX.out.below (aj (au (af (Below.refl _ _)) hb3) _)).k0,(HX.out.below (aj (au (af (Below.refl _ _)) hb3) _)).k1,(HX.out.below (aj (au (af (Below.refl _ _)) hb3) _)).k2,(HX.out.below (aj (au (af (Below.refl _ _)) hb3) _)).k3,((ae (HX.out.below (aj (au (af (Below.refl _ _)) hb3) _)).cm 0).trans HA.out)⟩ (fun hHeld=>?_)
  clear hK K
  refine kI (a':=?_) ?_ ?_
  rotate_left
  · show Act.put _ (some 19) _=_
    simp only [Act.put,List.setIfInBounds_toArray,List.set_cons_zero,List.set_cons_succ,aQ,aN]
    rfl
  refine bG (i:=13) (N:=some 6) (v:=?_) (a':=?_) #[true,true,true,true,true,true,true,true,true,true,true,true,true,true,false,false,false,false] rfl rfl (by kernel_rfl) (fun _ _ _ h=>h) (Or.inl ⟨by rfl,?_⟩) ?_ ?_
  rotate_left
  · intro w'
    go_simp
    with_reducible rfl
  rotate_left
  · simp only [Act.put,List.setIfInBounds_toArray,List.set_cons_zero,List.set_cons_succ,aQ,aN]
    rfl
  refine bG (i:=14) (N:=some 20) (v:=?_) (a':=?_) #[true,true,true,true,true,true,true,true,true,true,true,true,true,true,true,false,false,false] rfl rfl (by kernel_rfl) (fun _ _ _ h=>h) (Or.inl ⟨by rfl,?_⟩) ?_ ?_
  rotate_left
  · intro w'
    go_simp
    with_reducible rfl
  rotate_left
  · simp only [Act.put,List.setIfInBounds_toArray,List.set_cons_zero,List.set_cons_succ,aQ,aN]
    rfl
  refine bG (i:=15) (N:=some 21) (v:=?_) (a':=?_) #[true,true,true,true,true,true,true,true,true,true,true,true,true,true,true,true,false,false] rfl rfl (by kernel_rfl) (fun _ _ _ h=>h) (Or.inl ⟨by rfl,?_⟩) ?_ ?_
  rotate_left
  · intro w'
    go_simp
    with_reducible rfl
  rotate_left
  · simp only [Act.put,List.setIfInBounds_toArray,List.set_cons_zero,List.set_cons_succ,aQ,aN]
    rfl
  refine bG (i:=16) (N:=some 4) (v:=?_) (a':=?_) #[true,true,true,true,true,true,true,true,true,true,true,true,true,true,true,true,true,false] rfl rfl (by kernel_rfl) (fun _ _ _ h=>h) (Or.inl ⟨by rfl,?_⟩) ?_ ?_
  rotate_left
  · intro w'
    go_simp
    with_reducible rfl
  rotate_left
  · simp only [Act.put,List.setIfInBounds_toArray,List.set_cons_zero,List.set_cons_succ,aQ,aN]
    rfl
  refine bG (i:=17) (N:=some 5) (v:=?_) (a':=?_) #[true,true,true,true,true,true,true,true,true,true,true,true,true,true,true,true,true,true] rfl rfl (by kernel_rfl) (fun _ _ _ h=>h) (Or.inl ⟨by rfl,?_⟩) ?_ ?_
  rotate_left
  · intro w'
    go_simp
    with_reducible rfl
  rotate_left
  · simp only [Act.put,List.setIfInBounds_toArray,List.set_cons_zero,List.set_cons_succ,aQ,aN]
    rfl
  refine fO (by kernel_rfl) ?_
  go_upto_region 2 with (fail)
  refine forget (fun Z=>PM Z gm T M P 0 R∧Kp (fun k=>k=gm) w Z) ⟨⟨HE.out ▸ (HX.out.below (aj (au (af (Below.refl _ _)) hb3) nd4)).cm,HL.out⟩,(Kp.refl _ w).below (au HB.out (aj (au (af (Below.refl _ _)) hb3) nd4))⟩ ?_
  clear HX HB hb3
  rintro Z ⟨hM,hK⟩
  have ca:=(ae hM.me 0).trans (oG M _ _ _)
  have fa:=ah hM.me 0
  have cf:=(ae hM.me 19).trans (vS M _ _ _ hM.len)
  have ff:=ah hM.me 19
  have HM:=aa.mk (And.intro hM hK)
  clear hM hK HRC HR HE HL HA
  cases r2
  · go_wp2
    go_end0
    exact .set HM.out.2 (HM.out.1.setf _)
  · go_wp2
    go_end0
    exact .set HM.out.2 (HM.out.1.uh _)
end Go.Proofs.Ytdkalnkplgfgoaa.Ln
