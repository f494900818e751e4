/- Lemmas and walks for the statements of the texts ZBZ..: the declarations that they need, taken together by a program of this session. Conditions: as each says. -/
import Derived.Test.YtdkalnkplgfgoaaZBb
import Derived.Test.YtdkalnkplgfgoaaZBc
import Derived.Test.YtdkalnkplgfgoaaZBd
set_option maxHeartbeats 8000000
set_option maxRecDepth 100000
set_option linter.unusedVariables false
set_option linter.unusedSimpArgs false
namespace Go.Proofs.Ytdkalnkplgfgoaa.PA
open Go.RowKit Go.Proofs.YtdkalnkplgfgoaaW.PrintWords Go.Proofs.YtdkalnkplgfgoaaW.PrintLast Go.Proofs.YtdkalnkplgfgoaaW.PrintMore
attribute [local go_sem] dE dG ed ek dm dn dF dH
attribute [local go_sem high] eqA45
def dh.f (k:Nat) (l0:List (S47)):Option (Int):=(bW.f k l0).bind fun bt214=>(if bt214.2=0 then (some 0) else (some 155))
theorem dh.calls (k:Nat) (A0:Option Addr) (c0:Nat) (l0:List (S47)) (r:Int) (w:World) (hr0:Kd.C k47 w A0 l0.length l0) (hc0:l0.length≤c0) (h:dh.f k l0=some r) :
 Calls Try.prog 68 #[.slice A0 l0.length c0] w fun e w'=>e = .returned (.int .i64 r)∧Below w.heap.size w w':=by
 have HR0:=aa.mk hr0
 have HC0:=aa.mk hc0
 clear hr0 hc0
 have HB:=aa.mk (Below.refl w.heap.size w)
 have H:((bW.f k l0).bind fun bt214=>(if bt214.2=0 then (some 0) else (some 155)))=some r:=h
 clear h
 replace H:=Option.bind_eq_some_iff.mp H
 obtain ⟨⟨t214,t215⟩,A20,H⟩:=H
 replace H:(if t215=0 then (some 0) else (some 155))=some r:=H
 have A2:=aa.mk A20
 clear A20
 replace H:=bL H
 obtain ⟨H,-,_,_⟩ | ⟨H,c3,_,_⟩:=H
 · cases H
   go_enter Try.func68,Try.ntmps68
   go_wp2_with (go_at_call 52;(with_reducible refine (bW.calls _ _ _ _ _ _ _ ?side1 HC0.out A2.out).mono ?_);(case side1=>repeat (first | exact HR0.out | (with_reducible refine Kd.dx ?_ _) | (with_reducible refine Kd.fI ?_ _) | (with_reducible refine Kd.gD ?_)));rintro e w4 ⟨rfl,hb⟩;replace HB:=di HB hb)
   go_ret
   exact ⟨dw,bI⟩
 cases H
 go_enter Try.func68,Try.ntmps68
 go_wp2_with (go_at_call 52;(with_reducible refine (bW.calls _ _ _ _ _ _ _ ?side1 HC0.out A2.out).mono ?_);(case side1=>repeat (first | exact HR0.out | (with_reducible refine Kd.dx ?_ _) | (with_reducible refine Kd.fI ?_ _) | (with_reducible refine Kd.gD ?_)));rintro e w5 ⟨rfl,hb⟩;replace HB:=di HB hb)
 go_ret
 exact ⟨dw,bI⟩
def bN.l0:Nat→Int→Int→Int→Int→List (S47)→Int→Int→Option (Int × Int)
 | 0,_,_,_,_,_,_,_=>none
 | k+1,x1,x2,x3,x11,x19,x20,x21=>if x21<x20 then (if 0≤x21 then (if x21<(x19.length:Int) then (if ((ah x19 x21).f1)=1 then (bN.l0 k x1 x2 x3 (wrap64 ((wrap64 (x11+(((ah x19 x21).f0).length:Int)))+x1)) x19 x20 (wrap64 (x21+1))) else (if ((ah x19 x21).f1)=2 then (bN.l0 k x1 x2 x3 (wrap64 ((wrap64 (x11+(((ah x19 x21).f0).length:Int)))+x2)) x19 x20 (wrap64 (x21+1))) else (bN.l0 k x1 x2 x3 (wrap64 ((wrap64 (x11+(((ah x19 x21).f0).length:Int)))+x3)) x19 x20 (wrap64 (x21+1))))) else (none)) else (none)) else (some (x11,0))
def bN.f (k:Nat) (l0:List (S47)) (a1:Int) (a2:Int) (a3:Int):Option (Int × Int):=(dh.f k l0).bind fun t216=>(if t216=0 then (bN.l0 k a1 a2 a3 0 l0 (l0.length:Int) 0) else (some (0,t216)))
theorem bN.calls (k:Nat) (A0:Option Addr) (c0:Nat) (l0:List (S47)) (a1:Int) (a2:Int) (a3:Int) (r1:Int) (r2:Int) (w:World) (hr0:Kd.C k47 w A0 l0.length l0) (hc0:l0.length≤c0) (h:bN.f k l0 a1 a2 a3=some (r1,r2)) :
 Calls Try.prog 75 #[.slice A0 l0.length c0,.int .i64 a1,.int .i64 a2,.int .i64 a3] w fun e w'=>e = .returned (.tuple #[.int .i64 r1,.int .i64 r2])∧Below w.heap.size w w':=by
 have hu47:=Try.underlying47
 have HR0:=aa.mk hr0
 have HC0:=aa.mk hc0
 clear hr0 hc0
 have HB:=aa.mk (Below.refl w.heap.size w)
 have H:((dh.f k l0).bind fun t216=>(if t216=0 then (bN.l0 k a1 a2 a3 0 l0 (l0.length:Int) 0) else (some (0,t216))))=some (r1,r2):=h
 clear h
 replace H:=bnd H
 obtain ⟨t216,A5,H⟩:=H
 replace H:=bL H
 obtain ⟨H,-,_,_⟩ | ⟨H,c6,_,_⟩:=H
 · replace H:=aa.mk H
   go_enter Try.func75,Try.ntmps75
   go_wp2_with (go_at_call 68;(with_reducible refine (dh.calls _ _ _ _ _ _ ?side1 HC0.out A5.out).mono ?_);(case side1=>repeat (first | exact HR0.out | (with_reducible refine Kd.dx ?_ _) | (with_reducible refine Kd.fI ?_ _) | (with_reducible refine Kd.gD ?_)));rintro e w7 ⟨rfl,hb⟩;replace HB:=di HB hb)
   go_loopg [11,21] k (fun kq v11 v21 w'=>∃ (x11_1:Int) (x21_1:Int),v11 = .int .i64 x11_1∧v21 = .int .i64 x21_1∧aa (bN.l0 kq a1 a2 a3 x11_1 l0 (l0.length:Int) x21_1=some (r1,r2))∧aa (kq≤k)∧aa (Below w.heap.size w w'))
   case atStart=>exact ⟨_,_,aY,aY,H,⟨Nat.le_refl _⟩,⟨bI⟩⟩
   case round=>
    clear H
    obtain ⟨x11_1,x21_1,rfl,rfl,HA,HK1,HB⟩:=hrel
    cases gk with
    | zero=>exact absurd HA.out (by simp [bN.l0])
    | succ k1=>
     have H:=HA.out
     clear HA
     simp only [bN.l0] at H
     replace H:=gy H
     obtain ⟨H,-,_⟩ | ⟨H,-,_⟩:=H
     · replace H:=gy H
       obtain ⟨H,-,_⟩ | ⟨H,c9,-⟩:=H
       · replace H:=gy H
         obtain ⟨H,-,_⟩ | ⟨H,c10,-⟩:=H
         · iterate 2
            replace H:=bL H
            obtain ⟨H,-,_,_⟩ | ⟨H,c11,_,_⟩:=H
            · replace H:=aa.mk H
              obtain ⟨ad217,rfl⟩:=oV HR0 x21_1 (by assumption) (by assumption)
              obtain ⟨A217_0,c217_0,_,_,_,_,_,_,_,_,HR217_0,HC217_0,_,_⟩:=uP HR0 HB x21_1 (by assumption) (by assumption)
              go_wp2_with ((with_reducible refine bH (N:=13) rfl ?_);refine fF (N:=13) (cs:=#[.slice none 0 0,.int .i64 0,.int .u16 0,.int .u8 0,.int .u8 0,.int .u32 0,.int .i64 0,.int .i64 0]) (t:=47) ?_;intro gb218 hg w12 hbox hb;have GE218:=geN HB hg;have BK218:=aa.mk hbox;replace HB:=di HB hb;clear hb hbox hg;obtain ⟨_,_,_,_,_,_,_,_,_,_,_,_,_,_,_,_⟩:=cz8 BK218)
              go_roundg k1
              case measure=>have:=HK1.out;omega
              case rel=>exact ⟨_,_,aY,aY,H,⟨by have:=HK1.out;omega⟩,⟨bI⟩⟩
           replace H:=aa.mk H
           obtain ⟨ad217,rfl⟩:=oV HR0 x21_1 (by assumption) (by assumption)
           obtain ⟨A217_0,c217_0,_,_,_,_,_,_,_,_,HR217_0,HC217_0,_,_⟩:=uP HR0 HB x21_1 (by assumption) (by assumption)
           go_wp2_with ((with_reducible refine bH (N:=13) rfl ?_);refine fF (N:=13) (cs:=#[.slice none 0 0,.int .i64 0,.int .u16 0,.int .u8 0,.int .u8 0,.int .u32 0,.int .i64 0,.int .i64 0]) (t:=47) ?_;intro gb218 hg w17 hbox hb;have GE218:=geN HB hg;have BK218:=aa.mk hbox;replace HB:=di HB hb;clear hb hbox hg;obtain ⟨_,_,_,_,_,_,_,_,_,_,_,_,_,_,_,_⟩:=cz8 BK218)
           go_roundg k1
           case measure=>have:=HK1.out;omega
           case rel=>exact ⟨_,_,aY,aY,H,⟨by have:=HK1.out;omega⟩,⟨bI⟩⟩
         exact absurd H (by simp)
       exact absurd H (by simp)
     obtain ⟨rfl,rfl⟩:=so2 H
     go_wp2
     go_ret2
     exact ⟨dw,bI⟩
 obtain ⟨rfl,rfl⟩:=so2 H
 go_enter Try.func75,Try.ntmps75
 go_wp2_with (go_at_call 68;(with_reducible refine (dh.calls _ _ _ _ _ _ ?side1 HC0.out A5.out).mono ?_);(case side1=>repeat (first | exact HR0.out | (with_reducible refine Kd.dx ?_ _) | (with_reducible refine Kd.fI ?_ _) | (with_reducible refine Kd.gD ?_)));rintro e w19 ⟨rfl,hb⟩;replace HB:=di HB hb)
 go_ret2
 exact ⟨dw,bI⟩
def cO.f (k:Nat) (l0:List (S47)):Option (Int × Int):=(bN.f k l0 1 1 3).bind fun bt219=>(some (bt219.1,bt219.2))
theorem cO.calls (k:Nat) (A0:Option Addr) (c0:Nat) (l0:List (S47)) (r1:Int) (r2:Int) (w:World) (hr0:Kd.C k47 w A0 l0.length l0) (hc0:l0.length≤c0) (h:cO.f k l0=some (r1,r2)) :
 Calls Try.prog 42 #[.slice A0 l0.length c0] w fun e w'=>e = .returned (.tuple #[.int .i64 r1,.int .i64 r2])∧Below w.heap.size w w':=by
 have HR0:=aa.mk hr0
 have HC0:=aa.mk hc0
 clear hr0 hc0
 have HB:=aa.mk (Below.refl w.heap.size w)
 have H:((bN.f k l0 1 1 3).bind fun bt219=>(some (bt219.1,bt219.2)))=some (r1,r2):=h
 clear h
 replace H:=Option.bind_eq_some_iff.mp H
 obtain ⟨⟨t219,t220⟩,A20,H⟩:=H
 replace H:(some (t219,t220))=some (r1,r2):=H
 have A2:=aa.mk A20
 clear A20
 obtain ⟨rfl,rfl⟩:=so2 H
 go_enter Try.func42,Try.ntmps42
 go_wp2_with (go_at_call 75;(with_reducible refine (bN.calls _ _ _ _ _ _ _ _ _ _ ?side1 HC0.out A2.out).mono ?_);(case side1=>repeat (first | exact HR0.out | (with_reducible refine Kd.dx ?_ _) | (with_reducible refine Kd.fI ?_ _) | (with_reducible refine Kd.gD ?_)));rintro e w3 ⟨rfl,hb⟩;replace HB:=di HB hb)
 go_ret2
 exact ⟨dw,bI⟩
def aU.l0:Nat→List (S47)→List (S47)→Int→Option ((List (S47)))
 | 0,_,_,_=>none
 | k+1,x0,x3,x4=>if x4<(x0.length:Int) then (if 0≤x4 then ((bZ.f ((ah x0 x4).f0)).bind fun t269=>(if x3.length<2513169434916 then (aU.l0 k x0 (x3++[(⟨t269,(ah x0 x4).f1,(⟨(ah x0 x4).f2.f0,(ah x0 x4).f2.f1,(ah x0 x4).f2.f2,(ah x0 x4).f2.f3⟩:S45),(ah x0 x4).f3,(ah x0 x4).f4⟩:S47)]) (wrap64 (x4+1))) else (none))) else (none)) else (some x3)
def aU.f (k:Nat) (l0:List (S47)):Option ((List (S47))):=aU.l0 k l0 ([]:List (S47)) 0
theorem aU.calls (k:Nat) (A0:Option Addr) (c0:Nat) (l0:List (S47)) (r:List (S47)) (w:World) (hr0:Kd.C k47 w A0 l0.length l0) (hc0:l0.length≤c0) (h:aU.f k l0=some r) :
 Calls Try.prog 18 #[.slice A0 l0.length c0] w fun e w'=>∃ v0_:Value,e = .returned (v0_)∧Kd.S k47 47 w' w.heap.size (fun _=>True) v0_ r∧Below w.heap.size w w':=by
 have hu47:=Try.underlying47
 have HR0:=aa.mk hr0
 have HC0:=aa.mk hc0
 clear hr0 hc0
 have HB:=aa.mk (Below.refl w.heap.size w)
 have H:(aU.l0 k l0 ([]:List (S47)) 0)=some r:=h
 clear h
 replace H:=aa.mk H
 go_enter Try.func18,Try.ntmps18
 go_wp2
 go_loopg [3,4] k (fun kq v3 v4 w'=>∃ (x3_1:List (S47)) (x4_1:Int),v4 = .int .i64 x4_1∧aa (aU.l0 kq l0 x3_1 x4_1=some r)∧aa (kq≤k)∧aa (Kd.S k47 47 w' w.heap.size (fun _=>True) v3 x3_1)∧aa (Below w.heap.size w w'))
 case atStart=>exact ⟨_,_,aY,H,⟨Nat.le_refl _⟩,⟨by first | exact Kd.S_nil _ _ _ _ _ | exact Kd.N_nil _ _ _ _ _ | exact Kd.V_nil _ _ _ _ _ | exact Kd.Q_nil _ _ _ _ _ | exact Kd.jy _ _ _ _ _⟩,⟨bI⟩⟩
 case round=>
  clear H
  obtain ⟨x3_1,x4_1,rfl,HA,HK1,HO_3,HB⟩:=hrel
  cases gk with
  | zero=>exact absurd HA.out (by simp [aU.l0])
  | succ k1=>
   have H:=HA.out
   clear HA
   simp only [aU.l0] at H
   replace H:=gy H
   obtain ⟨H,-,_⟩ | ⟨H,-,_⟩:=H
   · replace H:=gy H
     obtain ⟨H,-,_⟩ | ⟨H,c3,-⟩:=H
     · replace H:=bnd H
       obtain ⟨t269,A4,H⟩:=H
       replace H:=mD H
       obtain ⟨H,c5⟩ | ⟨H,c5⟩:=H
       · have LMc5:=aa.mk c5
         clear c5
         obtain ⟨y272,hy272⟩:∃ y_:List (S47),y_=(x3_1++[(⟨t269,(ah l0 x4_1).f1,(⟨(ah l0 x4_1).f2.f0,(ah l0 x4_1).f2.f1,(ah l0 x4_1).f2.f2,(ah l0 x4_1).f2.f3⟩:S45),(ah l0 x4_1).f3,(ah l0 x4_1).f4⟩:S47)]):=⟨_,rfl⟩
         replace H:(aU.l0 k1 l0 y272 (wrap64 (x4_1+1)))=some r:=by first | (rw [hy272];with_reducible exact H) | (have H2_:=(Option.bind_some _ _).symm.trans H;rw [hy272];with_reducible exact H2_) | (have H2_:=(Option.bind_some _ _).symm.trans H;with_reducible exact H2_) | with_reducible exact H | (rw [hy272];exact H) | exact H
         have Ny272:=aa.mk hy272
         clear hy272
         replace H:=aa.mk H
         obtain ⟨ad266,rfl⟩:=oV HR0 x4_1 (by assumption) (by assumption)
         obtain ⟨A266_0,c266_0,_,_,_,_,_,_,_,_,HR266_0,HC266_0,_,_⟩:=uP HR0 HB x4_1 (by assumption) (by assumption)
         go_wp2_with (first | ((with_reducible refine bH (N:=5) rfl ?_);refine fF (N:=5) (cs:=#[.slice none 0 0,.int .i64 0,.int .u16 0,.int .u8 0,.int .u8 0,.int .u32 0,.int .i64 0,.int .i64 0]) (t:=47) ?_;intro gb267 hg w6 hbox hb;have GE267:=geN HB hg;replace HO_3:=aa.mk (Kd.lh (Kd.sU (by (with_reducible repeat (first | apply Kd.je | apply Kd.jg | apply Kd.jX));exact HO_3.out) gb267 (Nat.le_of_eq hg.symm)) hb);have BK267:=aa.mk hbox;replace HB:=di HB hb;clear hb hbox hg;obtain ⟨_,_,_,_,_,_,_,_,_,_,_,_,_,_,_,_⟩:=cz8 BK267;have p268:0≤(x4_1:Int):=of_decide_eq_true (by first | (with_reducible assumption) | assumption);have q268:x4_1<(l0.length:Int):=of_decide_eq_true (by first | (with_reducible assumption) | assumption);obtain ⟨ad268,A268_0,c268_0,e268,hx268_0,hx268_1,hx268_2,hx268_3,hx268_4,hx268_5,hx268_6,hx268_7,hl268_0,hi268_0⟩:=iJ HR0.out x4_1 p268 q268;obtain rfl:ad266=ad268:=(by injection e268);have hn268_0:ad266.block≠gb267:=Nat.ne_of_lt (Nat.lt_of_lt_of_le (by have:=World.block_lt_of_cell? _ _ hx268_0;first | rwa [add_block] at this | exact this) GE267.out);have hn268_1:=hn268_0;have hn268_2:=hn268_0;have hn268_3:=hn268_0;have hn268_4:=hn268_0;have hn268_5:=hn268_0;have hn268_6:=hn268_0;have hn268_7:=hn268_0;replace hx268_0:=(HB.out.cell (World.block_lt_of_cell? w _ hx268_0)).trans hx268_0;replace hx268_1:=(HB.out.cell (World.block_lt_of_cell? w _ hx268_1)).trans hx268_1;replace hx268_2:=(HB.out.cell (World.block_lt_of_cell? w _ hx268_2)).trans hx268_2;replace hx268_3:=(HB.out.cell (World.block_lt_of_cell? w _ hx268_3)).trans hx268_3;replace hx268_4:=(HB.out.cell (World.block_lt_of_cell? w _ hx268_4)).trans hx268_4;replace hx268_5:=(HB.out.cell (World.block_lt_of_cell? w _ hx268_5)).trans hx268_5;replace hx268_6:=(HB.out.cell (World.block_lt_of_cell? w _ hx268_6)).trans hx268_6;replace hx268_7:=(HB.out.cell (World.block_lt_of_cell? w _ hx268_7)).trans hx268_7;have HR268_0:=aa.mk hi268_0;have HC268_0:=aa.mk hl268_0;clear hi268_0 hl268_0;replace hx268_0:=(cell_far (p:=⟨gb267,0,none⟩) (ab0 hn268_0) (.slice A266_0 ((ah l0 x4_1).f0).length c266_0)).trans hx268_0;replace hx268_1:=(cell_far (p:=⟨gb267,0,none⟩) (ab0 hn268_0) (.slice A266_0 ((ah l0 x4_1).f0).length c266_0)).trans hx268_1;replace hx268_2:=(cell_far (p:=⟨gb267,0,none⟩) (ab0 hn268_0) (.slice A266_0 ((ah l0 x4_1).f0).length c266_0)).trans hx268_2;replace hx268_3:=(cell_far (p:=⟨gb267,0,none⟩) (ab0 hn268_0) (.slice A266_0 ((ah l0 x4_1).f0).length c266_0)).trans hx268_3;replace hx268_4:=(cell_far (p:=⟨gb267,0,none⟩) (ab0 hn268_0) (.slice A266_0 ((ah l0 x4_1).f0).length c266_0)).trans hx268_4;replace hx268_5:=(cell_far (p:=⟨gb267,0,none⟩) (ab0 hn268_0) (.slice A266_0 ((ah l0 x4_1).f0).length c266_0)).trans hx268_5;replace hx268_6:=(cell_far (p:=⟨gb267,0,none⟩) (ab0 hn268_0) (.slice A266_0 ((ah l0 x4_1).f0).length c266_0)).trans hx268_6;replace hx268_7:=(cell_far (p:=⟨gb267,0,none⟩) (ab0 hn268_0) (.slice A266_0 ((ah l0 x4_1).f0).length c266_0)).trans hx268_7;replace hx268_0:=(cell_far (p:=⟨gb267,1,none⟩) (ab0 hn268_1) (.int .i64 ((ah l0 x4_1).f1))).trans hx268_0;replace hx268_1:=(cell_far (p:=⟨gb267,1,none⟩) (ab0 hn268_1) (.int .i64 ((ah l0 x4_1).f1))).trans hx268_1;replace hx268_2:=(cell_far (p:=⟨gb267,1,none⟩) (ab0 hn268_1) (.int .i64 ((ah l0 x4_1).f1))).trans hx268_2;replace hx268_3:=(cell_far (p:=⟨gb267,1,none⟩) (ab0 hn268_1) (.int .i64 ((ah l0 x4_1).f1))).trans hx268_3;replace hx268_4:=(cell_far (p:=⟨gb267,1,none⟩) (ab0 hn268_1) (.int .i64 ((ah l0 x4_1).f1))).trans hx268_4;replace hx268_5:=(cell_far (p:=⟨gb267,1,none⟩) (ab0 hn268_1) (.int .i64 ((ah l0 x4_1).f1))).trans hx268_5;replace hx268_6:=(cell_far (p:=⟨gb267,1,none⟩) (ab0 hn268_1) (.int .i64 ((ah l0 x4_1).f1))).trans hx268_6;replace hx268_7:=(cell_far (p:=⟨gb267,1,none⟩) (ab0 hn268_1) (.int .i64 ((ah l0 x4_1).f1))).trans hx268_7;replace hx268_0:=(cell_far (p:=⟨gb267,2,none⟩) (ab0 hn268_2) (.int .u16 ((ah l0 x4_1).f2.f0))).trans hx268_0;replace hx268_1:=(cell_far (p:=⟨gb267,2,none⟩) (ab0 hn268_2) (.int .u16 ((ah l0 x4_1).f2.f0))).trans hx268_1;replace hx268_2:=(cell_far (p:=⟨gb267,2,none⟩) (ab0 hn268_2) (.int .u16 ((ah l0 x4_1).f2.f0))).trans hx268_2;replace hx268_3:=(cell_far (p:=⟨gb267,2,none⟩) (ab0 hn268_2) (.int .u16 ((ah l0 x4_1).f2.f0))).trans hx268_3;replace hx268_4:=(cell_far (p:=⟨gb267,2,none⟩) (ab0 hn268_2) (.int .u16 ((ah l0 x4_1).f2.f0))).trans hx268_4;replace hx268_5:=(cell_far (p:=⟨gb267,2,none⟩) (ab0 hn268_2) (.int .u16 ((ah l0 x4_1).f2.f0))).trans hx268_5;replace hx268_6:=(cell_far (p:=⟨gb267,2,none⟩) (ab0 hn268_2) (.int .u16 ((ah l0 x4_1).f2.f0))).trans hx268_6;replace hx268_7:=(cell_far (p:=⟨gb267,2,none⟩) (ab0 hn268_2) (.int .u16 ((ah l0 x4_1).f2.f0))).trans hx268_7;replace hx268_0:=(cell_far (p:=⟨gb267,3,none⟩) (ab0 hn268_3) (.int .u8 ((ah l0 x4_1).f2.f1))).trans hx268_0;replace hx268_1:=(cell_far (p:=⟨gb267,3,none⟩) (ab0 hn268_3) (.int .u8 ((ah l0 x4_1).f2.f1))).trans hx268_1;replace hx268_2:=(cell_far (p:=⟨gb267,3,none⟩) (ab0 hn268_3) (.int .u8 ((ah l0 x4_1).f2.f1))).trans hx268_2;replace hx268_3:=(cell_far (p:=⟨gb267,3,none⟩) (ab0 hn268_3) (.int .u8 ((ah l0 x4_1).f2.f1))).trans hx268_3;replace hx268_4:=(cell_far (p:=⟨gb267,3,none⟩) (ab0 hn268_3) (.int .u8 ((ah l0 x4_1).f2.f1))).trans hx268_4;replace hx268_5:=(cell_far (p:=⟨gb267,3,none⟩) (ab0 hn268_3) (.int .u8 ((ah l0 x4_1).f2.f1))).trans hx268_5;replace hx268_6:=(cell_far (p:=⟨gb267,3,none⟩) (ab0 hn268_3) (.int .u8 ((ah l0 x4_1).f2.f1))).trans hx268_6;replace hx268_7:=(cell_far (p:=⟨gb267,3,none⟩) (ab0 hn268_3) (.int .u8 ((ah l0 x4_1).f2.f1))).trans hx268_7;replace hx268_0:=(cell_far (p:=⟨gb267,4,none⟩) (ab0 hn268_4) (.int .u8 ((ah l0 x4_1).f2.f2))).trans hx268_0;replace hx268_1:=(cell_far (p:=⟨gb267,4,none⟩) (ab0 hn268_4) (.int .u8 ((ah l0 x4_1).f2.f2))).trans hx268_1;replace hx268_2:=(cell_far (p:=⟨gb267,4,none⟩) (ab0 hn268_4) (.int .u8 ((ah l0 x4_1).f2.f2))).trans hx268_2;replace hx268_3:=(cell_far (p:=⟨gb267,4,none⟩) (ab0 hn268_4) (.int .u8 ((ah l0 x4_1).f2.f2))).trans hx268_3;replace hx268_4:=(cell_far (p:=⟨gb267,4,none⟩) (ab0 hn268_4) (.int .u8 ((ah l0 x4_1).f2.f2))).trans hx268_4;replace hx268_5:=(cell_far (p:=⟨gb267,4,none⟩) (ab0 hn268_4) (.int .u8 ((ah l0 x4_1).f2.f2))).trans hx268_5;replace hx268_6:=(cell_far (p:=⟨gb267,4,none⟩) (ab0 hn268_4) (.int .u8 ((ah l0 x4_1).f2.f2))).trans hx268_6;replace hx268_7:=(cell_far (p:=⟨gb267,4,none⟩) (ab0 hn268_4) (.int .u8 ((ah l0 x4_1).f2.f2))).trans hx268_7;replace hx268_0:=(cell_far (p:=⟨gb267,5,none⟩) (ab0 hn268_5) (.int .u32 ((ah l0 x4_1).f2.f3))).trans hx268_0;replace hx268_1:=(cell_far (p:=⟨gb267,5,none⟩) (ab0 hn268_5) (.int .u32 ((ah l0 x4_1).f2.f3))).trans hx268_1;replace hx268_2:=(cell_far (p:=⟨gb267,5,none⟩) (ab0 hn268_5) (.int .u32 ((ah l0 x4_1).f2.f3))).trans hx268_2;replace hx268_3:=(cell_far (p:=⟨gb267,5,none⟩) (ab0 hn268_5) (.int .u32 ((ah l0 x4_1).f2.f3))).trans hx268_3;replace hx268_4:=(cell_far (p:=⟨gb267,5,none⟩) (ab0 hn268_5) (.int .u32 ((ah l0 x4_1).f2.f3))).trans hx268_4;replace hx268_5:=(cell_far (p:=⟨gb267,5,none⟩) (ab0 hn268_5) (.int .u32 ((ah l0 x4_1).f2.f3))).trans hx268_5;replace hx268_6:=(cell_far (p:=⟨gb267,5,none⟩) (ab0 hn268_5) (.int .u32 ((ah l0 x4_1).f2.f3))).trans hx268_6;replace hx268_7:=(cell_far (p:=⟨gb267,5,none⟩) (ab0 hn268_5) (.int .u32 ((ah l0 x4_1).f2.f3))).trans hx268_7;replace hx268_0:=(cell_far (p:=⟨gb267,6,none⟩) (ab0 hn268_6) (.int .i64 ((ah l0 x4_1).f3))).trans hx268_0;replace hx268_1:=(cell_far (p:=⟨gb267,6,none⟩) (ab0 hn268_6) (.int .i64 ((ah l0 x4_1).f3))).trans hx268_1;replace hx268_2:=(cell_far (p:=⟨gb267,6,none⟩) (ab0 hn268_6) (.int .i64 ((ah l0 x4_1).f3))).trans hx268_2;replace hx268_3:=(cell_far (p:=⟨gb267,6,none⟩) (ab0 hn268_6) (.int .i64 ((ah l0 x4_1).f3))).trans hx268_3;replace hx268_4:=(cell_far (p:=⟨gb267,6,none⟩) (ab0 hn268_6) (.int .i64 ((ah l0 x4_1).f3))).trans hx268_4;replace hx268_5:=(cell_far (p:=⟨gb267,6,none⟩) (ab0 hn268_6) (.int .i64 ((ah l0 x4_1).f3))).trans hx268_5;replace hx268_6:=(cell_far (p:=⟨gb267,6,none⟩) (ab0 hn268_6) (.int .i64 ((ah l0 x4_1).f3))).trans hx268_6;replace hx268_7:=(cell_far (p:=⟨gb267,6,none⟩) (ab0 hn268_6) (.int .i64 ((ah l0 x4_1).f3))).trans hx268_7;replace hx268_0:=(cell_far (p:=⟨gb267,7,none⟩) (ab0 hn268_7) (.int .i64 ((ah l0 x4_1).f4))).trans hx268_0;replace hx268_1:=(cell_far (p:=⟨gb267,7,none⟩) (ab0 hn268_7) (.int .i64 ((ah l0 x4_1).f4))).trans hx268_1;replace hx268_2:=(cell_far (p:=⟨gb267,7,none⟩) (ab0 hn268_7) (.int .i64 ((ah l0 x4_1).f4))).trans hx268_2;replace hx268_3:=(cell_far (p:=⟨gb267,7,none⟩) (ab0 hn268_7) (.int .i64 ((ah l0 x4_1).f4))).trans hx268_3;replace hx268_4:=(cell_far (p:=⟨gb267,7,none⟩) (ab0 hn268_7) (.int .i64 ((ah l0 x4_1).f4))).trans hx268_4;replace hx268_5:=(cell_far (p:=⟨gb267,7,none⟩) (ab0 hn268_7) (.int .i64 ((ah l0 x4_1).f4))).trans hx268_5;replace hx268_6:=(cell_far (p:=⟨gb267,7,none⟩) (ab0 hn268_7) (.int .i64 ((ah l0 x4_1).f4))).trans hx268_6;replace hx268_7:=(cell_far (p:=⟨gb267,7,none⟩) (ab0 hn268_7) (.int .i64 ((ah l0 x4_1).f4))).trans hx268_7;clear hn268_0;clear hn268_1;clear hn268_2;clear hn268_3;clear hn268_4;clear hn268_5;clear hn268_6;clear hn268_7;replace p268:=eq_true p268;replace q268:=eq_true q268) | (go_at_call 22;(with_reducible refine (bZ.calls _ _ _ _ _ ?side1 HC268_0.out A4.out).mono ?_);(case side1=>exact Kd.bJ HR268_0.out bI);rintro e w8 ⟨v270,rfl,ho0,hb⟩;have HO271:=aa.mk (Kd.gN ho0 (eu bI));replace HO_3:=aa.mk (Kd.sS (by (with_reducible repeat (first | apply Kd.je | apply Kd.jg | apply Kd.jX));exact (Kd.iR (Kd.jI (p:=⟨gb267,7,none⟩) (Kd.jI (p:=⟨gb267,6,none⟩) (Kd.jI (p:=⟨gb267,5,none⟩) (Kd.jI (p:=⟨gb267,4,none⟩) (Kd.jI (p:=⟨gb267,3,none⟩) (Kd.jI (p:=⟨gb267,2,none⟩) (Kd.jI (p:=⟨gb267,1,none⟩) (Kd.jI (p:=⟨gb267,0,none⟩) (Kd.iR HO_3.out (fun k_ hk=>(⟨hk,hk.2⟩:_∧k_≠gb267))) (fun _ hk=>hk.2) (.slice A266_0 ((ah l0 x4_1).f0).length c266_0)) (fun _ hk=>hk.2) (.int .i64 ((ah l0 x4_1).f1))) (fun _ hk=>hk.2) (.int .u16 ((ah l0 x4_1).f2.f0))) (fun _ hk=>hk.2) (.int .u8 ((ah l0 x4_1).f2.f1))) (fun _ hk=>hk.2) (.int .u8 ((ah l0 x4_1).f2.f2))) (fun _ hk=>hk.2) (.int .u32 ((ah l0 x4_1).f2.f3))) (fun _ hk=>hk.2) (.int .i64 ((ah l0 x4_1).f3))) (fun _ hk=>hk.2) (.int .i64 ((ah l0 x4_1).f4))) (fun _ h_=>h_.1))) (Kd.jV ho0) hb);replace BK267:=aa.mk (au (g:=gb267) (o := .cells #[.slice A266_0 ((ah l0 x4_1).f0).length c266_0,.int .i64 ((ah l0 x4_1).f1),.int .u16 ((ah l0 x4_1).f2.f0),.int .u8 ((ah l0 x4_1).f2.f1),.int .u8 ((ah l0 x4_1).f2.f2),.int .u32 ((ah l0 x4_1).f2.f3),.int .i64 ((ah l0 x4_1).f3),.int .i64 ((ah l0 x4_1).f4)] 47 (0,0)) (by (with_reducible repeat (first | refine aQ ?_ _ | refine aX ?_ | refine aV ?_ _));refine aJ (cs:=#[.slice A266_0 ((ah l0 x4_1).f0).length c266_0,.int .i64 ((ah l0 x4_1).f1),.int .u16 ((ah l0 x4_1).f2.f0),.int .u8 ((ah l0 x4_1).f2.f1),.int .u8 ((ah l0 x4_1).f2.f2),.int .u32 ((ah l0 x4_1).f2.f3),.int .i64 ((ah l0 x4_1).f3),.int .i64 0]) ?_ 7 _ rfl;(with_reducible repeat (first | refine aQ ?_ _ | refine aX ?_ | refine aV ?_ _));refine aJ (cs:=#[.slice A266_0 ((ah l0 x4_1).f0).length c266_0,.int .i64 ((ah l0 x4_1).f1),.int .u16 ((ah l0 x4_1).f2.f0),.int .u8 ((ah l0 x4_1).f2.f1),.int .u8 ((ah l0 x4_1).f2.f2),.int .u32 ((ah l0 x4_1).f2.f3),.int .i64 0,.int .i64 0]) ?_ 6 _ rfl;(with_reducible repeat (first | refine aQ ?_ _ | refine aX ?_ | refine aV ?_ _));refine aJ (cs:=#[.slice A266_0 ((ah l0 x4_1).f0).length c266_0,.int .i64 ((ah l0 x4_1).f1),.int .u16 ((ah l0 x4_1).f2.f0),.int .u8 ((ah l0 x4_1).f2.f1),.int .u8 ((ah l0 x4_1).f2.f2),.int .u32 0,.int .i64 0,.int .i64 0]) ?_ 5 _ rfl;(with_reducible repeat (first | refine aQ ?_ _ | refine aX ?_ | refine aV ?_ _));refine aJ (cs:=#[.slice A266_0 ((ah l0 x4_1).f0).length c266_0,.int .i64 ((ah l0 x4_1).f1),.int .u16 ((ah l0 x4_1).f2.f0),.int .u8 ((ah l0 x4_1).f2.f1),.int .u8 0,.int .u32 0,.int .i64 0,.int .i64 0]) ?_ 4 _ rfl;(with_reducible repeat (first | refine aQ ?_ _ | refine aX ?_ | refine aV ?_ _));refine aJ (cs:=#[.slice A266_0 ((ah l0 x4_1).f0).length c266_0,.int .i64 ((ah l0 x4_1).f1),.int .u16 ((ah l0 x4_1).f2.f0),.int .u8 0,.int .u8 0,.int .u32 0,.int .i64 0,.int .i64 0]) ?_ 3 _ rfl;(with_reducible repeat (first | refine aQ ?_ _ | refine aX ?_ | refine aV ?_ _));refine aJ (cs:=#[.slice A266_0 ((ah l0 x4_1).f0).length c266_0,.int .i64 ((ah l0 x4_1).f1),.int .u16 0,.int .u8 0,.int .u8 0,.int .u32 0,.int .i64 0,.int .i64 0]) ?_ 2 _ rfl;(with_reducible repeat (first | refine aQ ?_ _ | refine aX ?_ | refine aV ?_ _));refine aJ (cs:=#[.slice A266_0 ((ah l0 x4_1).f0).length c266_0,.int .i64 0,.int .u16 0,.int .u8 0,.int .u8 0,.int .u32 0,.int .i64 0,.int .i64 0]) ?_ 1 _ rfl;(with_reducible repeat (first | refine aQ ?_ _ | refine aX ?_ | refine aV ?_ _));refine aJ (cs:=#[.slice none 0 0,.int .i64 0,.int .u16 0,.int .u8 0,.int .u8 0,.int .u32 0,.int .i64 0,.int .i64 0]) ?_ 0 _ rfl;(with_reducible repeat (first | refine aQ ?_ _ | refine aX ?_ | refine aV ?_ _));exact BK267.out) hb);replace HB:=di HB hb;obtain ⟨Ao9,co9,eo9⟩:=Kd.dz HO271.out;subst eo9;obtain ⟨_,_,_,_,_,_,_,_,_,_,_,_,_,_,_,_⟩:=cz8 BK267) | ((with_reducible refine p8 (t:=26) (p:=22) rfl ?_);refine pu (t:=26) (p:=22) (v:=?vo_w11) (w1:=(w8.setCell ⟨gb267,0,none⟩ (.slice Ao9 t269.length co9))) ?hg ?ho ?hn ?hr ?_;(case ho=>rfl);(case hg=>rfl);(case hn=>rfl);(case hr=>first | (go_simp;done) | (go_simp;rfl));intro w11 hw;have n0_:aa (Kd.S k47 47 w11 w.heap.size (fun k_=>some k_≠(.slice Ao9 t269.length co9:Value).ownBlock∧k_≠gb267) u3 x3_1):=⟨(by rw [hw];exact (by (with_reducible repeat (first | apply Kd.je | apply Kd.jg | apply Kd.jX));exact Kd.iR (Kd.jI (p:=⟨gb267,0,none⟩) (Kd.iR HO_3.out (fun k_ hk=>(⟨hk,hk.1.2⟩:_∧k_≠gb267))) (fun _ hk=>hk.2) (.slice Ao9 t269.length co9)) (fun _ hk=>⟨hk.1.2,hk.1.1.2⟩)))⟩;have n1_:aa (Kd.R k45 45 w11 w.heap.size (fun _=>True) (.slice Ao9 t269.length co9) t269):=⟨(by rw [hw];exact (by (with_reducible repeat (first | apply Kd.fO | apply Kd.gM | apply Kd.gF));exact Kd.eG (Kd.R_far (p:=⟨gb267,0,none⟩) (Kd.lg HO271.out BK267.out (by decide)) (fun _ hk=>hk.2) (.slice Ao9 t269.length co9)) (fun _ hk=>trivial)))⟩;have n2_:aa (w11.heap[gb267]?=some (.cells #[.slice Ao9 t269.length co9,.int .i64 ((ah l0 x4_1).f1),.int .u16 ((ah l0 x4_1).f2.f0),.int .u8 ((ah l0 x4_1).f2.f1),.int .u8 ((ah l0 x4_1).f2.f2),.int .u32 ((ah l0 x4_1).f2.f3),.int .i64 ((ah l0 x4_1).f3),.int .i64 ((ah l0 x4_1).f4)] 47 (0,0))):=⟨(by rw [hw];exact (by (with_reducible repeat (first | refine aQ ?_ _ | refine aX ?_ | refine aV ?_ _));refine aJ (cs:=#[.slice A266_0 ((ah l0 x4_1).f0).length c266_0,.int .i64 ((ah l0 x4_1).f1),.int .u16 ((ah l0 x4_1).f2.f0),.int .u8 ((ah l0 x4_1).f2.f1),.int .u8 ((ah l0 x4_1).f2.f2),.int .u32 ((ah l0 x4_1).f2.f3),.int .i64 ((ah l0 x4_1).f3),.int .i64 ((ah l0 x4_1).f4)]) ?_ 0 _ rfl;(with_reducible repeat (first | refine aQ ?_ _ | refine aX ?_ | refine aV ?_ _));exact BK267.out))⟩;have n3_:aa (Below w.heap.size w w11):=⟨(by rw [hw];exact bI)⟩;clear hw;clear HO_3;clear HO271;clear BK267;clear HB;have HO_3:=n0_;have HO271:=n1_;have BK267:=n2_;have HB:=n3_;clear n0_ n1_ n2_ n3_;obtain ⟨_,_,_,_,_,_,_,_,_,_,_,_,_,_,_,_⟩:=cz8 BK267) | ((with_reducible refine iM (b := .append) (xs:=#[.tmp 23,.tmp 25]) rfl ?_);at_builtin;refine Kd.sQ k47 (w0:=w) w.heap.size rfl (.tmp 23) (.tmp 25) 22 47 (.agg #[(.slice none 0 0),(.int .i64 0),(.int .u16 0),(.int .u8 0),(.int .u8 0),(.int .u32 0),(.int .i64 0),(.int .i64 0)]) 56 rfl Try.underlying22 uu rfl (by decide) (by omega) u3 x3_1 (⟨t269,(ah l0 x4_1).f1,(⟨(ah l0 x4_1).f2.f0,(ah l0 x4_1).f2.f1,(ah l0 x4_1).f2.f2,(ah l0 x4_1).f2.f3⟩:S45),(ah l0 x4_1).f3,(ah l0 x4_1).f4⟩:S47) [.slice Ao9 t269.length co9,.int .i64 ((ah l0 x4_1).f1),.int .u16 ((ah l0 x4_1).f2.f0),.int .u8 ((ah l0 x4_1).f2.f1),.int .u8 ((ah l0 x4_1).f2.f2),.int .u32 ((ah l0 x4_1).f2.f3),.int .i64 ((ah l0 x4_1).f3),.int .i64 ((ah l0 x4_1).f4)] (fun k_=>k_≠gb267) (fun k_=>some k_=(.slice Ao9 t269.length co9:Value).ownBlock) rfl rfl ?aP (fun k_ hk_=>((Kd.eG (ok':=fun k_=>((fun k_=>k_≠gb267)) k_∧some k_≠(u3:Value).ownBlock) (Kd.lg (Kd.ol (HO271.out) (Kd.qO HO_3.out) (by decide)) BK267.out (by decide)) (fun k_ hk=>⟨hk.2,hk.1.2⟩))).1 k_ hk_.symm) ?aF ?aO ?aB ?aS ?aL ?_;(case aP=>exact nR _ _ _ (⟨t269,(ah l0 x4_1).f1,(⟨(ah l0 x4_1).f2.f0,(ah l0 x4_1).f2.f1,(ah l0 x4_1).f2.f2,(ah l0 x4_1).f2.f3⟩:S45),(ah l0 x4_1).f3,(ah l0 x4_1).f4⟩:S47) (Kd.eG (Kd.qM rfl (Kd.eG (ok':=fun k_=>((fun k_=>k_≠gb267)) k_∧some k_≠(u3:Value).ownBlock) (Kd.lg (Kd.ol (HO271.out) (Kd.qO HO_3.out) (by decide)) BK267.out (by decide)) (fun k_ hk=>⟨hk.2,hk.1.2⟩))) (fun _ h_=>h_)));(case aB=>exact bI);(case aF=>exact (fun k_ hk=>Kd.freshB (g:=gb267) (o := .cells #[.slice Ao9 t269.length co9,.int .i64 ((ah l0 x4_1).f1),.int .u16 ((ah l0 x4_1).f2.f0),.int .u8 ((ah l0 x4_1).f2.f1),.int .u8 ((ah l0 x4_1).f2.f2),.int .u32 ((ah l0 x4_1).f2.f3),.int .i64 ((ah l0 x4_1).f3),.int .i64 ((ah l0 x4_1).f4)] 47 (0,0)) gT k_ hk));(case aO=>exact (by (with_reducible repeat (first | apply Kd.je | apply Kd.jg | apply Kd.jX));exact Kd.iR HO_3.out (fun k_ hk=>⟨hk.2,fun e_=>hk.1 e_⟩)));(case aS=>exact (eu bI));(case aL=>have:=LMc5.out;omega);intro v273 w13 ho hb hg hat;rw [←Ny272.out] at ho;replace BK267:=aa.mk (fw (g:=gb267) (o := .cells #[.slice Ao9 t269.length co9,.int .i64 ((ah l0 x4_1).f1),.int .u16 ((ah l0 x4_1).f2.f0),.int .u8 ((ah l0 x4_1).f2.f1),.int .u8 ((ah l0 x4_1).f2.f2),.int .u32 ((ah l0 x4_1).f2.f3),.int .i64 ((ah l0 x4_1).f3),.int .i64 ((ah l0 x4_1).f4)] 47 (0,0)) gT hg (Kd.S_away HO_3.out (fun _ hk=>hk.2)));have HO274:=aa.mk (ho);replace HB:=aa.mk hb;clear HO_3 HO271;clear ho hb hg hat))
         go_roundg k1
         case measure=>have:=HK1.out;omega
         case rel=>exact ⟨_,_,aY,H,⟨by have:=HK1.out;omega⟩,⟨by (with_reducible repeat (first | apply Kd.je | apply Kd.jg | apply Kd.jX));exact Kd.iR HO274.out (fun _ hk=>trivial)⟩,⟨bI⟩⟩
       exact absurd H (by simp)
     exact absurd H (by simp)
   obtain rfl:=Option.some.inj H
   go_wp2
   go_ret
   exact ⟨_,dw,by (with_reducible repeat (first | apply Kd.je | apply Kd.jg | apply Kd.jX));exact HO_3.out,bI⟩
def bX.f (a0:Int) (a1:Int) (a2:Int):Option (Bool):=if a1≥0 then (if a2≥0 then (if a2≤a0 then (some (decide (a1≤(wrap64 (a0 - a2))))) else (some false)) else (some false)) else (some false)
theorem bX.calls (a0:Int) (a1:Int) (a2:Int) (r:Bool) (w:World) (h:bX.f a0 a1 a2=some r) :
 Calls Try.prog 162 #[.int .i64 a0,.int .i64 a1,.int .i64 a2] w fun e w'=>e = .returned (.bool r)∧bR w w':=by
 have H:(if a1≥0 then (if a2≥0 then (if a2≤a0 then (some (decide (a1≤(wrap64 (a0 - a2))))) else (some false)) else (some false)) else (some false))=some r:=h
 clear h
 replace H:=o9 H
 obtain ⟨H,-,_⟩ | ⟨H,-,_⟩:=H
 · replace H:=o9 H
   obtain ⟨H,-,_⟩ | ⟨H,-,_⟩:=H
   · replace H:=gy H
     obtain ⟨H,-,_⟩ | ⟨H,-,_⟩:=H
     · cases H
       go_enter Try.func162,Try.ntmps162
       go_wp2
       go_ret
       exact ⟨aY,bB⟩
     cases H
     go_enter Try.func162,Try.ntmps162
     go_wp2
     go_ret
     exact ⟨aY,bB⟩
   cases H
   go_enter Try.func162,Try.ntmps162
   go_wp2
   go_ret
   exact ⟨aY,bB⟩
 cases H
 go_enter Try.func162,Try.ntmps162
 go_wp2
 go_ret
 exact ⟨aY,bB⟩
mutual
def aC.j0:Nat→List Int→Int→Int→Bool→Option (Int × Bool)
 | 0,_,_,_,_=>none
 | k+1,x0,x1,x2,x27=>if x27=true then (some (0,false)) else (aC.l0 k x0 x1 x2 0 0)
def aC.l0:Nat→List Int→Int→Int→Int→Int→Option (Int × Bool)
 | 0,_,_,_,_,_=>none
 | k+1,x0,x1,x2,x8,x9=>if x9<x2 then (if 0≤(wrap64 (x1+x9)) then (if (wrap64 (x1+x9))<(x0.length:Int) then (aC.l0 k x0 x1 x2 (Go.bits .or .u32 ((x8*256) % 4294967296) ((rd x0 (wrap64 (x1+x9))) % 4294967296)) (wrap64 (x9+1))) else (none)) else (none)) else (some (x8,true))
end
def aC.f (k:Nat) (l0:List Int) (a1:Int) (a2:Int):Option (Int × Bool):=if a2=1 then ((bX.f (l0.length:Int) a1 a2).bind fun t275=>(aC.j0 k l0 a1 a2 (!t275))) else (if a2=2 then ((bX.f (l0.length:Int) a1 a2).bind fun t276=>(aC.j0 k l0 a1 a2 (!t276))) else (if a2=4 then ((bX.f (l0.length:Int) a1 a2).bind fun t277=>(aC.j0 k l0 a1 a2 (!t277))) else (aC.j0 k l0 a1 a2 true)))
theorem aC.calls (k:Nat) (A0:Option Addr) (c0:Nat) (l0:List Int) (a1:Int) (a2:Int) (r1:Int) (r2:Bool) (w:World) (hr0:Kd.C (Kd.int .u8) w A0 l0.length l0) (hc0:l0.length≤c0) (h:aC.f k l0 a1 a2=some (r1,r2)) :
 Calls Try.prog 139 #[.slice A0 l0.length c0,.int .i64 a1,.int .i64 a2] w fun e w'=>e = .returned (.tuple #[.int .u32 r1,.bool r2])∧bR w w':=by
 have HR0:=aa.mk hr0
 have HC0:=aa.mk hc0
 clear hr0 hc0
 have H:(if a2=1 then ((bX.f (l0.length:Int) a1 a2).bind fun t275=>(aC.j0 k l0 a1 a2 (!t275))) else (if a2=2 then ((bX.f (l0.length:Int) a1 a2).bind fun t276=>(aC.j0 k l0 a1 a2 (!t276))) else (if a2=4 then ((bX.f (l0.length:Int) a1 a2).bind fun t277=>(aC.j0 k l0 a1 a2 (!t277))) else (aC.j0 k l0 a1 a2 true))))=some (r1,r2):=h
 clear h
 have HC4:=aa.mk H
 clear H
 go_enter Try.func139,Try.ntmps139
 go_upto_region 1 with (fail)
 go_cut [27] (fun v27 wc=>∃ (kq:Nat) (x27_3:Bool),v27 = .bool x27_3∧aa (aC.j0 kq l0 a1 a2 x27_3=some (r1,r2))∧aa (kq≤k)∧bR w wc)
 case first=>
  have H:=HC4.out
  clear HC4
  replace H:=bL H
  obtain ⟨H,-,c5b0,_⟩ | ⟨H,c5,c5b0,_⟩:=H
  · (first | rw [c5b0] | (simp only [ax,ay];rw [c5b0]) | skip)
    replace H:=bnd H
    obtain ⟨t275,A6,H⟩:=H
    replace H:=aa.mk H
    go_wp2_with (go_at_call 162;(with_reducible refine (bX.calls _ _ _ _ _ A6.out).mono ?_);rintro e w' ⟨rfl,⟨nd,rfl⟩⟩)
    go_meet
    case rel=>exact ⟨_,(!t275),aY,H,⟨le0⟩,bB⟩
  (first | rw [c5b0] | (simp only [ax,ay];rw [c5b0]) | skip)
  iterate 2
   replace H:=bL H
   obtain ⟨H,-,_,_⟩ | ⟨H,c7,_,_⟩:=H
   · replace H:=bnd H
     obtain ⟨t276,A8,H⟩:=H
     replace H:=aa.mk H
     go_wp2_with (go_at_call 162;(with_reducible refine (bX.calls _ _ _ _ _ A8.out).mono ?_);rintro e w' ⟨rfl,⟨nd,rfl⟩⟩)
     go_meet
     case rel=>exact ⟨_,(!t276),aY,H,⟨le0⟩,bB⟩
  replace H:=aa.mk H
  go_wp2
  go_meet
  case rel=>exact ⟨_,(true),aY,H,⟨le0⟩,bB⟩
 case rest=>
  clear HC4
  obtain ⟨kq,x27_3,rfl,HA,HJ3,⟨mc3,rfl⟩⟩:=hcut
  cases kq with
  | zero=>exact absurd HA.out (by simp [aC.j0])
  | succ kj3=>
   have H:=HA.out
   clear HA
   simp only [aC.j0] at H
   by_cases c11:x27_3=true
   · subst c11
     have H1:(some (0,false))=some (r1,r2):=by rw [if_pos rfl] at H;exact H
     clear H
     have H:=H1
     clear H1
     obtain ⟨rfl,rfl⟩:=so2 H
     go_wp2
     go_ret2
     exact ⟨aY,bB⟩
   replace c11:=Bool.eq_false_iff.mpr c11
   subst c11
   have H1:(aC.l0 kj3 l0 a1 a2 0 0)=some (r1,r2):=by rw [if_neg (show ¬(false=true) by decide)] at H;exact H
   clear H
   have H:=H1
   clear H1
   replace H:=aa.mk H
   go_wp2
   go_loopg [8,9] kj3 (fun kq v8 v9 w'=>∃ (x8_2:Int) (x9_2:Int),v8 = .int .u32 x8_2∧v9 = .int .i64 x9_2∧aa (aC.l0 kq l0 a1 a2 x8_2 x9_2=some (r1,r2))∧aa (kq≤kj3)∧bR w w')
   case atStart=>exact ⟨(0),(0),aY,aY,H,⟨Nat.le_refl _⟩,bB⟩
   case round=>
    clear H
    obtain ⟨x8_2,x9_2,rfl,rfl,HA,HK2,⟨m2,rfl⟩⟩:=hrel
    cases gk with
    | zero=>exact absurd HA.out (by simp [aC.l0])
    | succ k2=>
     have H:=HA.out
     clear HA
     simp only [aC.l0] at H
     replace H:=gy H
     obtain ⟨H,-,_⟩ | ⟨H,-,_⟩:=H
     · obtain ⟨ji13,hji13⟩:∃ j_:Int,(wrap64 (a1+x9_2))=j_:=⟨_,rfl⟩
       replace H:(if 0≤(ji13) then (if (ji13)<(l0.length:Int) then (aC.l0 k2 l0 a1 a2 (Go.bits .or .u32 ((x8_2*256) % 4294967296) ((rd l0 (ji13)) % 4294967296)) (wrap64 (x9_2+1))) else (none)) else (none))=some (r1,r2):=by first | (rw [hji13] at H;exact H) | (simp only [hji13] at H ⊢;exact H)
       have hji13w:(IntKind.i64.wrap (a1+x9_2))=ji13:=(ax _).trans hji13
       replace H:=gy H
       obtain ⟨H,-,_⟩ | ⟨H,c14,-⟩:=H
       · replace H:=gy H
         obtain ⟨H,-,_⟩ | ⟨H,c15,-⟩:=H
         · replace H:=aa.mk H
           have p278:0≤((ji13):Int):=of_decide_eq_true (by first | (with_reducible assumption) | assumption)
           have q278:(ji13)<(l0.length:Int):=of_decide_eq_true (by first | (with_reducible assumption) | assumption)
           obtain ⟨ad278,e278,hx278_0⟩:=Kd.iw HR0.out (ji13) p278 q278
           cases e278
           replace p278:=eq_true p278
           replace q278:=eq_true q278
           go_wp2
           go_roundg k2
           case measure=>have:=HJ3.out;have:=HK2.out;omega
           case rel=>exact ⟨(Go.bits .or .u32 ((x8_2*256) % 4294967296) ((rd l0 (ji13)) % 4294967296)),(wrap64 (x9_2+1)),(by first | rfl | (simp;done) | (simp only [←hji13]<;>(first | rfl | simp)) | (simp [*];done)),aY,H,⟨by have:=HJ3.out;have:=HK2.out;omega⟩,bB⟩
         exact absurd H (by simp)
       exact absurd H (by simp)
     obtain ⟨rfl,rfl⟩:=so2 H
     go_wp2
     go_ret2
     exact ⟨aY,bB⟩
attribute [local go_sem] dE dG ed ek dm dn dF dH
def bM.f (k:Nat) (l0:List Int) (a1:Int) (a2:Int):Option (Int × Int):=if a1>(IntKind.u64.wrap ((l0.length:Int))) then (some (0,1)) else ((aC.f k l0 (wrap64 (a1)) a2).bind fun bt279=>(if bt279.2=true then (some (bt279.1,0)) else (some (0,1))))
theorem bM.calls (k:Nat) (A0:Option Addr) (c0:Nat) (l0:List Int) (a1:Int) (a2:Int) (r1:Int) (r2:Int) (w:World) (hr0:Kd.C (Kd.int .u8) w A0 l0.length l0) (hc0:l0.length≤c0) (h:bM.f k l0 a1 a2=some (r1,r2)) :
 Calls Try.prog 95 #[.slice A0 l0.length c0,.int .u64 a1,.int .i64 a2] w fun e w'=>e = .returned (.tuple #[.int .u32 r1,.int .i64 r2])∧bR w w':=by
 have HR0:=aa.mk hr0
 have HC0:=aa.mk hc0
 clear hr0 hc0
 have H:(if a1>(IntKind.u64.wrap ((l0.length:Int))) then (some (0,1)) else ((aC.f k l0 (wrap64 (a1)) a2).bind fun bt279=>(if bt279.2=true then (some (bt279.1,0)) else (some (0,1)))))=some (r1,r2):=h
 clear h
 replace H:=qo H
 obtain ⟨H,-,_⟩ | ⟨H,-,_⟩:=H
 · obtain ⟨rfl,rfl⟩:=so2 H
   go_enter Try.func95,Try.ntmps95
   go_wp2
   go_ret2
   exact ⟨aY,bB⟩
 replace H:=Option.bind_eq_some_iff.mp H
 obtain ⟨⟨t279,t280⟩,A50,H⟩:=H
 replace H:(if t280=true then (some (t279,0)) else (some (0,1)))=some (r1,r2):=H
 have A5:=aa.mk A50
 clear A50
 replace H:=iQ H
 obtain ⟨rfl,H⟩ | ⟨rfl,H⟩:=H
 · obtain ⟨rfl,rfl⟩:=so2 H
   go_enter Try.func95,Try.ntmps95
   go_wp2_with (go_at_call 139;(with_reducible refine (aC.calls _ _ _ _ _ _ _ _ _ ?side1 HC0.out A5.out).mono ?_);(case side1=>repeat (first | exact HR0.out | (with_reducible refine Kd.dx ?_ _) | (with_reducible refine Kd.fI ?_ _) | (with_reducible refine Kd.gD ?_)));rintro e w' ⟨rfl,⟨nd,rfl⟩⟩)
   go_ret2
   exact ⟨aY,bB⟩
 obtain ⟨rfl,rfl⟩:=so2 H
 go_enter Try.func95,Try.ntmps95
 go_wp2_with (go_at_call 139;(with_reducible refine (aC.calls _ _ _ _ _ _ _ _ _ ?side1 HC0.out A5.out).mono ?_);(case side1=>repeat (first | exact HR0.out | (with_reducible refine Kd.dx ?_ _) | (with_reducible refine Kd.fI ?_ _) | (with_reducible refine Kd.gD ?_)));rintro e w' ⟨rfl,⟨nd,rfl⟩⟩)
 go_ret2
 exact ⟨aY,bB⟩
def bD.j0:Nat→Int→Bool→Option (Int)
 | 0,_,_=>none
 | k+1,x3,x4=>if x4=true then (some 4) else (if x3=40 then (some 2) else (if x3=72 then (some 2) else (some 1)))
def bD.f (k:Nat) (a0:Int):Option (Int):=if a0=32 then (bD.j0 k a0 (a0==32)) else (bD.j0 k a0 (a0==64))
theorem bD.calls (k:Nat) (a0:Int) (r:Int) (w:World) (h:bD.f k a0=some r) :
 Calls Try.prog 96 #[.int .u16 a0] w fun e w'=>e = .returned (.int .i64 r)∧bR w w':=by
 have H:(if a0=32 then (bD.j0 k a0 (a0==32)) else (bD.j0 k a0 (a0==64)))=some r:=h
 clear h
 have HC2:=aa.mk H
 clear H
 go_enter Try.func96,Try.ntmps96
 go_upto_if 4 with (fail)
 go_cut [4] (fun v4 wc=>∃ (kq:Nat) (x4_1:Bool),v4 = .bool x4_1∧aa (bD.j0 kq a0 x4_1=some r)∧aa (kq≤k)∧bR w wc)
 case first=>
  have H:=HC2.out
  clear HC2
  replace H:=bL H
  obtain ⟨H,-,c3b0,_⟩ | ⟨H,c3,c3b0,_⟩:=H
  · (first | rw [c3b0] | (simp only [ax,ay];rw [c3b0]) | skip)
    replace H:=aa.mk H
    go_wp2
    go_meet
    case rel=>exact ⟨_,_,aY,H,⟨le0⟩,bB⟩
  (first | rw [c3b0] | (simp only [ax,ay];rw [c3b0]) | skip)
  replace H:=aa.mk H
  go_wp2
  go_meet
  case rel=>exact ⟨_,_,aY,H,⟨le0⟩,bB⟩
 case rest=>
  clear HC2
  obtain ⟨kq,x4_1,rfl,HA,HJ1,⟨mc1,rfl⟩⟩:=hcut
  cases kq with
  | zero=>exact absurd HA.out (by simp [bD.j0])
  | succ kj1=>
   have H:=HA.out
   clear HA
   simp only [bD.j0] at H
   by_cases c4:x4_1=true
   · subst c4
     have H1:(some 4)=some r:=by rw [if_pos rfl] at H;exact H
     clear H
     have H:=H1
     clear H1
     cases H
     go_wp2
     go_ret
     exact ⟨aY,bB⟩
   replace c4:=Bool.eq_false_iff.mpr c4
   subst c4
   have H1:(if a0=40 then (some 2) else (if a0=72 then (some 2) else (some 1)))=some r:=by rw [if_neg (show ¬(false=true) by decide)] at H;exact H
   clear H
   have H:=H1
   clear H1
   iterate 2
    replace H:=bL H
    obtain ⟨H,-,_,_⟩ | ⟨H,c5,_,_⟩:=H
    · cases H
      go_wp2
      go_ret
      exact ⟨aY,bB⟩
   cases H
   go_wp2
   go_ret
   exact ⟨aY,bB⟩
def bu.f (a0:Int) (a1:Int) (a2:Bool):Option (Int):=if a1>31 then (some 0) else (if a2=true then (if 0≤a1 then (some (shl .u32 a0 a1)) else (none)) else (if 0≤a1 then (some (shr .u32 a0 a1)) else (none)))
theorem bu.calls (a0:Int) (a1:Int) (a2:Bool) (r:Int) (w:World) (h:bu.f a0 a1 a2=some r) :
 Calls Try.prog 140 #[.int .u32 a0,.int .u32 a1,.bool a2] w fun e w'=>e = .returned (.int .u32 r)∧bR w w':=by
 have H:(if a1>31 then (some 0) else (if a2=true then (if 0≤a1 then (some (shl .u32 a0 a1)) else (none)) else (if 0≤a1 then (some (shr .u32 a0 a1)) else (none))))=some r:=h
 clear h
 replace H:=qo H
 obtain ⟨H,-,_⟩ | ⟨H,-,_⟩:=H
 · cases H
   go_enter Try.func140,Try.ntmps140
   go_wp2
   go_ret
   exact ⟨aY,bB⟩
 by_cases c5:a2=true
 · subst c5
   have H1:(if 0≤a1 then (some (shl .u32 a0 a1)) else (none))=some r:=by rw [if_pos rfl] at H;exact H
   clear H
   have H:=H1
   clear H1
   replace H:=mD H
   obtain ⟨H,c6⟩ | ⟨H,c6⟩:=H
   · have c6b0:=eq_true c6
     have c6b1:decide (0≤a1)=true:=decide_eq_true c6
     clear c6
     obtain ⟨ji7,hji7⟩:∃ j_:Int,(shl .u32 a0 a1)=j_:=⟨_,rfl⟩
     replace H:(some ji7)=some r:=by first | (rw [hji7] at H;exact H) | (simp only [hji7] at H ⊢;exact H)
     have hji7_:(IntKind.u32.wrap (a0*2 ^ min a1.toNat 32))=ji7:=hji7
     have hji7z:a1≤32→(IntKind.u32.wrap (a0*2 ^ a1.toNat))=ji7:=mU hji7
     cases H
     go_enter Try.func140,Try.ntmps140
     go_wp2
     go_ret
     exact ⟨by first | rfl | (simp;done) | (simp only [←hji7]<;>(first | rfl | simp)) | (simp [*];done),bB⟩
   exact absurd H (by simp)
 replace c5:=Bool.eq_false_iff.mpr c5
 subst c5
 have H1:(if 0≤a1 then (some (shr .u32 a0 a1)) else (none))=some r:=by rw [if_neg (show ¬(false=true) by decide)] at H;exact H
 clear H
 have H:=H1
 clear H1
 replace H:=mD H
 obtain ⟨H,c8⟩ | ⟨H,c8⟩:=H
 · have c8b0:=eq_true c8
   have c8b1:decide (0≤a1)=true:=decide_eq_true c8
   clear c8
   obtain ⟨ji9,hji9⟩:∃ j_:Int,(shr .u32 a0 a1)=j_:=⟨_,rfl⟩
   replace H:(some ji9)=some r:=by first | (rw [hji9] at H;exact H) | (simp only [hji9] at H ⊢;exact H)
   have hji9_:(a0 / 2 ^ min a1.toNat 32)=ji9:=hji9
   have hji9z:a1≤32→(a0 / 2 ^ a1.toNat)=ji9:=mV hji9
   cases H
   go_enter Try.func140,Try.ntmps140
   go_wp2
   go_ret
   exact ⟨by first | rfl | (simp;done) | (simp only [←hji9]<;>(first | rfl | simp)) | (simp [*];done),bB⟩
 exact absurd H (by simp)
def bG.f (a0:Int) (a1:Int) (a2:Int):Option (Int × Int):=if (Go.bits .andNot .u16 a0 8)=4 then (some ((a1+a2) % 4294967296,0)) else (if (Go.bits .andNot .u16 a0 8)=20 then (some ((a1 - a2) % 4294967296,0)) else (if (Go.bits .andNot .u16 a0 8)=36 then (some ((a1*a2) % 4294967296,0)) else (if (Go.bits .andNot .u16 a0 8)=68 then (some (Go.bits .or .u32 a1 a2,0)) else (if (Go.bits .andNot .u16 a0 8)=84 then (some (Go.bits .and .u32 a1 a2,0)) else (if (Go.bits .andNot .u16 a0 8)=164 then (some (Go.bits .xor .u32 a1 a2,0)) else (if (Go.bits .andNot .u16 a0 8)=100 then ((bu.f a1 a2 true).bind fun t281=>(some (t281,0))) else (if (Go.bits .andNot .u16 a0 8)=116 then ((bu.f a1 a2 false).bind fun t282=>(some (t282,0))) else (if a2=0 then (some (0,2)) else (if (Go.bits .andNot .u16 a0 8)=52 then (some ((Int.tdiv a1 a2) % 4294967296,0)) else (some (Int.tmod a1 a2,0)))))))))))
theorem bG.calls (a0:Int) (a1:Int) (a2:Int) (r1:Int) (r2:Int) (w:World) (h:bG.f a0 a1 a2=some (r1,r2)) :
 Calls Try.prog 97 #[.int .u16 a0,.int .u32 a1,.int .u32 a2] w fun e w'=>e = .returned (.tuple #[.int .u32 r1,.int .i64 r2])∧bR w w':=by
 have H:(if (Go.bits .andNot .u16 a0 8)=4 then (some ((a1+a2) % 4294967296,0)) else (if (Go.bits .andNot .u16 a0 8)=20 then (some ((a1 - a2) % 4294967296,0)) else (if (Go.bits .andNot .u16 a0 8)=36 then (some ((a1*a2) % 4294967296,0)) else (if (Go.bits .andNot .u16 a0 8)=68 then (some (Go.bits .or .u32 a1 a2,0)) else (if (Go.bits .andNot .u16 a0 8)=84 then (some (Go.bits .and .u32 a1 a2,0)) else (if (Go.bits .andNot .u16 a0 8)=164 then (some (Go.bits .xor .u32 a1 a2,0)) else (if (Go.bits .andNot .u16 a0 8)=100 then ((bu.f a1 a2 true).bind fun t281=>(some (t281,0))) else (if (Go.bits .andNot .u16 a0 8)=116 then ((bu.f a1 a2 false).bind fun t282=>(some (t282,0))) else (if a2=0 then (some (0,2)) else (if (Go.bits .andNot .u16 a0 8)=52 then (some ((Int.tdiv a1 a2) % 4294967296,0)) else (some (Int.tmod a1 a2,0))))))))))))=some (r1,r2):=h
 clear h
 iterate 2
  replace H:=bL H
  obtain ⟨H,-,_,_⟩ | ⟨H,c4,_,_⟩:=H
  · obtain ⟨rfl,rfl⟩:=so2 H
    go_enter Try.func97,Try.ntmps97
    go_wp2
    go_ret2
    exact ⟨aY,bB⟩
 iterate 2
  replace H:=bL H
  obtain ⟨H,-,_,_⟩ | ⟨H,c6,_,_⟩:=H
  · obtain ⟨rfl,rfl⟩:=so2 H
    go_enter Try.func97,Try.ntmps97
    go_wp2
    go_ret2
    exact ⟨aY,bB⟩
 iterate 2
  replace H:=bL H
  obtain ⟨H,-,_,_⟩ | ⟨H,c8,_,_⟩:=H
  · obtain ⟨rfl,rfl⟩:=so2 H
    go_enter Try.func97,Try.ntmps97
    go_wp2
    go_ret2
    exact ⟨aY,bB⟩
 iterate 2
  replace H:=bL H
  obtain ⟨H,-,_,_⟩ | ⟨H,c10,_,_⟩:=H
  · replace H:=bnd H
    obtain ⟨t281,A11,H⟩:=H
    obtain ⟨rfl,rfl⟩:=so2 H
    go_enter Try.func97,Try.ntmps97
    go_wp2_with (go_at_call 140;(with_reducible refine (bu.calls _ _ _ _ _ A11.out).mono ?_);rintro e w' ⟨rfl,⟨nd,rfl⟩⟩)
    go_ret2
    exact ⟨aY,bB⟩
 iterate 2
  replace H:=bL H
  obtain ⟨H,-,_,_⟩ | ⟨H,c14,_,_⟩:=H
  · obtain ⟨rfl,rfl⟩:=so2 H
    go_enter Try.func97,Try.ntmps97
    go_wp2
    go_ret2
    exact ⟨aY,bB⟩
 obtain ⟨rfl,rfl⟩:=so2 H
 go_enter Try.func97,Try.ntmps97
 go_wp2
 go_ret2
 exact ⟨aY,bB⟩
def aW.j0:Nat→Int→Int→Int→Int→Int→Int→Option (Bool)
 | 0,_,_,_,_,_,_=>none
 | k+1,x1,x7,x284000,x284001,x284002,x284003=>if (Go.bits .andNot .u16 x284000 8)=21 then (some (x1==x7)) else (if (Go.bits .andNot .u16 x284000 8)=37 then (some (decide (x1>x7))) else (if (Go.bits .andNot .u16 x284000 8)=53 then (some (decide (x1≥x7))) else (some ((Go.bits .and .u32 x1 x7) != 0))))
def aW.f (k:Nat) (a0_0:Int) (a0_1:Int) (a0_2:Int) (a0_3:Int) (a1:Int) (a2:Int):Option (Bool):=(bT.f k a0_0).bind fun t284=>(if t284=true then (aW.j0 k a1 a2 a0_0 a0_1 a0_2 a0_3) else (aW.j0 k a1 a0_3 a0_0 a0_1 a0_2 a0_3))
theorem aW.calls (k:Nat) (a0_0:Int) (a0_1:Int) (a0_2:Int) (a0_3:Int) (a1:Int) (a2:Int) (r:Bool) (w:World) (h:aW.f k a0_0 a0_1 a0_2 a0_3 a1 a2=some r) :
 Calls Try.prog 64 #[.agg #[.int .u16 a0_0,.int .u8 a0_1,.int .u8 a0_2,.int .u32 a0_3],.int .u32 a1,.int .u32 a2] w fun e w'=>e = .returned (.bool r)∧Below w.heap.size w w':=by
 have hu45:=Try.underlying45
 have HB:=aa.mk (Below.refl w.heap.size w)
 have H:((bT.f k a0_0).bind fun t284=>(if t284=true then (aW.j0 k a1 a2 a0_0 a0_1 a0_2 a0_3) else (aW.j0 k a1 a0_3 a0_0 a0_1 a0_2 a0_3)))=some r:=h
 clear h
 replace H:=bnd H
 obtain ⟨t284,A4,H⟩:=H
 have HC5:=aa.mk H
 clear H
 go_enter Try.func64,Try.ntmps64
 go_upto_if 12 with (first | ((with_reducible refine bH (N:=3) rfl ?_);refine fF (N:=3) (cs:=#[.int .u16 a0_0,.int .u8 a0_1,.int .u8 a0_2,.int .u32 a0_3]) (t:=45) ?_;intro gb283 hg w6 hbox hb;have GE283:=geN HB hg;have BK283:=aa.mk hbox;replace HB:=di HB hb;clear hb hbox hg;obtain ⟨_,_,_,_,_,_,_,_⟩:=cz4 BK283) | (go_at_call 58;(with_reducible refine (bT.calls _ _ _ _ A4.out).mono ?_);rintro e w' ⟨rfl,⟨nd,rfl⟩⟩))
 (try simp only [Act.put,List.setIfInBounds_toArray,List.set_cons_zero,List.set_cons_succ])
 go_cut [7] (fun v7 wc=>∃ (kq:Nat) (x7_4:Int),v7 = .int .u32 x7_4∧aa (aW.j0 kq a1 x7_4 a0_0 a0_1 a0_2 a0_3=some r)∧aa (kq≤k)∧aa (wc.heap[gb283]?=some (.cells #[.int .u16 a0_0,.int .u8 a0_1,.int .u8 a0_2,.int .u32 a0_3] 45 (0,0)))∧aa (Below w.heap.size w wc))
 case first=>
  have H:=HC5.out
  clear HC5
  replace H:=iQ H
  obtain ⟨rfl,H⟩ | ⟨rfl,H⟩:=H
  · replace H:=aa.mk H
    go_wp2
    go_meet
    case rel=>exact ⟨_,_,aY,H,⟨le0⟩,⟨gT⟩,⟨bI⟩⟩
  replace H:=aa.mk H
  go_wp2
  go_meet
  case rel=>exact ⟨_,_,aY,H,⟨le0⟩,⟨gT⟩,⟨bI⟩⟩
 case rest=>
  clear HC5
  obtain ⟨kq,x7_4,rfl,HA,HJ4,BK283,HB⟩:=hcut
  cases kq with
  | zero=>exact absurd HA.out (by simp [aW.j0])
  | succ kj4=>
   have H:=HA.out
   clear HA
   simp only [aW.j0] at H
   replace H:=bL H
   obtain ⟨H,-,_,_⟩ | ⟨H,c9,_,_⟩:=H
   · cases H
     obtain ⟨_,_,_,_,_,_,_,_⟩:=cz4 BK283
     go_wp2
     go_ret
     exact ⟨dw,bI⟩
   iterate 2
    replace H:=bL H
    obtain ⟨H,-,_,_⟩ | ⟨H,c11,_,_⟩:=H
    · cases H
      obtain ⟨_,_,_,_,_,_,_,_⟩:=cz4 BK283
      go_wp2
      go_ret
      exact ⟨dw,bI⟩
   cases H
   obtain ⟨_,_,_,_,_,_,_,_⟩:=cz4 BK283
   go_wp2
   go_ret
   exact ⟨dw,bI⟩
end Go.Proofs.Ytdkalnkplgfgoaa.PA
