/- Lemmas and walks for the statements of the texts ZBZ..: the declarations that they need, taken together by a program of this session. Conditions: as each says. -/
import Derived.Test.YtdkalnkplgfgoaaZBb
import Derived.Test.YtdkalnkplgfgoaaZBc
import Derived.Test.YtdkalnkplgfgoaaZBd
import Derived.Test.YtdkalnkplgfgoaaZBe
import Derived.Test.YtdkalnkplgfgoaaZBf
set_option maxHeartbeats 8000000
set_option maxRecDepth 100000
set_option linter.unusedVariables false
set_option linter.unusedSimpArgs false
namespace Go.Proofs.Ytdkalnkplgfgoaa.PA
open Go.RowKit Go.Proofs.YtdkalnkplgfgoaaW.PrintWords Go.Proofs.YtdkalnkplgfgoaaW.PrintLast Go.Proofs.YtdkalnkplgfgoaaW.PrintMore
attribute [local go_sem] dE dG ed ek dm dn dF dH
def bf.l0:Nat→List (S45)→Int→Int→Option (Int × Int)
 | 0,_,_,_=>none
 | k+1,x0,x4,x5=>if x5<x4 then (if 0≤x5 then (if x5<(x0.length:Int) then ((aD.f k ((bg x0 x5).f0) ((bg x0 x5).f1) ((bg x0 x5).f2) ((bg x0 x5).f3)).bind fun t288=>(if t288=0 then (if ((bg x0 x5).f0)=5 then (if ((bg x0 x5).f3)≥((wrap64 ((wrap64 (x4 - 1)) - x5)) % 4294967296) then (some (x5,46)) else ((aK.f ((bg x0 x5).f0)).bind fun t292=>(if t292=true then (if (wrap64 ((bg x0 x5).f1))≥(wrap64 ((wrap64 (x4 - 1)) - x5)) then (some (x5,46)) else (if (wrap64 ((bg x0 x5).f2))≥(wrap64 ((wrap64 (x4 - 1)) - x5)) then (some (x5,46)) else (bf.l0 k x0 x4 (wrap64 (x5+1))))) else (bf.l0 k x0 x4 (wrap64 (x5+1)))))) else ((aK.f ((bg x0 x5).f0)).bind fun t296=>(if t296=true then (if (wrap64 ((bg x0 x5).f1))≥(wrap64 ((wrap64 (x4 - 1)) - x5)) then (some (x5,46)) else (if (wrap64 ((bg x0 x5).f2))≥(wrap64 ((wrap64 (x4 - 1)) - x5)) then (some (x5,46)) else (bf.l0 k x0 x4 (wrap64 (x5+1))))) else (bf.l0 k x0 x4 (wrap64 (x5+1)))))) else (some (x5,t288)))) else (none)) else (none)) else (if 0≤(wrap64 (x4 - 1)) then (if (wrap64 (x4 - 1))<(x0.length:Int) then ((bY.f ((bg x0 (wrap64 (x4 - 1))).f0)).bind fun t286=>(if t286=true then (some (0,0)) else (some (wrap64 (x4 - 1),47)))) else (none)) else (none))
def bf.f (k:Nat) (l0:List (S45)):Option (Int × Int):=if (l0.length:Int)=0 then (some (0,40)) else (if (l0.length:Int)>4096 then (some (4096,41)) else (bf.l0 k l0 (l0.length:Int) 0))
theorem bf.calls (k:Nat) (A0:Option Addr) (c0:Nat) (l0:List (S45)) (r1:Int) (r2:Int) (w:World) (hr0:Kd.C k45 w A0 l0.length l0) (hc0:l0.length≤c0) (h:bf.f k l0=some (r1,r2)) :
 Calls Try.prog 21 #[.slice A0 l0.length c0] w fun e w'=>e = .returned (.tuple #[.int .i64 r1,.int .i64 r2])∧Below w.heap.size w w':=by
 have hu45:=Try.underlying45
 have HR0:=aa.mk hr0
 have HC0:=aa.mk hc0
 clear hr0 hc0
 have HB:=aa.mk (Below.refl w.heap.size w)
 have H:(if (l0.length:Int)=0 then (some (0,40)) else (if (l0.length:Int)>4096 then (some (4096,41)) else (bf.l0 k l0 (l0.length:Int) 0)))=some (r1,r2):=h
 clear h
 replace H:=bL H
 obtain ⟨H,-,_,_⟩ | ⟨H,c2,_,_⟩:=H
 · obtain ⟨rfl,rfl⟩:=so2 H
   go_enter Try.func21,Try.ntmps21
   go_wp2
   go_ret2
   exact ⟨dw,bI⟩
 have c2b2:¬(l0=[]):=fun h_=>c2 (by rw [h_];rfl)
 replace H:=qo H
 obtain ⟨H,c3,_⟩ | ⟨H,c3,_⟩:=H
 · have c3b1:decide (4096<l0.length)=true:=decide_eq_true (by omega)
   clear c3
   obtain ⟨rfl,rfl⟩:=so2 H
   go_enter Try.func21,Try.ntmps21
   go_wp2
   go_ret2
   exact ⟨dw,bI⟩
 have c3b1:decide (4096<l0.length)=false:=decide_eq_false (by omega)
 clear c3
 replace H:=aa.mk H
 go_enter Try.func21,Try.ntmps21
 go_wp2
 go_loopg [5] k (fun kq v5 w'=>∃ (x5_1:Int),v5 = .int .i64 x5_1∧aa (bf.l0 kq l0 (l0.length:Int) x5_1=some (r1,r2))∧aa (kq≤k)∧aa (Below w.heap.size w w'))
 case atStart=>exact ⟨_,aY,H,⟨Nat.le_refl _⟩,⟨bI⟩⟩
 case round=>
  clear H
  obtain ⟨x5_1,rfl,HA,HK1,HB⟩:=hrel
  cases gk with
  | zero=>exact absurd HA.out (by simp [bf.l0])
  | succ k1=>
   have H:=HA.out
   clear HA
   simp only [bf.l0] at H
   replace H:=gy H
   obtain ⟨H,-,_⟩ | ⟨H,-,_⟩:=H
   · replace H:=gy H
     obtain ⟨H,-,_⟩ | ⟨H,c5,-⟩:=H
     · replace H:=gy H
       obtain ⟨H,-,_⟩ | ⟨H,c6,-⟩:=H
       · replace H:=bnd H
         obtain ⟨t288,A7,H⟩:=H
         replace H:=bL H
         obtain ⟨H,-,_,_⟩ | ⟨H,c8,_,_⟩:=H
         · replace H:=bL H
           obtain ⟨H,-,_,_⟩ | ⟨H,c9,_,_⟩:=H
           · replace H:=o9 H
             obtain ⟨H,-,_⟩ | ⟨H,-,_⟩:=H
             · obtain ⟨rfl,rfl⟩:=so2 H
               obtain ⟨ad287,rfl,_,_,_,_,_,_⟩:=fK HR0 HB x5_1 (by assumption) (by assumption)
               go_wp2_with (go_at_call 49;(with_reducible refine (aD.calls _ _ _ _ _ _ _ A7.out).mono ?_);rintro e w11 ⟨rfl,hb⟩;replace HB:=di HB hb;obtain ⟨_,_,_,_,_,_⟩:=fD HR0 HB x5_1 (by assumption) (by assumption);obtain ⟨_,_,_,_,_,_⟩:=fD HR0 HB x5_1 (by assumption) (by assumption))
               go_ret2
               exact ⟨dw,bI⟩
             replace H:=bnd H
             obtain ⟨t292,A12,H⟩:=H
             replace H:=iQ H
             obtain ⟨rfl,H⟩ | ⟨rfl,H⟩:=H
             · replace H:=o9 H
               obtain ⟨H,-,_⟩ | ⟨H,-,_⟩:=H
               · obtain ⟨rfl,rfl⟩:=so2 H
                 obtain ⟨ad287,rfl,_,_,_,_,_,_⟩:=fK HR0 HB x5_1 (by assumption) (by assumption)
                 go_wp2_with (first | (go_at_call 49;(with_reducible refine (aD.calls _ _ _ _ _ _ _ A7.out).mono ?_);rintro e w15 ⟨rfl,hb⟩;replace HB:=di HB hb;obtain ⟨_,_,_,_,_,_⟩:=fD HR0 HB x5_1 (by assumption) (by assumption);obtain ⟨_,_,_,_,_,_⟩:=fD HR0 HB x5_1 (by assumption) (by assumption);obtain ⟨_,_,_,_,_,_⟩:=fD HR0 HB x5_1 (by assumption) (by assumption)) | (go_at_call 50;(with_reducible refine (aK.calls _ _ _ A12.out).mono ?_);rintro e w' ⟨rfl,⟨nd,rfl⟩⟩;obtain ⟨_,_,_,_,_,_⟩:=fD HR0 HB x5_1 (by assumption) (by assumption)))
                 go_ret2
                 exact ⟨dw,bI⟩
               replace H:=o9 H
               obtain ⟨H,-,_⟩ | ⟨H,-,_⟩:=H
               · obtain ⟨rfl,rfl⟩:=so2 H
                 obtain ⟨ad287,rfl,_,_,_,_,_,_⟩:=fK HR0 HB x5_1 (by assumption) (by assumption)
                 go_wp2_with (first | (go_at_call 49;(with_reducible refine (aD.calls _ _ _ _ _ _ _ A7.out).mono ?_);rintro e w17 ⟨rfl,hb⟩;replace HB:=di HB hb;obtain ⟨_,_,_,_,_,_⟩:=fD HR0 HB x5_1 (by assumption) (by assumption);obtain ⟨_,_,_,_,_,_⟩:=fD HR0 HB x5_1 (by assumption) (by assumption);obtain ⟨_,_,_,_,_,_⟩:=fD HR0 HB x5_1 (by assumption) (by assumption)) | (go_at_call 50;(with_reducible refine (aK.calls _ _ _ A12.out).mono ?_);rintro e w' ⟨rfl,⟨nd,rfl⟩⟩;obtain ⟨_,_,_,_,_,_⟩:=fD HR0 HB x5_1 (by assumption) (by assumption);obtain ⟨_,_,_,_,_,_⟩:=fD HR0 HB x5_1 (by assumption) (by assumption)))
                 go_ret2
                 exact ⟨dw,bI⟩
               replace H:=aa.mk H
               obtain ⟨ad287,rfl,_,_,_,_,_,_⟩:=fK HR0 HB x5_1 (by assumption) (by assumption)
               go_wp2_with (first | (go_at_call 49;(with_reducible refine (aD.calls _ _ _ _ _ _ _ A7.out).mono ?_);rintro e w18 ⟨rfl,hb⟩;replace HB:=di HB hb;obtain ⟨_,_,_,_,_,_⟩:=fD HR0 HB x5_1 (by assumption) (by assumption);obtain ⟨_,_,_,_,_,_⟩:=fD HR0 HB x5_1 (by assumption) (by assumption);obtain ⟨_,_,_,_,_,_⟩:=fD HR0 HB x5_1 (by assumption) (by assumption)) | (go_at_call 50;(with_reducible refine (aK.calls _ _ _ A12.out).mono ?_);rintro e w' ⟨rfl,⟨nd,rfl⟩⟩;obtain ⟨_,_,_,_,_,_⟩:=fD HR0 HB x5_1 (by assumption) (by assumption);obtain ⟨_,_,_,_,_,_⟩:=fD HR0 HB x5_1 (by assumption) (by assumption)))
               go_roundg k1
               case measure=>have:=HK1.out;omega
               case rel=>exact ⟨_,aY,H,⟨by have:=HK1.out;omega⟩,⟨bI⟩⟩
             replace H:=aa.mk H
             obtain ⟨ad287,rfl,_,_,_,_,_,_⟩:=fK HR0 HB x5_1 (by assumption) (by assumption)
             go_wp2_with (first | (go_at_call 49;(with_reducible refine (aD.calls _ _ _ _ _ _ _ A7.out).mono ?_);rintro e w19 ⟨rfl,hb⟩;replace HB:=di HB hb;obtain ⟨_,_,_,_,_,_⟩:=fD HR0 HB x5_1 (by assumption) (by assumption);obtain ⟨_,_,_,_,_,_⟩:=fD HR0 HB x5_1 (by assumption) (by assumption);obtain ⟨_,_,_,_,_,_⟩:=fD HR0 HB x5_1 (by assumption) (by assumption)) | (go_at_call 50;(with_reducible refine (aK.calls _ _ _ A12.out).mono ?_);rintro e w' ⟨rfl,⟨nd,rfl⟩⟩))
             go_roundg k1
             case measure=>have:=HK1.out;omega
             case rel=>exact ⟨_,aY,H,⟨by have:=HK1.out;omega⟩,⟨bI⟩⟩
           replace H:=bnd H
           obtain ⟨t296,A20,H⟩:=H
           replace H:=iQ H
           obtain ⟨rfl,H⟩ | ⟨rfl,H⟩:=H
           · replace H:=o9 H
             obtain ⟨H,-,_⟩ | ⟨H,-,_⟩:=H
             · obtain ⟨rfl,rfl⟩:=so2 H
               obtain ⟨ad287,rfl,_,_,_,_,_,_⟩:=fK HR0 HB x5_1 (by assumption) (by assumption)
               go_wp2_with (first | (go_at_call 49;(with_reducible refine (aD.calls _ _ _ _ _ _ _ A7.out).mono ?_);rintro e w23 ⟨rfl,hb⟩;replace HB:=di HB hb;obtain ⟨_,_,_,_,_,_⟩:=fD HR0 HB x5_1 (by assumption) (by assumption);obtain ⟨_,_,_,_,_,_⟩:=fD HR0 HB x5_1 (by assumption) (by assumption)) | (go_at_call 50;(with_reducible refine (aK.calls _ _ _ A20.out).mono ?_);rintro e w' ⟨rfl,⟨nd,rfl⟩⟩;obtain ⟨_,_,_,_,_,_⟩:=fD HR0 HB x5_1 (by assumption) (by assumption)))
               go_ret2
               exact ⟨dw,bI⟩
             replace H:=o9 H
             obtain ⟨H,-,_⟩ | ⟨H,-,_⟩:=H
             · obtain ⟨rfl,rfl⟩:=so2 H
               obtain ⟨ad287,rfl,_,_,_,_,_,_⟩:=fK HR0 HB x5_1 (by assumption) (by assumption)
               go_wp2_with (first | (go_at_call 49;(with_reducible refine (aD.calls _ _ _ _ _ _ _ A7.out).mono ?_);rintro e w25 ⟨rfl,hb⟩;replace HB:=di HB hb;obtain ⟨_,_,_,_,_,_⟩:=fD HR0 HB x5_1 (by assumption) (by assumption);obtain ⟨_,_,_,_,_,_⟩:=fD HR0 HB x5_1 (by assumption) (by assumption)) | (go_at_call 50;(with_reducible refine (aK.calls _ _ _ A20.out).mono ?_);rintro e w' ⟨rfl,⟨nd,rfl⟩⟩;obtain ⟨_,_,_,_,_,_⟩:=fD HR0 HB x5_1 (by assumption) (by assumption);obtain ⟨_,_,_,_,_,_⟩:=fD HR0 HB x5_1 (by assumption) (by assumption)))
               go_ret2
               exact ⟨dw,bI⟩
             replace H:=aa.mk H
             obtain ⟨ad287,rfl,_,_,_,_,_,_⟩:=fK HR0 HB x5_1 (by assumption) (by assumption)
             go_wp2_with (first | (go_at_call 49;(with_reducible refine (aD.calls _ _ _ _ _ _ _ A7.out).mono ?_);rintro e w26 ⟨rfl,hb⟩;replace HB:=di HB hb;obtain ⟨_,_,_,_,_,_⟩:=fD HR0 HB x5_1 (by assumption) (by assumption);obtain ⟨_,_,_,_,_,_⟩:=fD HR0 HB x5_1 (by assumption) (by assumption)) | (go_at_call 50;(with_reducible refine (aK.calls _ _ _ A20.out).mono ?_);rintro e w' ⟨rfl,⟨nd,rfl⟩⟩;obtain ⟨_,_,_,_,_,_⟩:=fD HR0 HB x5_1 (by assumption) (by assumption);obtain ⟨_,_,_,_,_,_⟩:=fD HR0 HB x5_1 (by assumption) (by assumption)))
             go_roundg k1
             case measure=>have:=HK1.out;omega
             case rel=>exact ⟨_,aY,H,⟨by have:=HK1.out;omega⟩,⟨bI⟩⟩
           replace H:=aa.mk H
           obtain ⟨ad287,rfl,_,_,_,_,_,_⟩:=fK HR0 HB x5_1 (by assumption) (by assumption)
           go_wp2_with (first | (go_at_call 49;(with_reducible refine (aD.calls _ _ _ _ _ _ _ A7.out).mono ?_);rintro e w27 ⟨rfl,hb⟩;replace HB:=di HB hb;obtain ⟨_,_,_,_,_,_⟩:=fD HR0 HB x5_1 (by assumption) (by assumption);obtain ⟨_,_,_,_,_,_⟩:=fD HR0 HB x5_1 (by assumption) (by assumption)) | (go_at_call 50;(with_reducible refine (aK.calls _ _ _ A20.out).mono ?_);rintro e w' ⟨rfl,⟨nd,rfl⟩⟩))
           go_roundg k1
           case measure=>have:=HK1.out;omega
           case rel=>exact ⟨_,aY,H,⟨by have:=HK1.out;omega⟩,⟨bI⟩⟩
         obtain ⟨rfl,rfl⟩:=so2 H
         obtain ⟨ad287,rfl,_,_,_,_,_,_⟩:=fK HR0 HB x5_1 (by assumption) (by assumption)
         go_wp2_with (go_at_call 49;(with_reducible refine (aD.calls _ _ _ _ _ _ _ A7.out).mono ?_);rintro e w28 ⟨rfl,hb⟩;replace HB:=di HB hb)
         go_ret2
         exact ⟨dw,bI⟩
       exact absurd H (by simp)
     exact absurd H (by simp)
   obtain ⟨ji29,hji29⟩:∃ j_:Int,(wrap64 ((l0.length:Int) - 1))=j_:=⟨_,rfl⟩
   replace H:(if 0≤(ji29) then (if (ji29)<(l0.length:Int) then ((bY.f ((bg l0 (ji29)).f0)).bind fun t286=>(if t286=true then (some (0,0)) else (some (ji29,47)))) else (none)) else (none))=some (r1,r2):=by first | (rw [hji29] at H;exact H) | (simp only [hji29] at H ⊢;exact H)
   have hji29w:(IntKind.i64.wrap ((l0.length:Int) - 1))=ji29:=(ax _).trans hji29
   replace H:=gy H
   obtain ⟨H,-,_⟩ | ⟨H,c30,-⟩:=H
   · replace H:=gy H
     obtain ⟨H,-,_⟩ | ⟨H,c31,-⟩:=H
     · replace H:=bnd H
       obtain ⟨t286,A32,H⟩:=H
       replace H:=iQ H
       obtain ⟨rfl,H⟩ | ⟨rfl,H⟩:=H
       · obtain ⟨rfl,rfl⟩:=so2 H
         obtain ⟨ad285,rfl,_,_,_,_,_,_⟩:=fK HR0 HB (ji29) (by assumption) (by assumption)
         go_wp2_with (go_at_call 51;(with_reducible refine (bY.calls _ _ _ A32.out).mono ?_);rintro e w' ⟨rfl,⟨nd,rfl⟩⟩)
         go_ret2
         exact ⟨by first | rfl | (simp [fB,fC]<;>rfl) | (simp only [←hji29];first | rfl | (simp [fB,fC]<;>rfl)) | (simp [*,fB,fC]<;>rfl),bI⟩
       obtain ⟨rfl,rfl⟩:=so2 H
       obtain ⟨ad285,rfl,_,_,_,_,_,_⟩:=fK HR0 HB (ji29) (by assumption) (by assumption)
       go_wp2_with (go_at_call 51;(with_reducible refine (bY.calls _ _ _ A32.out).mono ?_);rintro e w' ⟨rfl,⟨nd,rfl⟩⟩)
       go_ret2
       exact ⟨by first | rfl | (simp [fB,fC]<;>rfl) | (simp only [←hji29];first | rfl | (simp [fB,fC]<;>rfl)) | (simp [*,fB,fC]<;>rfl),bI⟩
     exact absurd H (by simp)
   exact absurd H (by simp)
def dX.f (k:Nat) (l0:List (S45)) (l1:List Int):Option (Int):=(bf.f k l0).bind fun bt299=>(if bt299.2=0 then (if (l1.length:Int)>65536 then (some 51) else (some 0)) else (some 50))
theorem dX.calls (k:Nat) (A0:Option Addr) (c0:Nat) (l0:List (S45)) (A1:Option Addr) (c1:Nat) (l1:List Int) (r:Int) (w:World) (hr0:Kd.C k45 w A0 l0.length l0) (hc0:l0.length≤c0) (hr1:Kd.C (Kd.int .u8) w A1 l1.length l1) (hc1:l1.length≤c1) (h:dX.f k l0 l1=some r) :
 Calls Try.prog 80 #[.slice A0 l0.length c0,.slice A1 l1.length c1] w fun e w'=>e = .returned (.int .i64 r)∧Below w.heap.size w w':=by
 have HR0:=aa.mk hr0
 have HC0:=aa.mk hc0
 clear hr0 hc0
 have HR1:=aa.mk hr1
 have HC1:=aa.mk hc1
 clear hr1 hc1
 have HB:=aa.mk (Below.refl w.heap.size w)
 have H:((bf.f k l0).bind fun bt299=>(if bt299.2=0 then (if (l1.length:Int)>65536 then (some 51) else (some 0)) else (some 50)))=some r:=h
 clear h
 replace H:=Option.bind_eq_some_iff.mp H
 obtain ⟨⟨t299,t300⟩,A30,H⟩:=H
 replace H:(if t300=0 then (if (l1.length:Int)>65536 then (some 51) else (some 0)) else (some 50))=some r:=H
 have A3:=aa.mk A30
 clear A30
 replace H:=bL H
 obtain ⟨H,-,_,_⟩ | ⟨H,c4,_,_⟩:=H
 · replace H:=qo H
   obtain ⟨H,c5,_⟩ | ⟨H,c5,_⟩:=H
   · have c5b1:decide (65536<l1.length)=true:=decide_eq_true (by omega)
     clear c5
     cases H
     go_enter Try.func80,Try.ntmps80
     go_wp2_with (go_at_call 21;(with_reducible refine (bf.calls _ _ _ _ _ _ _ ?side1 HC0.out A3.out).mono ?_);(case side1=>repeat (first | exact HR0.out | (with_reducible refine Kd.dx ?_ _) | (with_reducible refine Kd.fI ?_ _) | (with_reducible refine Kd.gD ?_)));rintro e w6 ⟨rfl,hb⟩;replace HB:=di HB hb)
     go_ret
     exact ⟨dw,bI⟩
   have c5b1:decide (65536<l1.length)=false:=decide_eq_false (by omega)
   clear c5
   cases H
   go_enter Try.func80,Try.ntmps80
   go_wp2_with (go_at_call 21;(with_reducible refine (bf.calls _ _ _ _ _ _ _ ?side1 HC0.out A3.out).mono ?_);(case side1=>repeat (first | exact HR0.out | (with_reducible refine Kd.dx ?_ _) | (with_reducible refine Kd.fI ?_ _) | (with_reducible refine Kd.gD ?_)));rintro e w7 ⟨rfl,hb⟩;replace HB:=di HB hb)
   go_ret
   exact ⟨dw,bI⟩
 cases H
 go_enter Try.func80,Try.ntmps80
 go_wp2_with (go_at_call 21;(with_reducible refine (bf.calls _ _ _ _ _ _ _ ?side1 HC0.out A3.out).mono ?_);(case side1=>repeat (first | exact HR0.out | (with_reducible refine Kd.dx ?_ _) | (with_reducible refine Kd.fI ?_ _) | (with_reducible refine Kd.gD ?_)));rintro e w8 ⟨rfl,hb⟩;replace HB:=di HB hb)
 go_ret
 exact ⟨dw,bI⟩
end Go.Proofs.Ytdkalnkplgfgoaa.PA
namespace Go.Proofs.Ytdkalnkplgfgoaa.Ln
open Go.RowKit Go.Proofs.YtdkalnkplgfgoaaW.PrintWords Go.Proofs.YtdkalnkplgfgoaaW.PrintLast Go.Proofs.YtdkalnkplgfgoaaW.PrintMore
section
variable {P:Program} {ops:Array Oper} {o:Oper} {a:Act} {Q:Exit→Act→World→Prop} {Kc:Act→World→Prop} {α:Type}
theorem gp (d:Kd α) {w0 W:World} (base:Nat) (s x:Operand) (t e:TypeId) (z:Value) (bytes:Nat) (hg:o.guard=none)
 (ho:o.op = .call {callee := .builtin .append,args:=#[s,x],argTypes:=#[t,t]})
 (ht:P.underlying t=some (.slice e)) (hinfo:(P.info? e).map (fun i=>(i.zero,i.size,i.bytes))=some (some z,d.sz,bytes)) (hz:z.cells.size=d.sz) (hs0:0<d.sz) (hb0:0<bytes)
 (v:Value) (xs:List α) (p:α) (cs:List Value) (hs:a.eval s=v) (hx:a.eval x = .slice (some ⟨W.heap.size,0,none⟩) 1 1) (hp:d.M W base (fun _=>False) p cs)
 (HO:d.R e W base (fun _=>True) v xs) (HB:Below base w0 W) (hbase:base≤W.heap.size) (hl:(xs.length+1)*bytes≤140737488355328)
 (h:∀ v1 w1,d.R e w1 base (fun _=>True) v1 (xs++[p])→Below base w0 w1→W.drew.grownBy w1 v.ownBlock→Kc (a.put o.dst v1) w1) :
 if Region.wanted o (yielded ops a.tmps)=true then Oper.wp P o a ((W.alloc (.cells cs.toArray e)).drew) Kc Q else Kc (a.put o.dst undef) ((W.alloc (.cells cs.toArray e)).drew):=
 Kd.mh (w0:=w0) (W:=W.drew) d base (by simp [Region.wanted,hg]) s x t e z bytes ho ht hinfo hz hs0 hb0 v xs p cs (fun _=>True) (fun _=>False) hs hx (d.M_move (w:=W) (w1:=W.drew) (fun _ _=>rfl) hp) (fun _ h=>h.elim) (fun _ _=>trivial) (Kd.gF HO) (ae HB) hbase hl (fun v1 w1 r b g _=>h v1 w1 r b g)
end
open Go.Maps Go.Proofs.Ytdkalnkplgfgoaa.PA
def jmP (c:Int):Bool:=(aK.f c).getD false
def hoP (i:S45) (a x:Int):Bool:=(aW.f 10 i.f0 i.f1 i.f2 i.f3 a x).getD false
theorem qb (a0 a1 a2 a3 a x:Int):∃ b,aW.f 10 a0 a1 a2 a3 a x=some b:=by
 have h:∀ b c,∃ r,aW.j0 (9+1) a b a0 a1 a2 c=some r:=by
  intro b c
  simp only [aW.j0]
  repeat' split
  all_goals exact ⟨_,rfl⟩
 unfold aW.f
 obtain ⟨b,e⟩:=oz a0
 rw [e]
 simp only [Option.bind_some]
 split
 · exact h _ _
 exact h _ _
def z16:bn:=⟨0,0,List.replicate 16 0⟩
def dL (p:List S45) (pk:List Int):Nat→Int→bn→List Int→Option (Int × Int × List Int)
 | 0,_,_,_=>none
 | n+1,at_,M,T=>
  if 0≤at_∧at_<(p.length:Int) then
   let i:=bg p at_
   let T:=T++[at_]
   let a1:=wrap64 (at_+1)
   if i.f0=6 then some (i.f3,0,T)
   else if i.f0=22 then some (M.a,0,T)
   else if i.f0=5 then dL p pk n (wrap64 (a1+wrap64 i.f3)) M T
   else if jmP i.f0=true then (if hoP i M.a M.x=true then dL p pk n (wrap64 (a1+wrap64 i.f1)) M T else dL p pk n (wrap64 (a1+wrap64 i.f2)) M T)
   else if (cK i pk M).2=0 then dL p pk n a1 (cK i pk M).1 T
   else some (0,(cK i pk M).2,T)
  else none
theorem qj {p:List S45} {i:Int} (h0:0≤i) (h1:i<p.length):bg p i∈p:=by
 unfold bg
 rw [List.getD_eq_getElem?_getD,List.getElem?_eq_getElem (by omega)]
 exact List.getElem_mem _
theorem MW_z:MW z16:=⟨by decide,by decide,fun j=>by
 show 0≤(List.replicate 16 (0:Int)).getD j 0
 rw [List.getD_eq_getElem?_getD,List.getElem?_replicate]
 split<;>decide⟩
structure RS (w wr:World) (gv gm:Nat) (M:bn) (vt:Value) (T:List Int):Prop where
 below:Below w.heap.size w wr
 res:wr.heap[gv]?=some (.cells #[.int .u32 0,.int .i64 0,.int .i64 0] 59 (0,0))
 mach:wr.heap[gm]?=some (.cells (bS M) 97 (0,0))
 len:M.m.length=16
 tr:(Kd.int .i64).R 3 wr w.heap.size (fun _=>True) vt T
 hv:w.heap.size≤gv
 hm:w.heap.size≤gm
theorem RS.fin {w wr:World} {gv gm:Nat} {M:bn} {vt:Value} {T:List Int} (h:RS w wr gv gm M vt T) (a b c:Value) :
 (((wr.setCell ⟨gv,0,none⟩ a).setCell ⟨gv,1,none⟩ b).setCell ⟨gv,2,none⟩ c).heap[gv]?=some (.cells #[a,b,c] 59 (0,0))∧Below w.heap.size w (((wr.setCell ⟨gv,0,none⟩ a).setCell ⟨gv,1,none⟩ b).setCell ⟨gv,2,none⟩ c):=
 ⟨aJ (aJ (aJ h.res 0 _ rfl) 1 _ rfl) 2 _ rfl,bU (bU (bU h.below h.hv) h.hv) h.hv⟩
theorem RS.quiet {w wr w1:World} {gv gm:Nat} {M:bn} {vt:Value} {T:List Int} (h:RS w wr gv gm M vt T) (hb:Below wr.heap.size wr w1):RS w w1 gv gm M vt T:=
 ⟨ak h.below hb,au h.res hb,au h.mach hb,h.len,Kd.fq h.tr hb,h.hv,h.hm⟩
theorem RS.step {w wr w1:World} {gv gm:Nat} {M M1:bn} {vt:Value} {T:List Int} (h:RS w wr gv gm M vt T) (kp:Kp (fun k=>k=gm) wr w1) (hM:w1.heap[gm]?=some (.cells (bS M1) 97 (0,0))) (hl:M1.m.length=16):RS w w1 gv gm M1 vt T:=
 ⟨kp.il h.below h.below.size (fun k e=>e ▸ h.hm),(kp.block gv (aZ h.res) (lH h.res h.mach (by decide))).trans h.res,hM,hl,rH h.tr (fun k e => .inl ⟨_,_,_,e ▸ h.mach,by decide⟩) kp,h.hv,h.hm⟩
theorem vM (k n:Nat) (w:World) (p:List S45) (A:Option Addr) (c:Nat) (pk:List Int) (Ap:Option Addr) (cp:Nat) (HG:Kd.C k45 w A p.length p) (hc:p.length≤c)
 (HP:Kd.C (Kd.int .u8) w Ap pk.length pk) (hcp:pk.length≤cp) (hpl:pk.length<2 ^ 62) (hco:dX.f k p pk=some 0) (hk:∀ i∈p,0≤i.f3) (hn:n≤100000)
 (v f:Int) (T:List Int) (hr:dL p pk n 0 z16 []=some (v,f,T)) :
 Calls Try.prog 48 #[.slice A p.length c,.slice Ap pk.length cp] w fun e w'=>∃ vt,e = .returned (.tuple #[.agg #[.int .u32 v,.int .i64 f,.int .i64 (T.length:Int)],vt,.int .i64 0])∧Below w.heap.size w w':=by
 have HGA:=aa.mk HG
 have HCA:=aa.mk hc
 have HPA:=aa.mk HP
 have HPC:=aa.mk hcp
 have HCo:=aa.mk hco
 have HK:=aa.mk hk
 have HR:=aa.mk hr
 clear HG hc HP hcp hco hk hr
 go_enter Try.func48,Try.ntmps48
 go_wp2_with (go_at_call 80;refine (dX.calls k _ _ _ _ _ _ _ _ (Kd.dx HGA.out _) HCA.out (Kd.dx HPA.out _) HPC.out HCo.out).mono ?_;rintro e w1 ⟨rfl,hb⟩)
 have HB1:=aa.mk hb
 clear hb
 have hg0:=au (dY w (.cells #[.int .u32 0,.int .i64 0,.int .i64 0] 59)) HB1.out
 have hb2:=ak (ai (Below.refl _ w) (.cells #[.int .u32 0,.int .i64 0,.int .i64 0] 59)) HB1.out
 have HR0:=aa.mk (RS.mk (w:=w) (wr:=w1.alloc (.cells (bS z16) 97)) (gv:=w.heap.size) (gm:=w1.heap.size) (M:=z16) (vt := .slice none 0 0) (T:=[]) (ai hb2 _) (au hg0 (ai (Below.refl _ _) _)) (dY _ _) rfl (Kd.jy _ _ _ _ _) (Nat.le_refl _) hb2.size)
 have HGB:=aa.mk (show w.heap.size<w1.heap.size by have:=HB1.out.size;rw [World.size_alloc] at this;omega)
 clear hg0 hb2 HB1
 generalize w1.heap.size=gm at *
 go_loopg [9,10] n (fun kq v9 v10 wr=>∃ (M:bn) (tv:Value) (T0:List Int) (at_:Int),v9=tv∧v10 = .int .i64 at_∧aa (RS w wr w.heap.size gm M tv T0)∧aa (dL p pk kq at_ M T0=some (v,f,T))∧aa (MW M)∧aa (T0.length+kq≤n))
 case atStart=>exact ⟨z16,_,[],0,rfl,rfl,HR0,HR,⟨MW_z⟩,⟨by simp⟩⟩
 case round=>
  clear HR0 HR
  obtain ⟨M,tv,T0,at_,rfl,rfl,HS,HR,HM,HN⟩:=hrel
  cases gk with
  | zero=>exact absurd HR.out (by simp [dL])
  | succ kq=>
   have hR:=HR.out
   unfold dL at hR
   by_cases hin:0≤at_∧at_<(p.length:Int)
   · rw [if_pos hin] at hR
     dsimp only at hR
     have hui:=Try.underlying70
     have hxx:(T0.length+1)*8≤140737488355328:=by have:=HN.out;omega
     obtain ⟨At,ct,rfl⟩:=Kd.dz HS.out.tr
     obtain ⟨ad,rfl,q0,q1,q2,q3⟩:=pU (Kd.bJ HGA.out HS.out.below) at_ hin.1 hin.2
     have hkk:=HK.out (bg p at_) (qj hin.1 hin.2)
     generalize bg p at_=ins at *
     obtain ⟨i0,i1,i2,i3⟩:=ins
     dsimp only at hR q0 q1 q2 q3 hkk
     have HRr:=aa.mk hR
     have HI:=aa.mk (dY wr (.cells #[.int .u16 i0,.int .u8 i1,.int .u8 i2,.int .u32 i3] 45))
     have HX:=aa.mk (Kd.fO HS.out.tr (.cells #[.int .u16 i0,.int .u8 i1,.int .u8 i2,.int .u32 i3] 45))
     clear hR HR
     have HKK:=aa.mk hkk
     clear hkk
     have h0:=hin.1
     have h1:=hin.2
     clear hin
     go_upto_region 13 with (at_builtin;go_loud (refine Kd.iB (Kd.int .i64) (w0:=w) (W:=wr.alloc (.cells #[.int .u16 i0,.int .u8 i1,.int .u8 i2,.int .u32 i3] 45)) w.heap.size rfl (.tmp 24) (.tmp 26) 70 3 (.int .i64 0) 8 rfl hui info3 rfl (by decide) (by decide) (.slice At T0.length ct) T0 at_ [.int .i64 at_] (fun _=>True) (fun _=>False) rfl (by rw [World.size_alloc];rfl) rfl (fun _ h=>h.elim) (fun _ _=>trivial) HX.out (ai HS.out.below _) (ai HS.out.below _).size hxx ?_);intro v1 w4 ho hb hg hat;obtain ⟨A1,cc1,rfl⟩:=Kd.dz ho;have HG:=aa.mk hg;have HO:=aa.mk ho;have HB4:=aa.mk hb;clear ho hb hg hat)
     rw [show T0.length+1=(T0++[at_]).length by simp] at *
     have hI4:=fw HI.out HG.out (Kd.jH HX.out HI.out (by decide))
     have hr0:=au HS.out.res (ai (Below.refl _ _) (.cells #[.int .u16 i0,.int .u8 i1,.int .u8 i2,.int .u32 i3] 45))
     have hm0:=au HS.out.mach (ai (Below.refl _ _) (.cells #[.int .u16 i0,.int .u8 i1,.int .u8 i2,.int .u32 i3] 45))
     have HS4:=aa.mk (RS.mk HB4.out (fw hr0 HG.out (Kd.jH HX.out hr0 (by decide))) (fw hm0 HG.out (Kd.jH HX.out hm0 (by decide))) HS.out.len HO.out HS.out.hv HS.out.hm)
     have hs5:=HS4.out
     rw [List.length_append,List.length_singleton] at hs5
     have HS5:=aa.mk hs5
     clear hs5
     have hlb:=HS.out.below.size
     have HI4:=aa.mk hI4
     obtain ⟨z0,z1,z2,z3,-,-,-,-⟩:=cz4 ⟨hI4⟩
     clear hI4 hr0 hm0 HX HG HO HI HB4 q0 q1 q2 q3 HS
     have ma:w4.cell? ⟨gm,0,none⟩=some (.int .u32 M.a):=(ag HS4.out.mach 0).trans (iW M)
     have mx:w4.cell? ⟨gm,1,none⟩=some (.int .u32 M.x):=(ag HS4.out.mach 1).trans (iX M)
     have r0:w4.cell? ⟨w.heap.size,0,none⟩=some (.int .u32 0):=(ag HS4.out.res 0).trans rfl
     have r1:w4.cell? ⟨w.heap.size,1,none⟩=some (.int .i64 0):=(ag HS4.out.res 1).trans rfl
     have r2:w4.cell? ⟨w.heap.size,2,none⟩=some (.int .i64 0):=(ag HS4.out.res 2).trans rfl
     have s0:=aj HS4.out.res 0
     have s1:=aj HS4.out.res 1
     have s2:=aj HS4.out.res 2
     generalize wr.heap.size=lb at *
     by_cases c6:i0=6
     · have c6b:(i0==6)=true:=beq_iff_eq.mpr c6
       have hfin:=HRr.out
       rw [if_pos c6] at hfin
       obtain ⟨rfl,rfl,rfl⟩:i3=v∧(0:Int)=f∧T0++[at_]=T:=by simpa using hfin
       go_wp2
       refine bodyPost_ret (jc rfl _ _ w.heap.size 59 #[.int .u32 i3,.int .i64 0,.int .i64 ((T0.length:Int)+1)] (0,0) _ rfl (HS4.out.fin _ _ _).1 Try.underlying59 rfl (by kernel_rfl)) rfl ?_
       exact ⟨by simp,(HS4.out.fin _ _ _).2⟩
     have c6b:(i0==6)=false:=beq_eq_false_iff_ne.mpr c6
     by_cases c22:i0=22
     · have c22b:(i0==22)=true:=beq_iff_eq.mpr c22
       have hfin:=HRr.out
       rw [if_neg c6,if_pos c22] at hfin
       obtain ⟨rfl,rfl,rfl⟩:M.a=v∧(0:Int)=f∧T0++[at_]=T:=by simpa using hfin
       go_wp2
       refine bodyPost_ret (jc rfl _ _ w.heap.size 59 #[.int .u32 M.a,.int .i64 0,.int .i64 ((T0.length:Int)+1)] (0,0) _ rfl (HS4.out.fin _ _ _).1 Try.underlying59 rfl (by kernel_rfl)) rfl ?_
       exact ⟨by simp,(HS4.out.fin _ _ _).2⟩
     have c22b:(i0==22)=false:=beq_eq_false_iff_ne.mpr c22
     have hN:=HN.out
     have hN1:(T0++[at_]).length+kq≤n:=by rw [List.length_append,List.length_singleton];omega
     have HN1:=aa.mk hN1
     clear hN hN1 HN
     by_cases c5:i0=5
     · have c5b:(i0==5)=true:=beq_iff_eq.mpr c5
       have HF:=aa.mk HRr.out
       rw [if_neg c6,if_neg c22,if_pos c5] at HF
       go_wp2
       go_roundg kq
       case measure=>omega
       case rel=>exact ⟨M,_,_,_,rfl,rfl,HS4,HF,HM,HN1⟩
     have c5b:(i0==5)=false:=beq_eq_false_iff_ne.mpr c5
     obtain ⟨bj,ej⟩:=mM i0
     obtain ⟨bh,eh⟩:=qb i0 i1 i2 i3 M.a M.x
     have HEJ:=aa.mk ej
     have HEH:=aa.mk eh
     have HF0:=HRr.out
     rw [if_neg c6,if_neg c22,if_neg c5,show jmP i0=bj by unfold jmP;rw [ej];rfl,show hoP ⟨i0,i1,i2,i3⟩ M.a M.x=bh by unfold hoP;rw [eh];rfl] at HF0
     have HF:=aa.mk HF0
     clear HF0 HRr ej eh
     cases bj with
     | true=>
      cases bh with
      | true=>
       have HF1:=HF.out
       rw [if_pos rfl,if_pos rfl] at HF1
       have HF2:=aa.mk HF1
       clear HF1 HF
       go_wp2_with (first | (go_at_call 50;refine (aK.calls _ _ _ HEJ.out).mono ?_;rintro e w' ⟨rfl,⟨nd,rfl⟩⟩) | (go_at_call 64;refine (aW.calls 10 _ _ _ _ _ _ _ _ HEH.out).mono ?_;rintro e w5 ⟨rfl,hb5⟩;have HB5:=aa.mk (ak (af (Below.refl _ _) _) hb5);clear hb5;have HI5:=aa.mk (au HI4.out HB5.out);have y0:w5.cell? ⟨lb,0,none⟩=some (.int .u16 i0):=(ag HI5.out 0).trans rfl;have y1:w5.cell? ⟨lb,1,none⟩=some (.int .u8 i1):=(ag HI5.out 1).trans rfl;have y2:w5.cell? ⟨lb,2,none⟩=some (.int .u8 i2):=(ag HI5.out 2).trans rfl))
       go_roundg kq
       case measure=>omega
       case rel=>exact ⟨M,_,_,_,rfl,rfl,⟨HS5.out.quiet HB5.out⟩,HF2,HM,HN1⟩
      | false=>
       have HF1:=HF.out
       rw [if_pos rfl,if_neg (by decide)] at HF1
       have HF2:=aa.mk HF1
       clear HF1 HF
       go_wp2_with (first | (go_at_call 50;refine (aK.calls _ _ _ HEJ.out).mono ?_;rintro e w' ⟨rfl,⟨nd,rfl⟩⟩) | (go_at_call 64;refine (aW.calls 10 _ _ _ _ _ _ _ _ HEH.out).mono ?_;rintro e w5 ⟨rfl,hb5⟩;have HB5:=aa.mk (ak (af (Below.refl _ _) _) hb5);clear hb5;have HI5:=aa.mk (au HI4.out HB5.out);have y0:w5.cell? ⟨lb,0,none⟩=some (.int .u16 i0):=(ag HI5.out 0).trans rfl;have y1:w5.cell? ⟨lb,1,none⟩=some (.int .u8 i1):=(ag HI5.out 1).trans rfl;have y2:w5.cell? ⟨lb,2,none⟩=some (.int .u8 i2):=(ag HI5.out 2).trans rfl))
       go_roundg kq
       case measure=>omega
       case rel=>exact ⟨M,_,_,_,rfl,rfl,⟨HS5.out.quiet (af HB5.out _)⟩,HF2,HM,HN1⟩
     | false=>
      have HF1:=HF.out
      rw [if_neg (by decide)] at HF1
      obtain ⟨⟨M1,fv⟩,hst⟩:∃ s,cK ⟨i0,i1,i2,i3⟩ pk M=s:=⟨_,rfl⟩
      have hsc:=fun W (hb:Below w4.heap.size w4 W)=>qx W gm M ⟨i0,i1,i2,i3⟩ pk Ap cp (HS4.out.quiet hb).mach HS4.out.len (Kd.bJ HPA.out (HS4.out.quiet hb).below) HPC.out hpl HM.out.2.1 HKK.out
      have hM1:=vB ⟨i0,i1,i2,i3⟩ pk M HM.out HKK.out
      have hl1:=mY ⟨i0,i1,i2,i3⟩ pk M
      rw [hst] at HF1 hsc hM1 hl1
      dsimp only at HF1 hsc hM1 hl1
      rw [HS4.out.len] at hl1
      have HF2:=aa.mk HF1
      have HSC:=aa.mk hsc
      have HM1:=aa.mk hM1
      have HL1:=aa.mk hl1
      clear HF1 HF hst hsc hM1 hl1
      by_cases cf:fv=0
      · have cfb:(fv != 0)=false:=bne_eq_false_iff_eq.mpr cf
        have HF1:=HF2.out
        rw [if_pos cf] at HF1
        have HF3:=aa.mk HF1
        clear HF1 HF2
        go_wp2_with (first | (go_at_call 50;refine (aK.calls _ _ _ HEJ.out).mono ?_;rintro e w' ⟨rfl,⟨nd,rfl⟩⟩) | (go_at_call 63;go_loud (refine (HSC.out _ (af (Below.refl _ _) _)).mono ?_);rintro e w6 ⟨rfl,hM6,hk6⟩;have HS6:=aa.mk ((HS5.out.quiet (af (Below.refl _ _) _)).step hk6 hM6 HL1.out);clear hM6 hk6))
        go_roundg kq
        case measure=>omega
        case rel=>exact ⟨M1,_,_,_,rfl,rfl,HS6,HF3,HM1,HN1⟩
      have cfb:(fv != 0)=true:=bne_iff_ne.mpr cf
      have hfin:=HF2.out
      rw [if_neg cf] at hfin
      obtain ⟨rfl,rfl,rfl⟩:(0:Int)=v∧fv=f∧T0++[at_]=T:=by simpa using hfin
      clear hfin HF2
      go_wp2_with (first | (go_at_call 50;refine (aK.calls _ _ _ HEJ.out).mono ?_;rintro e w' ⟨rfl,⟨nd,rfl⟩⟩) | (go_at_call 63;go_loud (refine (HSC.out _ (af (Below.refl _ _) _)).mono ?_);rintro e w6 ⟨rfl,hM6,hk6⟩;have HS6:=aa.mk ((HS5.out.quiet (af (Below.refl _ _) _)).step hk6 hM6 HL1.out);clear hM6 hk6;have y0:w6.cell? ⟨w.heap.size,0,none⟩=some (.int .u32 0):=(ag HS6.out.res 0).trans rfl;have y1:w6.cell? ⟨w.heap.size,1,none⟩=some (.int .i64 0):=(ag HS6.out.res 1).trans rfl;have y2:w6.cell? ⟨w.heap.size,2,none⟩=some (.int .i64 0):=(ag HS6.out.res 2).trans rfl;have t0:=aj HS6.out.res 0;have t1:=aj HS6.out.res 1;have t2:=aj HS6.out.res 2))
      refine bodyPost_ret (jc rfl _ _ w.heap.size 59 #[.int .u32 0,.int .i64 fv,.int .i64 ((T0.length:Int)+1)] (0,0) _ rfl (HS6.out.fin _ _ _).1 Try.underlying59 rfl (by kernel_rfl)) rfl ?_
      exact ⟨_,by rw [List.length_append,List.length_singleton];rfl,(HS6.out.fin _ _ _).2⟩
   rw [if_neg hin] at hR;cases hR
def Rg (v:Int):Prop:=0≤v∧v<4294967296
structure MB (M:bn):Prop where
 a:Rg M.a
 x:Rg M.x
 m:∀ j,Rg (M.m.getD j 0)
 len:M.m.length=16
theorem Rg.z:Rg 0:=⟨Int.le_refl 0,by decide⟩
theorem iN (n:Int):Rg (IntKind.u32.wrap n):=by rw [IntKind.wrap_u32];unfold Rg;omega
theorem lu (op:BinOp) (x y:Int):Rg (bits op .u32 x y):=iN _
theorem get_rg (p:List Int) (a s:Int):∀ (k:Nat) (x i:Int) (r:Int × Bool),Rg x→aC.l0 k p a s x i=some r→Rg r.1:=by
 intro k
 induction k with
 | zero=>intro x i r _ h;simp [aC.l0] at h
 | succ k ih=>
  intro x i r hx h
  unfold aC.l0 at h
  split at h
  · split at h
    · split at h
      · exact ih _ _ r (lu _ _ _) h
      cases h
    cases h
  obtain rfl:=Option.some.inj h;exact hx
theorem getf_rg (p:List Int) (a s:Int) (r:Int × Bool) (h:aC.f 10 p a s=some r):Rg r.1:=by
 have hj:∀ b r,aC.j0 (9+1) p a s b=some r→Rg r.1:=by
  intro b r h
  simp only [aC.j0] at h
  split at h
  · obtain rfl:=Option.some.inj h;exact Rg.z
  exact get_rg p a s 9 0 0 r Rg.z h
 have hb:∀ (q:Option Bool) r,(q.bind fun t=>aC.j0 10 p a s (!t))=some r→Rg r.1:=by
  intro q r h
  obtain ⟨t,_,h⟩:=Option.bind_eq_some_iff.1 h
  exact hj _ _ h
 unfold aC.f at h
 split at h
 · exact hb _ _ h
 split at h
 · exact hb _ _ h
 split at h
 · exact hb _ _ h
 exact hj _ _ h
theorem uR (p:List Int) (a s:Int):Rg (rdP p a s).1:=by
 unfold rdP
 cases h:bM.f 10 p a s with
 | none=>exact Rg.z
 | some r=>
  unfold bM.f at h
  split at h
  · obtain rfl:=Option.some.inj h;exact Rg.z
  obtain ⟨t,ht,h⟩:=Option.bind_eq_some_iff.1 h
  split at h
  · obtain rfl:=Option.some.inj h;exact getf_rg _ _ _ _ ht
  obtain rfl:=Option.some.inj h;exact Rg.z
theorem vw (a b:Int) (l:Bool) (r:Int) (ha:Rg a) (h:bu.f a b l=some r):Rg r:=by
 unfold bu.f at h
 split at h
 · obtain rfl:=Option.some.inj h;exact Rg.z
 split at h
 · split at h
   · obtain rfl:=Option.some.inj h;exact iN _
   cases h
 split at h
 · obtain rfl:=Option.some.inj h
   have h2:(0:Int)<2 ^ min b.toNat (IntKind.u32.bits):=Int.pow_pos (by decide)
   refine ⟨Int.ediv_nonneg ha.1 (by omega),?_⟩
   show a / _<_
   have:a / 2 ^ min b.toNat (IntKind.u32.bits)≤a:=Int.ediv_le_self _ ha.1
   have:=ha.2
   omega
 cases h
theorem nY (n:Int):Rg (n % 4294967296):=by unfold Rg;omega
theorem opP_rg (c a b:Int) (ha:Rg a) (hb:Rg b):Rg (opP c a b).1:=by
 unfold opP
 cases h:bG.f c a b with
 | none=>exact Rg.z
 | some r=>
  show Rg r.1
  unfold bG.f at h
  have one:∀ x:Int × Int,some x=some r→Rg x.1→Rg r.1:=fun x e hx=>by rw [←Option.some.inj e];exact hx
  have sh:∀ l,(bu.f a b l).bind (fun t=>some (t,(0:Int)))=some r→Rg r.1:=by
   intro l h
   obtain ⟨t,ht,h⟩:=Option.bind_eq_some_iff.1 h
   exact one _ h (vw a b l t ha ht)
  split at h
  · exact one _ h (nY _)
  split at h
  · exact one _ h (nY _)
  split at h
  · exact one _ h (nY _)
  split at h
  · exact one _ h (show Rg (bits .or .u32 a b) from lu .or a b)
  split at h
  · exact one _ h (show Rg (bits .and .u32 a b) from lu .and a b)
  split at h
  · exact one _ h (show Rg (bits .xor .u32 a b) from lu .xor a b)
  split at h
  · exact sh _ h
  split at h
  · exact sh _ h
  split at h
  · exact one _ h Rg.z
  split at h
  · exact one _ h (nY _)
  refine one _ h ⟨Int.tmod_nonneg _ ha.1,?_⟩
  have h1:=ha.1
  have h2:=ha.2
  show Int.tmod a b<_
  rw [Int.tmod_eq_emod_of_nonneg h1]
  rcases Int.lt_or_eq_of_le hb.1 with hp | hp
  · have:=Int.emod_lt_of_pos a hp
    have:=hb.2
    omega
  rw [←hp,Int.emod_zero];exact h2
theorem uZ (l:List Int) (h:∀ j,Rg (l.getD j 0)) (n:Nat) (v:Int) (hv:Rg v):∀ j,Rg ((l.set n v).getD j 0):=by
 intro j
 have:=h j
 rw [List.getD_eq_getElem?_getD] at this ⊢
 rw [List.getElem?_set]
 split
 · split
   · exact hv
   exact Rg.z
 exact this
theorem pq (i:S45) (pk:List Int) (M:bn) (h:MB M) (hk:Rg i.f3):MB (cK i pk M).1:=by
 have hl:=mY i pk M
 have H:(fun s:bn × Int=>Rg s.1.a∧Rg s.1.x∧∀ j,Rg (s.1.m.getD j 0)) (cK i pk M):=by
  obtain ⟨ha,hx,hm,_⟩:=h
  unfold cK
  dsimp only
  refine d9 (P:=fun s:bn × Int=>Rg s.1.a∧Rg s.1.x∧∀ j,Rg (s.1.m.getD j 0)) (fun _=>⟨hk,hx,hm⟩) (fun _=>?_)
  refine d9 (P:=fun s:bn × Int=>Rg s.1.a∧Rg s.1.x∧∀ j,Rg (s.1.m.getD j 0)) (fun _=>⟨uR _ _ _,hx,hm⟩) (fun _=>?_)
  refine d9 (P:=fun s:bn × Int=>Rg s.1.a∧Rg s.1.x∧∀ j,Rg (s.1.m.getD j 0)) (fun _=>⟨uR _ _ _,hx,hm⟩) (fun _=>?_)
  refine d9 (P:=fun s:bn × Int=>Rg s.1.a∧Rg s.1.x∧∀ j,Rg (s.1.m.getD j 0)) (fun _=>⟨hm _,hx,hm⟩) (fun _=>?_)
  refine d9 (P:=fun s:bn × Int=>Rg s.1.a∧Rg s.1.x∧∀ j,Rg (s.1.m.getD j 0)) (fun _=>⟨iN _,hx,hm⟩) (fun _=>?_)
  refine d9 (P:=fun s:bn × Int=>Rg s.1.a∧Rg s.1.x∧∀ j,Rg (s.1.m.getD j 0)) (fun _=>⟨ha,hk,hm⟩) (fun _=>?_)
  refine d9 (P:=fun s:bn × Int=>Rg s.1.a∧Rg s.1.x∧∀ j,Rg (s.1.m.getD j 0)) (fun _=>⟨ha,hm _,hm⟩) (fun _=>?_)
  refine d9 (P:=fun s:bn × Int=>Rg s.1.a∧Rg s.1.x∧∀ j,Rg (s.1.m.getD j 0)) (fun _=>⟨ha,iN _,hm⟩) (fun _=>?_)
  refine d9 (P:=fun s:bn × Int=>Rg s.1.a∧Rg s.1.x∧∀ j,Rg (s.1.m.getD j 0)) (fun _=>⟨ha,iN _,hm⟩) (fun _=>?_)
  refine d9 (P:=fun s:bn × Int=>Rg s.1.a∧Rg s.1.x∧∀ j,Rg (s.1.m.getD j 0)) (fun _=>⟨ha,hx,uZ _ hm _ _ ha⟩) (fun _=>?_)
  refine d9 (P:=fun s:bn × Int=>Rg s.1.a∧Rg s.1.x∧∀ j,Rg (s.1.m.getD j 0)) (fun _=>⟨ha,hx,uZ _ hm _ _ hx⟩) (fun _=>?_)
  refine d9 (P:=fun s:bn × Int=>Rg s.1.a∧Rg s.1.x∧∀ j,Rg (s.1.m.getD j 0)) (fun _=>⟨iN _,hx,hm⟩) (fun _=>?_)
  refine d9 (P:=fun s:bn × Int=>Rg s.1.a∧Rg s.1.x∧∀ j,Rg (s.1.m.getD j 0)) (fun _=>⟨ha,ha,hm⟩) (fun _=>?_)
  refine d9 (P:=fun s:bn × Int=>Rg s.1.a∧Rg s.1.x∧∀ j,Rg (s.1.m.getD j 0)) (fun _=>⟨hx,hx,hm⟩) (fun _=>?_)
  exact ⟨opP_rg _ _ _ ha (by split<;>assumption),hx,hm⟩
 exact ⟨H.1,H.2.1,H.2.2,hl.trans h.len⟩
theorem MB_z:MB z16:=⟨Rg.z,Rg.z,fun j=>by
 have:∀ n:Nat,(List.replicate n (0:Int)).getD j 0=0:=fun n=>by
  rw [List.getD_eq_getElem?_getD,List.getElem?_replicate];split<;>rfl
 show Rg ((List.replicate 16 (0:Int)).getD j 0)
 rw [this];exact Rg.z,rfl⟩
def knL:List Int:=[0,32,40,48,64,72,80,96,128,1,97,129,177,2,3,132,6,22,7,135,5,21,29,37,45,53,61,69,77,4,12,20,28,36,44,52,60,68,76,84,92,100,108,116,124,148,156,164,172]
def kn (c:Int):Bool:=decide (c∈knL)
def jmB (c:Int):Bool:=decide (c∈([21,29,37,45,53,61,69,77]:List Int))
def reB (c:Int):Bool:=decide (c=6∨c=22)
def usK (c:Int):Bool:=kn c&&!decide (c∈([128,129,132,22,7,135,12,28,44,60,76,92,108,124,156,172,29,45,61,77]:List Int))
def eF (c:Int):Int:=if kn c then wrap64 (Go.bits .and .u16 c 7) else -1
def stB (c K:Int):Bool:=kn c&&!jmB c&&!reB c&&!decide (c=5)&&(!decide (c=2∨c=3∨c=96∨c=97)||decide (K<16))&&(!decide (c=52∨c=148)||decide (K≠0))&&(!decide (c=100∨c=116)||decide (K≤31))
theorem uC {c:Int} {P:Int→Prop} (h:kn c=true) (H:∀ x∈knL,P x):P c:=H c (of_decide_eq_true h)
theorem kn_no {c:Int} (h:kn c=false):∀ x∈knL,c≠x:=fun x hx e=>by
 have:=of_decide_eq_false h
 exact this (e ▸ hx)
theorem jK {c:Int} (h:kn c=false) (k:Nat):aG.f (k+8) c=some false∧av.f (k+8) c=some false∧bO.f (k+8) c=some false∧aT.f (k+8) c=some false∧aK.f c=some false∧aA.f (k+8) c=some false∧bY.f c=some false:=by
 have H:=kn_no h
 simp only [knL,List.forall_mem_cons] at H
 obtain ⟨h0,h1,h2,h3,h4,h5,h6,h7,h8,h9,h10,h11,h12,h13,h14,h15,h16,h17,h18,h19,h20,h21,h22,h23,h24,h25,h26,h27,h28,h29,h30,h31,h32,h33,h34,h35,h36,h37,h38,h39,h40,h41,h42,h43,h44,h45,h46,h47,h48,-⟩:=H
 refine ⟨?_,?_,?_,?_,?_,?_,?_⟩
 · simp [aG.f,aG.j0,aG.j1,aG.j2,aT.f,aT.j0,aT.j1,bO.f,bO.j0, *]
 · simp [av.f,av.j0,av.j1,aK.f,aA.f,aA.j0, *]
 · simp [bO.f,bO.j0, *]
 · simp [aT.f,aT.j0,aT.j1, *]
 · simp [aK.f, *]
 · simp [aA.f,aA.j0, *]
 simp [bY.f, *]
theorem jl (k:Nat):∀ c∈knL,aG.f (k+8) c=some true∧av.f (k+8) c=some true∧bO.f (k+8) c=some (jmB c)∧aK.f c=some (jmB c)∧bY.f c=some (reB c)∧(∃ u2 u3,dW.f (k+8) c=some (usK c,u2,u3))∧(∃ u2 u3,cZ.f (k+8) c=some (usK c,u2,u3)):=by
 simp only [knL,List.forall_mem_cons]
 refine ⟨?_,?_,?_,?_,?_,?_,?_,?_,?_,?_,?_,?_,?_,?_,?_,?_,?_,?_,?_,?_,?_,?_,?_,?_,?_,?_,?_,?_,?_,?_,?_,?_,?_,?_,?_,?_,?_,?_,?_,?_,?_,?_,?_,?_,?_,?_,?_,?_,?_,by simp⟩
 all_goals exact ⟨rfl,rfl,rfl,rfl,rfl,⟨_,_,rfl⟩,⟨_,_,rfl⟩⟩
theorem jk (c:Int) (k:Nat):aG.f (k+8) c=some (kn c)∧av.f (k+8) c=some (kn c):=by
 cases h:kn c
 · exact ⟨(jK h k).1,(jK h k).2.1⟩
 have:=jl k c (of_decide_eq_true h)
 exact ⟨this.1,this.2.1⟩
theorem oI {c:Int} (h:kn c=false):jmB c=false∧reB c=false∧usK c=false:=by
 refine ⟨?_,?_,by unfold usK;rw [h];rfl⟩
 · unfold jmB
   refine decide_eq_false fun hc=>?_
   simp only [List.mem_cons,List.not_mem_nil,or_false] at hc
   rcases hc with rfl | rfl | rfl | rfl | rfl | rfl | rfl | rfl<;>exact absurd h (by decide)
 unfold reB
 refine decide_eq_false fun hc=>?_
 rcases hc with rfl | rfl<;>exact absurd h (by decide)
theorem uz (c:Int):aK.f c=some (jmB c):=by
 cases h:kn c
 · rw [(oI h).1];exact (jK h 0).2.2.2.2.1
 exact (jl 0 c (of_decide_eq_true h)).2.2.2.1
theorem uV (c:Int):bY.f c=some (reB c):=by
 cases h:kn c
 · rw [(oI h).2.1];exact (jK h 0).2.2.2.2.2.2
 exact (jl 0 c (of_decide_eq_true h)).2.2.2.2.1
theorem iL (c:Int) (k:Nat):bK.f (k+8) c=some (eF c)∧iH.f (k+8) c=some (eF c):=by
 unfold bK.f iH.f
 rw [(jk c k).1,(jk c k).2]
 unfold eF
 rw [Option.bind_some]
 constructor<;>split<;>rfl
theorem vL (c:Int) (k:Nat):(∃ u2 u3,dW.f (k+8) c=some (usK c,u2,u3))∧(∃ u2 u3,cZ.f (k+8) c=some (usK c,u2,u3)):=by
 cases h:kn c
 · rw [(oI h).2.2]
   unfold dW.f cZ.f
   rw [(jk c k).1,(jk c k).2,h]
   exact ⟨⟨_,_,rfl⟩,⟨_,_,rfl⟩⟩
 exact (jl k c (of_decide_eq_true h)).2.2.2.2.2
theorem jh:∀ c∈knL,eF c ≠ -1∧¬eF c<0∧(eF c=5↔c=5∨jmB c=true)∧(eF c=6↔reB c=true):=by
 decide +kernel
theorem nI {c:Int} (h:kn c=false):eF c = -1:=by unfold eF;rw [h];rfl
theorem dZ (c:Int):eF c=6↔reB c=true:=by
 cases h:kn c
 · rw [nI h,(oI h).2.1];decide
 exact (jh c (of_decide_eq_true h)).2.2.2
theorem fA (c:Int):eF c=5↔c=5∨jmB c=true:=by
 cases h:kn c
 · rw [nI h,(oI h).1]
   have:=kn_no h 5 (by decide)
   constructor
   · intro h;exact absurd h (by decide)
   rintro (h | h)
   · exact absurd h this
   exact absurd h (by decide)
 exact (jh c (of_decide_eq_true h)).2.2.1
theorem nQ {c:Int} (h:jmB c=true):c≠5:=by rintro rfl;exact absurd h (by decide)
def flF (c K:Int):Int:=if kn c then (if (c=2∨c=3∨c=96∨c=97)∧K≥16 then 43 else if (c=52∨c=148)∧K=0 then 44 else if (c=100∨c=116)∧K>31 then 45 else 0) else 42
theorem fault_f (c jt jf K:Int) (k:Nat):aD.f (k+8) c jt jf K=some (flF c K):=by
 unfold aD.f
 rw [(jk c k).2]
 unfold flF
 cases h:kn c
 · rfl
 simp only [Option.bind_some,if_true]
 by_cases a:c=2∨c=3∨c=96∨c=97
 · rcases a with rfl | rfl | rfl | rfl<;>by_cases b:K≥16<;>simp [aD.j0,aD.j1,b]<;>omega
 have a1:c≠2:=fun e=>a (.inl e)
 have a2:c≠3:=fun e=>a (.inr (.inl e))
 have a3:c≠96:=fun e=>a (.inr (.inr (.inl e)))
 have a4:c≠97:=fun e=>a (.inr (.inr (.inr e)))
 by_cases b:c=52∨c=148
 · rcases b with rfl | rfl<;>by_cases d:K=0<;>simp [aD.j0,aD.j1,d]
 have b1:c≠52:=fun e=>b (.inl e)
 have b2:c≠148:=fun e=>b (.inr e)
 by_cases d:c=100∨c=116
 · rcases d with rfl | rfl<;>by_cases e:K>31<;>simp [aD.j0,aD.j1,e]<;>omega
 have d1:c≠100:=fun e=>d (.inl e)
 have d2:c≠116:=fun e=>d (.inr e)
 simp [aD.j0,aD.j1,a1,a2,a3,a4,b1,b2,d1,d2]
theorem jQ (c K:Int):stB c K=(!decide (eF c<0)&&!decide (eF c=5)&&!decide (eF c=6)&&decide (flF c K=0)):=by
 cases h:kn c
 · rw [nI h];unfold stB;rw [h];rfl
 have h1:=(jh c (of_decide_eq_true h)).2.1
 have e5:decide (eF c=5)=(decide (c=5)||jmB c):=by
  rw [Bool.eq_iff_iff];simp only [decide_eq_true_eq,Bool.or_eq_true];exact fA c
 have e6:decide (eF c=6)=reB c:=by
  rw [Bool.eq_iff_iff];simp only [decide_eq_true_eq];exact dZ c
 rw [e5,e6,decide_eq_false h1]
 unfold stB flF
 rw [h]
 by_cases a:c=2∨c=3∨c=96∨c=97<;>by_cases a1:c=52∨c=148<;>by_cases a2:c=100∨c=116<;>by_cases b1:K≥16<;>by_cases b2:K=0<;>by_cases b3:K>31<;>simp [a,a1,a2,b1,b2,b3]<;>first | omega | (cases jmB c<;>cases reB c<;>cases decide (c=5)<;>simp<;>omega)
theorem qA (c jt jf K:Int) (k:Nat):aN.f (k+8) c jt jf K=some (stB c K):=by
 unfold aN.f
 rw [(iL c k).1]
 simp only [Option.bind_some]
 cases h:kn c
 · rw [nI h,if_pos rfl];unfold stB;rw [h];rfl
 have h1:=(jh c (of_decide_eq_true h)).1
 rw [if_neg h1]
 by_cases h5:eF c=5
 · rw [if_pos h5,jQ,h5];simp
 rw [if_neg h5]
 by_cases h6:eF c=6
 · rw [if_pos h6,jQ,h6];simp
 rw [if_neg h6]
 have h0:=(jh c (of_decide_eq_true h)).2.1
 have es:stB c K=decide (flF c K=0):=by rw [jQ];simp [h0,h5,h6]
 rw [es]
 unfold flF
 rw [h]
 by_cases a:c=2∨c=3∨c=96∨c=97
 · rcases a with rfl | rfl | rfl | rfl<;>by_cases b:K≥16<;>simp [aN.j0,aN.j1,b]<;>omega
 have a1:c≠2:=fun e=>a (.inl e)
 have a2:c≠3:=fun e=>a (.inr (.inl e))
 have a3:c≠96:=fun e=>a (.inr (.inr (.inl e)))
 have a4:c≠97:=fun e=>a (.inr (.inr (.inr e)))
 by_cases b:c=52∨c=148
 · rcases b with rfl | rfl<;>by_cases d:K=0<;>simp [aN.j0,aN.j1,d]
 have b1:c≠52:=fun e=>b (.inl e)
 have b2:c≠148:=fun e=>b (.inr e)
 by_cases d:c=100∨c=116
 · rcases d with rfl | rfl<;>by_cases e:K>31<;>simp [aN.j0,aN.j1,e]<;>omega
 have d1:c≠100:=fun e=>d (.inl e)
 have d2:c≠116:=fun e=>d (.inr e)
 simp [aN.j0,aN.j1,a1,a2,a3,a4,b1,b2,d1,d2]
theorem nZ {c K:Int} (h:stB c K=true):c≠6∧c≠22∧c≠5∧jmB c=false∧flF c K=0:=by
 have h2:=h
 rw [jQ] at h2
 simp only [Bool.and_eq_true,Bool.not_eq_true',decide_eq_false_iff_not,decide_eq_true_eq] at h2
 have e6:=mt (dZ c).2 h2.1.2
 have e5:=mt (fA c).2 h2.1.1.2
 unfold reB at e6
 simp only [decide_eq_true_eq,not_or] at e6 e5
 refine ⟨e6.1,e6.2,e5.1,by simpa using e5.2,h2.2⟩
theorem fl_jm {c:Int} (K:Int) (h:jmB c=true):flF c K=0:=by
 have:c∈([21,29,37,45,53,61,69,77]:List Int):=of_decide_eq_true h
 simp only [List.mem_cons,List.not_mem_nil,or_false] at this
 rcases this with rfl | rfl | rfl | rfl | rfl | rfl | rfl | rfl<;>rfl
theorem fl_re {c:Int} (K:Int) (h:reB c=true):flF c K=0:=by
 have:c=6∨c=22:=of_decide_eq_true h
 rcases this with rfl | rfl<;>rfl
theorem re_not {c:Int} (h:reB c=true):jmB c=false∧c≠5:=by
 have:c=6∨c=22:=of_decide_eq_true h
 rcases this with rfl | rfl<;>exact ⟨rfl,by decide⟩
theorem jm_not {c:Int} (h:jmB c=true):c≠6∧c≠22∧c≠5:=by
 refine ⟨?_,?_,?_⟩<;>rintro rfl<;>exact absurd h (by decide)
theorem w64 {n:Int} (h0 : -9223372036854775808≤n) (h1:n<9223372036854775808):wrap64 n=n:=by
 unfold wrap64;omega
def kN (c:List S45):Bool:=c.all (fun i=>stB i.f0 i.f3)
def jJ (i:S45):Bool:=decide (i.f1=0)&&decide (i.f2=0)&&(usK i.f0||decide (i.f3=0))
def gG (b:S47):Bool:=
 if b.f1=1 then reB b.f2.f0&&jJ b.f2&&decide (b.f3=0)&&decide (b.f4=0)
 else if b.f1=2 then decide (b.f2.f0=0∧b.f2.f1=0∧b.f2.f2=0∧b.f2.f3=0)&&decide (b.f4=0)
 else if b.f1=3 then jmB b.f2.f0&&jJ b.f2 else false
def ic (b:S47) (at_ n:Int):Bool:=(decide (b.f1=1)||decide (at_<b.f3∧b.f3<n))&&(!decide (b.f1=3)||decide (at_<b.f4∧b.f4<n))
def tkL (n:Int):List S47→Int→Int→Bool
 | [],_,_=>true
 | b :: r,i,left=>decide ((b.f0.length:Int)≤left)&&kN b.f0&&gG b&&ic b i n&&tkL n r (i+1) (left - b.f0.length)
def TkB (g:List S47):Bool:=decide (0<g.length)&&decide (g.length≤4096)&&tkL g.length g 0 4096
def msL:List S47→Int
 | []=>0
 | b :: r=>(b.f0.length:Int)+1+(if b.f1=3 then 2 else 0)+msL r
def Fit (g:List S47):Prop:=∀ b∈g,(b.f0.length:Int)≤140737488351232
theorem fV {c:List S45} {j:Nat} (h:j<c.length):bg c (j:Int)=c[j]:=by
 unfold bg
 rw [Int.toNat_natCast,List.getD_eq_getElem?_getD,List.getElem?_eq_getElem h]
 rfl
theorem ko {g:List S47} {j:Nat} (h:j<g.length):ah g (j:Int)=g[j]:=by
 unfold ah
 rw [Int.toNat_natCast,List.getD_eq_getElem?_getD,List.getElem?_eq_getElem h]
 rfl
theorem bare_f (i:S45) (k:Nat):dM.f (k+8) i.f0 i.f1 i.f2 i.f3=some (jJ i):=by
 obtain ⟨u2,u3,e⟩:=(vL i.f0 k).1
 unfold dM.f jJ
 rw [e,Option.bind_some]
 by_cases q1:i.f1=0<;>by_cases q2:i.f2=0<;>cases u:usK i.f0<;>by_cases q3:i.f3=0<;>simp [q1,q2,q3]
theorem ended_f (b:S47) (k:Nat):fo.f (k+8) b.f0 b.f1 b.f2.f0 b.f2.f1 b.f2.f2 b.f2.f3 b.f3 b.f4=some (gG b):=by
 unfold fo.f gG
 rw [(iL _ k).1,bare_f]
 simp only [Option.bind_some]
 by_cases e1:b.f1=1
 · rw [if_pos e1,if_pos e1]
   cases r:reB b.f2.f0
   · rw [if_neg (fun h=>by have:=(dZ _).1 h;rw [r] at this;cases this)];rfl
   rw [if_pos ((dZ _).2 r)]
   cases jJ b.f2
   · rfl
   rw [if_pos rfl]
   by_cases e3:b.f3=0
   · rw [if_pos e3];simp [e3];exact rfl
   rw [if_neg e3];simp [e3]
 rw [if_neg e1,if_neg e1]
 by_cases e2:b.f1=2
 · rw [if_pos e2,if_pos e2]
   by_cases q:b.f2.f0=0∧b.f2.f1=0∧b.f2.f2=0∧b.f2.f3=0
   · rw [if_pos (by simp [q]),decide_eq_true q];simp;exact rfl
   rw [if_neg (by simpa using q),decide_eq_false q];rfl
 rw [if_neg e2,if_neg e2]
 by_cases e3:b.f1=3
 · rw [if_pos e3,if_pos e3]
   by_cases c5:b.f2.f0=5
   · rw [if_pos ((fA _).2 (.inl c5)),if_pos c5,c5];rfl
   cases j:jmB b.f2.f0
   · rw [if_neg (fun h=>by rcases (fA _).1 h with h | h;exact c5 h;rw [j] at h;cases h)];rfl
   rw [if_pos ((fA _).2 (.inr j)),if_neg c5];rfl
 rw [if_neg e3,if_neg e3]
theorem uq (i n:Int) (gs:List Int) (hl:gs.length≤4):∀ (d j:Nat),gs.length - j=d→j≤gs.length→∀ k,d+1≤k→bV.l1 k i n gs (gs.length:Int) (j:Int)=some (if (gs.drop j).all (fun x=>decide (i<x∧x<n)) then 0 else 154):=by
 intro d
 induction d with
 | zero=>
  intro j hd hj k hk
  obtain ⟨k,rfl⟩:∃ m,k=m+1:=⟨k - 1,by omega⟩
  rw [bV.l1,if_neg (by omega),List.drop_of_length_le (by omega)]
  rfl
 | succ d ih=>
  intro j hd hj k hk
  obtain ⟨k,rfl⟩:∃ m,k=m+1:=⟨k - 1,by omega⟩
  have hlt:j<gs.length:=by omega
  have hrd:rd gs (j:Int)=gs[j]:=by
   unfold rd
   rw [Int.toNat_natCast,List.getD_eq_getElem?_getD,List.getElem?_eq_getElem hlt]
   rfl
  rw [bV.l1,if_pos (by omega),if_pos (by omega),if_pos (by omega),hrd,w64 (n:=(j:Int)+1) (by omega) (by omega),List.drop_eq_getElem_cons hlt,List.all_cons]
  by_cases a:gs[j]≤i
  · rw [if_pos a,decide_eq_false (by omega:¬(i<gs[j]∧gs[j]<n))];rfl
  rw [if_neg a]
  by_cases c:gs[j]≥n
  · rw [if_pos c,decide_eq_false (by omega:¬(i<gs[j]∧gs[j]<n))];rfl
  rw [if_neg c,decide_eq_true (by omega:i<gs[j]∧gs[j]<n),Bool.true_and]
  have:=ih (j+1) (by omega) (by omega) k (by omega)
  rw [show ((j+1:Nat):Int)=(j:Int)+1 by omega] at this
  exact this
theorem gone_l1 (b:S47) (i n:Int) (h:gG b=true) (k:Nat) (gs:List Int) (hgs:dD.f b.f0 b.f1 b.f2.f0 b.f2.f1 b.f2.f2 b.f2.f3 b.f3 b.f4=some gs):bV.l1 (k+4) i n gs (gs.length:Int) 0=some (if ic b i n then 0 else 154):=by
 have H:gs.length≤2∧(gs.all (fun x=>decide (i<x∧x<n)))=ic b i n:=by
  unfold dD.f at hgs
  unfold ic
  by_cases e1:b.f1=1
  · rw [if_neg (by omega),if_neg (by omega)] at hgs
    obtain rfl:[]=gs:=by simpa using hgs
    simp [e1]
  by_cases e2:b.f1=2
  · rw [if_pos e2] at hgs
    obtain rfl:[b.f3]=gs:=by simpa using hgs
    simp [e1,e2]
  by_cases e3:b.f1=3
  · rw [if_neg e2,if_pos e3] at hgs
    obtain rfl:[b.f3,b.f4]=gs:=by simpa using hgs
    simp [e1,e3]
  unfold gG at h
  rw [if_neg e1,if_neg e2,if_neg e3] at h
  cases h
 have:=uq i n gs (by omega) gs.length 0 rfl (by omega) (k+4) (by omega)
 rw [List.drop_zero,H.2] at this
 exact this
theorem gone_l (b:S47) (hl:(b.f0.length:Int)≤140737488351232) (i n:Int):∀ (d j:Nat),b.f0.length - j=d→j≤b.f0.length→∀ k,d+9≤k →
 ∃ e:Int,bV.l0 k i n b.f0 (b.f0.length:Int) (j:Int) b.f0 b.f1 b.f2.f0 b.f2.f1 b.f2.f2 b.f2.f3 b.f3 b.f4=some e∧(e=0↔((b.f0.drop j).all (fun i=>stB i.f0 i.f3)&&gG b&&ic b i n)=true):=by
 intro d
 induction d with
 | zero=>
  intro j hd hj k hk
  obtain ⟨k,rfl⟩:∃ m,k=m+9:=⟨k - 9,by omega⟩
  rw [bV.l0,if_neg (by omega),ended_f,Option.bind_some,List.drop_of_length_le (by omega)]
  cases he:gG b
  · rw [if_neg (by decide)];exact ⟨_,rfl,by simp⟩
  rw [if_pos rfl]
  obtain ⟨gs,hgs⟩:∃ gs,dD.f b.f0 b.f1 b.f2.f0 b.f2.f1 b.f2.f2 b.f2.f3 b.f3 b.f4=some gs:=by
   unfold dD.f
   split
   · exact ⟨_,rfl⟩
   split<;>exact ⟨_,rfl⟩
  rw [hgs,Option.bind_some,gone_l1 b i n he (k+4) gs hgs]
  refine ⟨_,rfl,?_⟩
  cases ic b i n<;>simp
 | succ d ih=>
  intro j hd hj k hk
  obtain ⟨k,rfl⟩:∃ m,k=m+9:=⟨k - 9,by omega⟩
  have hlt:j<b.f0.length:=by omega
  rw [bV.l0,if_pos (by omega),if_pos (by omega),if_pos (by omega),fV hlt,qA,Option.bind_some,List.drop_eq_getElem_cons hlt,List.all_cons]
  cases hs:stB (b.f0[j]).f0 (b.f0[j]).f3
  · rw [if_neg (by decide)];exact ⟨_,rfl,by simp⟩
  rw [if_pos rfl,w64 (n:=(j:Int)+1) (by omega) (by omega)]
  obtain ⟨e,h1,h2⟩:=ih (j+1) (by omega) (by omega) (k+8) (by omega)
  rw [show ((j+1:Nat):Int)=(j:Int)+1 by omega] at h1
  exact ⟨e,h1,by simpa using h2⟩
theorem gck_l (g:List S47) (hg:g.length≤4096) (hF:Fit g):∀ (d j:Nat),g.length - j=d→j≤g.length→∀ left:Int,0≤left→left≤4096→∀ k,d+5000≤k →
 ∃ r:Int × Int,bW.l0 k g (4096 - left) g (g.length:Int) (j:Int)=some r∧(r.2=0↔tkL g.length (g.drop j) (j:Int) left=true):=by
 intro d
 induction d with
 | zero=>
  intro j hd hj left h0 h1 k hk
  obtain ⟨k,rfl⟩:∃ m,k=m+1:=⟨k - 1,by omega⟩
  rw [bW.l0,if_neg (by omega),List.drop_of_length_le (by omega)]
  exact ⟨_,rfl,by simp [tkL]⟩
 | succ d ih=>
  intro j hd hj left h0 h1 k hk
  obtain ⟨k,rfl⟩:∃ m,k=m+9:=⟨k - 9,by omega⟩
  have hlt:j<g.length:=by omega
  have hf:=hF (g[j]) (List.getElem_mem hlt)
  rw [bW.l0,if_pos (by omega),if_pos (by omega),if_pos (by omega),ko hlt,List.drop_eq_getElem_cons hlt,tkL,w64 (n:=4096 - left+((g[j]).f0.length:Int)) (by omega) (by omega)]
  unfold bV.f
  by_cases a:((g[j]).f0.length:Int)>left
  · rw [if_pos (by omega),decide_eq_false (by omega:¬((g[j]).f0.length:Int)≤left),Option.bind_some,if_neg (by decide)]
    exact ⟨_,rfl,by simp⟩
  obtain ⟨e,h2,h3⟩:=gone_l (g[j]) hf (j:Int) (g.length:Int) _ 0 rfl (by omega) (k+8) (by omega)
  rw [show ((0:Nat):Int)=0 from rfl] at h2
  rw [if_neg (by omega),decide_eq_true (by omega:((g[j]).f0.length:Int)≤left),h2,Option.bind_some]
  rw [List.drop_zero] at h3
  by_cases e0:e=0
  · rw [if_pos e0]
    have h4:=h3.1 e0
    simp only [Bool.and_eq_true] at h4
    obtain ⟨r,e1,h5⟩:=ih (j+1) (by omega) (by omega) (left - ((g[j]).f0.length:Int)) (by omega) (by omega) (k+8) (by omega)
    rw [show ((j+1:Nat):Int)=(j:Int)+1 by omega] at e1 h5
    rw [w64 (n:=(j:Int)+1) (by omega) (by omega),show 4096 - left+((g[j]).f0.length:Int)=4096 - (left - ((g[j]).f0.length:Int)) by omega]
    refine ⟨r,e1,h5.trans ?_⟩
    rw [show kN (g[j]).f0=true from h4.1.1,h4.1.2,h4.2]
    simp
  rw [if_neg e0]
  refine ⟨_,rfl,?_⟩
  constructor
  · intro h;exact absurd h e0
  intro h
  simp only [Bool.and_eq_true] at h
  exact absurd (h3.2 (by rw [show (g[j]).f0.all (fun i=>stB i.f0 i.f3)=true from h.1.1.1.2,h.1.1.2,h.1.2];rfl)) e0
theorem p9 (g:List S47) (hF:Fit g) (k:Nat) (hk:10000≤k):dh.f k g=some (if TkB g then 0 else 155):=by
 unfold dh.f bW.f TkB
 by_cases a:(g.length:Int)=0
 · rw [if_pos a,decide_eq_false (by omega:¬0<g.length)];rfl
 rw [if_neg a,decide_eq_true (by omega:0<g.length)]
 by_cases b:(g.length:Int)>4096
 · rw [if_pos b,decide_eq_false (by omega:¬g.length≤4096)];rfl
 rw [if_neg b,decide_eq_true (by omega:g.length≤4096)]
 obtain ⟨r,e,h⟩:=gck_l g (by omega) hF g.length 0 rfl (by omega) 4096 (by omega) (by omega) k (by omega)
 rw [show ((0:Nat):Int)=0 from rfl] at e h
 rw [show (4096:Int) - 4096=0 from rfl] at e
 rw [e,Option.bind_some]
 rw [List.drop_zero] at h
 simp only [Bool.true_and]
 by_cases e0:r.2=0
 · rw [if_pos e0,if_pos (h.1 e0)]
 rw [if_neg e0,if_neg (fun x=>e0 (h.2 x))]
theorem qG (n:Int):∀ (g:List S47) (i left:Int),tkL n g i left=true→0≤left→∀ (j:Nat) (h:j<g.length),(g[j].f0.length:Int)≤left∧kN g[j].f0=true∧gG g[j]=true∧ic g[j] (i+j) n=true
 | [],i,left,h,hl,j,hj=>absurd hj (Nat.not_lt_zero _)
 | b :: r,i,left,h,hl,0,hj=>by
  simp only [tkL,Bool.and_eq_true,decide_eq_true_eq] at h
  refine ⟨h.1.1.1.1,h.1.1.1.2,h.1.1.2,?_⟩
  rw [show i+((0:Nat):Int)=i by omega]
  exact h.1.2
 | b :: r,i,left,h,hl,j+1,hj=>by
  simp only [tkL,Bool.and_eq_true,decide_eq_true_eq] at h
  have:=qG n r (i+1) _ h.2 (by omega) j (by simpa using hj)
  rw [show i+1+(j:Int)=i+((j+1:Nat):Int) by omega] at this
  exact ⟨by have:=this.1;rw [List.getElem_cons_succ];omega,this.2⟩
theorem iC {b:S47} (h:gG b=true):b.f1=1∨b.f1=2∨b.f1=3:=by
 unfold gG at h
 by_cases e1:b.f1=1
 · exact .inl e1
 by_cases e2:b.f1=2
 · exact .inr (.inl e2)
 by_cases e3:b.f1=3
 · exact .inr (.inr e3)
 rw [if_neg e1,if_neg e2,if_neg e3] at h
 cases h
theorem uF (n:Int):∀ (g:List S47) (i left:Int),tkL n g i left=true→0≤left→0≤msL g∧msL g≤left+3*g.length
 | [],i,left,h,hl=>by simp [msL];omega
 | b :: r,i,left,h,hl=>by
  simp only [tkL,Bool.and_eq_true,decide_eq_true_eq] at h
  have:=uF n r (i+1) _ h.2 (by omega)
  unfold msL
  rw [List.length_cons]
  split<;>omega
theorem gms_l (g:List S47) (hn:g.length≤4096) (hk3:∀ b∈g,b.f1=1∨b.f1=2∨b.f1=3) (hm:0≤msL g) (hM:msL g≤100000):∀ (d j:Nat),g.length - j=d→j≤g.length→∀ acc:Int,acc+msL (g.drop j)=msL g→0≤acc→∀ k,d+2≤k→bN.l0 k 1 1 3 acc g (g.length:Int) (j:Int)=some (msL g,0):=by
 have hnn:∀ l:List S47,0≤msL l:=by
  intro l
  induction l with
  | nil=>exact Int.le_refl _
  | cons b r ih=>unfold msL;split<;>omega
 intro d
 induction d with
 | zero=>
  intro j hd hj acc ha h0 k hk
  obtain ⟨k,rfl⟩:∃ m,k=m+1:=⟨k - 1,by omega⟩
  rw [bN.l0,if_neg (by omega)]
  rw [List.drop_of_length_le (by omega)] at ha
  simp only [msL] at ha
  rw [show acc=msL g by omega]
 | succ d ih=>
  intro j hd hj acc ha h0 k hk
  obtain ⟨k,rfl⟩:∃ m,k=m+1:=⟨k - 1,by omega⟩
  have hlt:j<g.length:=by omega
  rw [List.drop_eq_getElem_cons hlt,msL] at ha
  have hd2:=hnn (g.drop (j+1))
  have hkk:=hk3 (g[j]) (List.getElem_mem hlt)
  rw [bN.l0,if_pos (by omega),if_pos (by omega),if_pos (by omega),ko hlt,w64 (n:=(j:Int)+1) (by omega) (by omega)]
  have hl0:(0:Int)≤((g[j]).f0.length:Int):=by omega
  by_cases e1:(g[j]).f1=1
  · rw [if_neg (by omega)] at ha
    rw [if_pos e1,w64 (n:=acc+((g[j]).f0.length:Int)) (by omega) (by omega),w64 (n:=acc+((g[j]).f0.length:Int)+1) (by omega) (by omega)]
    have:=ih (j+1) (by omega) (by omega) (acc+((g[j]).f0.length:Int)+1) (by omega) (by omega) k (by omega)
    rw [show ((j+1:Nat):Int)=(j:Int)+1 by omega] at this
    exact this
  rw [if_neg e1]
  by_cases e2:(g[j]).f1=2
  · rw [if_neg (by omega)] at ha
    rw [if_pos e2,w64 (n:=acc+((g[j]).f0.length:Int)) (by omega) (by omega),w64 (n:=acc+((g[j]).f0.length:Int)+1) (by omega) (by omega)]
    have:=ih (j+1) (by omega) (by omega) (acc+((g[j]).f0.length:Int)+1) (by omega) (by omega) k (by omega)
    rw [show ((j+1:Nat):Int)=(j:Int)+1 by omega] at this
    exact this
  rw [if_neg e2]
  have e3:(g[j]).f1=3:=by omega
  rw [if_pos e3] at ha
  rw [w64 (n:=acc+((g[j]).f0.length:Int)) (by omega) (by omega),w64 (n:=acc+((g[j]).f0.length:Int)+3) (by omega) (by omega)]
  have:=ih (j+1) (by omega) (by omega) (acc+((g[j]).f0.length:Int)+3) (by omega) (by omega) k (by omega)
  rw [show ((j+1:Nat):Int)=(j:Int)+1 by omega] at this
  exact this
theorem gZ {g:List S47} (h:TkB g=true):0<g.length∧g.length≤4096∧tkL g.length g 0 4096=true:=by
 unfold TkB at h
 simp only [Bool.and_eq_true,decide_eq_true_eq] at h
 exact ⟨h.1.1,h.1.2,h.2⟩
theorem jd {g:List S47} (h:TkB g=true) {b:S47} (hb:b∈g):(b.f0.length:Int)≤4096∧kN b.f0=true∧gG b=true:=by
 obtain ⟨j,hj,rfl⟩:=List.getElem_of_mem hb
 have:=qG _ g 0 4096 (gZ h).2.2 (by omega) j hj
 exact ⟨this.1,this.2.1,this.2.2.1⟩
theorem tk_ms {g:List S47} (h:TkB g=true):0≤msL g∧msL g≤100000:=by
 have:=uF _ g 0 4096 (gZ h).2.2 (by omega)
 have h2:=(gZ h).2.1
 omega
theorem oG {g:List S47} (hF:Fit g) (h:TkB g=true) (k:Nat) (hk:10000≤k):cO.f k g=some (msL g,0):=by
 have:=gms_l g (gZ h).2.1 (fun b hb=>iC (jd h hb).2.2) (tk_ms h).1 (tk_ms h).2 g.length 0 rfl (by omega) 0 (by rw [List.drop_zero];omega) (by omega) k (by have:=(gZ h).2.1;omega)
 rw [show ((0:Nat):Int)=0 from rfl] at this
 unfold cO.f bN.f
 rw [p9 g hF k hk,h,Option.bind_some,if_pos rfl]
 rw [if_pos rfl,this,Option.bind_some]
theorem oH {g:List S47} (hF:Fit g) (h:TkB g=false) (k:Nat) (hk:10000≤k):cO.f k g=some (0,155):=by
 unfold cO.f bN.f
 rw [p9 g hF k hk,h,Option.bind_some,if_neg (by decide),if_neg (by decide),Option.bind_some]
def dA (pk:List Int):List S45→bn→Int→bn × Int × Int
 | [],M,s=>(M,s,0)
 | i :: r,M,s=>if (cK i pk M).2=0 then dA pk r (cK i pk M).1 (wrap64 (s+1)) else ((cK i pk M).1,wrap64 (s+1),(cK i pk M).2)
def ib (g:List S47) (pk:List Int):Nat→Int→bn→Int→Option (Int × Int × Int)
 | 0,_,_,_=>none
 | n+1,at_,M,s=>
  if 0≤at_∧at_<(g.length:Int) then
   let b:=ah g at_
   let q:=dA pk b.f0 M s
   if q.2.2=0 then
    (if b.f1=1 then (if b.f2.f0=6 then some (b.f2.f3,0,wrap64 (q.2.1+1)) else some (q.1.a,0,wrap64 (q.2.1+1)))
    else if b.f1=2 then ib g pk n b.f3 q.1 q.2.1
    else if hoP b.f2 q.1.a q.1.x=true then ib g pk n b.f3 q.1 (wrap64 (q.2.1+1))
    else ib g pk n b.f4 q.1 (wrap64 (q.2.1+1)))
   else some (0,q.2.2,q.2.1)
  else none
theorem eU {p:List S47} {i:Int} (h0:0≤i) (h1:i<p.length):ah p i∈p:=by
 unfold ah
 rw [List.getD_eq_getElem?_getD,List.getElem?_eq_getElem (by omega)]
 exact List.getElem_mem _
structure BOk (b:S47) (i n:Int):Prop where
 code:kN b.f0=true
 ends:gG b=true
 goal:ic b i n=true
 rg:∀ x∈b.f0,Rg x.f3
 rl:Rg b.f2.f3
structure GOk (g:List S47):Prop where
 some_:0<g.length
 few:g.length≤4096
 all:∀ (j:Nat) (b:S47),g[j]?=some b→BOk b j g.length
 sum:(g.map (fun b=>b.f0.length)).sum≤4096
theorem tL {b:S47} (h:gG b=true):(b.f1=1∧reB b.f2.f0=true∧jJ b.f2=true∧b.f3=0∧b.f4=0)∨(b.f1=2∧b.f2=⟨0,0,0,0⟩∧b.f4=0)∨(b.f1=3∧jmB b.f2.f0=true∧jJ b.f2=true):=by
 unfold gG at h
 by_cases e1:b.f1=1
 · rw [if_pos e1] at h
   simp only [Bool.and_eq_true,decide_eq_true_eq] at h
   exact .inl ⟨e1,h.1.1.1,h.1.1.2,h.1.2,h.2⟩
 rw [if_neg e1] at h
 by_cases e2:b.f1=2
 · rw [if_pos e2] at h
   simp only [Bool.and_eq_true,decide_eq_true_eq] at h
   refine .inr (.inl ⟨e2,?_,h.2⟩)
   obtain ⟨⟨a,b,c,d⟩,_⟩:=h
   cases hq:(‹S47›:S47).f2
   simp_all
 rw [if_neg e2] at h
 by_cases e3:b.f1=3
 · rw [if_pos e3] at h
   simp only [Bool.and_eq_true] at h
   exact .inr (.inr ⟨e3,h.1,h.2⟩)
 rw [if_neg e3] at h;cases h
theorem sum_mem {l:List Nat} {x:Nat} (h:x∈l):x≤l.sum:=by
 induction l with
 | nil=>cases h
 | cons a r ih=>
  rw [List.sum_cons]
  rcases List.mem_cons.1 h with rfl | h
  · omega
  have:=ih h;omega
theorem GOk.len {g:List S47} (h:GOk g) {j:Nat} {b:S47} (hb:g[j]?=some b):b.f0.length≤4096:=by
 have h1:=h.sum
 have:=sum_mem (List.mem_map_of_mem (f:=fun b:S47=>b.f0.length) (List.mem_of_getElem? hb))
 omega
theorem rC (n:Int):∀ (l:List S47) (i left:Int),tkL n l i left=true ↔
 ((∀ (j:Nat) (b:S47),l[j]?=some b→kN b.f0=true∧gG b=true∧ic b (i+j) n=true)∧(l=[]∨(((l.map (fun b=>b.f0.length)).sum:Nat):Int)≤left)):=by
 intro l
 induction l with
 | nil=>intro i left;exact ⟨fun _=>⟨fun j b h=>by simp at h,.inl rfl⟩,fun _=>rfl⟩
 | cons a r ih=>
  intro i left
  unfold tkL
  simp only [Bool.and_eq_true,decide_eq_true_eq]
  rw [ih]
  constructor
  · rintro ⟨⟨⟨⟨h1,h2⟩,h3⟩,h4⟩,h5,h6⟩
    refine ⟨?_,.inr ?_⟩
    · intro j b hb
      cases j with
      | zero=>cases hb;exact ⟨h2,h3,by simpa using h4⟩
      | succ j=>
       have:=h5 j b hb
       rw [show i+((j+1:Nat):Int)=i+1+(j:Int) by omega]
       exact this
    rw [List.map_cons,List.sum_cons]
    rcases h6 with rfl | h6
    · simpa using h1
    omega
  rintro ⟨h1,h2⟩
  have h0:=h1 0 a rfl
  rcases h2 with h2 | h2
  · cases h2
  rw [List.map_cons,List.sum_cons] at h2
  refine ⟨⟨⟨⟨by omega,h0.1⟩,h0.2.1⟩,by simpa using h0.2.2⟩,?_,.inr (by omega)⟩
  intro j b hb
  have:=h1 (j+1) b hb
  rw [show i+((j+1:Nat):Int)=i+1+(j:Int) by omega] at this
  exact this
def KR (g:List S47):Prop:=∀ b∈g,(∀ x∈b.f0,Rg x.f3)∧Rg b.f2.f3
theorem gok_of {g:List S47} (h:TkB g=true) (hk:KR g):GOk g:=by
 unfold TkB at h
 simp only [Bool.and_eq_true,decide_eq_true_eq] at h
 obtain ⟨⟨h1,h2⟩,h3⟩:=h
 obtain ⟨h4,h5⟩:=(rC _ _ _ _).1 h3
 refine ⟨h1,h2,?_,?_⟩
 · intro j b hb
   obtain ⟨a1,a2,a3⟩:=h4 j b hb
   have:=hk b (List.mem_of_getElem? hb)
   exact ⟨a1,a2,by simpa using a3,this.1,this.2⟩
 rcases h5 with rfl | h5
 · exact absurd h1 (by simp)
 omega
theorem GOk.kr {g:List S47} (h:GOk g):KR g:=by
 intro b hb
 obtain ⟨j,hj⟩:=List.getElem?_of_mem hb
 exact ⟨(h.all j b hj).rg,(h.all j b hj).rl⟩
theorem GOk.tk {g:List S47} (h:GOk g):TkB g=true:=by
 unfold TkB
 simp only [Bool.and_eq_true,decide_eq_true_eq]
 refine ⟨⟨h.some_,h.few⟩,(rC _ _ _ _).2 ⟨?_,.inr (by have:=h.sum;omega)⟩⟩
 intro j b hb
 have:=h.all j b hb
 exact ⟨this.code,this.ends,by simpa using this.goal⟩
def ou:List Int:=[4,20,36,52,68,84,100,116,148,164]
def mi:List Int:=[12,28,44,60,76,92,108,124,156,172]
abbrev St:=List (Option Int)
def gS (s:St) (i:Nat):Option Int:=s.getD i none
def ldL:List Int:=[0,32,40,48,64,72,80,96,128,1,97,129,177]
def stL:List Int:=[0,32,40,48,64,72,80,96,128,1,97,129,177,2,3,132,7,135,4,20,36,52,68,84,100,116,148,164,12,28,44,60,76,92,108,124,156,172]
def loadF (s:St) (i:S45):S45:=
 if i.f0=96 then (match gS s (2+i.f3.toNat) with | some v=>⟨0,0,0,v⟩ | none=>i)
 else if i.f0=97 then (match gS s (2+i.f3.toNat) with | some v=>⟨1,0,0,v⟩ | none=>i)
 else if i.f0=64∨i.f0=72∨i.f0=80 then (match gS s 1 with | some x=>if x+i.f3≤4294967295 then ⟨i.f0 - 32,0,0,x+i.f3⟩ else i | none=>i)
 else i
def aluKF (s:St) (i:S45):S45:=
 match gS s 0 with
 | some a=>⟨0,0,0,(opP i.f0 a i.f3).1⟩
 | none=>if i.f3=0∧(i.f0=84∨i.f0=36) then ⟨0,0,0,0⟩ else i
def aluF (s:St) (i:S45):S45:=
 if i.f0=132 then (match gS s 0 with | some a=>⟨0,0,0,IntKind.u32.wrap (-a)⟩ | none=>i)
 else if i.f0∈mi then (match gS s 1 with
  | none=>i
  | some y=>if (i.f0=108∨i.f0=124)∧y>31 then ⟨0,0,0,0⟩ else if y=0∧(i.f0=60∨i.f0=156) then i else aluKF s ⟨i.f0 - 8,0,0,y⟩)
 else aluKF s i
def miscF (s:St) (i:S45):S45:=
 if i.f0=7 then (match gS s 0 with | some a=>⟨1,0,0,a⟩ | none=>i)
 else (match gS s 1 with | some x=>⟨0,0,0,x⟩ | none=>i)
def mW (s:St) (i:S45):S45:=
 if i.f0∈ldL then loadF s i
 else if i.f0=7∨i.f0=135 then miscF s i
 else if i.f0=132∨i.f0∈ou∨i.f0∈mi then aluF s i
 else i
def idleF (s:St) (i:S45):Bool:=
 if i.f0=0 then decide (gS s 0=some i.f3)
 else if i.f0=1 then decide (gS s 1=some i.f3)
 else if i.f0=2 then (gS s 0).isSome&&decide (gS s (2+i.f3.toNat)=gS s 0)
 else if i.f0=3 then (gS s 1).isSome&&decide (gS s (2+i.f3.toNat)=gS s 1)
 else if i.f0=4∨i.f0=20∨i.f0=68∨i.f0=164∨i.f0=100∨i.f0=116 then decide (i.f3=0)
 else if i.f0=36∨i.f0=52 then decide (i.f3=1)
 else if i.f0=84 then decide (i.f3=4294967295)
 else false
def pJ (s:St) (i:S45):St:=
 if i.f0=0 then s.set 0 (some i.f3)
 else if i.f0=1 then s.set 1 (some i.f3)
 else if i.f0=2 then s.set (2+i.f3.toNat) (gS s 0)
 else if i.f0=3 then s.set (2+i.f3.toNat) (gS s 1)
 else if i.f0=7 then s.set 1 (gS s 0)
 else if i.f0=135 then s.set 0 (gS s 1)
 else if i.f0=97∨i.f0=129∨i.f0=177 then s.set 1 none
 else s.set 0 none
theorem st_mem {c K:Int} (h:stB c K=true):c∈stL∧((c=2∨c=3∨c=96∨c=97)→K<16)∧((c=52∨c=148)→K≠0)∧((c=100∨c=116)→K≤31):=by
 have hn:=nZ h
 unfold stB at h
 simp only [Bool.and_eq_true,Bool.or_eq_true,Bool.not_eq_true',decide_eq_true_eq,decide_eq_false_iff_not] at h
 obtain ⟨⟨⟨⟨⟨⟨h1,h2⟩,h3⟩,h4⟩,h5⟩,h6⟩,h7⟩:=h
 refine ⟨?_,?_,?_,?_⟩
 · have H:∀ x∈knL,x=6∨x=22∨x=5∨jmB x=true∨x∈stL:=by decide
   rcases uC (P:=fun x=>x=6∨x=22∨x=5∨jmB x=true∨x∈stL) h1 H with e | e | e | e | e
   · exact absurd e hn.1
   · exact absurd e hn.2.1
   · exact absurd e hn.2.2.1
   · rw [h2] at e;cases e
   exact e
 · intro e;rcases h5 with h5 | h5
   · exact absurd e h5
   exact h5
 · intro e;rcases h6 with h6 | h6
   · exact absurd e h6
   exact h6
 intro e;rcases h7 with h7 | h7
 · exact absurd e h7
 exact h7
theorem ix_id {k:Int} (h0:0≤k) (h1:k<16):ix k=k.toNat:=by
 have:k=0∨k=1∨k=2∨k=3∨k=4∨k=5∨k=6∨k=7∨k=8∨k=9∨k=10∨k=11∨k=12∨k=13∨k=14∨k=15:=by omega
 rcases this with rfl | rfl | rfl | rfl | rfl | rfl | rfl | rfl | rfl | rfl | rfl | rfl | rfl | rfl | rfl | rfl<;>decide
theorem stepA (c jt jf k:Int) (hc:c∈ou∨c∈mi) (pk:List Int) (M:bn):cK ⟨c,jt,jf,k⟩ pk M=({M with a:=(opP c M.a (if byX c then M.x else k)).1},(opP c M.a (if byX c then M.x else k)).2):=by
 simp only [ou,mi,List.mem_cons,List.not_mem_nil,or_false] at hc
 rcases hc with h | h<;>rcases h with rfl | rfl | rfl | rfl | rfl | rfl | rfl | rfl | rfl | rfl<;>rfl
end Go.Proofs.Ytdkalnkplgfgoaa.Ln
