/- Lemmas and walks for the statements of the texts ZBZ..: the declarations that they need, taken together by a program of this session. Conditions: as each says. -/
import Derived.Test.YtdkalnkplgfgoaaZBb
import Derived.Test.YtdkalnkplgfgoaaZBc
set_option maxHeartbeats 8000000
set_option maxRecDepth 100000
set_option linter.unusedVariables false
set_option linter.unusedSimpArgs false
namespace Go.Proofs.Ytdkalnkplgfgoaa.PA
open Go.RowKit Go.Proofs.YtdkalnkplgfgoaaW.PrintWords Go.Proofs.YtdkalnkplgfgoaaW.PrintLast Go.Proofs.YtdkalnkplgfgoaaW.PrintMore
attribute [local go_sem] dE dG ed ek dm dn dF dH
def bO.j0:Nat→Int→Bool→Option (Bool)
 | 0,_,_=>none
 | k+1,x3,x4=>if x4=true then (some true) else (if x3=29 then (some true) else (if x3=45 then (some true) else (if x3=61 then (some true) else (if x3=77 then (some true) else (some false)))))
def bO.f (k:Nat) (a0:Int):Option (Bool):=if a0=21 then (bO.j0 k a0 (a0==21)) else (if a0=37 then (bO.j0 k a0 (a0==37)) else (if a0=53 then (bO.j0 k a0 (a0==53)) else (bO.j0 k a0 (a0==69))))
theorem bO.calls (k:Nat) (a0:Int) (r:Bool) (w:World) (h:bO.f k a0=some r) :
 Calls Try.prog 151 #[.int .u16 a0] w fun e w'=>e = .returned (.bool r)∧bR w w':=by
 have H:(if a0=21 then (bO.j0 k a0 (a0==21)) else (if a0=37 then (bO.j0 k a0 (a0==37)) else (if a0=53 then (bO.j0 k a0 (a0==53)) else (bO.j0 k a0 (a0==69)))))=some r:=h
 clear h
 have HC2:=aa.mk H
 clear H
 go_enter Try.func151,Try.ntmps151
 go_upto_if 4 with (fail)
 go_cut [4] (fun v4 wc=>∃ (kq:Nat) (x4_1:Bool),v4 = .bool x4_1∧aa (bO.j0 kq a0 x4_1=some r)∧aa (kq≤k)∧bR w wc)
 case first=>
  have H:=HC2.out
  clear HC2
  replace H:=bL H
  obtain ⟨H,-,c3b0,_⟩ | ⟨H,c3,c3b0,_⟩:=H
  · (first | rw [c3b0] | (simp only [ax,ay];rw [c3b0]) | skip)
    replace H:=aa.mk H
    go_wp2
    go_meet
    case rel=>exact ⟨_,_,aY,H,⟨le0⟩,bB⟩
  (first | rw [c3b0] | (simp only [ax,ay];rw [c3b0]) | skip)
  iterate 2
   replace H:=bL H
   obtain ⟨H,-,_,_⟩ | ⟨H,c4,_,_⟩:=H
   · replace H:=aa.mk H
     go_wp2
     go_meet
     case rel=>exact ⟨_,_,aY,H,⟨le0⟩,bB⟩
  replace H:=aa.mk H
  go_wp2
  go_meet
  case rel=>exact ⟨_,_,aY,H,⟨le0⟩,bB⟩
 case rest=>
  clear HC2
  obtain ⟨kq,x4_1,rfl,HA,HJ1,⟨mc1,rfl⟩⟩:=hcut
  cases kq with
  | zero=>exact absurd HA.out (by simp [bO.j0])
  | succ kj1=>
   have H:=HA.out
   clear HA
   simp only [bO.j0] at H
   by_cases c6:x4_1=true
   · subst c6
     have H1:(some true)=some r:=by rw [if_pos rfl] at H;exact H
     clear H
     have H:=H1
     clear H1
     cases H
     go_wp2
     go_ret
     exact ⟨aY,bB⟩
   replace c6:=Bool.eq_false_iff.mpr c6
   subst c6
   have H1:(if a0=29 then (some true) else (if a0=45 then (some true) else (if a0=61 then (some true) else (if a0=77 then (some true) else (some false)))))=some r:=by rw [if_neg (show ¬(false=true) by decide)] at H;exact H
   clear H
   have H:=H1
   clear H1
   iterate 2
    replace H:=bL H
    obtain ⟨H,-,_,_⟩ | ⟨H,c7,_,_⟩:=H
    · cases H
      go_wp2
      go_ret
      exact ⟨aY,bB⟩
   iterate 2
    replace H:=bL H
    obtain ⟨H,-,_,_⟩ | ⟨H,c9,_,_⟩:=H
    · cases H
      go_wp2
      go_ret
      exact ⟨aY,bB⟩
   cases H
   go_wp2
   go_ret
   exact ⟨aY,bB⟩
mutual
def aT.j0:Nat→Int→Bool→Option (Bool)
 | 0,_,_=>none
 | k+1,x3,x4=>if x4=true then (some true) else (if x3=12 then (aT.j1 k x3 (x3==12)) else (if x3=28 then (aT.j1 k x3 (x3==28)) else (if x3=44 then (aT.j1 k x3 (x3==44)) else (if x3=60 then (aT.j1 k x3 (x3==60)) else (if x3=76 then (aT.j1 k x3 (x3==76)) else (if x3=92 then (aT.j1 k x3 (x3==92)) else (if x3=108 then (aT.j1 k x3 (x3==108)) else (if x3=124 then (aT.j1 k x3 (x3==124)) else (if x3=156 then (aT.j1 k x3 (x3==156)) else (aT.j1 k x3 (x3==172)))))))))))
def aT.j1:Nat→Int→Bool→Option (Bool)
 | 0,_,_=>none
 | k+1,x3,x15=>if x15=true then (some true) else (if x3=132 then (some true) else (some false))
end
def aT.f (k:Nat) (a0:Int):Option (Bool):=if a0=4 then (aT.j0 k a0 (a0==4)) else (if a0=20 then (aT.j0 k a0 (a0==20)) else (if a0=36 then (aT.j0 k a0 (a0==36)) else (if a0=52 then (aT.j0 k a0 (a0==52)) else (if a0=68 then (aT.j0 k a0 (a0==68)) else (if a0=84 then (aT.j0 k a0 (a0==84)) else (if a0=100 then (aT.j0 k a0 (a0==100)) else (if a0=116 then (aT.j0 k a0 (a0==116)) else (if a0=148 then (aT.j0 k a0 (a0==148)) else (aT.j0 k a0 (a0==164))))))))))
theorem aT.calls (k:Nat) (a0:Int) (r:Bool) (w:World) (h:aT.f k a0=some r) :
 Calls Try.prog 163 #[.int .u16 a0] w fun e w'=>e = .returned (.bool r)∧bR w w':=by
 have H:(if a0=4 then (aT.j0 k a0 (a0==4)) else (if a0=20 then (aT.j0 k a0 (a0==20)) else (if a0=36 then (aT.j0 k a0 (a0==36)) else (if a0=52 then (aT.j0 k a0 (a0==52)) else (if a0=68 then (aT.j0 k a0 (a0==68)) else (if a0=84 then (aT.j0 k a0 (a0==84)) else (if a0=100 then (aT.j0 k a0 (a0==100)) else (if a0=116 then (aT.j0 k a0 (a0==116)) else (if a0=148 then (aT.j0 k a0 (a0==148)) else (aT.j0 k a0 (a0==164)))))))))))=some r:=h
 clear h
 have HC2:=aa.mk H
 clear H
 go_enter Try.func163,Try.ntmps163
 go_upto_if 4 with (fail)
 go_cut [4] (fun v4 wc=>∃ (kq:Nat) (x4_1:Bool),v4 = .bool x4_1∧aa (aT.j0 kq a0 x4_1=some r)∧aa (kq≤k)∧bR w wc)
 case first=>
  have H:=HC2.out
  clear HC2
  replace H:=bL H
  obtain ⟨H,-,c3b0,_⟩ | ⟨H,c3,c3b0,_⟩:=H
  · (first | rw [c3b0] | (simp only [ax,ay];rw [c3b0]) | skip)
    replace H:=aa.mk H
    go_wp2
    go_meet
    case rel=>exact ⟨_,_,aY,H,⟨le0⟩,bB⟩
  (first | rw [c3b0] | (simp only [ax,ay];rw [c3b0]) | skip)
  iterate 2
   replace H:=bL H
   obtain ⟨H,-,_,_⟩ | ⟨H,c4,_,_⟩:=H
   · replace H:=aa.mk H
     go_wp2
     go_meet
     case rel=>exact ⟨_,_,aY,H,⟨le0⟩,bB⟩
  iterate 2
   replace H:=bL H
   obtain ⟨H,-,_,_⟩ | ⟨H,c6,_,_⟩:=H
   · replace H:=aa.mk H
     go_wp2
     go_meet
     case rel=>exact ⟨_,_,aY,H,⟨le0⟩,bB⟩
  iterate 2
   replace H:=bL H
   obtain ⟨H,-,_,_⟩ | ⟨H,c8,_,_⟩:=H
   · replace H:=aa.mk H
     go_wp2
     go_meet
     case rel=>exact ⟨_,_,aY,H,⟨le0⟩,bB⟩
  iterate 2
   replace H:=bL H
   obtain ⟨H,-,_,_⟩ | ⟨H,c10,_,_⟩:=H
   · replace H:=aa.mk H
     go_wp2
     go_meet
     case rel=>exact ⟨_,_,aY,H,⟨le0⟩,bB⟩
  replace H:=aa.mk H
  go_wp2
  go_meet
  case rel=>exact ⟨_,_,aY,H,⟨le0⟩,bB⟩
 case rest=>
  clear HC2
  obtain ⟨kq,x4_1,rfl,HA,HJ1,⟨mc1,rfl⟩⟩:=hcut
  cases kq with
  | zero=>exact absurd HA.out (by simp [aT.j0])
  | succ kj1=>
   have H:=HA.out
   clear HA
   simp only [aT.j0] at H
   by_cases c12:x4_1=true
   · subst c12
     have H1:(some true)=some r:=by rw [if_pos rfl] at H;exact H
     clear H
     have H:=H1
     clear H1
     cases H
     go_wp2
     go_ret
     exact ⟨aY,bB⟩
   replace c12:=Bool.eq_false_iff.mpr c12
   subst c12
   have H1:(if a0=12 then (aT.j1 kj1 a0 (a0==12)) else (if a0=28 then (aT.j1 kj1 a0 (a0==28)) else (if a0=44 then (aT.j1 kj1 a0 (a0==44)) else (if a0=60 then (aT.j1 kj1 a0 (a0==60)) else (if a0=76 then (aT.j1 kj1 a0 (a0==76)) else (if a0=92 then (aT.j1 kj1 a0 (a0==92)) else (if a0=108 then (aT.j1 kj1 a0 (a0==108)) else (if a0=124 then (aT.j1 kj1 a0 (a0==124)) else (if a0=156 then (aT.j1 kj1 a0 (a0==156)) else (aT.j1 kj1 a0 (a0==172)))))))))))=some r:=by rw [if_neg (show ¬(false=true) by decide)] at H;exact H
   clear H
   have H:=H1
   clear H1
   have HC13:=aa.mk H
   clear H
   go_upto_if 15 with (fail)
   go_cut [15] (fun v15 wc=>∃ (kq:Nat) (x15_12:Bool),v15 = .bool x15_12∧aa (aT.j1 kq a0 x15_12=some r)∧aa (kq≤kj1)∧bR w wc)
   case first=>
    have H:=HC13.out
    clear HC13
    replace H:=bL H
    obtain ⟨H,-,c14b0,_⟩ | ⟨H,c14,c14b0,_⟩:=H
    · (first | rw [c14b0] | (simp only [ax,ay];rw [c14b0]) | skip)
      replace H:=aa.mk H
      go_wp2
      go_meet
      case rel=>exact ⟨_,_,aY,H,⟨by have:=HJ1.out;first | omega | exact Nat.le_refl _⟩,bB⟩
    (first | rw [c14b0] | (simp only [ax,ay];rw [c14b0]) | skip)
    iterate 2
     replace H:=bL H
     obtain ⟨H,-,_,_⟩ | ⟨H,c15,_,_⟩:=H
     · replace H:=aa.mk H
       go_wp2
       go_meet
       case rel=>exact ⟨_,_,aY,H,⟨by have:=HJ1.out;first | omega | exact Nat.le_refl _⟩,bB⟩
    iterate 2
     replace H:=bL H
     obtain ⟨H,-,_,_⟩ | ⟨H,c17,_,_⟩:=H
     · replace H:=aa.mk H
       go_wp2
       go_meet
       case rel=>exact ⟨_,_,aY,H,⟨by have:=HJ1.out;first | omega | exact Nat.le_refl _⟩,bB⟩
    iterate 2
     replace H:=bL H
     obtain ⟨H,-,_,_⟩ | ⟨H,c19,_,_⟩:=H
     · replace H:=aa.mk H
       go_wp2
       go_meet
       case rel=>exact ⟨_,_,aY,H,⟨by have:=HJ1.out;first | omega | exact Nat.le_refl _⟩,bB⟩
    iterate 2
     replace H:=bL H
     obtain ⟨H,-,_,_⟩ | ⟨H,c21,_,_⟩:=H
     · replace H:=aa.mk H
       go_wp2
       go_meet
       case rel=>exact ⟨_,_,aY,H,⟨by have:=HJ1.out;first | omega | exact Nat.le_refl _⟩,bB⟩
    replace H:=aa.mk H
    go_wp2
    go_meet
    case rel=>exact ⟨_,_,aY,H,⟨by have:=HJ1.out;first | omega | exact Nat.le_refl _⟩,bB⟩
   case rest=>
    clear HC13
    obtain ⟨kq,x15_12,rfl,HA,HJ12,⟨mc12,rfl⟩⟩:=hcut
    cases kq with
    | zero=>exact absurd HA.out (by simp [aT.j1])
    | succ kj12=>
     have H:=HA.out
     clear HA
     simp only [aT.j1] at H
     by_cases c23:x15_12=true
     · subst c23
       have H1:(some true)=some r:=by rw [if_pos rfl] at H;exact H
       clear H
       have H:=H1
       clear H1
       cases H
       go_wp2
       go_ret
       exact ⟨aY,bB⟩
     replace c23:=Bool.eq_false_iff.mpr c23
     subst c23
     have H1:(if a0=132 then (some true) else (some false))=some r:=by rw [if_neg (show ¬(false=true) by decide)] at H;exact H
     clear H
     have H:=H1
     clear H1
     replace H:=bL H
     obtain ⟨H,-,_,_⟩ | ⟨H,c24,_,_⟩:=H
     · cases H
       go_wp2
       go_ret
       exact ⟨aY,bB⟩
     cases H
     go_wp2
     go_ret
     exact ⟨aY,bB⟩
attribute [local go_sem] dE dG ed ek dm dn dF dH
mutual
def aG.j0:Nat→Int→Int→Bool→Option (Bool)
 | 0,_,_,_=>none
 | k+1,x0,x3,x4=>if x4=true then (some true) else (if x3=1 then (aG.j1 k x0 x3 (x3==1)) else (if x3=97 then (aG.j1 k x0 x3 (x3==97)) else (if x3=129 then (aG.j1 k x0 x3 (x3==129)) else (aG.j1 k x0 x3 (x3==177)))))
def aG.j1:Nat→Int→Int→Bool→Option (Bool)
 | 0,_,_,_=>none
 | k+1,x0,x3,x14=>if x14=true then (some true) else (if x3=2 then (aG.j2 k x0 (x3==2)) else (if x3=3 then (aG.j2 k x0 (x3==3)) else (if x3=6 then (aG.j2 k x0 (x3==6)) else (if x3=22 then (aG.j2 k x0 (x3==22)) else (if x3=7 then (aG.j2 k x0 (x3==7)) else (if x3=135 then (aG.j2 k x0 (x3==135)) else (aG.j2 k x0 (x3==5))))))))
def aG.j2:Nat→Int→Bool→Option (Bool)
 | 0,_,_=>none
 | k+1,x0,x19=>if x19=true then (some true) else ((aT.f k x0).bind fun t182=>(if t182=true then (some true) else ((bO.f k x0).bind fun t183=>(some t183))))
end
def aG.f (k:Nat) (a0:Int):Option (Bool):=if a0=0 then (aG.j0 k a0 a0 (a0==0)) else (if a0=32 then (aG.j0 k a0 a0 (a0==32)) else (if a0=40 then (aG.j0 k a0 a0 (a0==40)) else (if a0=48 then (aG.j0 k a0 a0 (a0==48)) else (if a0=64 then (aG.j0 k a0 a0 (a0==64)) else (if a0=72 then (aG.j0 k a0 a0 (a0==72)) else (if a0=80 then (aG.j0 k a0 a0 (a0==80)) else (if a0=96 then (aG.j0 k a0 a0 (a0==96)) else (aG.j0 k a0 a0 (a0==128)))))))))
theorem aG.calls (k:Nat) (a0:Int) (r:Bool) (w:World) (h:aG.f k a0=some r) :
 Calls Try.prog 143 #[.int .u16 a0] w fun e w'=>e = .returned (.bool r)∧bR w w':=by
 have H:(if a0=0 then (aG.j0 k a0 a0 (a0==0)) else (if a0=32 then (aG.j0 k a0 a0 (a0==32)) else (if a0=40 then (aG.j0 k a0 a0 (a0==40)) else (if a0=48 then (aG.j0 k a0 a0 (a0==48)) else (if a0=64 then (aG.j0 k a0 a0 (a0==64)) else (if a0=72 then (aG.j0 k a0 a0 (a0==72)) else (if a0=80 then (aG.j0 k a0 a0 (a0==80)) else (if a0=96 then (aG.j0 k a0 a0 (a0==96)) else (aG.j0 k a0 a0 (a0==128))))))))))=some r:=h
 clear h
 have HC2:=aa.mk H
 clear H
 go_enter Try.func143,Try.ntmps143
 go_upto_if 4 with (fail)
 go_cut [4] (fun v4 wc=>∃ (kq:Nat) (x4_1:Bool),v4 = .bool x4_1∧aa (aG.j0 kq a0 a0 x4_1=some r)∧aa (kq≤k)∧bR w wc)
 case first=>
  have H:=HC2.out
  clear HC2
  replace H:=bL H
  obtain ⟨H,-,c3b0,_⟩ | ⟨H,c3,c3b0,_⟩:=H
  · (first | rw [c3b0] | (simp only [ax,ay];rw [c3b0]) | skip)
    replace H:=aa.mk H
    go_wp2
    go_meet
    case rel=>exact ⟨_,_,aY,H,⟨le0⟩,bB⟩
  (first | rw [c3b0] | (simp only [ax,ay];rw [c3b0]) | skip)
  replace H:=bL H
  obtain ⟨H,-,_,_⟩ | ⟨H,c4,_,_⟩:=H
  · replace H:=aa.mk H
    go_wp2
    go_meet
    case rel=>exact ⟨_,_,aY,H,⟨le0⟩,bB⟩
  iterate 2
   replace H:=bL H
   obtain ⟨H,-,_,_⟩ | ⟨H,c5,_,_⟩:=H
   · replace H:=aa.mk H
     go_wp2
     go_meet
     case rel=>exact ⟨_,_,aY,H,⟨le0⟩,bB⟩
  iterate 2
   replace H:=bL H
   obtain ⟨H,-,_,_⟩ | ⟨H,c7,_,_⟩:=H
   · replace H:=aa.mk H
     go_wp2
     go_meet
     case rel=>exact ⟨_,_,aY,H,⟨le0⟩,bB⟩
  iterate 2
   replace H:=bL H
   obtain ⟨H,-,_,_⟩ | ⟨H,c9,_,_⟩:=H
   · replace H:=aa.mk H
     go_wp2
     go_meet
     case rel=>exact ⟨_,_,aY,H,⟨le0⟩,bB⟩
  replace H:=aa.mk H
  go_wp2
  go_meet
  case rel=>exact ⟨_,_,aY,H,⟨le0⟩,bB⟩
 case rest=>
  clear HC2
  obtain ⟨kq,x4_1,rfl,HA,HJ1,⟨mc1,rfl⟩⟩:=hcut
  cases kq with
  | zero=>exact absurd HA.out (by simp [aG.j0])
  | succ kj1=>
   have H:=HA.out
   clear HA
   simp only [aG.j0] at H
   by_cases c11:x4_1=true
   · subst c11
     have H1:(some true)=some r:=by rw [if_pos rfl] at H;exact H
     clear H
     have H:=H1
     clear H1
     cases H
     go_wp2
     go_ret
     exact ⟨aY,bB⟩
   replace c11:=Bool.eq_false_iff.mpr c11
   subst c11
   have H1:(if a0=1 then (aG.j1 kj1 a0 a0 (a0==1)) else (if a0=97 then (aG.j1 kj1 a0 a0 (a0==97)) else (if a0=129 then (aG.j1 kj1 a0 a0 (a0==129)) else (aG.j1 kj1 a0 a0 (a0==177)))))=some r:=by rw [if_neg (show ¬(false=true) by decide)] at H;exact H
   clear H
   have H:=H1
   clear H1
   have HC12:=aa.mk H
   clear H
   go_upto_if 14 with (fail)
   go_cut [14] (fun v14 wc=>∃ (kq:Nat) (x14_11:Bool),v14 = .bool x14_11∧aa (aG.j1 kq a0 a0 x14_11=some r)∧aa (kq≤kj1)∧bR w wc)
   case first=>
    have H:=HC12.out
    clear HC12
    replace H:=bL H
    obtain ⟨H,-,c13b0,_⟩ | ⟨H,c13,c13b0,_⟩:=H
    · (first | rw [c13b0] | (simp only [ax,ay];rw [c13b0]) | skip)
      replace H:=aa.mk H
      go_wp2
      go_meet
      case rel=>exact ⟨_,_,aY,H,⟨by have:=HJ1.out;first | omega | exact Nat.le_refl _⟩,bB⟩
    (first | rw [c13b0] | (simp only [ax,ay];rw [c13b0]) | skip)
    iterate 2
     replace H:=bL H
     obtain ⟨H,-,_,_⟩ | ⟨H,c14,_,_⟩:=H
     · replace H:=aa.mk H
       go_wp2
       go_meet
       case rel=>exact ⟨_,_,aY,H,⟨by have:=HJ1.out;first | omega | exact Nat.le_refl _⟩,bB⟩
    replace H:=aa.mk H
    go_wp2
    go_meet
    case rel=>exact ⟨_,_,aY,H,⟨by have:=HJ1.out;first | omega | exact Nat.le_refl _⟩,bB⟩
   case rest=>
    clear HC12
    obtain ⟨kq,x14_11,rfl,HA,HJ11,⟨mc11,rfl⟩⟩:=hcut
    cases kq with
    | zero=>exact absurd HA.out (by simp [aG.j1])
    | succ kj11=>
     have H:=HA.out
     clear HA
     simp only [aG.j1] at H
     by_cases c16:x14_11=true
     · subst c16
       have H1:(some true)=some r:=by rw [if_pos rfl] at H;exact H
       clear H
       have H:=H1
       clear H1
       cases H
       go_wp2
       go_ret
       exact ⟨aY,bB⟩
     replace c16:=Bool.eq_false_iff.mpr c16
     subst c16
     have H1:(if a0=2 then (aG.j2 kj11 a0 (a0==2)) else (if a0=3 then (aG.j2 kj11 a0 (a0==3)) else (if a0=6 then (aG.j2 kj11 a0 (a0==6)) else (if a0=22 then (aG.j2 kj11 a0 (a0==22)) else (if a0=7 then (aG.j2 kj11 a0 (a0==7)) else (if a0=135 then (aG.j2 kj11 a0 (a0==135)) else (aG.j2 kj11 a0 (a0==5))))))))=some r:=by rw [if_neg (show ¬(false=true) by decide)] at H;exact H
     clear H
     have H:=H1
     clear H1
     have HC17:=aa.mk H
     clear H
     go_upto_if 19 with (fail)
     go_cut [19] (fun v19 wc=>∃ (kq:Nat) (x19_16:Bool),v19 = .bool x19_16∧aa (aG.j2 kq a0 x19_16=some r)∧aa (kq≤kj11)∧bR w wc)
     case first=>
      have H:=HC17.out
      clear HC17
      replace H:=bL H
      obtain ⟨H,-,c18b0,_⟩ | ⟨H,c18,c18b0,_⟩:=H
      · (first | rw [c18b0] | (simp only [ax,ay];rw [c18b0]) | skip)
        replace H:=aa.mk H
        go_wp2
        go_meet
        case rel=>exact ⟨_,_,aY,H,⟨by have:=HJ1.out;have:=HJ11.out;first | omega | exact Nat.le_refl _⟩,bB⟩
      (first | rw [c18b0] | (simp only [ax,ay];rw [c18b0]) | skip)
      replace H:=bL H
      obtain ⟨H,-,_,_⟩ | ⟨H,c19,_,_⟩:=H
      · replace H:=aa.mk H
        go_wp2
        go_meet
        case rel=>exact ⟨_,_,aY,H,⟨by have:=HJ1.out;have:=HJ11.out;first | omega | exact Nat.le_refl _⟩,bB⟩
      iterate 2
       replace H:=bL H
       obtain ⟨H,-,_,_⟩ | ⟨H,c20,_,_⟩:=H
       · replace H:=aa.mk H
         go_wp2
         go_meet
         case rel=>exact ⟨_,_,aY,H,⟨by have:=HJ1.out;have:=HJ11.out;first | omega | exact Nat.le_refl _⟩,bB⟩
      iterate 2
       replace H:=bL H
       obtain ⟨H,-,_,_⟩ | ⟨H,c22,_,_⟩:=H
       · replace H:=aa.mk H
         go_wp2
         go_meet
         case rel=>exact ⟨_,_,aY,H,⟨by have:=HJ1.out;have:=HJ11.out;first | omega | exact Nat.le_refl _⟩,bB⟩
      replace H:=aa.mk H
      go_wp2
      go_meet
      case rel=>exact ⟨_,_,aY,H,⟨by have:=HJ1.out;have:=HJ11.out;first | omega | exact Nat.le_refl _⟩,bB⟩
     case rest=>
      clear HC17
      obtain ⟨kq,x19_16,rfl,HA,HJ16,⟨mc16,rfl⟩⟩:=hcut
      cases kq with
      | zero=>exact absurd HA.out (by simp [aG.j2])
      | succ kj16=>
       have H:=HA.out
       clear HA
       simp only [aG.j2] at H
       by_cases c24:x19_16=true
       · subst c24
         have H1:(some true)=some r:=by rw [if_pos rfl] at H;exact H
         clear H
         have H:=H1
         clear H1
         cases H
         go_wp2
         go_ret
         exact ⟨aY,bB⟩
       replace c24:=Bool.eq_false_iff.mpr c24
       subst c24
       have H1:((aT.f kj16 a0).bind fun t182=>(if t182=true then (some true) else ((bO.f kj16 a0).bind fun t183=>(some t183))))=some r:=by rw [if_neg (show ¬(false=true) by decide)] at H;exact H
       clear H
       have H:=H1
       clear H1
       replace H:=bnd H
       obtain ⟨t182,A25,H⟩:=H
       replace H:=iQ H
       obtain ⟨rfl,H⟩ | ⟨rfl,H⟩:=H
       · cases H
         go_wp2_with (go_at_call 163;(with_reducible refine (aT.calls _ _ _ _ A25.out).mono ?_);rintro e w' ⟨rfl,⟨nd,rfl⟩⟩)
         go_ret
         exact ⟨aY,bB⟩
       replace H:=bnd H
       obtain ⟨t183,A27,H⟩:=H
       cases H
       go_wp2_with (first | (go_at_call 163;(with_reducible refine (aT.calls _ _ _ _ A25.out).mono ?_);rintro e w' ⟨rfl,⟨nd,rfl⟩⟩) | (go_at_call 151;(with_reducible refine (bO.calls _ _ _ _ A27.out).mono ?_);rintro e w' ⟨rfl,⟨nd,rfl⟩⟩))
       go_ret
       exact ⟨aY,bB⟩
def bK.f (k:Nat) (a0:Int):Option (Int):=(aG.f k a0).bind fun t184=>(if t184=true then (some (wrap64 (Go.bits .and .u16 a0 7))) else (some (-1)))
theorem bK.calls (k:Nat) (a0:Int) (r:Int) (w:World) (h:bK.f k a0=some r) :
 Calls Try.prog 99 #[.int .u16 a0] w fun e w'=>e = .returned (.int .i64 r)∧bR w w':=by
 have H:((aG.f k a0).bind fun t184=>(if t184=true then (some (wrap64 (Go.bits .and .u16 a0 7))) else (some (-1))))=some r:=h
 clear h
 replace H:=bnd H
 obtain ⟨t184,A2,H⟩:=H
 replace H:=iQ H
 obtain ⟨rfl,H⟩ | ⟨rfl,H⟩:=H
 · cases H
   go_enter Try.func99,Try.ntmps99
   go_wp2_with (go_at_call 143;(with_reducible refine (aG.calls _ _ _ _ A2.out).mono ?_);rintro e w' ⟨rfl,⟨nd,rfl⟩⟩)
   go_ret
   exact ⟨aY,bB⟩
 cases H
 go_enter Try.func99,Try.ntmps99
 go_wp2_with (go_at_call 143;(with_reducible refine (aG.calls _ _ _ _ A2.out).mono ?_);rintro e w' ⟨rfl,⟨nd,rfl⟩⟩)
 go_ret
 exact ⟨aY,bB⟩
attribute [local go_sem] dE dG ed ek dm dn dF dH
mutual
def aN.j0:Nat→Int→Bool→Int→Int→Int→Int→Option (Bool)
 | 0,_,_,_,_,_,_=>none
 | k+1,x11,x12,x186000,x186001,x186002,x186003=>if x12=true then (some (decide (x186003<16))) else (if x11=52 then (aN.j1 k x11 (x11==52) x186000 x186001 x186002 x186003) else (aN.j1 k x11 (x11==148) x186000 x186001 x186002 x186003))
def aN.j1:Nat→Int→Bool→Int→Int→Int→Int→Option (Bool)
 | 0,_,_,_,_,_,_=>none
 | k+1,x11,x20,x186000,x186001,x186002,x186003=>if x20=true then (some (x186003 != 0)) else (if x11=100 then (some (decide (x186003≤31))) else (if x11=116 then (some (decide (x186003≤31))) else (some true)))
end
def aN.f (k:Nat) (a0_0:Int) (a0_1:Int) (a0_2:Int) (a0_3:Int):Option (Bool):=(bK.f k a0_0).bind fun t186=>(if t186=(-1) then (some false) else (if t186=5 then (some false) else (if t186=6 then (some false) else (if a0_0=2 then (aN.j0 k a0_0 (a0_0==2) a0_0 a0_1 a0_2 a0_3) else (if a0_0=3 then (aN.j0 k a0_0 (a0_0==3) a0_0 a0_1 a0_2 a0_3) else (if a0_0=96 then (aN.j0 k a0_0 (a0_0==96) a0_0 a0_1 a0_2 a0_3) else (aN.j0 k a0_0 (a0_0==97) a0_0 a0_1 a0_2 a0_3)))))))
theorem aN.calls (k:Nat) (a0_0:Int) (a0_1:Int) (a0_2:Int) (a0_3:Int) (r:Bool) (w:World) (h:aN.f k a0_0 a0_1 a0_2 a0_3=some r) :
 Calls Try.prog 123 #[.agg #[.int .u16 a0_0,.int .u8 a0_1,.int .u8 a0_2,.int .u32 a0_3]] w fun e w'=>e = .returned (.bool r)∧Below w.heap.size w w':=by
 have hu45:=Try.underlying45
 have HB:=aa.mk (Below.refl w.heap.size w)
 have H:((bK.f k a0_0).bind fun t186=>(if t186=(-1) then (some false) else (if t186=5 then (some false) else (if t186=6 then (some false) else (if a0_0=2 then (aN.j0 k a0_0 (a0_0==2) a0_0 a0_1 a0_2 a0_3) else (if a0_0=3 then (aN.j0 k a0_0 (a0_0==3) a0_0 a0_1 a0_2 a0_3) else (if a0_0=96 then (aN.j0 k a0_0 (a0_0==96) a0_0 a0_1 a0_2 a0_3) else (aN.j0 k a0_0 (a0_0==97) a0_0 a0_1 a0_2 a0_3))))))))=some r:=h
 clear h
 replace H:=bnd H
 obtain ⟨t186,A2,H⟩:=H
 replace H:=bL H
 obtain ⟨H,-,_,_⟩ | ⟨H,c3,_,_⟩:=H
 · cases H
   go_enter Try.func123,Try.ntmps123
   go_wp2_with (first | ((with_reducible refine bH (N:=1) rfl ?_);refine fF (N:=1) (cs:=#[.int .u16 a0_0,.int .u8 a0_1,.int .u8 a0_2,.int .u32 a0_3]) (t:=45) ?_;intro gb185 hg w4 hbox hb;have GE185:=geN HB hg;have BK185:=aa.mk hbox;replace HB:=di HB hb;clear hb hbox hg;obtain ⟨_,_,_,_,_,_,_,_⟩:=cz4 BK185) | (go_at_call 99;(with_reducible refine (bK.calls _ _ _ _ A2.out).mono ?_);rintro e w' ⟨rfl,⟨nd,rfl⟩⟩))
   go_ret
   exact ⟨dw,bI⟩
 iterate 2
  replace H:=bL H
  obtain ⟨H,-,_,_⟩ | ⟨H,c6,_,_⟩:=H
  · cases H
    go_enter Try.func123,Try.ntmps123
    go_wp2_with (first | ((with_reducible refine bH (N:=1) rfl ?_);refine fF (N:=1) (cs:=#[.int .u16 a0_0,.int .u8 a0_1,.int .u8 a0_2,.int .u32 a0_3]) (t:=45) ?_;intro gb185 hg w7 hbox hb;have GE185:=geN HB hg;have BK185:=aa.mk hbox;replace HB:=di HB hb;clear hb hbox hg;obtain ⟨_,_,_,_,_,_,_,_⟩:=cz4 BK185) | (go_at_call 99;(with_reducible refine (bK.calls _ _ _ _ A2.out).mono ?_);rintro e w' ⟨rfl,⟨nd,rfl⟩⟩))
    go_ret
    exact ⟨dw,bI⟩
 have HC12:=aa.mk H
 clear H
 go_enter Try.func123,Try.ntmps123
 go_upto_if 12 with (first | ((with_reducible refine bH (N:=1) rfl ?_);refine fF (N:=1) (cs:=#[.int .u16 a0_0,.int .u8 a0_1,.int .u8 a0_2,.int .u32 a0_3]) (t:=45) ?_;intro gb185 hg w13 hbox hb;have GE185:=geN HB hg;have BK185:=aa.mk hbox;replace HB:=di HB hb;clear hb hbox hg;obtain ⟨_,_,_,_,_,_,_,_⟩:=cz4 BK185) | (go_at_call 99;(with_reducible refine (bK.calls _ _ _ _ A2.out).mono ?_);rintro e w' ⟨rfl,⟨nd,rfl⟩⟩))
 (try simp only [Act.put,List.setIfInBounds_toArray,List.set_cons_zero,List.set_cons_succ])
 go_cut [12] (fun v12 wc=>∃ (kq:Nat) (x12_11:Bool),v12 = .bool x12_11∧aa (aN.j0 kq a0_0 x12_11 a0_0 a0_1 a0_2 a0_3=some r)∧aa (kq≤k)∧aa (wc.heap[gb185]?=some (.cells #[.int .u16 a0_0,.int .u8 a0_1,.int .u8 a0_2,.int .u32 a0_3] 45 (0,0)))∧aa (Below w.heap.size w wc))
 case first=>
  have H:=HC12.out
  clear HC12
  replace H:=bL H
  obtain ⟨H,-,c15b0,_⟩ | ⟨H,c15,c15b0,_⟩:=H
  · (first | rw [c15b0] | (simp only [ax,ay];rw [c15b0]) | skip)
    replace H:=aa.mk H
    go_wp2
    go_meet
    case rel=>exact ⟨_,_,aY,H,⟨le0⟩,⟨gT⟩,⟨bI⟩⟩
  (first | rw [c15b0] | (simp only [ax,ay];rw [c15b0]) | skip)
  iterate 2
   replace H:=bL H
   obtain ⟨H,-,_,_⟩ | ⟨H,c16,_,_⟩:=H
   · replace H:=aa.mk H
     go_wp2
     go_meet
     case rel=>exact ⟨_,_,aY,H,⟨le0⟩,⟨gT⟩,⟨bI⟩⟩
  replace H:=aa.mk H
  go_wp2
  go_meet
  case rel=>exact ⟨_,_,aY,H,⟨le0⟩,⟨gT⟩,⟨bI⟩⟩
 case rest=>
  clear HC12
  obtain ⟨kq,x12_11,rfl,HA,HJ11,BK185,HB⟩:=hcut
  cases kq with
  | zero=>exact absurd HA.out (by simp [aN.j0])
  | succ kj11=>
   have H:=HA.out
   clear HA
   simp only [aN.j0] at H
   by_cases c18:x12_11=true
   · subst c18
     have H1:(some (decide (a0_3<16)))=some r:=by rw [if_pos rfl] at H;exact H
     clear H
     have H:=H1
     clear H1
     cases H
     obtain ⟨_,_,_,_,_,_,_,_⟩:=cz4 BK185
     go_wp2
     go_ret
     exact ⟨dw,bI⟩
   replace c18:=Bool.eq_false_iff.mpr c18
   subst c18
   have H1:(if a0_0=52 then (aN.j1 kj11 a0_0 (a0_0==52) a0_0 a0_1 a0_2 a0_3) else (aN.j1 kj11 a0_0 (a0_0==148) a0_0 a0_1 a0_2 a0_3))=some r:=by rw [if_neg (show ¬(false=true) by decide)] at H;exact H
   clear H
   have H:=H1
   clear H1
   have HC20:=aa.mk H
   clear H
   go_upto_if 20 with (fail)
   go_cut [20] (fun v20 wc=>∃ (kq:Nat) (x20_19:Bool),v20 = .bool x20_19∧aa (aN.j1 kq a0_0 x20_19 a0_0 a0_1 a0_2 a0_3=some r)∧aa (kq≤kj11)∧aa (wc.heap[gb185]?=some (.cells #[.int .u16 a0_0,.int .u8 a0_1,.int .u8 a0_2,.int .u32 a0_3] 45 (0,0)))∧aa (Below w.heap.size w wc))
   case first=>
    have H:=HC20.out
    clear HC20
    replace H:=bL H
    obtain ⟨H,-,c21b0,_⟩ | ⟨H,c21,c21b0,_⟩:=H
    · (first | rw [c21b0] | (simp only [ax,ay];rw [c21b0]) | skip)
      replace H:=aa.mk H
      go_wp2
      go_meet
      case rel=>exact ⟨_,_,aY,H,⟨by have:=HJ11.out;first | omega | exact Nat.le_refl _⟩,⟨gT⟩,⟨bI⟩⟩
    (first | rw [c21b0] | (simp only [ax,ay];rw [c21b0]) | skip)
    replace H:=aa.mk H
    go_wp2
    go_meet
    case rel=>exact ⟨_,_,aY,H,⟨by have:=HJ11.out;first | omega | exact Nat.le_refl _⟩,⟨gT⟩,⟨bI⟩⟩
   case rest=>
    clear HC20
    obtain ⟨kq,x20_19,rfl,HA,HJ19,BK185,HB⟩:=hcut
    cases kq with
    | zero=>exact absurd HA.out (by simp [aN.j1])
    | succ kj19=>
     have H:=HA.out
     clear HA
     simp only [aN.j1] at H
     by_cases c22:x20_19=true
     · subst c22
       have H1:(some (a0_3 != 0))=some r:=by rw [if_pos rfl] at H;exact H
       clear H
       have H:=H1
       clear H1
       cases H
       obtain ⟨_,_,_,_,_,_,_,_⟩:=cz4 BK185
       go_wp2
       go_ret
       exact ⟨dw,bI⟩
     replace c22:=Bool.eq_false_iff.mpr c22
     subst c22
     have H1:(if a0_0=100 then (some (decide (a0_3≤31))) else (if a0_0=116 then (some (decide (a0_3≤31))) else (some true)))=some r:=by rw [if_neg (show ¬(false=true) by decide)] at H;exact H
     clear H
     have H:=H1
     clear H1
     iterate 2
      replace H:=bL H
      obtain ⟨H,-,_,_⟩ | ⟨H,c24,_,_⟩:=H
      · cases H
        obtain ⟨_,_,_,_,_,_,_,_⟩:=cz4 BK185
        go_wp2
        go_ret
        exact ⟨dw,bI⟩
     cases H
     go_wp2
     go_ret
     exact ⟨dw,bI⟩
def bE.j0:Nat→Int→Bool→Option (Bool)
 | 0,_,_=>none
 | k+1,x0,x4=>if x4=true then (some false) else ((aT.f k x0).bind fun t187=>(if t187=true then (some ((Go.bits .and .u16 x0 8)==0)) else ((bO.f k x0).bind fun t188=>(if t188=true then (some ((Go.bits .and .u16 x0 8)==0)) else (some true)))))
def bE.f (k:Nat) (a0:Int):Option (Bool):=if a0=128 then (bE.j0 k a0 (a0==128)) else (if a0=129 then (bE.j0 k a0 (a0==129)) else (if a0=132 then (bE.j0 k a0 (a0==132)) else (if a0=22 then (bE.j0 k a0 (a0==22)) else (if a0=7 then (bE.j0 k a0 (a0==7)) else (bE.j0 k a0 (a0==135))))))
theorem bE.calls (k:Nat) (a0:Int) (r:Bool) (w:World) (h:bE.f k a0=some r) :
 Calls Try.prog 150 #[.int .u16 a0] w fun e w'=>e = .returned (.bool r)∧bR w w':=by
 have H:(if a0=128 then (bE.j0 k a0 (a0==128)) else (if a0=129 then (bE.j0 k a0 (a0==129)) else (if a0=132 then (bE.j0 k a0 (a0==132)) else (if a0=22 then (bE.j0 k a0 (a0==22)) else (if a0=7 then (bE.j0 k a0 (a0==7)) else (bE.j0 k a0 (a0==135)))))))=some r:=h
 clear h
 have HC2:=aa.mk H
 clear H
 go_enter Try.func150,Try.ntmps150
 go_upto_if 4 with (fail)
 go_cut [4] (fun v4 wc=>∃ (kq:Nat) (x4_1:Bool),v4 = .bool x4_1∧aa (bE.j0 kq a0 x4_1=some r)∧aa (kq≤k)∧bR w wc)
 case first=>
  have H:=HC2.out
  clear HC2
  replace H:=bL H
  obtain ⟨H,-,c3b0,_⟩ | ⟨H,c3,c3b0,_⟩:=H
  · (first | rw [c3b0] | (simp only [ax,ay];rw [c3b0]) | skip)
    replace H:=aa.mk H
    go_wp2
    go_meet
    case rel=>exact ⟨_,_,aY,H,⟨le0⟩,bB⟩
  (first | rw [c3b0] | (simp only [ax,ay];rw [c3b0]) | skip)
  iterate 2
   replace H:=bL H
   obtain ⟨H,-,_,_⟩ | ⟨H,c4,_,_⟩:=H
   · replace H:=aa.mk H
     go_wp2
     go_meet
     case rel=>exact ⟨_,_,aY,H,⟨le0⟩,bB⟩
  iterate 2
   replace H:=bL H
   obtain ⟨H,-,_,_⟩ | ⟨H,c6,_,_⟩:=H
   · replace H:=aa.mk H
     go_wp2
     go_meet
     case rel=>exact ⟨_,_,aY,H,⟨le0⟩,bB⟩
  replace H:=aa.mk H
  go_wp2
  go_meet
  case rel=>exact ⟨_,_,aY,H,⟨le0⟩,bB⟩
 case rest=>
  clear HC2
  obtain ⟨kq,x4_1,rfl,HA,HJ1,⟨mc1,rfl⟩⟩:=hcut
  cases kq with
  | zero=>exact absurd HA.out (by simp [bE.j0])
  | succ kj1=>
   have H:=HA.out
   clear HA
   simp only [bE.j0] at H
   by_cases c8:x4_1=true
   · subst c8
     have H1:(some false)=some r:=by rw [if_pos rfl] at H;exact H
     clear H
     have H:=H1
     clear H1
     cases H
     go_wp2
     go_ret
     exact ⟨aY,bB⟩
   replace c8:=Bool.eq_false_iff.mpr c8
   subst c8
   have H1:((aT.f kj1 a0).bind fun t187=>(if t187=true then (some ((Go.bits .and .u16 a0 8)==0)) else ((bO.f kj1 a0).bind fun t188=>(if t188=true then (some ((Go.bits .and .u16 a0 8)==0)) else (some true)))))=some r:=by rw [if_neg (show ¬(false=true) by decide)] at H;exact H
   clear H
   have H:=H1
   clear H1
   replace H:=bnd H
   obtain ⟨t187,A9,H⟩:=H
   replace H:=iQ H
   obtain ⟨rfl,H⟩ | ⟨rfl,H⟩:=H
   · cases H
     go_wp2_with (go_at_call 163;(with_reducible refine (aT.calls _ _ _ _ A9.out).mono ?_);rintro e w' ⟨rfl,⟨nd,rfl⟩⟩)
     go_ret
     exact ⟨aY,bB⟩
   replace H:=bnd H
   obtain ⟨t188,A11,H⟩:=H
   replace H:=iQ H
   obtain ⟨rfl,H⟩ | ⟨rfl,H⟩:=H
   · cases H
     go_wp2_with (first | (go_at_call 163;(with_reducible refine (aT.calls _ _ _ _ A9.out).mono ?_);rintro e w' ⟨rfl,⟨nd,rfl⟩⟩) | (go_at_call 151;(with_reducible refine (bO.calls _ _ _ _ A11.out).mono ?_);rintro e w' ⟨rfl,⟨nd,rfl⟩⟩))
     go_ret
     exact ⟨aY,bB⟩
   cases H
   go_wp2_with (first | (go_at_call 163;(with_reducible refine (aT.calls _ _ _ _ A9.out).mono ?_);rintro e w' ⟨rfl,⟨nd,rfl⟩⟩) | (go_at_call 151;(with_reducible refine (bO.calls _ _ _ _ A11.out).mono ?_);rintro e w' ⟨rfl,⟨nd,rfl⟩⟩))
   go_ret
   exact ⟨aY,bB⟩
def fH.f (a0:Int):Option (Bool):=if a0=32 then (some true) else (if a0=40 then (some true) else (if a0=48 then (some true) else (if a0=64 then (some true) else (if a0=72 then (some true) else (if a0=80 then (some true) else (if a0=177 then (some true) else (if a0=60 then (some true) else (if a0=156 then (some true) else (some false)))))))))
theorem fH.calls (a0:Int) (r:Bool) (w:World) (h:fH.f a0=some r) :
 Calls Try.prog 152 #[.int .u16 a0] w fun e w'=>e = .returned (.bool r)∧bR w w':=by
 have H:(if a0=32 then (some true) else (if a0=40 then (some true) else (if a0=48 then (some true) else (if a0=64 then (some true) else (if a0=72 then (some true) else (if a0=80 then (some true) else (if a0=177 then (some true) else (if a0=60 then (some true) else (if a0=156 then (some true) else (some false))))))))))=some r:=h
 clear h
 replace H:=bL H
 obtain ⟨H,-,_,_⟩ | ⟨H,c2,_,_⟩:=H
 · cases H
   go_enter Try.func152,Try.ntmps152
   go_wp2
   go_ret
   exact ⟨aY,bB⟩
 iterate 2
  replace H:=bL H
  obtain ⟨H,-,_,_⟩ | ⟨H,c3,_,_⟩:=H
  · cases H
    go_enter Try.func152,Try.ntmps152
    go_wp2
    go_ret
    exact ⟨aY,bB⟩
 iterate 2
  replace H:=bL H
  obtain ⟨H,-,_,_⟩ | ⟨H,c5,_,_⟩:=H
  · cases H
    go_enter Try.func152,Try.ntmps152
    go_wp2
    go_ret
    exact ⟨aY,bB⟩
 iterate 2
  replace H:=bL H
  obtain ⟨H,-,_,_⟩ | ⟨H,c7,_,_⟩:=H
  · cases H
    go_enter Try.func152,Try.ntmps152
    go_wp2
    go_ret
    exact ⟨aY,bB⟩
 iterate 2
  replace H:=bL H
  obtain ⟨H,-,_,_⟩ | ⟨H,c9,_,_⟩:=H
  · cases H
    go_enter Try.func152,Try.ntmps152
    go_wp2
    go_ret
    exact ⟨aY,bB⟩
 cases H
 go_enter Try.func152,Try.ntmps152
 go_wp2
 go_ret
 exact ⟨aY,bB⟩
def dW.f (k:Nat) (a0:Int):Option (Bool × Bool × Bool):=(aG.f k a0).bind fun t189=>(if t189=true then ((bE.f k a0).bind fun t190=>((bO.f k a0).bind fun t191=>((fH.f a0).bind fun t192=>(some (t190,t191,t192))))) else (some (false,false,false)))
theorem dW.calls (k:Nat) (a0:Int) (r1:Bool) (r2:Bool) (r3:Bool) (w:World) (h:dW.f k a0=some (r1,r2,r3)) :
 Calls Try.prog 100 #[.int .u16 a0] w fun e w'=>e = .returned (.tuple #[.bool r1,.bool r2,.bool r3])∧bR w w':=by
 have H:((aG.f k a0).bind fun t189=>(if t189=true then ((bE.f k a0).bind fun t190=>((bO.f k a0).bind fun t191=>((fH.f a0).bind fun t192=>(some (t190,t191,t192))))) else (some (false,false,false))))=some (r1,r2,r3):=h
 clear h
 replace H:=bnd H
 obtain ⟨t189,A2,H⟩:=H
 replace H:=iQ H
 obtain ⟨rfl,H⟩ | ⟨rfl,H⟩:=H
 · replace H:=bnd H
   obtain ⟨t190,A4,H⟩:=H
   replace H:=bnd H
   obtain ⟨t191,A5,H⟩:=H
   replace H:=bnd H
   obtain ⟨t192,A6,H⟩:=H
   obtain ⟨rfl,rfl,rfl⟩:=so3 H
   go_enter Try.func100,Try.ntmps100
   go_wp2_with (first | (go_at_call 143;(with_reducible refine (aG.calls _ _ _ _ A2.out).mono ?_);rintro e w' ⟨rfl,⟨nd,rfl⟩⟩) | (go_at_call 150;(with_reducible refine (bE.calls _ _ _ _ A4.out).mono ?_);rintro e w' ⟨rfl,⟨nd,rfl⟩⟩) | (go_at_call 151;(with_reducible refine (bO.calls _ _ _ _ A5.out).mono ?_);rintro e w' ⟨rfl,⟨nd,rfl⟩⟩) | (go_at_call 152;(with_reducible refine (fH.calls _ _ _ A6.out).mono ?_);rintro e w' ⟨rfl,⟨nd,rfl⟩⟩))
   go_ret3
   exact ⟨aY,bB⟩
 obtain ⟨rfl,rfl,rfl⟩:=so3 H
 go_enter Try.func100,Try.ntmps100
 go_wp2_with (go_at_call 143;(with_reducible refine (aG.calls _ _ _ _ A2.out).mono ?_);rintro e w' ⟨rfl,⟨nd,rfl⟩⟩)
 go_ret3
 exact ⟨aY,bB⟩
attribute [local go_sem] dE dG ed ek dm dn dF dH
attribute [local go_sem high] eqA45
def dM.f (k:Nat) (a0_0:Int) (a0_1:Int) (a0_2:Int) (a0_3:Int):Option (Bool):=(dW.f k a0_0).bind fun bt194=>(if a0_1=0 then (if a0_2=0 then (if bt194.1=true then (some true) else (some (a0_3==0))) else (some false)) else (some false))
theorem dM.calls (k:Nat) (a0_0:Int) (a0_1:Int) (a0_2:Int) (a0_3:Int) (r:Bool) (w:World) (h:dM.f k a0_0 a0_1 a0_2 a0_3=some r) :
 Calls Try.prog 158 #[.agg #[.int .u16 a0_0,.int .u8 a0_1,.int .u8 a0_2,.int .u32 a0_3]] w fun e w'=>e = .returned (.bool r)∧Below w.heap.size w w':=by
 have hu45:=Try.underlying45
 have HB:=aa.mk (Below.refl w.heap.size w)
 have H:((dW.f k a0_0).bind fun bt194=>(if a0_1=0 then (if a0_2=0 then (if bt194.1=true then (some true) else (some (a0_3==0))) else (some false)) else (some false)))=some r:=h
 clear h
 replace H:=Option.bind_eq_some_iff.mp H
 obtain ⟨⟨t194,t195,t196⟩,A20,H⟩:=H
 replace H:(if a0_1=0 then (if a0_2=0 then (if t194=true then (some true) else (some (a0_3==0))) else (some false)) else (some false))=some r:=H
 have A2:=aa.mk A20
 clear A20
 replace H:=bL H
 obtain ⟨H,-,_,_⟩ | ⟨H,c3,_,_⟩:=H
 · replace H:=bL H
   obtain ⟨H,-,_,_⟩ | ⟨H,c4,_,_⟩:=H
   · replace H:=iQ H
     obtain ⟨rfl,H⟩ | ⟨rfl,H⟩:=H
     · cases H
       go_enter Try.func158,Try.ntmps158
       go_wp2_with (first | ((with_reducible refine bH (N:=1) rfl ?_);refine fF (N:=1) (cs:=#[.int .u16 a0_0,.int .u8 a0_1,.int .u8 a0_2,.int .u32 a0_3]) (t:=45) ?_;intro gb193 hg w6 hbox hb;have GE193:=geN HB hg;have BK193:=aa.mk hbox;replace HB:=di HB hb;clear hb hbox hg;obtain ⟨_,_,_,_,_,_,_,_⟩:=cz4 BK193) | (go_at_call 100;(with_reducible refine (dW.calls _ _ _ _ _ _ A2.out).mono ?_);rintro e w' ⟨rfl,⟨nd,rfl⟩⟩))
       go_ret
       exact ⟨dw,bI⟩
     cases H
     go_enter Try.func158,Try.ntmps158
     go_wp2_with (first | ((with_reducible refine bH (N:=1) rfl ?_);refine fF (N:=1) (cs:=#[.int .u16 a0_0,.int .u8 a0_1,.int .u8 a0_2,.int .u32 a0_3]) (t:=45) ?_;intro gb193 hg w8 hbox hb;have GE193:=geN HB hg;have BK193:=aa.mk hbox;replace HB:=di HB hb;clear hb hbox hg;obtain ⟨_,_,_,_,_,_,_,_⟩:=cz4 BK193) | (go_at_call 100;(with_reducible refine (dW.calls _ _ _ _ _ _ A2.out).mono ?_);rintro e w' ⟨rfl,⟨nd,rfl⟩⟩))
     go_ret
     exact ⟨dw,bI⟩
   cases H
   go_enter Try.func158,Try.ntmps158
   go_wp2_with (first | ((with_reducible refine bH (N:=1) rfl ?_);refine fF (N:=1) (cs:=#[.int .u16 a0_0,.int .u8 a0_1,.int .u8 a0_2,.int .u32 a0_3]) (t:=45) ?_;intro gb193 hg w10 hbox hb;have GE193:=geN HB hg;have BK193:=aa.mk hbox;replace HB:=di HB hb;clear hb hbox hg;obtain ⟨_,_,_,_,_,_,_,_⟩:=cz4 BK193) | (go_at_call 100;(with_reducible refine (dW.calls _ _ _ _ _ _ A2.out).mono ?_);rintro e w' ⟨rfl,⟨nd,rfl⟩⟩))
   go_ret
   exact ⟨dw,bI⟩
 cases H
 go_enter Try.func158,Try.ntmps158
 go_wp2_with (first | ((with_reducible refine bH (N:=1) rfl ?_);refine fF (N:=1) (cs:=#[.int .u16 a0_0,.int .u8 a0_1,.int .u8 a0_2,.int .u32 a0_3]) (t:=45) ?_;intro gb193 hg w12 hbox hb;have GE193:=geN HB hg;have BK193:=aa.mk hbox;replace HB:=di HB hb;clear hb hbox hg;obtain ⟨_,_,_,_,_,_,_,_⟩:=cz4 BK193) | (go_at_call 100;(with_reducible refine (dW.calls _ _ _ _ _ _ A2.out).mono ?_);rintro e w' ⟨rfl,⟨nd,rfl⟩⟩))
 go_ret
 exact ⟨dw,bI⟩
def fo.f (k:Nat) (l0_0:List (S45)) (a0_1:Int) (a0_2:Int) (a0_3:Int) (a0_4:Int) (a0_5:Int) (a0_6:Int) (a0_7:Int):Option (Bool):=if a0_1=1 then ((bK.f k a0_2).bind fun t198=>(if t198=6 then ((dM.f k a0_2 a0_3 a0_4 a0_5).bind fun t199=>(if t199=true then (if a0_6=0 then (some (a0_7==0)) else (some false)) else (some false))) else (some false))) else (if a0_1=2 then (if (a0_2==0&&(a0_3==0&&(a0_4==0&&(a0_5==0))))=true then (some (a0_7==0)) else (some false)) else (if a0_1=3 then ((bK.f k a0_2).bind fun t200=>(if t200=5 then (if a0_2=5 then (some false) else ((dM.f k a0_2 a0_3 a0_4 a0_5).bind fun t201=>(some t201))) else (some false))) else (some false)))
theorem fo.calls (k:Nat) (A0_0:Option Addr) (c0_0:Nat) (l0_0:List (S45)) (a0_1:Int) (a0_2:Int) (a0_3:Int) (a0_4:Int) (a0_5:Int) (a0_6:Int) (a0_7:Int) (r:Bool) (w:World) (hr0_0:Kd.C k45 w A0_0 l0_0.length l0_0) (hc0_0:l0_0.length≤c0_0) (h:fo.f k l0_0 a0_1 a0_2 a0_3 a0_4 a0_5 a0_6 a0_7=some r) :
 Calls Try.prog 124 #[.agg #[.slice A0_0 l0_0.length c0_0,.int .i64 a0_1,.int .u16 a0_2,.int .u8 a0_3,.int .u8 a0_4,.int .u32 a0_5,.int .i64 a0_6,.int .i64 a0_7]] w fun e w'=>e = .returned (.bool r)∧Below w.heap.size w w':=by
 have hu47:=Try.underlying47
 have hu45:=Try.underlying45
 have HR0_0:=aa.mk hr0_0
 have HC0_0:=aa.mk hc0_0
 clear hr0_0 hc0_0
 have HB:=aa.mk (Below.refl w.heap.size w)
 have H:(if a0_1=1 then ((bK.f k a0_2).bind fun t198=>(if t198=6 then ((dM.f k a0_2 a0_3 a0_4 a0_5).bind fun t199=>(if t199=true then (if a0_6=0 then (some (a0_7==0)) else (some false)) else (some false))) else (some false))) else (if a0_1=2 then (if (a0_2==0&&(a0_3==0&&(a0_4==0&&(a0_5==0))))=true then (some (a0_7==0)) else (some false)) else (if a0_1=3 then ((bK.f k a0_2).bind fun t200=>(if t200=5 then (if a0_2=5 then (some false) else ((dM.f k a0_2 a0_3 a0_4 a0_5).bind fun t201=>(some t201))) else (some false))) else (some false))))=some r:=h
 clear h
 replace H:=bL H
 obtain ⟨H,-,_,_⟩ | ⟨H,c2,_,_⟩:=H
 · replace H:=bnd H
   obtain ⟨t198,A3,H⟩:=H
   replace H:=bL H
   obtain ⟨H,-,_,_⟩ | ⟨H,c4,_,_⟩:=H
   · replace H:=bnd H
     obtain ⟨t199,A5,H⟩:=H
     replace H:=iQ H
     obtain ⟨rfl,H⟩ | ⟨rfl,H⟩:=H
     · replace H:=bL H
       obtain ⟨H,-,_,_⟩ | ⟨H,c7,_,_⟩:=H
       · cases H
         go_enter Try.func124,Try.ntmps124
         go_wp2_with (first | ((with_reducible refine bH (N:=1) rfl ?_);refine fF (N:=1) (cs:=#[.slice A0_0 l0_0.length c0_0,.int .i64 a0_1,.int .u16 a0_2,.int .u8 a0_3,.int .u8 a0_4,.int .u32 a0_5,.int .i64 a0_6,.int .i64 a0_7]) (t:=47) ?_;intro gb197 hg w8 hbox hb;have GE197:=geN HB hg;have BK197:=aa.mk hbox;replace HB:=di HB hb;clear hb hbox hg;obtain ⟨_,_,_,_,_,_,_,_,_,_,_,_,_,_,_,_⟩:=cz8 BK197) | (go_at_call 99;(with_reducible refine (bK.calls _ _ _ _ A3.out).mono ?_);rintro e w' ⟨rfl,⟨nd,rfl⟩⟩) | (go_at_call 158;(with_reducible refine (dM.calls _ _ _ _ _ _ _ A5.out).mono ?_);rintro e w10 ⟨rfl,hb⟩;replace BK197:=lG BK197 hb;replace HB:=di HB hb;obtain ⟨_,_,_,_,_,_,_,_,_,_,_,_,_,_,_,_⟩:=cz8 BK197))
         go_ret
         exact ⟨dw,bI⟩
       cases H
       go_enter Try.func124,Try.ntmps124
       go_wp2_with (first | ((with_reducible refine bH (N:=1) rfl ?_);refine fF (N:=1) (cs:=#[.slice A0_0 l0_0.length c0_0,.int .i64 a0_1,.int .u16 a0_2,.int .u8 a0_3,.int .u8 a0_4,.int .u32 a0_5,.int .i64 a0_6,.int .i64 a0_7]) (t:=47) ?_;intro gb197 hg w12 hbox hb;have GE197:=geN HB hg;have BK197:=aa.mk hbox;replace HB:=di HB hb;clear hb hbox hg;obtain ⟨_,_,_,_,_,_,_,_,_,_,_,_,_,_,_,_⟩:=cz8 BK197) | (go_at_call 99;(with_reducible refine (bK.calls _ _ _ _ A3.out).mono ?_);rintro e w' ⟨rfl,⟨nd,rfl⟩⟩) | (go_at_call 158;(with_reducible refine (dM.calls _ _ _ _ _ _ _ A5.out).mono ?_);rintro e w14 ⟨rfl,hb⟩;replace BK197:=lG BK197 hb;replace HB:=di HB hb;obtain ⟨_,_,_,_,_,_,_,_,_,_,_,_,_,_,_,_⟩:=cz8 BK197))
       go_ret
       exact ⟨dw,bI⟩
     cases H
     go_enter Try.func124,Try.ntmps124
     go_wp2_with (first | ((with_reducible refine bH (N:=1) rfl ?_);refine fF (N:=1) (cs:=#[.slice A0_0 l0_0.length c0_0,.int .i64 a0_1,.int .u16 a0_2,.int .u8 a0_3,.int .u8 a0_4,.int .u32 a0_5,.int .i64 a0_6,.int .i64 a0_7]) (t:=47) ?_;intro gb197 hg w16 hbox hb;have GE197:=geN HB hg;have BK197:=aa.mk hbox;replace HB:=di HB hb;clear hb hbox hg;obtain ⟨_,_,_,_,_,_,_,_,_,_,_,_,_,_,_,_⟩:=cz8 BK197) | (go_at_call 99;(with_reducible refine (bK.calls _ _ _ _ A3.out).mono ?_);rintro e w' ⟨rfl,⟨nd,rfl⟩⟩) | (go_at_call 158;(with_reducible refine (dM.calls _ _ _ _ _ _ _ A5.out).mono ?_);rintro e w18 ⟨rfl,hb⟩;replace BK197:=lG BK197 hb;replace HB:=di HB hb))
     go_ret
     exact ⟨dw,bI⟩
   cases H
   go_enter Try.func124,Try.ntmps124
   go_wp2_with (first | ((with_reducible refine bH (N:=1) rfl ?_);refine fF (N:=1) (cs:=#[.slice A0_0 l0_0.length c0_0,.int .i64 a0_1,.int .u16 a0_2,.int .u8 a0_3,.int .u8 a0_4,.int .u32 a0_5,.int .i64 a0_6,.int .i64 a0_7]) (t:=47) ?_;intro gb197 hg w19 hbox hb;have GE197:=geN HB hg;have BK197:=aa.mk hbox;replace HB:=di HB hb;clear hb hbox hg;obtain ⟨_,_,_,_,_,_,_,_,_,_,_,_,_,_,_,_⟩:=cz8 BK197) | (go_at_call 99;(with_reducible refine (bK.calls _ _ _ _ A3.out).mono ?_);rintro e w' ⟨rfl,⟨nd,rfl⟩⟩))
   go_ret
   exact ⟨dw,bI⟩
 replace H:=bL H
 obtain ⟨H,-,_,_⟩ | ⟨H,c21,_,_⟩:=H
 · replace H:=mD H
   obtain ⟨H,c22⟩ | ⟨H,c22⟩:=H
   · have c22b0:(a0_2==0&&(a0_3==0&&(a0_4==0&&(a0_5==0))))=true:=c22
     (try (have c22b1:decide (a0_2=0&&(a0_3==0&&(a0_4==0&&(a0_5==0))))=true:=by simpa using c22))
     (try (have c22b2:(a0_2==0&&(a0_3==0&&(a0_4==0&&(a0_5==0))))=true:=by simpa using c22))
     clear c22
     cases H
     go_enter Try.func124,Try.ntmps124
     go_wp2_with ((with_reducible refine bH (N:=1) rfl ?_);refine fF (N:=1) (cs:=#[.slice A0_0 l0_0.length c0_0,.int .i64 a0_1,.int .u16 a0_2,.int .u8 a0_3,.int .u8 a0_4,.int .u32 a0_5,.int .i64 a0_6,.int .i64 a0_7]) (t:=47) ?_;intro gb197 hg w23 hbox hb;have GE197:=geN HB hg;have BK197:=aa.mk hbox;replace HB:=di HB hb;clear hb hbox hg;obtain ⟨_,_,_,_,_,_,_,_,_,_,_,_,_,_,_,_⟩:=cz8 BK197)
     go_ret
     exact ⟨dw,bI⟩
   have c22b0:(a0_2==0&&(a0_3==0&&(a0_4==0&&(a0_5==0))))=false:=by simpa using c22
   (try (have c22b1:decide (a0_2=0&&(a0_3==0&&(a0_4==0&&(a0_5==0))))=false:=by simpa using c22))
   (try (have c22b2:(a0_2==0&&(a0_3==0&&(a0_4==0&&(a0_5==0))))=false:=by simpa using c22))
   (try (have c22b3:¬(a0_2=0&&(a0_3==0&&(a0_4==0&&(a0_5==0)))):=by simpa using c22))
   clear c22
   cases H
   go_enter Try.func124,Try.ntmps124
   go_wp2_with ((with_reducible refine bH (N:=1) rfl ?_);refine fF (N:=1) (cs:=#[.slice A0_0 l0_0.length c0_0,.int .i64 a0_1,.int .u16 a0_2,.int .u8 a0_3,.int .u8 a0_4,.int .u32 a0_5,.int .i64 a0_6,.int .i64 a0_7]) (t:=47) ?_;intro gb197 hg w25 hbox hb;have GE197:=geN HB hg;have BK197:=aa.mk hbox;replace HB:=di HB hb;clear hb hbox hg;obtain ⟨_,_,_,_,_,_,_,_,_,_,_,_,_,_,_,_⟩:=cz8 BK197)
   go_ret
   exact ⟨dw,bI⟩
 replace H:=bL H
 obtain ⟨H,-,_,_⟩ | ⟨H,c27,_,_⟩:=H
 · replace H:=bnd H
   obtain ⟨t200,A28,H⟩:=H
   replace H:=bL H
   obtain ⟨H,-,_,_⟩ | ⟨H,c29,_,_⟩:=H
   · replace H:=bL H
     obtain ⟨H,-,_,_⟩ | ⟨H,c30,_,_⟩:=H
     · cases H
       go_enter Try.func124,Try.ntmps124
       go_wp2_with (first | ((with_reducible refine bH (N:=1) rfl ?_);refine fF (N:=1) (cs:=#[.slice A0_0 l0_0.length c0_0,.int .i64 a0_1,.int .u16 a0_2,.int .u8 a0_3,.int .u8 a0_4,.int .u32 a0_5,.int .i64 a0_6,.int .i64 a0_7]) (t:=47) ?_;intro gb197 hg w31 hbox hb;have GE197:=geN HB hg;have BK197:=aa.mk hbox;replace HB:=di HB hb;clear hb hbox hg;obtain ⟨_,_,_,_,_,_,_,_,_,_,_,_,_,_,_,_⟩:=cz8 BK197) | (go_at_call 99;(with_reducible refine (bK.calls _ _ _ _ A28.out).mono ?_);rintro e w' ⟨rfl,⟨nd,rfl⟩⟩))
       go_ret
       exact ⟨dw,bI⟩
     replace H:=bnd H
     obtain ⟨t201,A33,H⟩:=H
     cases H
     go_enter Try.func124,Try.ntmps124
     go_wp2_with (first | ((with_reducible refine bH (N:=1) rfl ?_);refine fF (N:=1) (cs:=#[.slice A0_0 l0_0.length c0_0,.int .i64 a0_1,.int .u16 a0_2,.int .u8 a0_3,.int .u8 a0_4,.int .u32 a0_5,.int .i64 a0_6,.int .i64 a0_7]) (t:=47) ?_;intro gb197 hg w34 hbox hb;have GE197:=geN HB hg;have BK197:=aa.mk hbox;replace HB:=di HB hb;clear hb hbox hg;obtain ⟨_,_,_,_,_,_,_,_,_,_,_,_,_,_,_,_⟩:=cz8 BK197) | (go_at_call 99;(with_reducible refine (bK.calls _ _ _ _ A28.out).mono ?_);rintro e w' ⟨rfl,⟨nd,rfl⟩⟩) | (go_at_call 158;(with_reducible refine (dM.calls _ _ _ _ _ _ _ A33.out).mono ?_);rintro e w36 ⟨rfl,hb⟩;replace BK197:=lG BK197 hb;replace HB:=di HB hb))
     go_ret
     exact ⟨dw,bI⟩
   cases H
   go_enter Try.func124,Try.ntmps124
   go_wp2_with (first | ((with_reducible refine bH (N:=1) rfl ?_);refine fF (N:=1) (cs:=#[.slice A0_0 l0_0.length c0_0,.int .i64 a0_1,.int .u16 a0_2,.int .u8 a0_3,.int .u8 a0_4,.int .u32 a0_5,.int .i64 a0_6,.int .i64 a0_7]) (t:=47) ?_;intro gb197 hg w37 hbox hb;have GE197:=geN HB hg;have BK197:=aa.mk hbox;replace HB:=di HB hb;clear hb hbox hg;obtain ⟨_,_,_,_,_,_,_,_,_,_,_,_,_,_,_,_⟩:=cz8 BK197) | (go_at_call 99;(with_reducible refine (bK.calls _ _ _ _ A28.out).mono ?_);rintro e w' ⟨rfl,⟨nd,rfl⟩⟩))
   go_ret
   exact ⟨dw,bI⟩
 cases H
 go_enter Try.func124,Try.ntmps124
 go_wp2_with ((with_reducible refine bH (N:=1) rfl ?_);refine fF (N:=1) (cs:=#[.slice A0_0 l0_0.length c0_0,.int .i64 a0_1,.int .u16 a0_2,.int .u8 a0_3,.int .u8 a0_4,.int .u32 a0_5,.int .i64 a0_6,.int .i64 a0_7]) (t:=47) ?_;intro gb197 hg w39 hbox hb;have GE197:=geN HB hg;have BK197:=aa.mk hbox;replace HB:=di HB hb;clear hb hbox hg;obtain ⟨_,_,_,_,_,_,_,_,_,_,_,_,_,_,_,_⟩:=cz8 BK197)
 go_ret
 exact ⟨dw,bI⟩
mutual
def bV.l0:Nat→Int→Int→List (S45)→Int→Int→List (S45)→Int→Int→Int→Int→Int→Int→Int→Option (Int)
 | 0,_,_,_,_,_,_,_,_,_,_,_,_,_=>none
 | k+1,x1,x3,x16,x17,x18,x203000,x203001,x203002,x203003,x203004,x203005,x203006,x203007=>if x18<x17 then (if 0≤x18 then (if x18<(x16.length:Int) then ((aN.f k ((bg x16 x18).f0) ((bg x16 x18).f1) ((bg x16 x18).f2) ((bg x16 x18).f3)).bind fun t205=>(if t205=true then (bV.l0 k x1 x3 x16 x17 (wrap64 (x18+1)) x203000 x203001 x203002 x203003 x203004 x203005 x203006 x203007) else (some 152))) else (none)) else (none)) else ((fo.f k x203000 x203001 x203002 x203003 x203004 x203005 x203006 x203007).bind fun t206=>(if t206=true then ((dD.f x203000 x203001 x203002 x203003 x203004 x203005 x203006 x203007).bind fun t207=>(bV.l1 k x1 x3 t207 (t207.length:Int) 0)) else (some 153)))
def bV.l1:Nat→Int→Int→List Int→Int→Int→Option (Int)
 | 0,_,_,_,_,_=>none
 | k+1,x1,x3,x30,x31,x32=>if x32<x31 then (if 0≤x32 then (if x32<(x30.length:Int) then (if (rd x30 x32)≤x1 then (some 154) else (if (rd x30 x32)≥x3 then (some 154) else (bV.l1 k x1 x3 x30 x31 (wrap64 (x32+1))))) else (none)) else (none)) else (some 0)
end
def bV.f (k:Nat) (l0_0:List (S45)) (a0_1:Int) (a0_2:Int) (a0_3:Int) (a0_4:Int) (a0_5:Int) (a0_6:Int) (a0_7:Int) (a1:Int) (a2:Int) (a3:Int):Option (Int):=if a2>4096 then (some 151) else (bV.l0 k a1 a3 l0_0 (l0_0.length:Int) 0 l0_0 a0_1 a0_2 a0_3 a0_4 a0_5 a0_6 a0_7)
theorem bV.calls (k:Nat) (A0_0:Option Addr) (c0_0:Nat) (l0_0:List (S45)) (a0_1:Int) (a0_2:Int) (a0_3:Int) (a0_4:Int) (a0_5:Int) (a0_6:Int) (a0_7:Int) (a1:Int) (a2:Int) (a3:Int) (r:Int) (w:World) (hr0_0:Kd.C k45 w A0_0 l0_0.length l0_0) (hc0_0:l0_0.length≤c0_0) (h:bV.f k l0_0 a0_1 a0_2 a0_3 a0_4 a0_5 a0_6 a0_7 a1 a2 a3=some r) :
 Calls Try.prog 82 #[.agg #[.slice A0_0 l0_0.length c0_0,.int .i64 a0_1,.int .u16 a0_2,.int .u8 a0_3,.int .u8 a0_4,.int .u32 a0_5,.int .i64 a0_6,.int .i64 a0_7],.int .i64 a1,.int .i64 a2,.int .i64 a3] w fun e w'=>e = .returned (.int .i64 r)∧Below w.heap.size w w':=by
 have hu47:=Try.underlying47
 have hu45:=Try.underlying45
 have HR0_0:=aa.mk hr0_0
 have HC0_0:=aa.mk hc0_0
 clear hr0_0 hc0_0
 have HB:=aa.mk (Below.refl w.heap.size w)
 have H:(if a2>4096 then (some 151) else (bV.l0 k a1 a3 l0_0 (l0_0.length:Int) 0 l0_0 a0_1 a0_2 a0_3 a0_4 a0_5 a0_6 a0_7))=some r:=h
 clear h
 replace H:=qo H
 obtain ⟨H,-,_⟩ | ⟨H,-,_⟩:=H
 · cases H
   go_enter Try.func82,Try.ntmps82
   go_wp2_with ((with_reducible refine bH (N:=4) rfl ?_);refine fF (N:=4) (cs:=#[.slice A0_0 l0_0.length c0_0,.int .i64 a0_1,.int .u16 a0_2,.int .u8 a0_3,.int .u8 a0_4,.int .u32 a0_5,.int .i64 a0_6,.int .i64 a0_7]) (t:=47) ?_;intro gb202 hg w6 hbox hb;have GE202:=geN HB hg;have BK202:=aa.mk hbox;replace HB:=di HB hb;clear hb hbox hg)
   go_ret
   exact ⟨dw,bI⟩
 replace H:=aa.mk H
 go_enter Try.func82,Try.ntmps82
 go_wp2_with ((with_reducible refine bH (N:=4) rfl ?_);refine fF (N:=4) (cs:=#[.slice A0_0 l0_0.length c0_0,.int .i64 a0_1,.int .u16 a0_2,.int .u8 a0_3,.int .u8 a0_4,.int .u32 a0_5,.int .i64 a0_6,.int .i64 a0_7]) (t:=47) ?_;intro gb202 hg w7 hbox hb;have GE202:=geN HB hg;have BK202:=aa.mk hbox;replace HB:=di HB hb;clear hb hbox hg;obtain ⟨_,_,_,_,_,_,_,_,_,_,_,_,_,_,_,_⟩:=cz8 BK202)
 go_loopg [18] k (fun kq v18 w'=>∃ (x18_1:Int),v18 = .int .i64 x18_1∧aa (bV.l0 kq a1 a3 l0_0 (l0_0.length:Int) x18_1 l0_0 a0_1 a0_2 a0_3 a0_4 a0_5 a0_6 a0_7=some r)∧aa (kq≤k)∧aa (w'.heap[gb202]?=some (.cells #[(.slice A0_0 l0_0.length c0_0),.int .i64 a0_1,.int .u16 a0_2,.int .u8 a0_3,.int .u8 a0_4,.int .u32 a0_5,.int .i64 a0_6,.int .i64 a0_7] 47 (0,0)))∧aa (Below w.heap.size w w'))
 case atStart=>exact ⟨_,aY,H,⟨Nat.le_refl _⟩,⟨gT⟩,⟨bI⟩⟩
 case round=>
  clear H
  obtain ⟨x18_1,rfl,HA,HK1,BK202,HB⟩:=hrel
  cases gk with
  | zero=>exact absurd HA.out (by simp [bV.l0])
  | succ k1=>
   have H:=HA.out
   clear HA
   simp only [bV.l0] at H
   replace H:=gy H
   obtain ⟨H,-,_⟩ | ⟨H,-,_⟩:=H
   · replace H:=gy H
     obtain ⟨H,-,_⟩ | ⟨H,c10,-⟩:=H
     · replace H:=gy H
       obtain ⟨H,-,_⟩ | ⟨H,c11,-⟩:=H
       · replace H:=bnd H
         obtain ⟨t205,A12,H⟩:=H
         replace H:=iQ H
         obtain ⟨rfl,H⟩ | ⟨rfl,H⟩:=H
         · replace H:=aa.mk H
           obtain ⟨ad203,rfl,_,_,_,_,_,_⟩:=fK HR0_0 HB x18_1 (by assumption) (by assumption)
           go_wp2_with (first | ((with_reducible refine bH (N:=10) rfl ?_);refine fF (N:=10) (cs:=#[.int .u16 0,.int .u8 0,.int .u8 0,.int .u32 0]) (t:=45) ?_;intro gb204 hg w14 hbox hb;have NB202_204:=nbN BK202 hg;have NB204_202:=nbM BK202 hg;have GE204:=geN HB hg;replace BK202:=lG BK202 hb;have BK204:=aa.mk hbox;replace HB:=di HB hb;clear hb hbox hg;have hnb15:=NB204_202.out;have hnc15:=NB202_204.out;obtain ⟨_,_,_,_,_,_,_,_⟩:=cz4 BK204) | (go_at_call 123;(with_reducible refine (aN.calls _ _ _ _ _ _ _ A12.out).mono ?_);rintro e w17 ⟨rfl,hb⟩;replace BK202:=aa.mk (au (g:=gb202) (o := .cells #[.slice (some ad203) l0_0.length c0_0,.int .i64 a0_1,.int .u16 a0_2,.int .u8 a0_3,.int .u8 a0_4,.int .u32 a0_5,.int .i64 a0_6,.int .i64 a0_7] 47 (0,0)) (by (with_reducible repeat (first | refine aQ ?_ _ | refine aX ?_ | refine aV ?_ _));refine bQ ?_ NB202_204.out _;(with_reducible repeat (first | refine aQ ?_ _ | refine aX ?_ | refine aV ?_ _));refine bQ ?_ NB202_204.out _;(with_reducible repeat (first | refine aQ ?_ _ | refine aX ?_ | refine aV ?_ _));refine bQ ?_ NB202_204.out _;(with_reducible repeat (first | refine aQ ?_ _ | refine aX ?_ | refine aV ?_ _));refine bQ ?_ NB202_204.out _;(with_reducible repeat (first | refine aQ ?_ _ | refine aX ?_ | refine aV ?_ _));exact BK202.out) hb);replace BK204:=aa.mk (au (g:=gb204) (o := .cells #[.int .u16 ((bg l0_0 x18_1).f0),.int .u8 ((bg l0_0 x18_1).f1),.int .u8 ((bg l0_0 x18_1).f2),.int .u32 ((bg l0_0 x18_1).f3)] 45 (0,0)) (by (with_reducible repeat (first | refine aQ ?_ _ | refine aX ?_ | refine aV ?_ _));refine aJ (cs:=#[.int .u16 ((bg l0_0 x18_1).f0),.int .u8 ((bg l0_0 x18_1).f1),.int .u8 ((bg l0_0 x18_1).f2),.int .u32 0]) ?_ 3 _ rfl;(with_reducible repeat (first | refine aQ ?_ _ | refine aX ?_ | refine aV ?_ _));refine aJ (cs:=#[.int .u16 ((bg l0_0 x18_1).f0),.int .u8 ((bg l0_0 x18_1).f1),.int .u8 0,.int .u32 0]) ?_ 2 _ rfl;(with_reducible repeat (first | refine aQ ?_ _ | refine aX ?_ | refine aV ?_ _));refine aJ (cs:=#[.int .u16 ((bg l0_0 x18_1).f0),.int .u8 0,.int .u8 0,.int .u32 0]) ?_ 1 _ rfl;(with_reducible repeat (first | refine aQ ?_ _ | refine aX ?_ | refine aV ?_ _));refine aJ (cs:=#[.int .u16 0,.int .u8 0,.int .u8 0,.int .u32 0]) ?_ 0 _ rfl;(with_reducible repeat (first | refine aQ ?_ _ | refine aX ?_ | refine aV ?_ _));exact BK204.out) hb);replace HB:=di HB hb))
           go_roundg k1
           case measure=>have:=HK1.out;omega
           case rel=>exact ⟨_,aY,H,⟨by have:=HK1.out;omega⟩,⟨gT⟩,⟨bI⟩⟩
         cases H
         obtain ⟨ad203,rfl,_,_,_,_,_,_⟩:=fK HR0_0 HB x18_1 (by assumption) (by assumption)
         go_wp2_with (first | ((with_reducible refine bH (N:=10) rfl ?_);refine fF (N:=10) (cs:=#[.int .u16 0,.int .u8 0,.int .u8 0,.int .u32 0]) (t:=45) ?_;intro gb204 hg w18 hbox hb;have NB202_204:=nbN BK202 hg;have NB204_202:=nbM BK202 hg;have GE204:=geN HB hg;replace BK202:=lG BK202 hb;have BK204:=aa.mk hbox;replace HB:=di HB hb;clear hb hbox hg;have hnb19:=NB204_202.out;have hnc19:=NB202_204.out;obtain ⟨_,_,_,_,_,_,_,_⟩:=cz4 BK204) | (go_at_call 123;(with_reducible refine (aN.calls _ _ _ _ _ _ _ A12.out).mono ?_);rintro e w21 ⟨rfl,hb⟩;replace BK202:=aa.mk (au (g:=gb202) (o := .cells #[.slice (some ad203) l0_0.length c0_0,.int .i64 a0_1,.int .u16 a0_2,.int .u8 a0_3,.int .u8 a0_4,.int .u32 a0_5,.int .i64 a0_6,.int .i64 a0_7] 47 (0,0)) (by (with_reducible repeat (first | refine aQ ?_ _ | refine aX ?_ | refine aV ?_ _));refine bQ ?_ NB202_204.out _;(with_reducible repeat (first | refine aQ ?_ _ | refine aX ?_ | refine aV ?_ _));refine bQ ?_ NB202_204.out _;(with_reducible repeat (first | refine aQ ?_ _ | refine aX ?_ | refine aV ?_ _));refine bQ ?_ NB202_204.out _;(with_reducible repeat (first | refine aQ ?_ _ | refine aX ?_ | refine aV ?_ _));refine bQ ?_ NB202_204.out _;(with_reducible repeat (first | refine aQ ?_ _ | refine aX ?_ | refine aV ?_ _));exact BK202.out) hb);replace BK204:=aa.mk (au (g:=gb204) (o := .cells #[.int .u16 ((bg l0_0 x18_1).f0),.int .u8 ((bg l0_0 x18_1).f1),.int .u8 ((bg l0_0 x18_1).f2),.int .u32 ((bg l0_0 x18_1).f3)] 45 (0,0)) (by (with_reducible repeat (first | refine aQ ?_ _ | refine aX ?_ | refine aV ?_ _));refine aJ (cs:=#[.int .u16 ((bg l0_0 x18_1).f0),.int .u8 ((bg l0_0 x18_1).f1),.int .u8 ((bg l0_0 x18_1).f2),.int .u32 0]) ?_ 3 _ rfl;(with_reducible repeat (first | refine aQ ?_ _ | refine aX ?_ | refine aV ?_ _));refine aJ (cs:=#[.int .u16 ((bg l0_0 x18_1).f0),.int .u8 ((bg l0_0 x18_1).f1),.int .u8 0,.int .u32 0]) ?_ 2 _ rfl;(with_reducible repeat (first | refine aQ ?_ _ | refine aX ?_ | refine aV ?_ _));refine aJ (cs:=#[.int .u16 ((bg l0_0 x18_1).f0),.int .u8 0,.int .u8 0,.int .u32 0]) ?_ 1 _ rfl;(with_reducible repeat (first | refine aQ ?_ _ | refine aX ?_ | refine aV ?_ _));refine aJ (cs:=#[.int .u16 0,.int .u8 0,.int .u8 0,.int .u32 0]) ?_ 0 _ rfl;(with_reducible repeat (first | refine aQ ?_ _ | refine aX ?_ | refine aV ?_ _));exact BK204.out) hb);replace HB:=di HB hb))
         go_ret
         exact ⟨dw,bI⟩
       exact absurd H (by simp)
     exact absurd H (by simp)
   replace H:=bnd H
   obtain ⟨t206,A22,H⟩:=H
   replace H:=iQ H
   obtain ⟨rfl,H⟩ | ⟨rfl,H⟩:=H
   · replace H:=bnd H
     obtain ⟨t207,A24,H⟩:=H
     replace H:=aa.mk H
     obtain ⟨_,_,_,_,_,_,_,_,_,_,_,_,_,_,_,_⟩:=cz8 BK202
     go_wp2_with (first | (go_at_call 124;(with_reducible refine (fo.calls _ _ _ _ _ _ _ _ _ _ _ _ _ (sd1 HR0_0 HB) HC0_0.out A22.out).mono ?_);rintro e w26 ⟨rfl,hb⟩;replace BK202:=lG BK202 hb;replace HB:=di HB hb;obtain ⟨_,_,_,_,_,_,_,_,_,_,_,_,_,_,_,_⟩:=cz8 BK202) | (go_at_call 76;(with_reducible refine (dD.calls _ _ _ _ _ _ _ _ _ _ _ _ (sd1 HR0_0 HB) HC0_0.out A24.out).mono ?_);rintro e w28 ⟨v208,rfl,ho0,hb⟩;have HO209:=aa.mk (Kd.gN ho0 (eu bI));replace BK202:=lG BK202 hb;replace HB:=di HB hb;obtain ⟨Ao29,co29,eo29⟩:=Kd.dz HO209.out;subst eo29))
     go_loopg [32] k1 (fun kq v32 w'=>∃ (x32_2:Int),v32 = .int .i64 x32_2∧aa (bV.l1 kq a1 a3 t207 (t207.length:Int) x32_2=some r)∧aa (kq≤k1)∧aa (Kd.R (Kd.int .i64) 3 w' w.heap.size (fun _=>True) (.slice Ao29 t207.length co29) t207)∧aa (w'.heap[gb202]?=some (.cells #[(.slice A0_0 l0_0.length c0_0),.int .i64 a0_1,.int .u16 a0_2,.int .u8 a0_3,.int .u8 a0_4,.int .u32 a0_5,.int .i64 a0_6,.int .i64 a0_7] 47 (0,0)))∧aa (Below w.heap.size w w'))
     case atStart=>exact ⟨_,aY,H,⟨Nat.le_refl _⟩,⟨by (with_reducible repeat (first | apply Kd.fO | apply Kd.gM | apply Kd.gF));exact HO209.out⟩,⟨gT⟩,⟨bI⟩⟩
     case round=>
      clear H
      obtain ⟨x32_2,rfl,HA,HK2,HO_30,BK202,HB⟩:=hrel
      cases gk with
      | zero=>exact absurd HA.out (by simp [bV.l1])
      | succ k2=>
       have H:=HA.out
       clear HA
       simp only [bV.l1] at H
       replace H:=gy H
       obtain ⟨H,-,_⟩ | ⟨H,-,_⟩:=H
       · replace H:=gy H
         obtain ⟨H,-,_⟩ | ⟨H,c31,-⟩:=H
         · replace H:=gy H
           obtain ⟨H,-,_⟩ | ⟨H,c32,-⟩:=H
           · replace H:=gy H
             obtain ⟨H,-,_⟩ | ⟨H,-,_⟩:=H
             · cases H
               have p210:0≤(x32_2:Int):=of_decide_eq_true (by first | (with_reducible assumption) | assumption)
               have q210:x32_2<(t207.length:Int):=of_decide_eq_true (by first | (with_reducible assumption) | assumption)
               obtain ⟨ad210,e210,hx210_0⟩:=Kd.iw (Kd.dO HO_30.out).2.2 x32_2 p210 q210
               cases e210
               replace p210:=eq_true p210
               replace q210:=eq_true q210
               go_wp2
               go_ret
               exact ⟨dw,bI⟩
             replace H:=o9 H
             obtain ⟨H,-,_⟩ | ⟨H,-,_⟩:=H
             · cases H
               have p210:0≤(x32_2:Int):=of_decide_eq_true (by first | (with_reducible assumption) | assumption)
               have q210:x32_2<(t207.length:Int):=of_decide_eq_true (by first | (with_reducible assumption) | assumption)
               obtain ⟨ad210,e210,hx210_0⟩:=Kd.iw (Kd.dO HO_30.out).2.2 x32_2 p210 q210
               cases e210
               replace p210:=eq_true p210
               replace q210:=eq_true q210
               go_wp2
               go_ret
               exact ⟨dw,bI⟩
             replace H:=aa.mk H
             have p210:0≤(x32_2:Int):=of_decide_eq_true (by first | (with_reducible assumption) | assumption)
             have q210:x32_2<(t207.length:Int):=of_decide_eq_true (by first | (with_reducible assumption) | assumption)
             obtain ⟨ad210,e210,hx210_0⟩:=Kd.iw (Kd.dO HO_30.out).2.2 x32_2 p210 q210
             cases e210
             replace p210:=eq_true p210
             replace q210:=eq_true q210
             go_wp2
             go_roundg k2
             case measure=>have:=HK1.out;have:=HK2.out;omega
             case rel=>exact ⟨_,aY,H,⟨by have:=HK1.out;have:=HK2.out;omega⟩,⟨by (with_reducible repeat (first | apply Kd.fO | apply Kd.gM | apply Kd.gF));exact HO_30.out⟩,⟨gT⟩,⟨bI⟩⟩
           exact absurd H (by simp)
         exact absurd H (by simp)
       cases H
       go_wp2
       go_ret
       exact ⟨dw,bI⟩
   cases H
   obtain ⟨_,_,_,_,_,_,_,_,_,_,_,_,_,_,_,_⟩:=cz8 BK202
   go_wp2_with (go_at_call 124;(with_reducible refine (fo.calls _ _ _ _ _ _ _ _ _ _ _ _ _ (sd1 HR0_0 HB) HC0_0.out A22.out).mono ?_);rintro e w36 ⟨rfl,hb⟩;replace BK202:=lG BK202 hb;replace HB:=di HB hb)
   go_ret
   exact ⟨dw,bI⟩
def bW.l0:Nat→List (S47)→Int→List (S47)→Int→Int→Option (Int × Int)
 | 0,_,_,_,_,_=>none
 | k+1,x0,x4,x14,x15,x16=>if x16<x15 then (if 0≤x16 then (if x16<(x14.length:Int) then ((bV.f k ((ah x14 x16).f0) ((ah x14 x16).f1) ((ah x14 x16).f2.f0) ((ah x14 x16).f2.f1) ((ah x14 x16).f2.f2) ((ah x14 x16).f2.f3) ((ah x14 x16).f3) ((ah x14 x16).f4) x16 (wrap64 (x4+(((ah x14 x16).f0).length:Int))) (x0.length:Int)).bind fun t213=>(if t213=0 then (bW.l0 k x0 (wrap64 (x4+(((ah x14 x16).f0).length:Int))) x14 x15 (wrap64 (x16+1))) else (some (x16,t213)))) else (none)) else (none)) else (some (0,0))
def bW.f (k:Nat) (l0:List (S47)):Option (Int × Int):=if (l0.length:Int)=0 then (some (0,150)) else (if (l0.length:Int)>4096 then (some (4096,151)) else (bW.l0 k l0 0 l0 (l0.length:Int) 0))
theorem bW.calls (k:Nat) (A0:Option Addr) (c0:Nat) (l0:List (S47)) (r1:Int) (r2:Int) (w:World) (hr0:Kd.C k47 w A0 l0.length l0) (hc0:l0.length≤c0) (h:bW.f k l0=some (r1,r2)) :
 Calls Try.prog 52 #[.slice A0 l0.length c0] w fun e w'=>e = .returned (.tuple #[.int .i64 r1,.int .i64 r2])∧Below w.heap.size w w':=by
 have hu47:=Try.underlying47
 have HR0:=aa.mk hr0
 have HC0:=aa.mk hc0
 clear hr0 hc0
 have HB:=aa.mk (Below.refl w.heap.size w)
 have H:(if (l0.length:Int)=0 then (some (0,150)) else (if (l0.length:Int)>4096 then (some (4096,151)) else (bW.l0 k l0 0 l0 (l0.length:Int) 0)))=some (r1,r2):=h
 clear h
 replace H:=bL H
 obtain ⟨H,-,_,_⟩ | ⟨H,c2,_,_⟩:=H
 · obtain ⟨rfl,rfl⟩:=so2 H
   go_enter Try.func52,Try.ntmps52
   go_wp2
   go_ret2
   exact ⟨dw,bI⟩
 have c2b2:¬(l0=[]):=fun h_=>c2 (by rw [h_];rfl)
 replace H:=qo H
 obtain ⟨H,c3,_⟩ | ⟨H,c3,_⟩:=H
 · have c3b1:decide (4096<l0.length)=true:=decide_eq_true (by omega)
   clear c3
   obtain ⟨rfl,rfl⟩:=so2 H
   go_enter Try.func52,Try.ntmps52
   go_wp2
   go_ret2
   exact ⟨dw,bI⟩
 have c3b1:decide (4096<l0.length)=false:=decide_eq_false (by omega)
 clear c3
 replace H:=aa.mk H
 go_enter Try.func52,Try.ntmps52
 go_wp2
 go_loopg [4,16] k (fun kq v4 v16 w'=>∃ (x4_1:Int) (x16_1:Int),v4 = .int .i64 x4_1∧v16 = .int .i64 x16_1∧aa (bW.l0 kq l0 x4_1 l0 (l0.length:Int) x16_1=some (r1,r2))∧aa (kq≤k)∧aa (Below w.heap.size w w'))
 case atStart=>exact ⟨_,_,aY,aY,H,⟨Nat.le_refl _⟩,⟨bI⟩⟩
 case round=>
  clear H
  obtain ⟨x4_1,x16_1,rfl,rfl,HA,HK1,HB⟩:=hrel
  cases gk with
  | zero=>exact absurd HA.out (by simp [bW.l0])
  | succ k1=>
   have H:=HA.out
   clear HA
   simp only [bW.l0] at H
   replace H:=gy H
   obtain ⟨H,-,_⟩ | ⟨H,-,_⟩:=H
   · replace H:=gy H
     obtain ⟨H,-,_⟩ | ⟨H,c5,-⟩:=H
     · replace H:=gy H
       obtain ⟨H,-,_⟩ | ⟨H,c6,-⟩:=H
       · replace H:=bnd H
         obtain ⟨t213,A7,H⟩:=H
         replace H:=bL H
         obtain ⟨H,-,_,_⟩ | ⟨H,c8,_,_⟩:=H
         · replace H:=aa.mk H
           obtain ⟨ad211,rfl⟩:=oV HR0 x16_1 (by assumption) (by assumption)
           obtain ⟨A211_0,c211_0,_,_,_,_,_,_,_,_,HR211_0,HC211_0,_,_⟩:=uP HR0 HB x16_1 (by assumption) (by assumption)
           go_wp2_with (first | ((with_reducible refine bH (N:=6) rfl ?_);refine fF (N:=6) (cs:=#[.slice none 0 0,.int .i64 0,.int .u16 0,.int .u8 0,.int .u8 0,.int .u32 0,.int .i64 0,.int .i64 0]) (t:=47) ?_;intro gb212 hg w9 hbox hb;have GE212:=geN HB hg;have BK212:=aa.mk hbox;replace HB:=di HB hb;clear hb hbox hg;obtain ⟨_,_,_,_,_,_,_,_,_,_,_,_,_,_,_,_⟩:=cz8 BK212) | (go_at_call 82;(with_reducible refine (bV.calls _ _ _ _ _ _ _ _ _ _ _ _ _ _ _ _ ?side1 HC211_0.out A7.out).mono ?_);(case side1=>exact Kd.bJ HR211_0.out bI);rintro e w11 ⟨rfl,hb⟩;replace BK212:=aa.mk (au (g:=gb212) (o := .cells #[.slice A211_0 ((ah l0 x16_1).f0).length c211_0,.int .i64 ((ah l0 x16_1).f1),.int .u16 ((ah l0 x16_1).f2.f0),.int .u8 ((ah l0 x16_1).f2.f1),.int .u8 ((ah l0 x16_1).f2.f2),.int .u32 ((ah l0 x16_1).f2.f3),.int .i64 ((ah l0 x16_1).f3),.int .i64 ((ah l0 x16_1).f4)] 47 (0,0)) (by (with_reducible repeat (first | refine aQ ?_ _ | refine aX ?_ | refine aV ?_ _));refine aJ (cs:=#[.slice A211_0 ((ah l0 x16_1).f0).length c211_0,.int .i64 ((ah l0 x16_1).f1),.int .u16 ((ah l0 x16_1).f2.f0),.int .u8 ((ah l0 x16_1).f2.f1),.int .u8 ((ah l0 x16_1).f2.f2),.int .u32 ((ah l0 x16_1).f2.f3),.int .i64 ((ah l0 x16_1).f3),.int .i64 0]) ?_ 7 _ rfl;(with_reducible repeat (first | refine aQ ?_ _ | refine aX ?_ | refine aV ?_ _));refine aJ (cs:=#[.slice A211_0 ((ah l0 x16_1).f0).length c211_0,.int .i64 ((ah l0 x16_1).f1),.int .u16 ((ah l0 x16_1).f2.f0),.int .u8 ((ah l0 x16_1).f2.f1),.int .u8 ((ah l0 x16_1).f2.f2),.int .u32 ((ah l0 x16_1).f2.f3),.int .i64 0,.int .i64 0]) ?_ 6 _ rfl;(with_reducible repeat (first | refine aQ ?_ _ | refine aX ?_ | refine aV ?_ _));refine aJ (cs:=#[.slice A211_0 ((ah l0 x16_1).f0).length c211_0,.int .i64 ((ah l0 x16_1).f1),.int .u16 ((ah l0 x16_1).f2.f0),.int .u8 ((ah l0 x16_1).f2.f1),.int .u8 ((ah l0 x16_1).f2.f2),.int .u32 0,.int .i64 0,.int .i64 0]) ?_ 5 _ rfl;(with_reducible repeat (first | refine aQ ?_ _ | refine aX ?_ | refine aV ?_ _));refine aJ (cs:=#[.slice A211_0 ((ah l0 x16_1).f0).length c211_0,.int .i64 ((ah l0 x16_1).f1),.int .u16 ((ah l0 x16_1).f2.f0),.int .u8 ((ah l0 x16_1).f2.f1),.int .u8 0,.int .u32 0,.int .i64 0,.int .i64 0]) ?_ 4 _ rfl;(with_reducible repeat (first | refine aQ ?_ _ | refine aX ?_ | refine aV ?_ _));refine aJ (cs:=#[.slice A211_0 ((ah l0 x16_1).f0).length c211_0,.int .i64 ((ah l0 x16_1).f1),.int .u16 ((ah l0 x16_1).f2.f0),.int .u8 0,.int .u8 0,.int .u32 0,.int .i64 0,.int .i64 0]) ?_ 3 _ rfl;(with_reducible repeat (first | refine aQ ?_ _ | refine aX ?_ | refine aV ?_ _));refine aJ (cs:=#[.slice A211_0 ((ah l0 x16_1).f0).length c211_0,.int .i64 ((ah l0 x16_1).f1),.int .u16 0,.int .u8 0,.int .u8 0,.int .u32 0,.int .i64 0,.int .i64 0]) ?_ 2 _ rfl;(with_reducible repeat (first | refine aQ ?_ _ | refine aX ?_ | refine aV ?_ _));refine aJ (cs:=#[.slice A211_0 ((ah l0 x16_1).f0).length c211_0,.int .i64 0,.int .u16 0,.int .u8 0,.int .u8 0,.int .u32 0,.int .i64 0,.int .i64 0]) ?_ 1 _ rfl;(with_reducible repeat (first | refine aQ ?_ _ | refine aX ?_ | refine aV ?_ _));refine aJ (cs:=#[.slice none 0 0,.int .i64 0,.int .u16 0,.int .u8 0,.int .u8 0,.int .u32 0,.int .i64 0,.int .i64 0]) ?_ 0 _ rfl;(with_reducible repeat (first | refine aQ ?_ _ | refine aX ?_ | refine aV ?_ _));exact BK212.out) hb);replace HB:=di HB hb))
           go_roundg k1
           case measure=>have:=HK1.out;omega
           case rel=>exact ⟨_,_,aY,aY,H,⟨by have:=HK1.out;omega⟩,⟨bI⟩⟩
         obtain ⟨rfl,rfl⟩:=so2 H
         obtain ⟨ad211,rfl⟩:=oV HR0 x16_1 (by assumption) (by assumption)
         obtain ⟨A211_0,c211_0,_,_,_,_,_,_,_,_,HR211_0,HC211_0,_,_⟩:=uP HR0 HB x16_1 (by assumption) (by assumption)
         go_wp2_with (first | ((with_reducible refine bH (N:=6) rfl ?_);refine fF (N:=6) (cs:=#[.slice none 0 0,.int .i64 0,.int .u16 0,.int .u8 0,.int .u8 0,.int .u32 0,.int .i64 0,.int .i64 0]) (t:=47) ?_;intro gb212 hg w12 hbox hb;have GE212:=geN HB hg;have BK212:=aa.mk hbox;replace HB:=di HB hb;clear hb hbox hg;obtain ⟨_,_,_,_,_,_,_,_,_,_,_,_,_,_,_,_⟩:=cz8 BK212) | (go_at_call 82;(with_reducible refine (bV.calls _ _ _ _ _ _ _ _ _ _ _ _ _ _ _ _ ?side1 HC211_0.out A7.out).mono ?_);(case side1=>exact Kd.bJ HR211_0.out bI);rintro e w14 ⟨rfl,hb⟩;replace BK212:=aa.mk (au (g:=gb212) (o := .cells #[.slice A211_0 ((ah l0 x16_1).f0).length c211_0,.int .i64 ((ah l0 x16_1).f1),.int .u16 ((ah l0 x16_1).f2.f0),.int .u8 ((ah l0 x16_1).f2.f1),.int .u8 ((ah l0 x16_1).f2.f2),.int .u32 ((ah l0 x16_1).f2.f3),.int .i64 ((ah l0 x16_1).f3),.int .i64 ((ah l0 x16_1).f4)] 47 (0,0)) (by (with_reducible repeat (first | refine aQ ?_ _ | refine aX ?_ | refine aV ?_ _));refine aJ (cs:=#[.slice A211_0 ((ah l0 x16_1).f0).length c211_0,.int .i64 ((ah l0 x16_1).f1),.int .u16 ((ah l0 x16_1).f2.f0),.int .u8 ((ah l0 x16_1).f2.f1),.int .u8 ((ah l0 x16_1).f2.f2),.int .u32 ((ah l0 x16_1).f2.f3),.int .i64 ((ah l0 x16_1).f3),.int .i64 0]) ?_ 7 _ rfl;(with_reducible repeat (first | refine aQ ?_ _ | refine aX ?_ | refine aV ?_ _));refine aJ (cs:=#[.slice A211_0 ((ah l0 x16_1).f0).length c211_0,.int .i64 ((ah l0 x16_1).f1),.int .u16 ((ah l0 x16_1).f2.f0),.int .u8 ((ah l0 x16_1).f2.f1),.int .u8 ((ah l0 x16_1).f2.f2),.int .u32 ((ah l0 x16_1).f2.f3),.int .i64 0,.int .i64 0]) ?_ 6 _ rfl;(with_reducible repeat (first | refine aQ ?_ _ | refine aX ?_ | refine aV ?_ _));refine aJ (cs:=#[.slice A211_0 ((ah l0 x16_1).f0).length c211_0,.int .i64 ((ah l0 x16_1).f1),.int .u16 ((ah l0 x16_1).f2.f0),.int .u8 ((ah l0 x16_1).f2.f1),.int .u8 ((ah l0 x16_1).f2.f2),.int .u32 0,.int .i64 0,.int .i64 0]) ?_ 5 _ rfl;(with_reducible repeat (first | refine aQ ?_ _ | refine aX ?_ | refine aV ?_ _));refine aJ (cs:=#[.slice A211_0 ((ah l0 x16_1).f0).length c211_0,.int .i64 ((ah l0 x16_1).f1),.int .u16 ((ah l0 x16_1).f2.f0),.int .u8 ((ah l0 x16_1).f2.f1),.int .u8 0,.int .u32 0,.int .i64 0,.int .i64 0]) ?_ 4 _ rfl;(with_reducible repeat (first | refine aQ ?_ _ | refine aX ?_ | refine aV ?_ _));refine aJ (cs:=#[.slice A211_0 ((ah l0 x16_1).f0).length c211_0,.int .i64 ((ah l0 x16_1).f1),.int .u16 ((ah l0 x16_1).f2.f0),.int .u8 0,.int .u8 0,.int .u32 0,.int .i64 0,.int .i64 0]) ?_ 3 _ rfl;(with_reducible repeat (first | refine aQ ?_ _ | refine aX ?_ | refine aV ?_ _));refine aJ (cs:=#[.slice A211_0 ((ah l0 x16_1).f0).length c211_0,.int .i64 ((ah l0 x16_1).f1),.int .u16 0,.int .u8 0,.int .u8 0,.int .u32 0,.int .i64 0,.int .i64 0]) ?_ 2 _ rfl;(with_reducible repeat (first | refine aQ ?_ _ | refine aX ?_ | refine aV ?_ _));refine aJ (cs:=#[.slice A211_0 ((ah l0 x16_1).f0).length c211_0,.int .i64 0,.int .u16 0,.int .u8 0,.int .u8 0,.int .u32 0,.int .i64 0,.int .i64 0]) ?_ 1 _ rfl;(with_reducible repeat (first | refine aQ ?_ _ | refine aX ?_ | refine aV ?_ _));refine aJ (cs:=#[.slice none 0 0,.int .i64 0,.int .u16 0,.int .u8 0,.int .u8 0,.int .u32 0,.int .i64 0,.int .i64 0]) ?_ 0 _ rfl;(with_reducible repeat (first | refine aQ ?_ _ | refine aX ?_ | refine aV ?_ _));exact BK212.out) hb);replace HB:=di HB hb))
         go_ret2
         exact ⟨dw,bI⟩
       exact absurd H (by simp)
     exact absurd H (by simp)
   obtain ⟨rfl,rfl⟩:=so2 H
   go_wp2
   go_ret2
   exact ⟨dw,bI⟩
end Go.Proofs.Ytdkalnkplgfgoaa.PA
