/- Lemmas and walks for the statements of the texts ZGZ..: the declarations that they need, taken together by a program of this session. Conditions: as each says. -/
import Derived.Test.YtdkalnkplgfgoaaZGa
import Derived.Test.YtdkalnkplgfgoaaZGb
set_option maxHeartbeats 8000000
set_option maxRecDepth 100000
set_option linter.unusedVariables false
set_option linter.unusedSimpArgs false
namespace Go.Proofs.Ytdkalnkplgfgoaa.PA
open Go.RowKit Go.Proofs.YtdkalnkplgfgoaaW.PrintWords Go.Proofs.YtdkalnkplgfgoaaW.PrintLast Go.Proofs.YtdkalnkplgfgoaaW.PrintMore
attribute [local go_sem] dY d9 fC fD dP dQ dZ ek
def bV.j0 : Nat → Int → Bool → Option (Bool)
 | 0, _, _ => none
 | k + 1, x3, x4 => if x4 = true then (some true) else (if x3 = 29 then (some true) else (if x3 = 45 then (some true) else (if x3 = 61 then (some true) else (if x3 = 77 then (some true) else (some false)))))
def bV.f (k : Nat) (a0 : Int) : Option (Bool) := if a0 = 21 then (bV.j0 k a0 (a0 == 21)) else (if a0 = 37 then (bV.j0 k a0 (a0 == 37)) else (if a0 = 53 then (bV.j0 k a0 (a0 == 53)) else (bV.j0 k a0 (a0 == 69))))
theorem bV.calls (k : Nat) (a0 : Int) (r : Bool) (w : World) (h : bV.f k a0 = some r) :
 Calls Try.prog 151 #[.int .u16 a0] w fun e w' => e = .returned (.bool r) ∧ cz w w' := by
 have H : (if a0 = 21 then (bV.j0 k a0 (a0 == 21)) else (if a0 = 37 then (bV.j0 k a0 (a0 == 37)) else (if a0 = 53 then (bV.j0 k a0 (a0 == 53)) else (bV.j0 k a0 (a0 == 69))))) = some r := h
 clear h
 have HC2 := aa.mk H
 clear H
 go_enter Try.func151, Try.ntmps151
 go_upto_if 4 with (fail)
 go_cut [4] (fun v4 wc => ∃ (kq : Nat) (x4_1 : Bool), v4 = .bool x4_1 ∧ aa (bV.j0 kq a0 x4_1 = some r) ∧ aa (kq ≤ k) ∧ cz w wc)
 case first =>
  have H := HC2.out
  clear HC2
  replace H := bO H
  obtain ⟨H, -, c3b0, _⟩ | ⟨H, c3, c3b0, _⟩ := H
  · (first | rw [c3b0] | (simp only [dH, dG]; rw [c3b0]) | skip)
    replace H := aa.mk H
    go_wp2
    go_meet
    case rel => exact ⟨_, _, aZ, H, ⟨le0⟩, bJ⟩
  (first | rw [c3b0] | (simp only [dH, dG]; rw [c3b0]) | skip)
  iterate 2
   replace H := bO H
   obtain ⟨H, -, _, _⟩ | ⟨H, c4, _, _⟩ := H
   · replace H := aa.mk H
     go_wp2
     go_meet
     case rel => exact ⟨_, _, aZ, H, ⟨le0⟩, bJ⟩
  replace H := aa.mk H
  go_wp2
  go_meet
  case rel => exact ⟨_, _, aZ, H, ⟨le0⟩, bJ⟩
 case rest =>
  clear HC2
  obtain ⟨kq, x4_1, rfl, HA, HJ1, ⟨mc1, rfl⟩⟩ := hcut
  cases kq with
  | zero => exact absurd HA.out (by simp [bV.j0])
  | succ kj1 =>
   have H := HA.out
   clear HA
   simp only [bV.j0] at H
   by_cases c6 : x4_1 = true
   · subst c6
     have H1 : (some true) = some r := by rw [if_pos rfl] at H; exact H
     clear H
     have H := H1
     clear H1
     cases H
     go_wp2
     go_ret
     exact ⟨aZ, bJ⟩
   replace c6 := Bool.eq_false_iff.mpr c6
   subst c6
   have H1 : (if a0 = 29 then (some true) else (if a0 = 45 then (some true) else (if a0 = 61 then (some true) else (if a0 = 77 then (some true) else (some false))))) = some r := by rw [if_neg (show ¬ (false = true) by decide)] at H; exact H
   clear H
   have H := H1
   clear H1
   iterate 2
    replace H := bO H
    obtain ⟨H, -, _, _⟩ | ⟨H, c7, _, _⟩ := H
    · cases H
      go_wp2
      go_ret
      exact ⟨aZ, bJ⟩
   iterate 2
    replace H := bO H
    obtain ⟨H, -, _, _⟩ | ⟨H, c9, _, _⟩ := H
    · cases H
      go_wp2
      go_ret
      exact ⟨aZ, bJ⟩
   cases H
   go_wp2
   go_ret
   exact ⟨aZ, bJ⟩
mutual
def aY.j0 : Nat → Int → Bool → Option (Bool)
 | 0, _, _ => none
 | k + 1, x3, x4 => if x4 = true then (some true) else (if x3 = 12 then (aY.j1 k x3 (x3 == 12)) else (if x3 = 28 then (aY.j1 k x3 (x3 == 28)) else (if x3 = 44 then (aY.j1 k x3 (x3 == 44)) else (if x3 = 60 then (aY.j1 k x3 (x3 == 60)) else (if x3 = 76 then (aY.j1 k x3 (x3 == 76)) else (if x3 = 92 then (aY.j1 k x3 (x3 == 92)) else (if x3 = 108 then (aY.j1 k x3 (x3 == 108)) else (if x3 = 124 then (aY.j1 k x3 (x3 == 124)) else (if x3 = 156 then (aY.j1 k x3 (x3 == 156)) else (aY.j1 k x3 (x3 == 172)))))))))))
def aY.j1 : Nat → Int → Bool → Option (Bool)
 | 0, _, _ => none
 | k + 1, x3, x15 => if x15 = true then (some true) else (if x3 = 132 then (some true) else (some false))
end
def aY.f (k : Nat) (a0 : Int) : Option (Bool) := if a0 = 4 then (aY.j0 k a0 (a0 == 4)) else (if a0 = 20 then (aY.j0 k a0 (a0 == 20)) else (if a0 = 36 then (aY.j0 k a0 (a0 == 36)) else (if a0 = 52 then (aY.j0 k a0 (a0 == 52)) else (if a0 = 68 then (aY.j0 k a0 (a0 == 68)) else (if a0 = 84 then (aY.j0 k a0 (a0 == 84)) else (if a0 = 100 then (aY.j0 k a0 (a0 == 100)) else (if a0 = 116 then (aY.j0 k a0 (a0 == 116)) else (if a0 = 148 then (aY.j0 k a0 (a0 == 148)) else (aY.j0 k a0 (a0 == 164))))))))))
theorem aY.calls (k : Nat) (a0 : Int) (r : Bool) (w : World) (h : aY.f k a0 = some r) :
 Calls Try.prog 163 #[.int .u16 a0] w fun e w' => e = .returned (.bool r) ∧ cz w w' := by
 have H : (if a0 = 4 then (aY.j0 k a0 (a0 == 4)) else (if a0 = 20 then (aY.j0 k a0 (a0 == 20)) else (if a0 = 36 then (aY.j0 k a0 (a0 == 36)) else (if a0 = 52 then (aY.j0 k a0 (a0 == 52)) else (if a0 = 68 then (aY.j0 k a0 (a0 == 68)) else (if a0 = 84 then (aY.j0 k a0 (a0 == 84)) else (if a0 = 100 then (aY.j0 k a0 (a0 == 100)) else (if a0 = 116 then (aY.j0 k a0 (a0 == 116)) else (if a0 = 148 then (aY.j0 k a0 (a0 == 148)) else (aY.j0 k a0 (a0 == 164))))))))))) = some r := h
 clear h
 have HC2 := aa.mk H
 clear H
 go_enter Try.func163, Try.ntmps163
 go_upto_if 4 with (fail)
 go_cut [4] (fun v4 wc => ∃ (kq : Nat) (x4_1 : Bool), v4 = .bool x4_1 ∧ aa (aY.j0 kq a0 x4_1 = some r) ∧ aa (kq ≤ k) ∧ cz w wc)
 case first =>
  have H := HC2.out
  clear HC2
  replace H := bO H
  obtain ⟨H, -, c3b0, _⟩ | ⟨H, c3, c3b0, _⟩ := H
  · (first | rw [c3b0] | (simp only [dH, dG]; rw [c3b0]) | skip)
    replace H := aa.mk H
    go_wp2
    go_meet
    case rel => exact ⟨_, _, aZ, H, ⟨le0⟩, bJ⟩
  (first | rw [c3b0] | (simp only [dH, dG]; rw [c3b0]) | skip)
  iterate 2
   replace H := bO H
   obtain ⟨H, -, _, _⟩ | ⟨H, c4, _, _⟩ := H
   · replace H := aa.mk H
     go_wp2
     go_meet
     case rel => exact ⟨_, _, aZ, H, ⟨le0⟩, bJ⟩
  iterate 2
   replace H := bO H
   obtain ⟨H, -, _, _⟩ | ⟨H, c6, _, _⟩ := H
   · replace H := aa.mk H
     go_wp2
     go_meet
     case rel => exact ⟨_, _, aZ, H, ⟨le0⟩, bJ⟩
  iterate 2
   replace H := bO H
   obtain ⟨H, -, _, _⟩ | ⟨H, c8, _, _⟩ := H
   · replace H := aa.mk H
     go_wp2
     go_meet
     case rel => exact ⟨_, _, aZ, H, ⟨le0⟩, bJ⟩
  iterate 2
   replace H := bO H
   obtain ⟨H, -, _, _⟩ | ⟨H, c10, _, _⟩ := H
   · replace H := aa.mk H
     go_wp2
     go_meet
     case rel => exact ⟨_, _, aZ, H, ⟨le0⟩, bJ⟩
  replace H := aa.mk H
  go_wp2
  go_meet
  case rel => exact ⟨_, _, aZ, H, ⟨le0⟩, bJ⟩
 case rest =>
  clear HC2
  obtain ⟨kq, x4_1, rfl, HA, HJ1, ⟨mc1, rfl⟩⟩ := hcut
  cases kq with
  | zero => exact absurd HA.out (by simp [aY.j0])
  | succ kj1 =>
   have H := HA.out
   clear HA
   simp only [aY.j0] at H
   by_cases c12 : x4_1 = true
   · subst c12
     have H1 : (some true) = some r := by rw [if_pos rfl] at H; exact H
     clear H
     have H := H1
     clear H1
     cases H
     go_wp2
     go_ret
     exact ⟨aZ, bJ⟩
   replace c12 := Bool.eq_false_iff.mpr c12
   subst c12
   have H1 : (if a0 = 12 then (aY.j1 kj1 a0 (a0 == 12)) else (if a0 = 28 then (aY.j1 kj1 a0 (a0 == 28)) else (if a0 = 44 then (aY.j1 kj1 a0 (a0 == 44)) else (if a0 = 60 then (aY.j1 kj1 a0 (a0 == 60)) else (if a0 = 76 then (aY.j1 kj1 a0 (a0 == 76)) else (if a0 = 92 then (aY.j1 kj1 a0 (a0 == 92)) else (if a0 = 108 then (aY.j1 kj1 a0 (a0 == 108)) else (if a0 = 124 then (aY.j1 kj1 a0 (a0 == 124)) else (if a0 = 156 then (aY.j1 kj1 a0 (a0 == 156)) else (aY.j1 kj1 a0 (a0 == 172))))))))))) = some r := by rw [if_neg (show ¬ (false = true) by decide)] at H; exact H
   clear H
   have H := H1
   clear H1
   have HC13 := aa.mk H
   clear H
   go_upto_if 15 with (fail)
   go_cut [15] (fun v15 wc => ∃ (kq : Nat) (x15_12 : Bool), v15 = .bool x15_12 ∧ aa (aY.j1 kq a0 x15_12 = some r) ∧ aa (kq ≤ kj1) ∧ cz w wc)
   case first =>
    have H := HC13.out
    clear HC13
    replace H := bO H
    obtain ⟨H, -, c14b0, _⟩ | ⟨H, c14, c14b0, _⟩ := H
    · (first | rw [c14b0] | (simp only [dH, dG]; rw [c14b0]) | skip)
      replace H := aa.mk H
      go_wp2
      go_meet
      case rel => exact ⟨_, _, aZ, H, ⟨by have := HJ1.out; first | omega | exact Nat.le_refl _⟩, bJ⟩
    (first | rw [c14b0] | (simp only [dH, dG]; rw [c14b0]) | skip)
    iterate 2
     replace H := bO H
     obtain ⟨H, -, _, _⟩ | ⟨H, c15, _, _⟩ := H
     · replace H := aa.mk H
       go_wp2
       go_meet
       case rel => exact ⟨_, _, aZ, H, ⟨by have := HJ1.out; first | omega | exact Nat.le_refl _⟩, bJ⟩
    iterate 2
     replace H := bO H
     obtain ⟨H, -, _, _⟩ | ⟨H, c17, _, _⟩ := H
     · replace H := aa.mk H
       go_wp2
       go_meet
       case rel => exact ⟨_, _, aZ, H, ⟨by have := HJ1.out; first | omega | exact Nat.le_refl _⟩, bJ⟩
    iterate 2
     replace H := bO H
     obtain ⟨H, -, _, _⟩ | ⟨H, c19, _, _⟩ := H
     · replace H := aa.mk H
       go_wp2
       go_meet
       case rel => exact ⟨_, _, aZ, H, ⟨by have := HJ1.out; first | omega | exact Nat.le_refl _⟩, bJ⟩
    iterate 2
     replace H := bO H
     obtain ⟨H, -, _, _⟩ | ⟨H, c21, _, _⟩ := H
     · replace H := aa.mk H
       go_wp2
       go_meet
       case rel => exact ⟨_, _, aZ, H, ⟨by have := HJ1.out; first | omega | exact Nat.le_refl _⟩, bJ⟩
    replace H := aa.mk H
    go_wp2
    go_meet
    case rel => exact ⟨_, _, aZ, H, ⟨by have := HJ1.out; first | omega | exact Nat.le_refl _⟩, bJ⟩
   case rest =>
    clear HC13
    obtain ⟨kq, x15_12, rfl, HA, HJ12, ⟨mc12, rfl⟩⟩ := hcut
    cases kq with
    | zero => exact absurd HA.out (by simp [aY.j1])
    | succ kj12 =>
     have H := HA.out
     clear HA
     simp only [aY.j1] at H
     by_cases c23 : x15_12 = true
     · subst c23
       have H1 : (some true) = some r := by rw [if_pos rfl] at H; exact H
       clear H
       have H := H1
       clear H1
       cases H
       go_wp2
       go_ret
       exact ⟨aZ, bJ⟩
     replace c23 := Bool.eq_false_iff.mpr c23
     subst c23
     have H1 : (if a0 = 132 then (some true) else (some false)) = some r := by rw [if_neg (show ¬ (false = true) by decide)] at H; exact H
     clear H
     have H := H1
     clear H1
     replace H := bO H
     obtain ⟨H, -, _, _⟩ | ⟨H, c24, _, _⟩ := H
     · cases H
       go_wp2
       go_ret
       exact ⟨aZ, bJ⟩
     cases H
     go_wp2
     go_ret
     exact ⟨aZ, bJ⟩
attribute [local go_sem] dY d9 fC fD dP dQ dZ ek
mutual
def aH.j0 : Nat → Int → Int → Bool → Option (Bool)
 | 0, _, _, _ => none
 | k + 1, x0, x3, x4 => if x4 = true then (some true) else (if x3 = 1 then (aH.j1 k x0 x3 (x3 == 1)) else (if x3 = 97 then (aH.j1 k x0 x3 (x3 == 97)) else (if x3 = 129 then (aH.j1 k x0 x3 (x3 == 129)) else (aH.j1 k x0 x3 (x3 == 177)))))
def aH.j1 : Nat → Int → Int → Bool → Option (Bool)
 | 0, _, _, _ => none
 | k + 1, x0, x3, x14 => if x14 = true then (some true) else (if x3 = 2 then (aH.j2 k x0 (x3 == 2)) else (if x3 = 3 then (aH.j2 k x0 (x3 == 3)) else (if x3 = 6 then (aH.j2 k x0 (x3 == 6)) else (if x3 = 22 then (aH.j2 k x0 (x3 == 22)) else (if x3 = 7 then (aH.j2 k x0 (x3 == 7)) else (if x3 = 135 then (aH.j2 k x0 (x3 == 135)) else (aH.j2 k x0 (x3 == 5))))))))
def aH.j2 : Nat → Int → Bool → Option (Bool)
 | 0, _, _ => none
 | k + 1, x0, x19 => if x19 = true then (some true) else ((aY.f k x0).bind fun t182 => (if t182 = true then (some true) else ((bV.f k x0).bind fun t183 => (some t183))))
end
def aH.f (k : Nat) (a0 : Int) : Option (Bool) := if a0 = 0 then (aH.j0 k a0 a0 (a0 == 0)) else (if a0 = 32 then (aH.j0 k a0 a0 (a0 == 32)) else (if a0 = 40 then (aH.j0 k a0 a0 (a0 == 40)) else (if a0 = 48 then (aH.j0 k a0 a0 (a0 == 48)) else (if a0 = 64 then (aH.j0 k a0 a0 (a0 == 64)) else (if a0 = 72 then (aH.j0 k a0 a0 (a0 == 72)) else (if a0 = 80 then (aH.j0 k a0 a0 (a0 == 80)) else (if a0 = 96 then (aH.j0 k a0 a0 (a0 == 96)) else (aH.j0 k a0 a0 (a0 == 128)))))))))
theorem aH.calls (k : Nat) (a0 : Int) (r : Bool) (w : World) (h : aH.f k a0 = some r) :
 Calls Try.prog 143 #[.int .u16 a0] w fun e w' => e = .returned (.bool r) ∧ cz w w' := by
 have H : (if a0 = 0 then (aH.j0 k a0 a0 (a0 == 0)) else (if a0 = 32 then (aH.j0 k a0 a0 (a0 == 32)) else (if a0 = 40 then (aH.j0 k a0 a0 (a0 == 40)) else (if a0 = 48 then (aH.j0 k a0 a0 (a0 == 48)) else (if a0 = 64 then (aH.j0 k a0 a0 (a0 == 64)) else (if a0 = 72 then (aH.j0 k a0 a0 (a0 == 72)) else (if a0 = 80 then (aH.j0 k a0 a0 (a0 == 80)) else (if a0 = 96 then (aH.j0 k a0 a0 (a0 == 96)) else (aH.j0 k a0 a0 (a0 == 128)))))))))) = some r := h
 clear h
 have HC2 := aa.mk H
 clear H
 go_enter Try.func143, Try.ntmps143
 go_upto_if 4 with (fail)
 go_cut [4] (fun v4 wc => ∃ (kq : Nat) (x4_1 : Bool), v4 = .bool x4_1 ∧ aa (aH.j0 kq a0 a0 x4_1 = some r) ∧ aa (kq ≤ k) ∧ cz w wc)
 case first =>
  have H := HC2.out
  clear HC2
  replace H := bO H
  obtain ⟨H, -, c3b0, _⟩ | ⟨H, c3, c3b0, _⟩ := H
  · (first | rw [c3b0] | (simp only [dH, dG]; rw [c3b0]) | skip)
    replace H := aa.mk H
    go_wp2
    go_meet
    case rel => exact ⟨_, _, aZ, H, ⟨le0⟩, bJ⟩
  (first | rw [c3b0] | (simp only [dH, dG]; rw [c3b0]) | skip)
  replace H := bO H
  obtain ⟨H, -, _, _⟩ | ⟨H, c4, _, _⟩ := H
  · replace H := aa.mk H
    go_wp2
    go_meet
    case rel => exact ⟨_, _, aZ, H, ⟨le0⟩, bJ⟩
  iterate 2
   replace H := bO H
   obtain ⟨H, -, _, _⟩ | ⟨H, c5, _, _⟩ := H
   · replace H := aa.mk H
     go_wp2
     go_meet
     case rel => exact ⟨_, _, aZ, H, ⟨le0⟩, bJ⟩
  iterate 2
   replace H := bO H
   obtain ⟨H, -, _, _⟩ | ⟨H, c7, _, _⟩ := H
   · replace H := aa.mk H
     go_wp2
     go_meet
     case rel => exact ⟨_, _, aZ, H, ⟨le0⟩, bJ⟩
  iterate 2
   replace H := bO H
   obtain ⟨H, -, _, _⟩ | ⟨H, c9, _, _⟩ := H
   · replace H := aa.mk H
     go_wp2
     go_meet
     case rel => exact ⟨_, _, aZ, H, ⟨le0⟩, bJ⟩
  replace H := aa.mk H
  go_wp2
  go_meet
  case rel => exact ⟨_, _, aZ, H, ⟨le0⟩, bJ⟩
 case rest =>
  clear HC2
  obtain ⟨kq, x4_1, rfl, HA, HJ1, ⟨mc1, rfl⟩⟩ := hcut
  cases kq with
  | zero => exact absurd HA.out (by simp [aH.j0])
  | succ kj1 =>
   have H := HA.out
   clear HA
   simp only [aH.j0] at H
   by_cases c11 : x4_1 = true
   · subst c11
     have H1 : (some true) = some r := by rw [if_pos rfl] at H; exact H
     clear H
     have H := H1
     clear H1
     cases H
     go_wp2
     go_ret
     exact ⟨aZ, bJ⟩
   replace c11 := Bool.eq_false_iff.mpr c11
   subst c11
   have H1 : (if a0 = 1 then (aH.j1 kj1 a0 a0 (a0 == 1)) else (if a0 = 97 then (aH.j1 kj1 a0 a0 (a0 == 97)) else (if a0 = 129 then (aH.j1 kj1 a0 a0 (a0 == 129)) else (aH.j1 kj1 a0 a0 (a0 == 177))))) = some r := by rw [if_neg (show ¬ (false = true) by decide)] at H; exact H
   clear H
   have H := H1
   clear H1
   have HC12 := aa.mk H
   clear H
   go_upto_if 14 with (fail)
   go_cut [14] (fun v14 wc => ∃ (kq : Nat) (x14_11 : Bool), v14 = .bool x14_11 ∧ aa (aH.j1 kq a0 a0 x14_11 = some r) ∧ aa (kq ≤ kj1) ∧ cz w wc)
   case first =>
    have H := HC12.out
    clear HC12
    replace H := bO H
    obtain ⟨H, -, c13b0, _⟩ | ⟨H, c13, c13b0, _⟩ := H
    · (first | rw [c13b0] | (simp only [dH, dG]; rw [c13b0]) | skip)
      replace H := aa.mk H
      go_wp2
      go_meet
      case rel => exact ⟨_, _, aZ, H, ⟨by have := HJ1.out; first | omega | exact Nat.le_refl _⟩, bJ⟩
    (first | rw [c13b0] | (simp only [dH, dG]; rw [c13b0]) | skip)
    iterate 2
     replace H := bO H
     obtain ⟨H, -, _, _⟩ | ⟨H, c14, _, _⟩ := H
     · replace H := aa.mk H
       go_wp2
       go_meet
       case rel => exact ⟨_, _, aZ, H, ⟨by have := HJ1.out; first | omega | exact Nat.le_refl _⟩, bJ⟩
    replace H := aa.mk H
    go_wp2
    go_meet
    case rel => exact ⟨_, _, aZ, H, ⟨by have := HJ1.out; first | omega | exact Nat.le_refl _⟩, bJ⟩
   case rest =>
    clear HC12
    obtain ⟨kq, x14_11, rfl, HA, HJ11, ⟨mc11, rfl⟩⟩ := hcut
    cases kq with
    | zero => exact absurd HA.out (by simp [aH.j1])
    | succ kj11 =>
     have H := HA.out
     clear HA
     simp only [aH.j1] at H
     by_cases c16 : x14_11 = true
     · subst c16
       have H1 : (some true) = some r := by rw [if_pos rfl] at H; exact H
       clear H
       have H := H1
       clear H1
       cases H
       go_wp2
       go_ret
       exact ⟨aZ, bJ⟩
     replace c16 := Bool.eq_false_iff.mpr c16
     subst c16
     have H1 : (if a0 = 2 then (aH.j2 kj11 a0 (a0 == 2)) else (if a0 = 3 then (aH.j2 kj11 a0 (a0 == 3)) else (if a0 = 6 then (aH.j2 kj11 a0 (a0 == 6)) else (if a0 = 22 then (aH.j2 kj11 a0 (a0 == 22)) else (if a0 = 7 then (aH.j2 kj11 a0 (a0 == 7)) else (if a0 = 135 then (aH.j2 kj11 a0 (a0 == 135)) else (aH.j2 kj11 a0 (a0 == 5)))))))) = some r := by rw [if_neg (show ¬ (false = true) by decide)] at H; exact H
     clear H
     have H := H1
     clear H1
     have HC17 := aa.mk H
     clear H
     go_upto_if 19 with (fail)
     go_cut [19] (fun v19 wc => ∃ (kq : Nat) (x19_16 : Bool), v19 = .bool x19_16 ∧ aa (aH.j2 kq a0 x19_16 = some r) ∧ aa (kq ≤ kj11) ∧ cz w wc)
     case first =>
      have H := HC17.out
      clear HC17
      replace H := bO H
      obtain ⟨H, -, c18b0, _⟩ | ⟨H, c18, c18b0, _⟩ := H
      · (first | rw [c18b0] | (simp only [dH, dG]; rw [c18b0]) | skip)
        replace H := aa.mk H
        go_wp2
        go_meet
        case rel => exact ⟨_, _, aZ, H, ⟨by have := HJ1.out; have := HJ11.out; first | omega | exact Nat.le_refl _⟩, bJ⟩
      (first | rw [c18b0] | (simp only [dH, dG]; rw [c18b0]) | skip)
      replace H := bO H
      obtain ⟨H, -, _, _⟩ | ⟨H, c19, _, _⟩ := H
      · replace H := aa.mk H
        go_wp2
        go_meet
        case rel => exact ⟨_, _, aZ, H, ⟨by have := HJ1.out; have := HJ11.out; first | omega | exact Nat.le_refl _⟩, bJ⟩
      iterate 2
       replace H := bO H
       obtain ⟨H, -, _, _⟩ | ⟨H, c20, _, _⟩ := H
       · replace H := aa.mk H
         go_wp2
         go_meet
         case rel => exact ⟨_, _, aZ, H, ⟨by have := HJ1.out; have := HJ11.out; first | omega | exact Nat.le_refl _⟩, bJ⟩
      iterate 2
       replace H := bO H
       obtain ⟨H, -, _, _⟩ | ⟨H, c22, _, _⟩ := H
       · replace H := aa.mk H
         go_wp2
         go_meet
         case rel => exact ⟨_, _, aZ, H, ⟨by have := HJ1.out; have := HJ11.out; first | omega | exact Nat.le_refl _⟩, bJ⟩
      replace H := aa.mk H
      go_wp2
      go_meet
      case rel => exact ⟨_, _, aZ, H, ⟨by have := HJ1.out; have := HJ11.out; first | omega | exact Nat.le_refl _⟩, bJ⟩
     case rest =>
      clear HC17
      obtain ⟨kq, x19_16, rfl, HA, HJ16, ⟨mc16, rfl⟩⟩ := hcut
      cases kq with
      | zero => exact absurd HA.out (by simp [aH.j2])
      | succ kj16 =>
       have H := HA.out
       clear HA
       simp only [aH.j2] at H
       by_cases c24 : x19_16 = true
       · subst c24
         have H1 : (some true) = some r := by rw [if_pos rfl] at H; exact H
         clear H
         have H := H1
         clear H1
         cases H
         go_wp2
         go_ret
         exact ⟨aZ, bJ⟩
       replace c24 := Bool.eq_false_iff.mpr c24
       subst c24
       have H1 : ((aY.f kj16 a0).bind fun t182 => (if t182 = true then (some true) else ((bV.f kj16 a0).bind fun t183 => (some t183)))) = some r := by rw [if_neg (show ¬ (false = true) by decide)] at H; exact H
       clear H
       have H := H1
       clear H1
       replace H := bnd H
       obtain ⟨t182, A25, H⟩ := H
       replace H := jK H
       obtain ⟨rfl, H⟩ | ⟨rfl, H⟩ := H
       · cases H
         go_wp2_with (go_at_call 163; (with_reducible refine (aY.calls _ _ _ _ A25.out).mono ?_); rintro e w' ⟨rfl, ⟨nd, rfl⟩⟩)
         go_ret
         exact ⟨aZ, bJ⟩
       replace H := bnd H
       obtain ⟨t183, A27, H⟩ := H
       cases H
       go_wp2_with (first | (go_at_call 163; (with_reducible refine (aY.calls _ _ _ _ A25.out).mono ?_); rintro e w' ⟨rfl, ⟨nd, rfl⟩⟩) | (go_at_call 151; (with_reducible refine (bV.calls _ _ _ _ A27.out).mono ?_); rintro e w' ⟨rfl, ⟨nd, rfl⟩⟩))
       go_ret
       exact ⟨aZ, bJ⟩
def aD.f (k : Nat) (a0 : Int) : Option (Int) := (aH.f k a0).bind fun t184 => (if t184 = true then (some (wrap64 (Go.bits .and .u16 a0 7))) else (some (-1)))
theorem aD.calls (k : Nat) (a0 : Int) (r : Int) (w : World) (h : aD.f k a0 = some r) :
 Calls Try.prog 99 #[.int .u16 a0] w fun e w' => e = .returned (.int .i64 r) ∧ cz w w' := by
 have H : ((aH.f k a0).bind fun t184 => (if t184 = true then (some (wrap64 (Go.bits .and .u16 a0 7))) else (some (-1)))) = some r := h
 clear h
 replace H := bnd H
 obtain ⟨t184, A2, H⟩ := H
 replace H := jK H
 obtain ⟨rfl, H⟩ | ⟨rfl, H⟩ := H
 · cases H
   go_enter Try.func99, Try.ntmps99
   go_wp2_with (go_at_call 143; (with_reducible refine (aH.calls _ _ _ _ A2.out).mono ?_); rintro e w' ⟨rfl, ⟨nd, rfl⟩⟩)
   go_ret
   exact ⟨aZ, bJ⟩
 cases H
 go_enter Try.func99, Try.ntmps99
 go_wp2_with (go_at_call 143; (with_reducible refine (aH.calls _ _ _ _ A2.out).mono ?_); rintro e w' ⟨rfl, ⟨nd, rfl⟩⟩)
 go_ret
 exact ⟨aZ, bJ⟩
attribute [local go_sem] dY d9 fC fD dP dQ dZ ek
mutual
def aU.j0 : Nat → Int → Bool → Int → Int → Int → Int → Option (Bool)
 | 0, _, _, _, _, _, _ => none
 | k + 1, x11, x12, x186000, x186001, x186002, x186003 => if x12 = true then (some (decide (x186003 < 16))) else (if x11 = 52 then (aU.j1 k x11 (x11 == 52) x186000 x186001 x186002 x186003) else (aU.j1 k x11 (x11 == 148) x186000 x186001 x186002 x186003))
def aU.j1 : Nat → Int → Bool → Int → Int → Int → Int → Option (Bool)
 | 0, _, _, _, _, _, _ => none
 | k + 1, x11, x20, x186000, x186001, x186002, x186003 => if x20 = true then (some (x186003 != 0)) else (if x11 = 100 then (some (decide (x186003 ≤ 31))) else (if x11 = 116 then (some (decide (x186003 ≤ 31))) else (some true)))
end
def aU.f (k : Nat) (a0_0 : Int) (a0_1 : Int) (a0_2 : Int) (a0_3 : Int) : Option (Bool) := (aD.f k a0_0).bind fun t186 => (if t186 = (-1) then (some false) else (if t186 = 5 then (some false) else (if t186 = 6 then (some false) else (if a0_0 = 2 then (aU.j0 k a0_0 (a0_0 == 2) a0_0 a0_1 a0_2 a0_3) else (if a0_0 = 3 then (aU.j0 k a0_0 (a0_0 == 3) a0_0 a0_1 a0_2 a0_3) else (if a0_0 = 96 then (aU.j0 k a0_0 (a0_0 == 96) a0_0 a0_1 a0_2 a0_3) else (aU.j0 k a0_0 (a0_0 == 97) a0_0 a0_1 a0_2 a0_3)))))))
theorem aU.calls (k : Nat) (a0_0 : Int) (a0_1 : Int) (a0_2 : Int) (a0_3 : Int) (r : Bool) (w : World) (h : aU.f k a0_0 a0_1 a0_2 a0_3 = some r) :
 Calls Try.prog 123 #[.agg #[.int .u16 a0_0, .int .u8 a0_1, .int .u8 a0_2, .int .u32 a0_3]] w fun e w' => e = .returned (.bool r) ∧ Below w.heap.size w w' := by
 have hu45 := Try.underlying45
 have HB := aa.mk (Below.refl w.heap.size w)
 have H : ((aD.f k a0_0).bind fun t186 => (if t186 = (-1) then (some false) else (if t186 = 5 then (some false) else (if t186 = 6 then (some false) else (if a0_0 = 2 then (aU.j0 k a0_0 (a0_0 == 2) a0_0 a0_1 a0_2 a0_3) else (if a0_0 = 3 then (aU.j0 k a0_0 (a0_0 == 3) a0_0 a0_1 a0_2 a0_3) else (if a0_0 = 96 then (aU.j0 k a0_0 (a0_0 == 96) a0_0 a0_1 a0_2 a0_3) else (aU.j0 k a0_0 (a0_0 == 97) a0_0 a0_1 a0_2 a0_3)))))))) = some r := h
 clear h
 replace H := bnd H
 obtain ⟨t186, A2, H⟩ := H
 replace H := bO H
 obtain ⟨H, -, _, _⟩ | ⟨H, c3, _, _⟩ := H
 · cases H
   go_enter Try.func123, Try.ntmps123
   go_wp2_with (first | ((with_reducible refine aT (N := 1) rfl ?_); refine dW (N := 1) (cs := #[.int .u16 a0_0, .int .u8 a0_1, .int .u8 a0_2, .int .u32 a0_3]) (t := 45) ?_; intro gb185 hg w4 hbox hb; have GE185 := geN HB hg; have BK185 := aa.mk hbox; replace HB := di HB hb; clear hb hbox hg; obtain ⟨_, _, _, _, _, _, _, _⟩ := cz4 BK185) | (go_at_call 99; (with_reducible refine (aD.calls _ _ _ _ A2.out).mono ?_); rintro e w' ⟨rfl, ⟨nd, rfl⟩⟩))
   go_ret
   exact ⟨dB, bE⟩
 iterate 2
  replace H := bO H
  obtain ⟨H, -, _, _⟩ | ⟨H, c6, _, _⟩ := H
  · cases H
    go_enter Try.func123, Try.ntmps123
    go_wp2_with (first | ((with_reducible refine aT (N := 1) rfl ?_); refine dW (N := 1) (cs := #[.int .u16 a0_0, .int .u8 a0_1, .int .u8 a0_2, .int .u32 a0_3]) (t := 45) ?_; intro gb185 hg w7 hbox hb; have GE185 := geN HB hg; have BK185 := aa.mk hbox; replace HB := di HB hb; clear hb hbox hg; obtain ⟨_, _, _, _, _, _, _, _⟩ := cz4 BK185) | (go_at_call 99; (with_reducible refine (aD.calls _ _ _ _ A2.out).mono ?_); rintro e w' ⟨rfl, ⟨nd, rfl⟩⟩))
    go_ret
    exact ⟨dB, bE⟩
 have HC12 := aa.mk H
 clear H
 go_enter Try.func123, Try.ntmps123
 go_upto_if 12 with (first | ((with_reducible refine aT (N := 1) rfl ?_); refine dW (N := 1) (cs := #[.int .u16 a0_0, .int .u8 a0_1, .int .u8 a0_2, .int .u32 a0_3]) (t := 45) ?_; intro gb185 hg w13 hbox hb; have GE185 := geN HB hg; have BK185 := aa.mk hbox; replace HB := di HB hb; clear hb hbox hg; obtain ⟨_, _, _, _, _, _, _, _⟩ := cz4 BK185) | (go_at_call 99; (with_reducible refine (aD.calls _ _ _ _ A2.out).mono ?_); rintro e w' ⟨rfl, ⟨nd, rfl⟩⟩))
 (try simp only [Act.put, List.setIfInBounds_toArray, List.set_cons_zero, List.set_cons_succ])
 go_cut [12] (fun v12 wc => ∃ (kq : Nat) (x12_11 : Bool), v12 = .bool x12_11 ∧ aa (aU.j0 kq a0_0 x12_11 a0_0 a0_1 a0_2 a0_3 = some r) ∧ aa (kq ≤ k) ∧ aa (wc.heap[gb185]? = some (.cells #[.int .u16 a0_0, .int .u8 a0_1, .int .u8 a0_2, .int .u32 a0_3] 45 (0, 0))) ∧ aa (Below w.heap.size w wc))
 case first =>
  have H := HC12.out
  clear HC12
  replace H := bO H
  obtain ⟨H, -, c15b0, _⟩ | ⟨H, c15, c15b0, _⟩ := H
  · (first | rw [c15b0] | (simp only [dH, dG]; rw [c15b0]) | skip)
    replace H := aa.mk H
    go_wp2
    go_meet
    case rel => exact ⟨_, _, aZ, H, ⟨le0⟩, ⟨iV⟩, ⟨bE⟩⟩
  (first | rw [c15b0] | (simp only [dH, dG]; rw [c15b0]) | skip)
  iterate 2
   replace H := bO H
   obtain ⟨H, -, _, _⟩ | ⟨H, c16, _, _⟩ := H
   · replace H := aa.mk H
     go_wp2
     go_meet
     case rel => exact ⟨_, _, aZ, H, ⟨le0⟩, ⟨iV⟩, ⟨bE⟩⟩
  replace H := aa.mk H
  go_wp2
  go_meet
  case rel => exact ⟨_, _, aZ, H, ⟨le0⟩, ⟨iV⟩, ⟨bE⟩⟩
 case rest =>
  clear HC12
  obtain ⟨kq, x12_11, rfl, HA, HJ11, BK185, HB⟩ := hcut
  cases kq with
  | zero => exact absurd HA.out (by simp [aU.j0])
  | succ kj11 =>
   have H := HA.out
   clear HA
   simp only [aU.j0] at H
   by_cases c18 : x12_11 = true
   · subst c18
     have H1 : (some (decide (a0_3 < 16))) = some r := by rw [if_pos rfl] at H; exact H
     clear H
     have H := H1
     clear H1
     cases H
     obtain ⟨_, _, _, _, _, _, _, _⟩ := cz4 BK185
     go_wp2
     go_ret
     exact ⟨dB, bE⟩
   replace c18 := Bool.eq_false_iff.mpr c18
   subst c18
   have H1 : (if a0_0 = 52 then (aU.j1 kj11 a0_0 (a0_0 == 52) a0_0 a0_1 a0_2 a0_3) else (aU.j1 kj11 a0_0 (a0_0 == 148) a0_0 a0_1 a0_2 a0_3)) = some r := by rw [if_neg (show ¬ (false = true) by decide)] at H; exact H
   clear H
   have H := H1
   clear H1
   have HC20 := aa.mk H
   clear H
   go_upto_if 20 with (fail)
   go_cut [20] (fun v20 wc => ∃ (kq : Nat) (x20_19 : Bool), v20 = .bool x20_19 ∧ aa (aU.j1 kq a0_0 x20_19 a0_0 a0_1 a0_2 a0_3 = some r) ∧ aa (kq ≤ kj11) ∧ aa (wc.heap[gb185]? = some (.cells #[.int .u16 a0_0, .int .u8 a0_1, .int .u8 a0_2, .int .u32 a0_3] 45 (0, 0))) ∧ aa (Below w.heap.size w wc))
   case first =>
    have H := HC20.out
    clear HC20
    replace H := bO H
    obtain ⟨H, -, c21b0, _⟩ | ⟨H, c21, c21b0, _⟩ := H
    · (first | rw [c21b0] | (simp only [dH, dG]; rw [c21b0]) | skip)
      replace H := aa.mk H
      go_wp2
      go_meet
      case rel => exact ⟨_, _, aZ, H, ⟨by have := HJ11.out; first | omega | exact Nat.le_refl _⟩, ⟨iV⟩, ⟨bE⟩⟩
    (first | rw [c21b0] | (simp only [dH, dG]; rw [c21b0]) | skip)
    replace H := aa.mk H
    go_wp2
    go_meet
    case rel => exact ⟨_, _, aZ, H, ⟨by have := HJ11.out; first | omega | exact Nat.le_refl _⟩, ⟨iV⟩, ⟨bE⟩⟩
   case rest =>
    clear HC20
    obtain ⟨kq, x20_19, rfl, HA, HJ19, BK185, HB⟩ := hcut
    cases kq with
    | zero => exact absurd HA.out (by simp [aU.j1])
    | succ kj19 =>
     have H := HA.out
     clear HA
     simp only [aU.j1] at H
     by_cases c22 : x20_19 = true
     · subst c22
       have H1 : (some (a0_3 != 0)) = some r := by rw [if_pos rfl] at H; exact H
       clear H
       have H := H1
       clear H1
       cases H
       obtain ⟨_, _, _, _, _, _, _, _⟩ := cz4 BK185
       go_wp2
       go_ret
       exact ⟨dB, bE⟩
     replace c22 := Bool.eq_false_iff.mpr c22
     subst c22
     have H1 : (if a0_0 = 100 then (some (decide (a0_3 ≤ 31))) else (if a0_0 = 116 then (some (decide (a0_3 ≤ 31))) else (some true))) = some r := by rw [if_neg (show ¬ (false = true) by decide)] at H; exact H
     clear H
     have H := H1
     clear H1
     iterate 2
      replace H := bO H
      obtain ⟨H, -, _, _⟩ | ⟨H, c24, _, _⟩ := H
      · cases H
        obtain ⟨_, _, _, _, _, _, _, _⟩ := cz4 BK185
        go_wp2
        go_ret
        exact ⟨dB, bE⟩
     cases H
     go_wp2
     go_ret
     exact ⟨dB, bE⟩
def bT.j0 : Nat → Int → Bool → Option (Bool)
 | 0, _, _ => none
 | k + 1, x0, x4 => if x4 = true then (some false) else ((aY.f k x0).bind fun t187 => (if t187 = true then (some ((Go.bits .and .u16 x0 8) == 0)) else ((bV.f k x0).bind fun t188 => (if t188 = true then (some ((Go.bits .and .u16 x0 8) == 0)) else (some true)))))
def bT.f (k : Nat) (a0 : Int) : Option (Bool) := if a0 = 128 then (bT.j0 k a0 (a0 == 128)) else (if a0 = 129 then (bT.j0 k a0 (a0 == 129)) else (if a0 = 132 then (bT.j0 k a0 (a0 == 132)) else (if a0 = 22 then (bT.j0 k a0 (a0 == 22)) else (if a0 = 7 then (bT.j0 k a0 (a0 == 7)) else (bT.j0 k a0 (a0 == 135))))))
theorem bT.calls (k : Nat) (a0 : Int) (r : Bool) (w : World) (h : bT.f k a0 = some r) :
 Calls Try.prog 150 #[.int .u16 a0] w fun e w' => e = .returned (.bool r) ∧ cz w w' := by
 have H : (if a0 = 128 then (bT.j0 k a0 (a0 == 128)) else (if a0 = 129 then (bT.j0 k a0 (a0 == 129)) else (if a0 = 132 then (bT.j0 k a0 (a0 == 132)) else (if a0 = 22 then (bT.j0 k a0 (a0 == 22)) else (if a0 = 7 then (bT.j0 k a0 (a0 == 7)) else (bT.j0 k a0 (a0 == 135))))))) = some r := h
 clear h
 have HC2 := aa.mk H
 clear H
 go_enter Try.func150, Try.ntmps150
 go_upto_if 4 with (fail)
 go_cut [4] (fun v4 wc => ∃ (kq : Nat) (x4_1 : Bool), v4 = .bool x4_1 ∧ aa (bT.j0 kq a0 x4_1 = some r) ∧ aa (kq ≤ k) ∧ cz w wc)
 case first =>
  have H := HC2.out
  clear HC2
  replace H := bO H
  obtain ⟨H, -, c3b0, _⟩ | ⟨H, c3, c3b0, _⟩ := H
  · (first | rw [c3b0] | (simp only [dH, dG]; rw [c3b0]) | skip)
    replace H := aa.mk H
    go_wp2
    go_meet
    case rel => exact ⟨_, _, aZ, H, ⟨le0⟩, bJ⟩
  (first | rw [c3b0] | (simp only [dH, dG]; rw [c3b0]) | skip)
  iterate 2
   replace H := bO H
   obtain ⟨H, -, _, _⟩ | ⟨H, c4, _, _⟩ := H
   · replace H := aa.mk H
     go_wp2
     go_meet
     case rel => exact ⟨_, _, aZ, H, ⟨le0⟩, bJ⟩
  iterate 2
   replace H := bO H
   obtain ⟨H, -, _, _⟩ | ⟨H, c6, _, _⟩ := H
   · replace H := aa.mk H
     go_wp2
     go_meet
     case rel => exact ⟨_, _, aZ, H, ⟨le0⟩, bJ⟩
  replace H := aa.mk H
  go_wp2
  go_meet
  case rel => exact ⟨_, _, aZ, H, ⟨le0⟩, bJ⟩
 case rest =>
  clear HC2
  obtain ⟨kq, x4_1, rfl, HA, HJ1, ⟨mc1, rfl⟩⟩ := hcut
  cases kq with
  | zero => exact absurd HA.out (by simp [bT.j0])
  | succ kj1 =>
   have H := HA.out
   clear HA
   simp only [bT.j0] at H
   by_cases c8 : x4_1 = true
   · subst c8
     have H1 : (some false) = some r := by rw [if_pos rfl] at H; exact H
     clear H
     have H := H1
     clear H1
     cases H
     go_wp2
     go_ret
     exact ⟨aZ, bJ⟩
   replace c8 := Bool.eq_false_iff.mpr c8
   subst c8
   have H1 : ((aY.f kj1 a0).bind fun t187 => (if t187 = true then (some ((Go.bits .and .u16 a0 8) == 0)) else ((bV.f kj1 a0).bind fun t188 => (if t188 = true then (some ((Go.bits .and .u16 a0 8) == 0)) else (some true))))) = some r := by rw [if_neg (show ¬ (false = true) by decide)] at H; exact H
   clear H
   have H := H1
   clear H1
   replace H := bnd H
   obtain ⟨t187, A9, H⟩ := H
   replace H := jK H
   obtain ⟨rfl, H⟩ | ⟨rfl, H⟩ := H
   · cases H
     go_wp2_with (go_at_call 163; (with_reducible refine (aY.calls _ _ _ _ A9.out).mono ?_); rintro e w' ⟨rfl, ⟨nd, rfl⟩⟩)
     go_ret
     exact ⟨aZ, bJ⟩
   replace H := bnd H
   obtain ⟨t188, A11, H⟩ := H
   replace H := jK H
   obtain ⟨rfl, H⟩ | ⟨rfl, H⟩ := H
   · cases H
     go_wp2_with (first | (go_at_call 163; (with_reducible refine (aY.calls _ _ _ _ A9.out).mono ?_); rintro e w' ⟨rfl, ⟨nd, rfl⟩⟩) | (go_at_call 151; (with_reducible refine (bV.calls _ _ _ _ A11.out).mono ?_); rintro e w' ⟨rfl, ⟨nd, rfl⟩⟩))
     go_ret
     exact ⟨aZ, bJ⟩
   cases H
   go_wp2_with (first | (go_at_call 163; (with_reducible refine (aY.calls _ _ _ _ A9.out).mono ?_); rintro e w' ⟨rfl, ⟨nd, rfl⟩⟩) | (go_at_call 151; (with_reducible refine (bV.calls _ _ _ _ A11.out).mono ?_); rintro e w' ⟨rfl, ⟨nd, rfl⟩⟩))
   go_ret
   exact ⟨aZ, bJ⟩
def gY.f (a0 : Int) : Option (Bool) := if a0 = 32 then (some true) else (if a0 = 40 then (some true) else (if a0 = 48 then (some true) else (if a0 = 64 then (some true) else (if a0 = 72 then (some true) else (if a0 = 80 then (some true) else (if a0 = 177 then (some true) else (if a0 = 60 then (some true) else (if a0 = 156 then (some true) else (some false)))))))))
theorem gY.calls (a0 : Int) (r : Bool) (w : World) (h : gY.f a0 = some r) :
 Calls Try.prog 152 #[.int .u16 a0] w fun e w' => e = .returned (.bool r) ∧ cz w w' := by
 have H : (if a0 = 32 then (some true) else (if a0 = 40 then (some true) else (if a0 = 48 then (some true) else (if a0 = 64 then (some true) else (if a0 = 72 then (some true) else (if a0 = 80 then (some true) else (if a0 = 177 then (some true) else (if a0 = 60 then (some true) else (if a0 = 156 then (some true) else (some false)))))))))) = some r := h
 clear h
 replace H := bO H
 obtain ⟨H, -, _, _⟩ | ⟨H, c2, _, _⟩ := H
 · cases H
   go_enter Try.func152, Try.ntmps152
   go_wp2
   go_ret
   exact ⟨aZ, bJ⟩
 iterate 2
  replace H := bO H
  obtain ⟨H, -, _, _⟩ | ⟨H, c3, _, _⟩ := H
  · cases H
    go_enter Try.func152, Try.ntmps152
    go_wp2
    go_ret
    exact ⟨aZ, bJ⟩
 iterate 2
  replace H := bO H
  obtain ⟨H, -, _, _⟩ | ⟨H, c5, _, _⟩ := H
  · cases H
    go_enter Try.func152, Try.ntmps152
    go_wp2
    go_ret
    exact ⟨aZ, bJ⟩
 iterate 2
  replace H := bO H
  obtain ⟨H, -, _, _⟩ | ⟨H, c7, _, _⟩ := H
  · cases H
    go_enter Try.func152, Try.ntmps152
    go_wp2
    go_ret
    exact ⟨aZ, bJ⟩
 iterate 2
  replace H := bO H
  obtain ⟨H, -, _, _⟩ | ⟨H, c9, _, _⟩ := H
  · cases H
    go_enter Try.func152, Try.ntmps152
    go_wp2
    go_ret
    exact ⟨aZ, bJ⟩
 cases H
 go_enter Try.func152, Try.ntmps152
 go_wp2
 go_ret
 exact ⟨aZ, bJ⟩
def fe.f (k : Nat) (a0 : Int) : Option (Bool × Bool × Bool) := (aH.f k a0).bind fun t189 => (if t189 = true then ((bT.f k a0).bind fun t190 => ((bV.f k a0).bind fun t191 => ((gY.f a0).bind fun t192 => (some (t190, t191, t192))))) else (some (false, false, false)))
theorem fe.calls (k : Nat) (a0 : Int) (r1 : Bool) (r2 : Bool) (r3 : Bool) (w : World) (h : fe.f k a0 = some (r1, r2, r3)) :
 Calls Try.prog 100 #[.int .u16 a0] w fun e w' => e = .returned (.tuple #[.bool r1, .bool r2, .bool r3]) ∧ cz w w' := by
 have H : ((aH.f k a0).bind fun t189 => (if t189 = true then ((bT.f k a0).bind fun t190 => ((bV.f k a0).bind fun t191 => ((gY.f a0).bind fun t192 => (some (t190, t191, t192))))) else (some (false, false, false)))) = some (r1, r2, r3) := h
 clear h
 replace H := bnd H
 obtain ⟨t189, A2, H⟩ := H
 replace H := jK H
 obtain ⟨rfl, H⟩ | ⟨rfl, H⟩ := H
 · replace H := bnd H
   obtain ⟨t190, A4, H⟩ := H
   replace H := bnd H
   obtain ⟨t191, A5, H⟩ := H
   replace H := bnd H
   obtain ⟨t192, A6, H⟩ := H
   obtain ⟨rfl, rfl, rfl⟩ := so3 H
   go_enter Try.func100, Try.ntmps100
   go_wp2_with (first | (go_at_call 143; (with_reducible refine (aH.calls _ _ _ _ A2.out).mono ?_); rintro e w' ⟨rfl, ⟨nd, rfl⟩⟩) | (go_at_call 150; (with_reducible refine (bT.calls _ _ _ _ A4.out).mono ?_); rintro e w' ⟨rfl, ⟨nd, rfl⟩⟩) | (go_at_call 151; (with_reducible refine (bV.calls _ _ _ _ A5.out).mono ?_); rintro e w' ⟨rfl, ⟨nd, rfl⟩⟩) | (go_at_call 152; (with_reducible refine (gY.calls _ _ _ A6.out).mono ?_); rintro e w' ⟨rfl, ⟨nd, rfl⟩⟩))
   go_ret3
   exact ⟨aZ, bJ⟩
 obtain ⟨rfl, rfl, rfl⟩ := so3 H
 go_enter Try.func100, Try.ntmps100
 go_wp2_with (go_at_call 143; (with_reducible refine (aH.calls _ _ _ _ A2.out).mono ?_); rintro e w' ⟨rfl, ⟨nd, rfl⟩⟩)
 go_ret3
 exact ⟨aZ, bJ⟩
attribute [local go_sem] dY d9 fC fD dP dQ dZ ek
attribute [local go_sem high] yY
def fu.f (k : Nat) (a0_0 : Int) (a0_1 : Int) (a0_2 : Int) (a0_3 : Int) : Option (Bool) := (fe.f k a0_0).bind fun bt194 => (if a0_1 = 0 then (if a0_2 = 0 then (if bt194.1 = true then (some true) else (some (a0_3 == 0))) else (some false)) else (some false))
theorem fu.calls (k : Nat) (a0_0 : Int) (a0_1 : Int) (a0_2 : Int) (a0_3 : Int) (r : Bool) (w : World) (h : fu.f k a0_0 a0_1 a0_2 a0_3 = some r) :
 Calls Try.prog 158 #[.agg #[.int .u16 a0_0, .int .u8 a0_1, .int .u8 a0_2, .int .u32 a0_3]] w fun e w' => e = .returned (.bool r) ∧ Below w.heap.size w w' := by
 have hu45 := Try.underlying45
 have HB := aa.mk (Below.refl w.heap.size w)
 have H : ((fe.f k a0_0).bind fun bt194 => (if a0_1 = 0 then (if a0_2 = 0 then (if bt194.1 = true then (some true) else (some (a0_3 == 0))) else (some false)) else (some false))) = some r := h
 clear h
 replace H := Option.bind_eq_some_iff.mp H
 obtain ⟨⟨t194, t195, t196⟩, A20, H⟩ := H
 replace H : (if a0_1 = 0 then (if a0_2 = 0 then (if t194 = true then (some true) else (some (a0_3 == 0))) else (some false)) else (some false)) = some r := H
 have A2 := aa.mk A20
 clear A20
 replace H := bO H
 obtain ⟨H, -, _, _⟩ | ⟨H, c3, _, _⟩ := H
 · replace H := bO H
   obtain ⟨H, -, _, _⟩ | ⟨H, c4, _, _⟩ := H
   · replace H := jK H
     obtain ⟨rfl, H⟩ | ⟨rfl, H⟩ := H
     · cases H
       go_enter Try.func158, Try.ntmps158
       go_wp2_with (first | ((with_reducible refine aT (N := 1) rfl ?_); refine dW (N := 1) (cs := #[.int .u16 a0_0, .int .u8 a0_1, .int .u8 a0_2, .int .u32 a0_3]) (t := 45) ?_; intro gb193 hg w6 hbox hb; have GE193 := geN HB hg; have BK193 := aa.mk hbox; replace HB := di HB hb; clear hb hbox hg; obtain ⟨_, _, _, _, _, _, _, _⟩ := cz4 BK193) | (go_at_call 100; (with_reducible refine (fe.calls _ _ _ _ _ _ A2.out).mono ?_); rintro e w' ⟨rfl, ⟨nd, rfl⟩⟩))
       go_ret
       exact ⟨dB, bE⟩
     cases H
     go_enter Try.func158, Try.ntmps158
     go_wp2_with (first | ((with_reducible refine aT (N := 1) rfl ?_); refine dW (N := 1) (cs := #[.int .u16 a0_0, .int .u8 a0_1, .int .u8 a0_2, .int .u32 a0_3]) (t := 45) ?_; intro gb193 hg w8 hbox hb; have GE193 := geN HB hg; have BK193 := aa.mk hbox; replace HB := di HB hb; clear hb hbox hg; obtain ⟨_, _, _, _, _, _, _, _⟩ := cz4 BK193) | (go_at_call 100; (with_reducible refine (fe.calls _ _ _ _ _ _ A2.out).mono ?_); rintro e w' ⟨rfl, ⟨nd, rfl⟩⟩))
     go_ret
     exact ⟨dB, bE⟩
   cases H
   go_enter Try.func158, Try.ntmps158
   go_wp2_with (first | ((with_reducible refine aT (N := 1) rfl ?_); refine dW (N := 1) (cs := #[.int .u16 a0_0, .int .u8 a0_1, .int .u8 a0_2, .int .u32 a0_3]) (t := 45) ?_; intro gb193 hg w10 hbox hb; have GE193 := geN HB hg; have BK193 := aa.mk hbox; replace HB := di HB hb; clear hb hbox hg; obtain ⟨_, _, _, _, _, _, _, _⟩ := cz4 BK193) | (go_at_call 100; (with_reducible refine (fe.calls _ _ _ _ _ _ A2.out).mono ?_); rintro e w' ⟨rfl, ⟨nd, rfl⟩⟩))
   go_ret
   exact ⟨dB, bE⟩
 cases H
 go_enter Try.func158, Try.ntmps158
 go_wp2_with (first | ((with_reducible refine aT (N := 1) rfl ?_); refine dW (N := 1) (cs := #[.int .u16 a0_0, .int .u8 a0_1, .int .u8 a0_2, .int .u32 a0_3]) (t := 45) ?_; intro gb193 hg w12 hbox hb; have GE193 := geN HB hg; have BK193 := aa.mk hbox; replace HB := di HB hb; clear hb hbox hg; obtain ⟨_, _, _, _, _, _, _, _⟩ := cz4 BK193) | (go_at_call 100; (with_reducible refine (fe.calls _ _ _ _ _ _ A2.out).mono ?_); rintro e w' ⟨rfl, ⟨nd, rfl⟩⟩))
 go_ret
 exact ⟨dB, bE⟩
def iw.f (k : Nat) (l0_0 : List (S45)) (a0_1 : Int) (a0_2 : Int) (a0_3 : Int) (a0_4 : Int) (a0_5 : Int) (a0_6 : Int) (a0_7 : Int) : Option (Bool) := if a0_1 = 1 then ((aD.f k a0_2).bind fun t198 => (if t198 = 6 then ((fu.f k a0_2 a0_3 a0_4 a0_5).bind fun t199 => (if t199 = true then (if a0_6 = 0 then (some (a0_7 == 0)) else (some false)) else (some false))) else (some false))) else (if a0_1 = 2 then (if (a0_2 == 0 && (a0_3 == 0 && (a0_4 == 0 && (a0_5 == 0)))) = true then (some (a0_7 == 0)) else (some false)) else (if a0_1 = 3 then ((aD.f k a0_2).bind fun t200 => (if t200 = 5 then (if a0_2 = 5 then (some false) else ((fu.f k a0_2 a0_3 a0_4 a0_5).bind fun t201 => (some t201))) else (some false))) else (some false)))
theorem iw.calls (k : Nat) (A0_0 : Option Addr) (c0_0 : Nat) (l0_0 : List (S45)) (a0_1 : Int) (a0_2 : Int) (a0_3 : Int) (a0_4 : Int) (a0_5 : Int) (a0_6 : Int) (a0_7 : Int) (r : Bool) (w : World) (hr0_0 : Kd.C k45 w A0_0 l0_0.length l0_0) (hc0_0 : l0_0.length ≤ c0_0) (h : iw.f k l0_0 a0_1 a0_2 a0_3 a0_4 a0_5 a0_6 a0_7 = some r) :
 Calls Try.prog 124 #[.agg #[.slice A0_0 l0_0.length c0_0, .int .i64 a0_1, .int .u16 a0_2, .int .u8 a0_3, .int .u8 a0_4, .int .u32 a0_5, .int .i64 a0_6, .int .i64 a0_7]] w fun e w' => e = .returned (.bool r) ∧ Below w.heap.size w w' := by
 have hu47 := Try.underlying47
 have hu45 := Try.underlying45
 have HR0_0 := aa.mk hr0_0
 have HC0_0 := aa.mk hc0_0
 clear hr0_0 hc0_0
 have HB := aa.mk (Below.refl w.heap.size w)
 have H : (if a0_1 = 1 then ((aD.f k a0_2).bind fun t198 => (if t198 = 6 then ((fu.f k a0_2 a0_3 a0_4 a0_5).bind fun t199 => (if t199 = true then (if a0_6 = 0 then (some (a0_7 == 0)) else (some false)) else (some false))) else (some false))) else (if a0_1 = 2 then (if (a0_2 == 0 && (a0_3 == 0 && (a0_4 == 0 && (a0_5 == 0)))) = true then (some (a0_7 == 0)) else (some false)) else (if a0_1 = 3 then ((aD.f k a0_2).bind fun t200 => (if t200 = 5 then (if a0_2 = 5 then (some false) else ((fu.f k a0_2 a0_3 a0_4 a0_5).bind fun t201 => (some t201))) else (some false))) else (some false)))) = some r := h
 clear h
 replace H := bO H
 obtain ⟨H, -, _, _⟩ | ⟨H, c2, _, _⟩ := H
 · replace H := bnd H
   obtain ⟨t198, A3, H⟩ := H
   replace H := bO H
   obtain ⟨H, -, _, _⟩ | ⟨H, c4, _, _⟩ := H
   · replace H := bnd H
     obtain ⟨t199, A5, H⟩ := H
     replace H := jK H
     obtain ⟨rfl, H⟩ | ⟨rfl, H⟩ := H
     · replace H := bO H
       obtain ⟨H, -, _, _⟩ | ⟨H, c7, _, _⟩ := H
       · cases H
         go_enter Try.func124, Try.ntmps124
         go_wp2_with (first | ((with_reducible refine aT (N := 1) rfl ?_); refine dW (N := 1) (cs := #[.slice A0_0 l0_0.length c0_0, .int .i64 a0_1, .int .u16 a0_2, .int .u8 a0_3, .int .u8 a0_4, .int .u32 a0_5, .int .i64 a0_6, .int .i64 a0_7]) (t := 47) ?_; intro gb197 hg w8 hbox hb; have GE197 := geN HB hg; have BK197 := aa.mk hbox; replace HB := di HB hb; clear hb hbox hg; obtain ⟨_, _, _, _, _, _, _, _, _, _, _, _, _, _, _, _⟩ := cz8 BK197) | (go_at_call 99; (with_reducible refine (aD.calls _ _ _ _ A3.out).mono ?_); rintro e w' ⟨rfl, ⟨nd, rfl⟩⟩) | (go_at_call 158; (with_reducible refine (fu.calls _ _ _ _ _ _ _ A5.out).mono ?_); rintro e w10 ⟨rfl, hb⟩; replace BK197 := lM BK197 hb; replace HB := di HB hb; obtain ⟨_, _, _, _, _, _, _, _, _, _, _, _, _, _, _, _⟩ := cz8 BK197))
         go_ret
         exact ⟨dB, bE⟩
       cases H
       go_enter Try.func124, Try.ntmps124
       go_wp2_with (first | ((with_reducible refine aT (N := 1) rfl ?_); refine dW (N := 1) (cs := #[.slice A0_0 l0_0.length c0_0, .int .i64 a0_1, .int .u16 a0_2, .int .u8 a0_3, .int .u8 a0_4, .int .u32 a0_5, .int .i64 a0_6, .int .i64 a0_7]) (t := 47) ?_; intro gb197 hg w12 hbox hb; have GE197 := geN HB hg; have BK197 := aa.mk hbox; replace HB := di HB hb; clear hb hbox hg; obtain ⟨_, _, _, _, _, _, _, _, _, _, _, _, _, _, _, _⟩ := cz8 BK197) | (go_at_call 99; (with_reducible refine (aD.calls _ _ _ _ A3.out).mono ?_); rintro e w' ⟨rfl, ⟨nd, rfl⟩⟩) | (go_at_call 158; (with_reducible refine (fu.calls _ _ _ _ _ _ _ A5.out).mono ?_); rintro e w14 ⟨rfl, hb⟩; replace BK197 := lM BK197 hb; replace HB := di HB hb; obtain ⟨_, _, _, _, _, _, _, _, _, _, _, _, _, _, _, _⟩ := cz8 BK197))
       go_ret
       exact ⟨dB, bE⟩
     cases H
     go_enter Try.func124, Try.ntmps124
     go_wp2_with (first | ((with_reducible refine aT (N := 1) rfl ?_); refine dW (N := 1) (cs := #[.slice A0_0 l0_0.length c0_0, .int .i64 a0_1, .int .u16 a0_2, .int .u8 a0_3, .int .u8 a0_4, .int .u32 a0_5, .int .i64 a0_6, .int .i64 a0_7]) (t := 47) ?_; intro gb197 hg w16 hbox hb; have GE197 := geN HB hg; have BK197 := aa.mk hbox; replace HB := di HB hb; clear hb hbox hg; obtain ⟨_, _, _, _, _, _, _, _, _, _, _, _, _, _, _, _⟩ := cz8 BK197) | (go_at_call 99; (with_reducible refine (aD.calls _ _ _ _ A3.out).mono ?_); rintro e w' ⟨rfl, ⟨nd, rfl⟩⟩) | (go_at_call 158; (with_reducible refine (fu.calls _ _ _ _ _ _ _ A5.out).mono ?_); rintro e w18 ⟨rfl, hb⟩; replace BK197 := lM BK197 hb; replace HB := di HB hb))
     go_ret
     exact ⟨dB, bE⟩
   cases H
   go_enter Try.func124, Try.ntmps124
   go_wp2_with (first | ((with_reducible refine aT (N := 1) rfl ?_); refine dW (N := 1) (cs := #[.slice A0_0 l0_0.length c0_0, .int .i64 a0_1, .int .u16 a0_2, .int .u8 a0_3, .int .u8 a0_4, .int .u32 a0_5, .int .i64 a0_6, .int .i64 a0_7]) (t := 47) ?_; intro gb197 hg w19 hbox hb; have GE197 := geN HB hg; have BK197 := aa.mk hbox; replace HB := di HB hb; clear hb hbox hg; obtain ⟨_, _, _, _, _, _, _, _, _, _, _, _, _, _, _, _⟩ := cz8 BK197) | (go_at_call 99; (with_reducible refine (aD.calls _ _ _ _ A3.out).mono ?_); rintro e w' ⟨rfl, ⟨nd, rfl⟩⟩))
   go_ret
   exact ⟨dB, bE⟩
 replace H := bO H
 obtain ⟨H, -, _, _⟩ | ⟨H, c21, _, _⟩ := H
 · replace H := nN H
   obtain ⟨H, c22⟩ | ⟨H, c22⟩ := H
   · have c22b0 : (a0_2 == 0 && (a0_3 == 0 && (a0_4 == 0 && (a0_5 == 0)))) = true := c22
     (try (have c22b1 : decide (a0_2 = 0 && (a0_3 == 0 && (a0_4 == 0 && (a0_5 == 0)))) = true := by simpa using c22))
     (try (have c22b2 : (a0_2 == 0 && (a0_3 == 0 && (a0_4 == 0 && (a0_5 == 0)))) = true := by simpa using c22))
     clear c22
     cases H
     go_enter Try.func124, Try.ntmps124
     go_wp2_with ((with_reducible refine aT (N := 1) rfl ?_); refine dW (N := 1) (cs := #[.slice A0_0 l0_0.length c0_0, .int .i64 a0_1, .int .u16 a0_2, .int .u8 a0_3, .int .u8 a0_4, .int .u32 a0_5, .int .i64 a0_6, .int .i64 a0_7]) (t := 47) ?_; intro gb197 hg w23 hbox hb; have GE197 := geN HB hg; have BK197 := aa.mk hbox; replace HB := di HB hb; clear hb hbox hg; obtain ⟨_, _, _, _, _, _, _, _, _, _, _, _, _, _, _, _⟩ := cz8 BK197)
     go_ret
     exact ⟨dB, bE⟩
   have c22b0 : (a0_2 == 0 && (a0_3 == 0 && (a0_4 == 0 && (a0_5 == 0)))) = false := by simpa using c22
   (try (have c22b1 : decide (a0_2 = 0 && (a0_3 == 0 && (a0_4 == 0 && (a0_5 == 0)))) = false := by simpa using c22))
   (try (have c22b2 : (a0_2 == 0 && (a0_3 == 0 && (a0_4 == 0 && (a0_5 == 0)))) = false := by simpa using c22))
   (try (have c22b3 : ¬ (a0_2 = 0 && (a0_3 == 0 && (a0_4 == 0 && (a0_5 == 0)))) := by simpa using c22))
   clear c22
   cases H
   go_enter Try.func124, Try.ntmps124
   go_wp2_with ((with_reducible refine aT (N := 1) rfl ?_); refine dW (N := 1) (cs := #[.slice A0_0 l0_0.length c0_0, .int .i64 a0_1, .int .u16 a0_2, .int .u8 a0_3, .int .u8 a0_4, .int .u32 a0_5, .int .i64 a0_6, .int .i64 a0_7]) (t := 47) ?_; intro gb197 hg w25 hbox hb; have GE197 := geN HB hg; have BK197 := aa.mk hbox; replace HB := di HB hb; clear hb hbox hg; obtain ⟨_, _, _, _, _, _, _, _, _, _, _, _, _, _, _, _⟩ := cz8 BK197)
   go_ret
   exact ⟨dB, bE⟩
 replace H := bO H
 obtain ⟨H, -, _, _⟩ | ⟨H, c27, _, _⟩ := H
 · replace H := bnd H
   obtain ⟨t200, A28, H⟩ := H
   replace H := bO H
   obtain ⟨H, -, _, _⟩ | ⟨H, c29, _, _⟩ := H
   · replace H := bO H
     obtain ⟨H, -, _, _⟩ | ⟨H, c30, _, _⟩ := H
     · cases H
       go_enter Try.func124, Try.ntmps124
       go_wp2_with (first | ((with_reducible refine aT (N := 1) rfl ?_); refine dW (N := 1) (cs := #[.slice A0_0 l0_0.length c0_0, .int .i64 a0_1, .int .u16 a0_2, .int .u8 a0_3, .int .u8 a0_4, .int .u32 a0_5, .int .i64 a0_6, .int .i64 a0_7]) (t := 47) ?_; intro gb197 hg w31 hbox hb; have GE197 := geN HB hg; have BK197 := aa.mk hbox; replace HB := di HB hb; clear hb hbox hg; obtain ⟨_, _, _, _, _, _, _, _, _, _, _, _, _, _, _, _⟩ := cz8 BK197) | (go_at_call 99; (with_reducible refine (aD.calls _ _ _ _ A28.out).mono ?_); rintro e w' ⟨rfl, ⟨nd, rfl⟩⟩))
       go_ret
       exact ⟨dB, bE⟩
     replace H := bnd H
     obtain ⟨t201, A33, H⟩ := H
     cases H
     go_enter Try.func124, Try.ntmps124
     go_wp2_with (first | ((with_reducible refine aT (N := 1) rfl ?_); refine dW (N := 1) (cs := #[.slice A0_0 l0_0.length c0_0, .int .i64 a0_1, .int .u16 a0_2, .int .u8 a0_3, .int .u8 a0_4, .int .u32 a0_5, .int .i64 a0_6, .int .i64 a0_7]) (t := 47) ?_; intro gb197 hg w34 hbox hb; have GE197 := geN HB hg; have BK197 := aa.mk hbox; replace HB := di HB hb; clear hb hbox hg; obtain ⟨_, _, _, _, _, _, _, _, _, _, _, _, _, _, _, _⟩ := cz8 BK197) | (go_at_call 99; (with_reducible refine (aD.calls _ _ _ _ A28.out).mono ?_); rintro e w' ⟨rfl, ⟨nd, rfl⟩⟩) | (go_at_call 158; (with_reducible refine (fu.calls _ _ _ _ _ _ _ A33.out).mono ?_); rintro e w36 ⟨rfl, hb⟩; replace BK197 := lM BK197 hb; replace HB := di HB hb))
     go_ret
     exact ⟨dB, bE⟩
   cases H
   go_enter Try.func124, Try.ntmps124
   go_wp2_with (first | ((with_reducible refine aT (N := 1) rfl ?_); refine dW (N := 1) (cs := #[.slice A0_0 l0_0.length c0_0, .int .i64 a0_1, .int .u16 a0_2, .int .u8 a0_3, .int .u8 a0_4, .int .u32 a0_5, .int .i64 a0_6, .int .i64 a0_7]) (t := 47) ?_; intro gb197 hg w37 hbox hb; have GE197 := geN HB hg; have BK197 := aa.mk hbox; replace HB := di HB hb; clear hb hbox hg; obtain ⟨_, _, _, _, _, _, _, _, _, _, _, _, _, _, _, _⟩ := cz8 BK197) | (go_at_call 99; (with_reducible refine (aD.calls _ _ _ _ A28.out).mono ?_); rintro e w' ⟨rfl, ⟨nd, rfl⟩⟩))
   go_ret
   exact ⟨dB, bE⟩
 cases H
 go_enter Try.func124, Try.ntmps124
 go_wp2_with ((with_reducible refine aT (N := 1) rfl ?_); refine dW (N := 1) (cs := #[.slice A0_0 l0_0.length c0_0, .int .i64 a0_1, .int .u16 a0_2, .int .u8 a0_3, .int .u8 a0_4, .int .u32 a0_5, .int .i64 a0_6, .int .i64 a0_7]) (t := 47) ?_; intro gb197 hg w39 hbox hb; have GE197 := geN HB hg; have BK197 := aa.mk hbox; replace HB := di HB hb; clear hb hbox hg; obtain ⟨_, _, _, _, _, _, _, _, _, _, _, _, _, _, _, _⟩ := cz8 BK197)
 go_ret
 exact ⟨dB, bE⟩
mutual
def dn.l0 : Nat → Int → Int → List (S45) → Int → Int → List (S45) → Int → Int → Int → Int → Int → Int → Int → Option (Int)
 | 0, _, _, _, _, _, _, _, _, _, _, _, _, _ => none
 | k + 1, x1, x3, x16, x17, x18, x203000, x203001, x203002, x203003, x203004, x203005, x203006, x203007 => if x18 < x17 then (if 0 ≤ x18 then (if x18 < (x16.length : Int) then ((aU.f k ((aM x16 x18).f0) ((aM x16 x18).f1) ((aM x16 x18).f2) ((aM x16 x18).f3)).bind fun t205 => (if t205 = true then (dn.l0 k x1 x3 x16 x17 (wrap64 (x18 + 1)) x203000 x203001 x203002 x203003 x203004 x203005 x203006 x203007) else (some 152))) else (none)) else (none)) else ((iw.f k x203000 x203001 x203002 x203003 x203004 x203005 x203006 x203007).bind fun t206 => (if t206 = true then ((gM.f x203000 x203001 x203002 x203003 x203004 x203005 x203006 x203007).bind fun t207 => (dn.l1 k x1 x3 t207 (t207.length : Int) 0)) else (some 153)))
def dn.l1 : Nat → Int → Int → List Int → Int → Int → Option (Int)
 | 0, _, _, _, _, _ => none
 | k + 1, x1, x3, x30, x31, x32 => if x32 < x31 then (if 0 ≤ x32 then (if x32 < (x30.length : Int) then (if (rd x30 x32) ≤ x1 then (some 154) else (if (rd x30 x32) ≥ x3 then (some 154) else (dn.l1 k x1 x3 x30 x31 (wrap64 (x32 + 1))))) else (none)) else (none)) else (some 0)
end
def dn.f (k : Nat) (l0_0 : List (S45)) (a0_1 : Int) (a0_2 : Int) (a0_3 : Int) (a0_4 : Int) (a0_5 : Int) (a0_6 : Int) (a0_7 : Int) (a1 : Int) (a2 : Int) (a3 : Int) : Option (Int) := if a2 > 4096 then (some 151) else (dn.l0 k a1 a3 l0_0 (l0_0.length : Int) 0 l0_0 a0_1 a0_2 a0_3 a0_4 a0_5 a0_6 a0_7)
theorem dn.calls (k : Nat) (A0_0 : Option Addr) (c0_0 : Nat) (l0_0 : List (S45)) (a0_1 : Int) (a0_2 : Int) (a0_3 : Int) (a0_4 : Int) (a0_5 : Int) (a0_6 : Int) (a0_7 : Int) (a1 : Int) (a2 : Int) (a3 : Int) (r : Int) (w : World) (hr0_0 : Kd.C k45 w A0_0 l0_0.length l0_0) (hc0_0 : l0_0.length ≤ c0_0) (h : dn.f k l0_0 a0_1 a0_2 a0_3 a0_4 a0_5 a0_6 a0_7 a1 a2 a3 = some r) :
 Calls Try.prog 82 #[.agg #[.slice A0_0 l0_0.length c0_0, .int .i64 a0_1, .int .u16 a0_2, .int .u8 a0_3, .int .u8 a0_4, .int .u32 a0_5, .int .i64 a0_6, .int .i64 a0_7], .int .i64 a1, .int .i64 a2, .int .i64 a3] w fun e w' => e = .returned (.int .i64 r) ∧ Below w.heap.size w w' := by
 have hu47 := Try.underlying47
 have hu45 := Try.underlying45
 have HR0_0 := aa.mk hr0_0
 have HC0_0 := aa.mk hc0_0
 clear hr0_0 hc0_0
 have HB := aa.mk (Below.refl w.heap.size w)
 have H : (if a2 > 4096 then (some 151) else (dn.l0 k a1 a3 l0_0 (l0_0.length : Int) 0 l0_0 a0_1 a0_2 a0_3 a0_4 a0_5 a0_6 a0_7)) = some r := h
 clear h
 replace H := uY H
 obtain ⟨H, -, _⟩ | ⟨H, -, _⟩ := H
 · cases H
   go_enter Try.func82, Try.ntmps82
   go_wp2_with ((with_reducible refine aT (N := 4) rfl ?_); refine dW (N := 4) (cs := #[.slice A0_0 l0_0.length c0_0, .int .i64 a0_1, .int .u16 a0_2, .int .u8 a0_3, .int .u8 a0_4, .int .u32 a0_5, .int .i64 a0_6, .int .i64 a0_7]) (t := 47) ?_; intro gb202 hg w6 hbox hb; have GE202 := geN HB hg; have BK202 := aa.mk hbox; replace HB := di HB hb; clear hb hbox hg)
   go_ret
   exact ⟨dB, bE⟩
 replace H := aa.mk H
 go_enter Try.func82, Try.ntmps82
 go_wp2_with ((with_reducible refine aT (N := 4) rfl ?_); refine dW (N := 4) (cs := #[.slice A0_0 l0_0.length c0_0, .int .i64 a0_1, .int .u16 a0_2, .int .u8 a0_3, .int .u8 a0_4, .int .u32 a0_5, .int .i64 a0_6, .int .i64 a0_7]) (t := 47) ?_; intro gb202 hg w7 hbox hb; have GE202 := geN HB hg; have BK202 := aa.mk hbox; replace HB := di HB hb; clear hb hbox hg; obtain ⟨_, _, _, _, _, _, _, _, _, _, _, _, _, _, _, _⟩ := cz8 BK202)
 go_loopg [18] k (fun kq v18 w' => ∃ (x18_1 : Int), v18 = .int .i64 x18_1 ∧ aa (dn.l0 kq a1 a3 l0_0 (l0_0.length : Int) x18_1 l0_0 a0_1 a0_2 a0_3 a0_4 a0_5 a0_6 a0_7 = some r) ∧ aa (kq ≤ k) ∧ aa (w'.heap[gb202]? = some (.cells #[(.slice A0_0 l0_0.length c0_0), .int .i64 a0_1, .int .u16 a0_2, .int .u8 a0_3, .int .u8 a0_4, .int .u32 a0_5, .int .i64 a0_6, .int .i64 a0_7] 47 (0, 0))) ∧ aa (Below w.heap.size w w'))
 case atStart => exact ⟨_, aZ, H, ⟨Nat.le_refl _⟩, ⟨iV⟩, ⟨bE⟩⟩
 case round =>
  clear H
  obtain ⟨x18_1, rfl, HA, HK1, BK202, HB⟩ := hrel
  cases gk with
  | zero => exact absurd HA.out (by simp [dn.l0])
  | succ k1 =>
   have H := HA.out
   clear HA
   simp only [dn.l0] at H
   replace H := fA H
   obtain ⟨H, -, _⟩ | ⟨H, -, _⟩ := H
   · replace H := fA H
     obtain ⟨H, -, _⟩ | ⟨H, c10, -⟩ := H
     · replace H := fA H
       obtain ⟨H, -, _⟩ | ⟨H, c11, -⟩ := H
       · replace H := bnd H
         obtain ⟨t205, A12, H⟩ := H
         replace H := jK H
         obtain ⟨rfl, H⟩ | ⟨rfl, H⟩ := H
         · replace H := aa.mk H
           obtain ⟨ad203, rfl, _, _, _, _, _, _⟩ := lg HR0_0 HB x18_1 (by assumption) (by assumption)
           go_wp2_with (first | ((with_reducible refine aT (N := 10) rfl ?_); refine dW (N := 10) (cs := #[.int .u16 0, .int .u8 0, .int .u8 0, .int .u32 0]) (t := 45) ?_; intro gb204 hg w14 hbox hb; have NB202_204 := nbN BK202 hg; have NB204_202 := nbM BK202 hg; have GE204 := geN HB hg; replace BK202 := lM BK202 hb; have BK204 := aa.mk hbox; replace HB := di HB hb; clear hb hbox hg; have hnb15 := NB204_202.out; have hnc15 := NB202_204.out; obtain ⟨_, _, _, _, _, _, _, _⟩ := cz4 BK204) | (go_at_call 123; (with_reducible refine (aU.calls _ _ _ _ _ _ _ A12.out).mono ?_); rintro e w17 ⟨rfl, hb⟩; replace BK202 := aa.mk (ak (g := gb202) (o := .cells #[.slice (some ad203) l0_0.length c0_0, .int .i64 a0_1, .int .u16 a0_2, .int .u8 a0_3, .int .u8 a0_4, .int .u32 a0_5, .int .i64 a0_6, .int .i64 a0_7] 47 (0, 0)) (by (with_reducible repeat (first | refine bg ?_ _ | refine bv ?_ | refine aG ?_ _)); refine dw ?_ NB202_204.out _; (with_reducible repeat (first | refine bg ?_ _ | refine bv ?_ | refine aG ?_ _)); refine dw ?_ NB202_204.out _; (with_reducible repeat (first | refine bg ?_ _ | refine bv ?_ | refine aG ?_ _)); refine dw ?_ NB202_204.out _; (with_reducible repeat (first | refine bg ?_ _ | refine bv ?_ | refine aG ?_ _)); refine dw ?_ NB202_204.out _; (with_reducible repeat (first | refine bg ?_ _ | refine bv ?_ | refine aG ?_ _)); exact BK202.out) hb); replace BK204 := aa.mk (ak (g := gb204) (o := .cells #[.int .u16 ((aM l0_0 x18_1).f0), .int .u8 ((aM l0_0 x18_1).f1), .int .u8 ((aM l0_0 x18_1).f2), .int .u32 ((aM l0_0 x18_1).f3)] 45 (0, 0)) (by (with_reducible repeat (first | refine bg ?_ _ | refine bv ?_ | refine aG ?_ _)); refine aQ (cs := #[.int .u16 ((aM l0_0 x18_1).f0), .int .u8 ((aM l0_0 x18_1).f1), .int .u8 ((aM l0_0 x18_1).f2), .int .u32 0]) ?_ 3 _ rfl; (with_reducible repeat (first | refine bg ?_ _ | refine bv ?_ | refine aG ?_ _)); refine aQ (cs := #[.int .u16 ((aM l0_0 x18_1).f0), .int .u8 ((aM l0_0 x18_1).f1), .int .u8 0, .int .u32 0]) ?_ 2 _ rfl; (with_reducible repeat (first | refine bg ?_ _ | refine bv ?_ | refine aG ?_ _)); refine aQ (cs := #[.int .u16 ((aM l0_0 x18_1).f0), .int .u8 0, .int .u8 0, .int .u32 0]) ?_ 1 _ rfl; (with_reducible repeat (first | refine bg ?_ _ | refine bv ?_ | refine aG ?_ _)); refine aQ (cs := #[.int .u16 0, .int .u8 0, .int .u8 0, .int .u32 0]) ?_ 0 _ rfl; (with_reducible repeat (first | refine bg ?_ _ | refine bv ?_ | refine aG ?_ _)); exact BK204.out) hb); replace HB := di HB hb))
           go_roundg k1
           case measure => have := HK1.out; omega
           case rel => exact ⟨_, aZ, H, ⟨by have := HK1.out; omega⟩, ⟨iV⟩, ⟨bE⟩⟩
         cases H
         obtain ⟨ad203, rfl, _, _, _, _, _, _⟩ := lg HR0_0 HB x18_1 (by assumption) (by assumption)
         go_wp2_with (first | ((with_reducible refine aT (N := 10) rfl ?_); refine dW (N := 10) (cs := #[.int .u16 0, .int .u8 0, .int .u8 0, .int .u32 0]) (t := 45) ?_; intro gb204 hg w18 hbox hb; have NB202_204 := nbN BK202 hg; have NB204_202 := nbM BK202 hg; have GE204 := geN HB hg; replace BK202 := lM BK202 hb; have BK204 := aa.mk hbox; replace HB := di HB hb; clear hb hbox hg; have hnb19 := NB204_202.out; have hnc19 := NB202_204.out; obtain ⟨_, _, _, _, _, _, _, _⟩ := cz4 BK204) | (go_at_call 123; (with_reducible refine (aU.calls _ _ _ _ _ _ _ A12.out).mono ?_); rintro e w21 ⟨rfl, hb⟩; replace BK202 := aa.mk (ak (g := gb202) (o := .cells #[.slice (some ad203) l0_0.length c0_0, .int .i64 a0_1, .int .u16 a0_2, .int .u8 a0_3, .int .u8 a0_4, .int .u32 a0_5, .int .i64 a0_6, .int .i64 a0_7] 47 (0, 0)) (by (with_reducible repeat (first | refine bg ?_ _ | refine bv ?_ | refine aG ?_ _)); refine dw ?_ NB202_204.out _; (with_reducible repeat (first | refine bg ?_ _ | refine bv ?_ | refine aG ?_ _)); refine dw ?_ NB202_204.out _; (with_reducible repeat (first | refine bg ?_ _ | refine bv ?_ | refine aG ?_ _)); refine dw ?_ NB202_204.out _; (with_reducible repeat (first | refine bg ?_ _ | refine bv ?_ | refine aG ?_ _)); refine dw ?_ NB202_204.out _; (with_reducible repeat (first | refine bg ?_ _ | refine bv ?_ | refine aG ?_ _)); exact BK202.out) hb); replace BK204 := aa.mk (ak (g := gb204) (o := .cells #[.int .u16 ((aM l0_0 x18_1).f0), .int .u8 ((aM l0_0 x18_1).f1), .int .u8 ((aM l0_0 x18_1).f2), .int .u32 ((aM l0_0 x18_1).f3)] 45 (0, 0)) (by (with_reducible repeat (first | refine bg ?_ _ | refine bv ?_ | refine aG ?_ _)); refine aQ (cs := #[.int .u16 ((aM l0_0 x18_1).f0), .int .u8 ((aM l0_0 x18_1).f1), .int .u8 ((aM l0_0 x18_1).f2), .int .u32 0]) ?_ 3 _ rfl; (with_reducible repeat (first | refine bg ?_ _ | refine bv ?_ | refine aG ?_ _)); refine aQ (cs := #[.int .u16 ((aM l0_0 x18_1).f0), .int .u8 ((aM l0_0 x18_1).f1), .int .u8 0, .int .u32 0]) ?_ 2 _ rfl; (with_reducible repeat (first | refine bg ?_ _ | refine bv ?_ | refine aG ?_ _)); refine aQ (cs := #[.int .u16 ((aM l0_0 x18_1).f0), .int .u8 0, .int .u8 0, .int .u32 0]) ?_ 1 _ rfl; (with_reducible repeat (first | refine bg ?_ _ | refine bv ?_ | refine aG ?_ _)); refine aQ (cs := #[.int .u16 0, .int .u8 0, .int .u8 0, .int .u32 0]) ?_ 0 _ rfl; (with_reducible repeat (first | refine bg ?_ _ | refine bv ?_ | refine aG ?_ _)); exact BK204.out) hb); replace HB := di HB hb))
         go_ret
         exact ⟨dB, bE⟩
       exact absurd H (by simp)
     exact absurd H (by simp)
   replace H := bnd H
   obtain ⟨t206, A22, H⟩ := H
   replace H := jK H
   obtain ⟨rfl, H⟩ | ⟨rfl, H⟩ := H
   · replace H := bnd H
     obtain ⟨t207, A24, H⟩ := H
     replace H := aa.mk H
     obtain ⟨_, _, _, _, _, _, _, _, _, _, _, _, _, _, _, _⟩ := cz8 BK202
     go_wp2_with (first | (go_at_call 124; (with_reducible refine (iw.calls _ _ _ _ _ _ _ _ _ _ _ _ _ (sd1 HR0_0 HB) HC0_0.out A22.out).mono ?_); rintro e w26 ⟨rfl, hb⟩; replace BK202 := lM BK202 hb; replace HB := di HB hb; obtain ⟨_, _, _, _, _, _, _, _, _, _, _, _, _, _, _, _⟩ := cz8 BK202) | (go_at_call 76; (with_reducible refine (gM.calls _ _ _ _ _ _ _ _ _ _ _ _ (sd1 HR0_0 HB) HC0_0.out A24.out).mono ?_); rintro e w28 ⟨v208, rfl, ho0, hb⟩; have HO209 := aa.mk (Kd.jH ho0 (gq bE)); replace BK202 := lM BK202 hb; replace HB := di HB hb; obtain ⟨Ao29, co29, eo29⟩ := Kd.gQ HO209.out; subst eo29))
     go_loopg [32] k1 (fun kq v32 w' => ∃ (x32_2 : Int), v32 = .int .i64 x32_2 ∧ aa (dn.l1 kq a1 a3 t207 (t207.length : Int) x32_2 = some r) ∧ aa (kq ≤ k1) ∧ aa (Kd.R (Kd.int .i64) 3 w' w.heap.size (fun _ => True) (.slice Ao29 t207.length co29) t207) ∧ aa (w'.heap[gb202]? = some (.cells #[(.slice A0_0 l0_0.length c0_0), .int .i64 a0_1, .int .u16 a0_2, .int .u8 a0_3, .int .u8 a0_4, .int .u32 a0_5, .int .i64 a0_6, .int .i64 a0_7] 47 (0, 0))) ∧ aa (Below w.heap.size w w'))
     case atStart => exact ⟨_, aZ, H, ⟨Nat.le_refl _⟩, ⟨by (with_reducible repeat (first | apply Kd.eD | apply Kd.eP | apply Kd.fZ)); exact HO209.out⟩, ⟨iV⟩, ⟨bE⟩⟩
     case round =>
      clear H
      obtain ⟨x32_2, rfl, HA, HK2, HO_30, BK202, HB⟩ := hrel
      cases gk with
      | zero => exact absurd HA.out (by simp [dn.l1])
      | succ k2 =>
       have H := HA.out
       clear HA
       simp only [dn.l1] at H
       replace H := fA H
       obtain ⟨H, -, _⟩ | ⟨H, -, _⟩ := H
       · replace H := fA H
         obtain ⟨H, -, _⟩ | ⟨H, c31, -⟩ := H
         · replace H := fA H
           obtain ⟨H, -, _⟩ | ⟨H, c32, -⟩ := H
           · replace H := fA H
             obtain ⟨H, -, _⟩ | ⟨H, -, _⟩ := H
             · cases H
               have p210 : 0 ≤ (x32_2 : Int) := of_decide_eq_true (by first | (with_reducible assumption) | assumption)
               have q210 : x32_2 < (t207.length : Int) := of_decide_eq_true (by first | (with_reducible assumption) | assumption)
               obtain ⟨ad210, e210, hx210_0⟩ := Kd.kR (Kd.dE HO_30.out).2.2 x32_2 p210 q210
               cases e210
               replace p210 := eq_true p210
               replace q210 := eq_true q210
               go_wp2
               go_ret
               exact ⟨dB, bE⟩
             replace H := sp_h H
             obtain ⟨H, -, _⟩ | ⟨H, -, _⟩ := H
             · cases H
               have p210 : 0 ≤ (x32_2 : Int) := of_decide_eq_true (by first | (with_reducible assumption) | assumption)
               have q210 : x32_2 < (t207.length : Int) := of_decide_eq_true (by first | (with_reducible assumption) | assumption)
               obtain ⟨ad210, e210, hx210_0⟩ := Kd.kR (Kd.dE HO_30.out).2.2 x32_2 p210 q210
               cases e210
               replace p210 := eq_true p210
               replace q210 := eq_true q210
               go_wp2
               go_ret
               exact ⟨dB, bE⟩
             replace H := aa.mk H
             have p210 : 0 ≤ (x32_2 : Int) := of_decide_eq_true (by first | (with_reducible assumption) | assumption)
             have q210 : x32_2 < (t207.length : Int) := of_decide_eq_true (by first | (with_reducible assumption) | assumption)
             obtain ⟨ad210, e210, hx210_0⟩ := Kd.kR (Kd.dE HO_30.out).2.2 x32_2 p210 q210
             cases e210
             replace p210 := eq_true p210
             replace q210 := eq_true q210
             go_wp2
             go_roundg k2
             case measure => have := HK1.out; have := HK2.out; omega
             case rel => exact ⟨_, aZ, H, ⟨by have := HK1.out; have := HK2.out; omega⟩, ⟨by (with_reducible repeat (first | apply Kd.eD | apply Kd.eP | apply Kd.fZ)); exact HO_30.out⟩, ⟨iV⟩, ⟨bE⟩⟩
           exact absurd H (by simp)
         exact absurd H (by simp)
       cases H
       go_wp2
       go_ret
       exact ⟨dB, bE⟩
   cases H
   obtain ⟨_, _, _, _, _, _, _, _, _, _, _, _, _, _, _, _⟩ := cz8 BK202
   go_wp2_with (go_at_call 124; (with_reducible refine (iw.calls _ _ _ _ _ _ _ _ _ _ _ _ _ (sd1 HR0_0 HB) HC0_0.out A22.out).mono ?_); rintro e w36 ⟨rfl, hb⟩; replace BK202 := lM BK202 hb; replace HB := di HB hb)
   go_ret
   exact ⟨dB, bE⟩
def dx.l0 : Nat → List (S47) → Int → List (S47) → Int → Int → Option (Int × Int)
 | 0, _, _, _, _, _ => none
 | k + 1, x0, x4, x14, x15, x16 => if x16 < x15 then (if 0 ≤ x16 then (if x16 < (x14.length : Int) then ((dn.f k ((af x14 x16).f0) ((af x14 x16).f1) ((af x14 x16).f2.f0) ((af x14 x16).f2.f1) ((af x14 x16).f2.f2) ((af x14 x16).f2.f3) ((af x14 x16).f3) ((af x14 x16).f4) x16 (wrap64 (x4 + (((af x14 x16).f0).length : Int))) (x0.length : Int)).bind fun t213 => (if t213 = 0 then (dx.l0 k x0 (wrap64 (x4 + (((af x14 x16).f0).length : Int))) x14 x15 (wrap64 (x16 + 1))) else (some (x16, t213)))) else (none)) else (none)) else (some (0, 0))
def dx.f (k : Nat) (l0 : List (S47)) : Option (Int × Int) := if (l0.length : Int) = 0 then (some (0, 150)) else (if (l0.length : Int) > 4096 then (some (4096, 151)) else (dx.l0 k l0 0 l0 (l0.length : Int) 0))
theorem dx.calls (k : Nat) (A0 : Option Addr) (c0 : Nat) (l0 : List (S47)) (r1 : Int) (r2 : Int) (w : World) (hr0 : Kd.C k47 w A0 l0.length l0) (hc0 : l0.length ≤ c0) (h : dx.f k l0 = some (r1, r2)) :
 Calls Try.prog 52 #[.slice A0 l0.length c0] w fun e w' => e = .returned (.tuple #[.int .i64 r1, .int .i64 r2]) ∧ Below w.heap.size w w' := by
 have hu47 := Try.underlying47
 have HR0 := aa.mk hr0
 have HC0 := aa.mk hc0
 clear hr0 hc0
 have HB := aa.mk (Below.refl w.heap.size w)
 have H : (if (l0.length : Int) = 0 then (some (0, 150)) else (if (l0.length : Int) > 4096 then (some (4096, 151)) else (dx.l0 k l0 0 l0 (l0.length : Int) 0))) = some (r1, r2) := h
 clear h
 replace H := bO H
 obtain ⟨H, -, _, _⟩ | ⟨H, c2, _, _⟩ := H
 · obtain ⟨rfl, rfl⟩ := so2 H
   go_enter Try.func52, Try.ntmps52
   go_wp2
   go_ret2
   exact ⟨dB, bE⟩
 have c2b2 : ¬ (l0 = []) := fun h_ => c2 (by rw [h_]; rfl)
 replace H := uY H
 obtain ⟨H, c3, _⟩ | ⟨H, c3, _⟩ := H
 · have c3b1 : decide (4096 < l0.length) = true := decide_eq_true (by omega)
   clear c3
   obtain ⟨rfl, rfl⟩ := so2 H
   go_enter Try.func52, Try.ntmps52
   go_wp2
   go_ret2
   exact ⟨dB, bE⟩
 have c3b1 : decide (4096 < l0.length) = false := decide_eq_false (by omega)
 clear c3
 replace H := aa.mk H
 go_enter Try.func52, Try.ntmps52
 go_wp2
 go_loopg [4, 16] k (fun kq v4 v16 w' => ∃ (x4_1 : Int) (x16_1 : Int), v4 = .int .i64 x4_1 ∧ v16 = .int .i64 x16_1 ∧ aa (dx.l0 kq l0 x4_1 l0 (l0.length : Int) x16_1 = some (r1, r2)) ∧ aa (kq ≤ k) ∧ aa (Below w.heap.size w w'))
 case atStart => exact ⟨_, _, aZ, aZ, H, ⟨Nat.le_refl _⟩, ⟨bE⟩⟩
 case round =>
  clear H
  obtain ⟨x4_1, x16_1, rfl, rfl, HA, HK1, HB⟩ := hrel
  cases gk with
  | zero => exact absurd HA.out (by simp [dx.l0])
  | succ k1 =>
   have H := HA.out
   clear HA
   simp only [dx.l0] at H
   replace H := fA H
   obtain ⟨H, -, _⟩ | ⟨H, -, _⟩ := H
   · replace H := fA H
     obtain ⟨H, -, _⟩ | ⟨H, c5, -⟩ := H
     · replace H := fA H
       obtain ⟨H, -, _⟩ | ⟨H, c6, -⟩ := H
       · replace H := bnd H
         obtain ⟨t213, A7, H⟩ := H
         replace H := bO H
         obtain ⟨H, -, _, _⟩ | ⟨H, c8, _, _⟩ := H
         · replace H := aa.mk H
           obtain ⟨ad211, rfl⟩ := iJ HR0 x16_1 (by assumption) (by assumption)
           obtain ⟨A211_0, c211_0, _, _, _, _, _, _, _, _, HR211_0, HC211_0, _, _⟩ := eY HR0 HB x16_1 (by assumption) (by assumption)
           go_wp2_with (first | ((with_reducible refine aT (N := 6) rfl ?_); refine dW (N := 6) (cs := #[.slice none 0 0, .int .i64 0, .int .u16 0, .int .u8 0, .int .u8 0, .int .u32 0, .int .i64 0, .int .i64 0]) (t := 47) ?_; intro gb212 hg w9 hbox hb; have GE212 := geN HB hg; have BK212 := aa.mk hbox; replace HB := di HB hb; clear hb hbox hg; obtain ⟨_, _, _, _, _, _, _, _, _, _, _, _, _, _, _, _⟩ := cz8 BK212) | (go_at_call 82; (with_reducible refine (dn.calls _ _ _ _ _ _ _ _ _ _ _ _ _ _ _ _ ?side1 HC211_0.out A7.out).mono ?_); (case side1 => exact Kd.dN HR211_0.out bE); rintro e w11 ⟨rfl, hb⟩; replace BK212 := aa.mk (ak (g := gb212) (o := .cells #[.slice A211_0 ((af l0 x16_1).f0).length c211_0, .int .i64 ((af l0 x16_1).f1), .int .u16 ((af l0 x16_1).f2.f0), .int .u8 ((af l0 x16_1).f2.f1), .int .u8 ((af l0 x16_1).f2.f2), .int .u32 ((af l0 x16_1).f2.f3), .int .i64 ((af l0 x16_1).f3), .int .i64 ((af l0 x16_1).f4)] 47 (0, 0)) (by (with_reducible repeat (first | refine bg ?_ _ | refine bv ?_ | refine aG ?_ _)); refine aQ (cs := #[.slice A211_0 ((af l0 x16_1).f0).length c211_0, .int .i64 ((af l0 x16_1).f1), .int .u16 ((af l0 x16_1).f2.f0), .int .u8 ((af l0 x16_1).f2.f1), .int .u8 ((af l0 x16_1).f2.f2), .int .u32 ((af l0 x16_1).f2.f3), .int .i64 ((af l0 x16_1).f3), .int .i64 0]) ?_ 7 _ rfl; (with_reducible repeat (first | refine bg ?_ _ | refine bv ?_ | refine aG ?_ _)); refine aQ (cs := #[.slice A211_0 ((af l0 x16_1).f0).length c211_0, .int .i64 ((af l0 x16_1).f1), .int .u16 ((af l0 x16_1).f2.f0), .int .u8 ((af l0 x16_1).f2.f1), .int .u8 ((af l0 x16_1).f2.f2), .int .u32 ((af l0 x16_1).f2.f3), .int .i64 0, .int .i64 0]) ?_ 6 _ rfl; (with_reducible repeat (first | refine bg ?_ _ | refine bv ?_ | refine aG ?_ _)); refine aQ (cs := #[.slice A211_0 ((af l0 x16_1).f0).length c211_0, .int .i64 ((af l0 x16_1).f1), .int .u16 ((af l0 x16_1).f2.f0), .int .u8 ((af l0 x16_1).f2.f1), .int .u8 ((af l0 x16_1).f2.f2), .int .u32 0, .int .i64 0, .int .i64 0]) ?_ 5 _ rfl; (with_reducible repeat (first | refine bg ?_ _ | refine bv ?_ | refine aG ?_ _)); refine aQ (cs := #[.slice A211_0 ((af l0 x16_1).f0).length c211_0, .int .i64 ((af l0 x16_1).f1), .int .u16 ((af l0 x16_1).f2.f0), .int .u8 ((af l0 x16_1).f2.f1), .int .u8 0, .int .u32 0, .int .i64 0, .int .i64 0]) ?_ 4 _ rfl; (with_reducible repeat (first | refine bg ?_ _ | refine bv ?_ | refine aG ?_ _)); refine aQ (cs := #[.slice A211_0 ((af l0 x16_1).f0).length c211_0, .int .i64 ((af l0 x16_1).f1), .int .u16 ((af l0 x16_1).f2.f0), .int .u8 0, .int .u8 0, .int .u32 0, .int .i64 0, .int .i64 0]) ?_ 3 _ rfl; (with_reducible repeat (first | refine bg ?_ _ | refine bv ?_ | refine aG ?_ _)); refine aQ (cs := #[.slice A211_0 ((af l0 x16_1).f0).length c211_0, .int .i64 ((af l0 x16_1).f1), .int .u16 0, .int .u8 0, .int .u8 0, .int .u32 0, .int .i64 0, .int .i64 0]) ?_ 2 _ rfl; (with_reducible repeat (first | refine bg ?_ _ | refine bv ?_ | refine aG ?_ _)); refine aQ (cs := #[.slice A211_0 ((af l0 x16_1).f0).length c211_0, .int .i64 0, .int .u16 0, .int .u8 0, .int .u8 0, .int .u32 0, .int .i64 0, .int .i64 0]) ?_ 1 _ rfl; (with_reducible repeat (first | refine bg ?_ _ | refine bv ?_ | refine aG ?_ _)); refine aQ (cs := #[.slice none 0 0, .int .i64 0, .int .u16 0, .int .u8 0, .int .u8 0, .int .u32 0, .int .i64 0, .int .i64 0]) ?_ 0 _ rfl; (with_reducible repeat (first | refine bg ?_ _ | refine bv ?_ | refine aG ?_ _)); exact BK212.out) hb); replace HB := di HB hb))
           go_roundg k1
           case measure => have := HK1.out; omega
           case rel => exact ⟨_, _, aZ, aZ, H, ⟨by have := HK1.out; omega⟩, ⟨bE⟩⟩
         obtain ⟨rfl, rfl⟩ := so2 H
         obtain ⟨ad211, rfl⟩ := iJ HR0 x16_1 (by assumption) (by assumption)
         obtain ⟨A211_0, c211_0, _, _, _, _, _, _, _, _, HR211_0, HC211_0, _, _⟩ := eY HR0 HB x16_1 (by assumption) (by assumption)
         go_wp2_with (first | ((with_reducible refine aT (N := 6) rfl ?_); refine dW (N := 6) (cs := #[.slice none 0 0, .int .i64 0, .int .u16 0, .int .u8 0, .int .u8 0, .int .u32 0, .int .i64 0, .int .i64 0]) (t := 47) ?_; intro gb212 hg w12 hbox hb; have GE212 := geN HB hg; have BK212 := aa.mk hbox; replace HB := di HB hb; clear hb hbox hg; obtain ⟨_, _, _, _, _, _, _, _, _, _, _, _, _, _, _, _⟩ := cz8 BK212) | (go_at_call 82; (with_reducible refine (dn.calls _ _ _ _ _ _ _ _ _ _ _ _ _ _ _ _ ?side1 HC211_0.out A7.out).mono ?_); (case side1 => exact Kd.dN HR211_0.out bE); rintro e w14 ⟨rfl, hb⟩; replace BK212 := aa.mk (ak (g := gb212) (o := .cells #[.slice A211_0 ((af l0 x16_1).f0).length c211_0, .int .i64 ((af l0 x16_1).f1), .int .u16 ((af l0 x16_1).f2.f0), .int .u8 ((af l0 x16_1).f2.f1), .int .u8 ((af l0 x16_1).f2.f2), .int .u32 ((af l0 x16_1).f2.f3), .int .i64 ((af l0 x16_1).f3), .int .i64 ((af l0 x16_1).f4)] 47 (0, 0)) (by (with_reducible repeat (first | refine bg ?_ _ | refine bv ?_ | refine aG ?_ _)); refine aQ (cs := #[.slice A211_0 ((af l0 x16_1).f0).length c211_0, .int .i64 ((af l0 x16_1).f1), .int .u16 ((af l0 x16_1).f2.f0), .int .u8 ((af l0 x16_1).f2.f1), .int .u8 ((af l0 x16_1).f2.f2), .int .u32 ((af l0 x16_1).f2.f3), .int .i64 ((af l0 x16_1).f3), .int .i64 0]) ?_ 7 _ rfl; (with_reducible repeat (first | refine bg ?_ _ | refine bv ?_ | refine aG ?_ _)); refine aQ (cs := #[.slice A211_0 ((af l0 x16_1).f0).length c211_0, .int .i64 ((af l0 x16_1).f1), .int .u16 ((af l0 x16_1).f2.f0), .int .u8 ((af l0 x16_1).f2.f1), .int .u8 ((af l0 x16_1).f2.f2), .int .u32 ((af l0 x16_1).f2.f3), .int .i64 0, .int .i64 0]) ?_ 6 _ rfl; (with_reducible repeat (first | refine bg ?_ _ | refine bv ?_ | refine aG ?_ _)); refine aQ (cs := #[.slice A211_0 ((af l0 x16_1).f0).length c211_0, .int .i64 ((af l0 x16_1).f1), .int .u16 ((af l0 x16_1).f2.f0), .int .u8 ((af l0 x16_1).f2.f1), .int .u8 ((af l0 x16_1).f2.f2), .int .u32 0, .int .i64 0, .int .i64 0]) ?_ 5 _ rfl; (with_reducible repeat (first | refine bg ?_ _ | refine bv ?_ | refine aG ?_ _)); refine aQ (cs := #[.slice A211_0 ((af l0 x16_1).f0).length c211_0, .int .i64 ((af l0 x16_1).f1), .int .u16 ((af l0 x16_1).f2.f0), .int .u8 ((af l0 x16_1).f2.f1), .int .u8 0, .int .u32 0, .int .i64 0, .int .i64 0]) ?_ 4 _ rfl; (with_reducible repeat (first | refine bg ?_ _ | refine bv ?_ | refine aG ?_ _)); refine aQ (cs := #[.slice A211_0 ((af l0 x16_1).f0).length c211_0, .int .i64 ((af l0 x16_1).f1), .int .u16 ((af l0 x16_1).f2.f0), .int .u8 0, .int .u8 0, .int .u32 0, .int .i64 0, .int .i64 0]) ?_ 3 _ rfl; (with_reducible repeat (first | refine bg ?_ _ | refine bv ?_ | refine aG ?_ _)); refine aQ (cs := #[.slice A211_0 ((af l0 x16_1).f0).length c211_0, .int .i64 ((af l0 x16_1).f1), .int .u16 0, .int .u8 0, .int .u8 0, .int .u32 0, .int .i64 0, .int .i64 0]) ?_ 2 _ rfl; (with_reducible repeat (first | refine bg ?_ _ | refine bv ?_ | refine aG ?_ _)); refine aQ (cs := #[.slice A211_0 ((af l0 x16_1).f0).length c211_0, .int .i64 0, .int .u16 0, .int .u8 0, .int .u8 0, .int .u32 0, .int .i64 0, .int .i64 0]) ?_ 1 _ rfl; (with_reducible repeat (first | refine bg ?_ _ | refine bv ?_ | refine aG ?_ _)); refine aQ (cs := #[.slice none 0 0, .int .i64 0, .int .u16 0, .int .u8 0, .int .u8 0, .int .u32 0, .int .i64 0, .int .i64 0]) ?_ 0 _ rfl; (with_reducible repeat (first | refine bg ?_ _ | refine bv ?_ | refine aG ?_ _)); exact BK212.out) hb); replace HB := di HB hb))
         go_ret2
         exact ⟨dB, bE⟩
       exact absurd H (by simp)
     exact absurd H (by simp)
   obtain ⟨rfl, rfl⟩ := so2 H
   go_wp2
   go_ret2
   exact ⟨dB, bE⟩
attribute [local go_sem] dY d9 fC fD dP dQ dZ ek
attribute [local go_sem high] yY
def bC.l0 : Nat → List (S45) → List (S45) → Int → Option (Bool)
 | 0, _, _, _ => none
 | k + 1, x0, x1, x5 => if x5 < (x0.length : Int) then (if 0 ≤ x5 then (if x5 < (x1.length : Int) then (if (!(((aM x0 x5).f0) == ((aM x1 x5).f0)) || (!(((aM x0 x5).f1) == ((aM x1 x5).f1)) || (!(((aM x0 x5).f2) == ((aM x1 x5).f2)) || (!(((aM x0 x5).f3) == ((aM x1 x5).f3)))))) = true then (some false) else (bC.l0 k x0 x1 (wrap64 (x5 + 1)))) else (none)) else (none)) else (some true)
def bC.f (k : Nat) (l0 : List (S45)) (l1 : List (S45)) : Option (Bool) := if (l0.length : Int) = (l1.length : Int) then (bC.l0 k l0 l1 0) else (some false)
theorem bC.calls (k : Nat) (A0 : Option Addr) (c0 : Nat) (l0 : List (S45)) (A1 : Option Addr) (c1 : Nat) (l1 : List (S45)) (r : Bool) (w : World) (hr0 : Kd.C k45 w A0 l0.length l0) (hc0 : l0.length ≤ c0) (hr1 : Kd.C k45 w A1 l1.length l1) (hc1 : l1.length ≤ c1) (h : bC.f k l0 l1 = some r) :
 Calls Try.prog 19 #[.slice A0 l0.length c0, .slice A1 l1.length c1] w fun e w' => e = .returned (.bool r) ∧ cz w w' := by
 have hu45 := Try.underlying45
 have HR0 := aa.mk hr0
 have HC0 := aa.mk hc0
 clear hr0 hc0
 have HR1 := aa.mk hr1
 have HC1 := aa.mk hc1
 clear hr1 hc1
 have H : (if (l0.length : Int) = (l1.length : Int) then (bC.l0 k l0 l1 0) else (some false)) = some r := h
 clear h
 replace H := bO H
 obtain ⟨H, c3, _, _⟩ | ⟨H, c3, _, _⟩ := H
 · have c3b2 : (l0.length == l1.length) = true := by first | simpa using c3 | (simp at c3 ⊢; omega)
   clear c3
   replace H := aa.mk H
   go_enter Try.func19, Try.ntmps19
   go_wp2
   repeat (go_quiet (fail); try go_wp2)
   go_loopg [5] k (fun kq v5 w' => ∃ (x5_1 : Int), v5 = .int .i64 x5_1 ∧ aa (bC.l0 kq l0 l1 x5_1 = some r) ∧ aa (kq ≤ k) ∧ cz w w')
   case atStart => exact ⟨_, aZ, H, ⟨Nat.le_refl _⟩, bJ⟩
   case round =>
    clear H
    obtain ⟨x5_1, rfl, HA, HK1, ⟨m1, rfl⟩⟩ := hrel
    cases gk with
    | zero => exact absurd HA.out (by simp [bC.l0])
    | succ k1 =>
     have H := HA.out
     clear HA
     simp only [bC.l0] at H
     replace H := fA H
     obtain ⟨H, -, _⟩ | ⟨H, -, _⟩ := H
     · replace H := fA H
       obtain ⟨H, -, _⟩ | ⟨H, c5, -⟩ := H
       · replace H := fA H
         obtain ⟨H, -, _⟩ | ⟨H, c6, -⟩ := H
         · replace H := nN H
           obtain ⟨H, c7⟩ | ⟨H, c7⟩ := H
           · have c7b0 : (!(((aM l0 x5_1).f0) == ((aM l1 x5_1).f0)) || (!(((aM l0 x5_1).f1) == ((aM l1 x5_1).f1)) || (!(((aM l0 x5_1).f2) == ((aM l1 x5_1).f2)) || (!(((aM l0 x5_1).f3) == ((aM l1 x5_1).f3)))))) = true := c7
             clear c7
             cases H
             have p231 : 0 ≤ (x5_1 : Int) := of_decide_eq_true (by first | (with_reducible assumption) | assumption)
             have q231 : x5_1 < (l0.length : Int) := of_decide_eq_true (by first | (with_reducible assumption) | assumption)
             obtain ⟨ad231, e231, hx231_0, hx231_1, hx231_2, hx231_3⟩ := nu HR0.out x5_1 p231 q231
             cases e231
             replace p231 := eq_true p231
             replace q231 := eq_true q231
             have p232 : 0 ≤ (x5_1 : Int) := of_decide_eq_true (by first | (with_reducible assumption) | assumption)
             have q232 : x5_1 < (l1.length : Int) := of_decide_eq_true (by first | (with_reducible assumption) | assumption)
             obtain ⟨ad232, e232, hx232_0, hx232_1, hx232_2, hx232_3⟩ := nu HR1.out x5_1 p232 q232
             cases e232
             replace p232 := eq_true p232
             replace q232 := eq_true q232
             go_wp2
             repeat (go_quiet (fail); try go_wp2)
             go_ret
             exact ⟨aZ, bJ⟩
           have c7b0 : (!(((aM l0 x5_1).f0) == ((aM l1 x5_1).f0)) || (!(((aM l0 x5_1).f1) == ((aM l1 x5_1).f1)) || (!(((aM l0 x5_1).f2) == ((aM l1 x5_1).f2)) || (!(((aM l0 x5_1).f3) == ((aM l1 x5_1).f3)))))) = false := by simpa using c7
           clear c7
           replace H := aa.mk H
           have p231 : 0 ≤ (x5_1 : Int) := of_decide_eq_true (by first | (with_reducible assumption) | assumption)
           have q231 : x5_1 < (l0.length : Int) := of_decide_eq_true (by first | (with_reducible assumption) | assumption)
           obtain ⟨ad231, e231, hx231_0, hx231_1, hx231_2, hx231_3⟩ := nu HR0.out x5_1 p231 q231
           cases e231
           replace p231 := eq_true p231
           replace q231 := eq_true q231
           have p232 : 0 ≤ (x5_1 : Int) := of_decide_eq_true (by first | (with_reducible assumption) | assumption)
           have q232 : x5_1 < (l1.length : Int) := of_decide_eq_true (by first | (with_reducible assumption) | assumption)
           obtain ⟨ad232, e232, hx232_0, hx232_1, hx232_2, hx232_3⟩ := nu HR1.out x5_1 p232 q232
           cases e232
           replace p232 := eq_true p232
           replace q232 := eq_true q232
           go_wp2
           repeat (go_quiet (fail); try go_wp2)
           go_roundg k1
           case measure => have := HK1.out; omega
           case rel => exact ⟨_, aZ, H, ⟨by have := HK1.out; omega⟩, bJ⟩
         exact absurd H (by simp)
       exact absurd H (by simp)
     cases H
     go_wp2
     repeat (go_quiet (fail); try go_wp2)
     go_ret
     exact ⟨aZ, bJ⟩
 have c3b2 : (l0.length == l1.length) = false := by first | simpa using c3 | (simp at c3 ⊢; omega)
 cases H
 go_enter Try.func19, Try.ntmps19
 go_wp2
 repeat (go_quiet (fail); try go_wp2)
 go_ret
 exact ⟨aZ, bJ⟩
def aW.l0 : Nat → List (S47) → List (S47) → Int → Option ((List (S47)))
 | 0, _, _, _ => none
 | k + 1, x0, x3, x4 => if x4 < (x0.length : Int) then (if 0 ≤ x4 then ((dz.f ((af x0 x4).f0)).bind fun t269 => (if x3.length < 2513169434916 then (aW.l0 k x0 (x3 ++ [(⟨t269, (af x0 x4).f1, (⟨(af x0 x4).f2.f0, (af x0 x4).f2.f1, (af x0 x4).f2.f2, (af x0 x4).f2.f3⟩ : S45), (af x0 x4).f3, (af x0 x4).f4⟩ : S47)]) (wrap64 (x4 + 1))) else (none))) else (none)) else (some x3)
def aW.f (k : Nat) (l0 : List (S47)) : Option ((List (S47))) := aW.l0 k l0 ([] : List (S47)) 0
theorem aW.calls (k : Nat) (A0 : Option Addr) (c0 : Nat) (l0 : List (S47)) (r : List (S47)) (w : World) (hr0 : Kd.C k47 w A0 l0.length l0) (hc0 : l0.length ≤ c0) (h : aW.f k l0 = some r) :
 Calls Try.prog 18 #[.slice A0 l0.length c0] w fun e w' => ∃ v0_ : Value, e = .returned (v0_) ∧ Kd.S k47 47 w' w.heap.size (fun _ => True) v0_ r ∧ Below w.heap.size w w' := by
 have hu47 := Try.underlying47
 have HR0 := aa.mk hr0
 have HC0 := aa.mk hc0
 clear hr0 hc0
 have HB := aa.mk (Below.refl w.heap.size w)
 have H : (aW.l0 k l0 ([] : List (S47)) 0) = some r := h
 clear h
 replace H := aa.mk H
 go_enter Try.func18, Try.ntmps18
 go_wp2
 go_loopg [3, 4] k (fun kq v3 v4 w' => ∃ (x3_1 : List (S47)) (x4_1 : Int), v4 = .int .i64 x4_1 ∧ aa (aW.l0 kq l0 x3_1 x4_1 = some r) ∧ aa (kq ≤ k) ∧ aa (Kd.S k47 47 w' w.heap.size (fun _ => True) v3 x3_1) ∧ aa (Below w.heap.size w w'))
 case atStart => exact ⟨_, _, aZ, H, ⟨Nat.le_refl _⟩, ⟨by first | exact Kd.S_nil _ _ _ _ _ | exact Kd.N_nil _ _ _ _ _ | exact Kd.V_nil _ _ _ _ _ | exact Kd.Q_nil _ _ _ _ _ | exact Kd.kL _ _ _ _ _⟩, ⟨bE⟩⟩
 case round =>
  clear H
  obtain ⟨x3_1, x4_1, rfl, HA, HK1, HO_3, HB⟩ := hrel
  cases gk with
  | zero => exact absurd HA.out (by simp [aW.l0])
  | succ k1 =>
   have H := HA.out
   clear HA
   simp only [aW.l0] at H
   replace H := fA H
   obtain ⟨H, -, _⟩ | ⟨H, -, _⟩ := H
   · replace H := fA H
     obtain ⟨H, -, _⟩ | ⟨H, c3, -⟩ := H
     · replace H := bnd H
       obtain ⟨t269, A4, H⟩ := H
       replace H := nN H
       obtain ⟨H, c5⟩ | ⟨H, c5⟩ := H
       · have LMc5 := aa.mk c5
         clear c5
         obtain ⟨y272, hy272⟩ : ∃ y_ : List (S47), y_ = (x3_1 ++ [(⟨t269, (af l0 x4_1).f1, (⟨(af l0 x4_1).f2.f0, (af l0 x4_1).f2.f1, (af l0 x4_1).f2.f2, (af l0 x4_1).f2.f3⟩ : S45), (af l0 x4_1).f3, (af l0 x4_1).f4⟩ : S47)]) := ⟨_, rfl⟩
         replace H : (aW.l0 k1 l0 y272 (wrap64 (x4_1 + 1))) = some r := by first | (rw [hy272]; with_reducible exact H) | (have H2_ := (Option.bind_some _ _).symm.trans H; rw [hy272]; with_reducible exact H2_) | (have H2_ := (Option.bind_some _ _).symm.trans H; with_reducible exact H2_) | with_reducible exact H | (rw [hy272]; exact H) | exact H
         have Ny272 := aa.mk hy272
         clear hy272
         replace H := aa.mk H
         obtain ⟨ad266, rfl⟩ := iJ HR0 x4_1 (by assumption) (by assumption)
         obtain ⟨A266_0, c266_0, _, _, _, _, _, _, _, _, HR266_0, HC266_0, _, _⟩ := eY HR0 HB x4_1 (by assumption) (by assumption)
         go_wp2_with (first | ((with_reducible refine aT (N := 5) rfl ?_); refine dW (N := 5) (cs := #[.slice none 0 0, .int .i64 0, .int .u16 0, .int .u8 0, .int .u8 0, .int .u32 0, .int .i64 0, .int .i64 0]) (t := 47) ?_; intro gb267 hg w6 hbox hb; have GE267 := geN HB hg; replace HO_3 := aa.mk (Kd.oH (Kd.xW (by (with_reducible repeat (first | apply Kd.lm | apply Kd.lq | apply Kd.ng)); exact HO_3.out) gb267 (Nat.le_of_eq hg.symm)) hb); have BK267 := aa.mk hbox; replace HB := di HB hb; clear hb hbox hg; obtain ⟨_, _, _, _, _, _, _, _, _, _, _, _, _, _, _, _⟩ := cz8 BK267; have p268 : 0 ≤ (x4_1 : Int) := of_decide_eq_true (by first | (with_reducible assumption) | assumption); have q268 : x4_1 < (l0.length : Int) := of_decide_eq_true (by first | (with_reducible assumption) | assumption); obtain ⟨ad268, A268_0, c268_0, e268, hx268_0, hx268_1, hx268_2, hx268_3, hx268_4, hx268_5, hx268_6, hx268_7, hl268_0, hi268_0⟩ := ib HR0.out x4_1 p268 q268; obtain rfl : ad266 = ad268 := (by injection e268); have hn268_0 : ad266.block ≠ gb267 := Nat.ne_of_lt (Nat.lt_of_lt_of_le (by have := World.block_lt_of_cell? _ _ hx268_0; first | rwa [add_block] at this | exact this) GE267.out); have hn268_1 := hn268_0; have hn268_2 := hn268_0; have hn268_3 := hn268_0; have hn268_4 := hn268_0; have hn268_5 := hn268_0; have hn268_6 := hn268_0; have hn268_7 := hn268_0; replace hx268_0 := (HB.out.cell (World.block_lt_of_cell? w _ hx268_0)).trans hx268_0; replace hx268_1 := (HB.out.cell (World.block_lt_of_cell? w _ hx268_1)).trans hx268_1; replace hx268_2 := (HB.out.cell (World.block_lt_of_cell? w _ hx268_2)).trans hx268_2; replace hx268_3 := (HB.out.cell (World.block_lt_of_cell? w _ hx268_3)).trans hx268_3; replace hx268_4 := (HB.out.cell (World.block_lt_of_cell? w _ hx268_4)).trans hx268_4; replace hx268_5 := (HB.out.cell (World.block_lt_of_cell? w _ hx268_5)).trans hx268_5; replace hx268_6 := (HB.out.cell (World.block_lt_of_cell? w _ hx268_6)).trans hx268_6; replace hx268_7 := (HB.out.cell (World.block_lt_of_cell? w _ hx268_7)).trans hx268_7; have HR268_0 := aa.mk hi268_0; have HC268_0 := aa.mk hl268_0; clear hi268_0 hl268_0; replace hx268_0 := (cell_far (p := ⟨gb267, 0, none⟩) (ab0 hn268_0) (.slice A266_0 ((af l0 x4_1).f0).length c266_0)).trans hx268_0; replace hx268_1 := (cell_far (p := ⟨gb267, 0, none⟩) (ab0 hn268_0) (.slice A266_0 ((af l0 x4_1).f0).length c266_0)).trans hx268_1; replace hx268_2 := (cell_far (p := ⟨gb267, 0, none⟩) (ab0 hn268_0) (.slice A266_0 ((af l0 x4_1).f0).length c266_0)).trans hx268_2; replace hx268_3 := (cell_far (p := ⟨gb267, 0, none⟩) (ab0 hn268_0) (.slice A266_0 ((af l0 x4_1).f0).length c266_0)).trans hx268_3; replace hx268_4 := (cell_far (p := ⟨gb267, 0, none⟩) (ab0 hn268_0) (.slice A266_0 ((af l0 x4_1).f0).length c266_0)).trans hx268_4; replace hx268_5 := (cell_far (p := ⟨gb267, 0, none⟩) (ab0 hn268_0) (.slice A266_0 ((af l0 x4_1).f0).length c266_0)).trans hx268_5; replace hx268_6 := (cell_far (p := ⟨gb267, 0, none⟩) (ab0 hn268_0) (.slice A266_0 ((af l0 x4_1).f0).length c266_0)).trans hx268_6; replace hx268_7 := (cell_far (p := ⟨gb267, 0, none⟩) (ab0 hn268_0) (.slice A266_0 ((af l0 x4_1).f0).length c266_0)).trans hx268_7; replace hx268_0 := (cell_far (p := ⟨gb267, 1, none⟩) (ab0 hn268_1) (.int .i64 ((af l0 x4_1).f1))).trans hx268_0; replace hx268_1 := (cell_far (p := ⟨gb267, 1, none⟩) (ab0 hn268_1) (.int .i64 ((af l0 x4_1).f1))).trans hx268_1; replace hx268_2 := (cell_far (p := ⟨gb267, 1, none⟩) (ab0 hn268_1) (.int .i64 ((af l0 x4_1).f1))).trans hx268_2; replace hx268_3 := (cell_far (p := ⟨gb267, 1, none⟩) (ab0 hn268_1) (.int .i64 ((af l0 x4_1).f1))).trans hx268_3; replace hx268_4 := (cell_far (p := ⟨gb267, 1, none⟩) (ab0 hn268_1) (.int .i64 ((af l0 x4_1).f1))).trans hx268_4; replace hx268_5 := (cell_far (p := ⟨gb267, 1, none⟩) (ab0 hn268_1) (.int .i64 ((af l0 x4_1).f1))).trans hx268_5; replace hx268_6 := (cell_far (p := ⟨gb267, 1, none⟩) (ab0 hn268_1) (.int .i64 ((af l0 x4_1).f1))).trans hx268_6; replace hx268_7 := (cell_far (p := ⟨gb267, 1, none⟩) (ab0 hn268_1) (.int .i64 ((af l0 x4_1).f1))).trans hx268_7; replace hx268_0 := (cell_far (p := ⟨gb267, 2, none⟩) (ab0 hn268_2) (.int .u16 ((af l0 x4_1).f2.f0))).trans hx268_0; replace hx268_1 := (cell_far (p := ⟨gb267, 2, none⟩) (ab0 hn268_2) (.int .u16 ((af l0 x4_1).f2.f0))).trans hx268_1; replace hx268_2 := (cell_far (p := ⟨gb267, 2, none⟩) (ab0 hn268_2) (.int .u16 ((af l0 x4_1).f2.f0))).trans hx268_2; replace hx268_3 := (cell_far (p := ⟨gb267, 2, none⟩) (ab0 hn268_2) (.int .u16 ((af l0 x4_1).f2.f0))).trans hx268_3; replace hx268_4 := (cell_far (p := ⟨gb267, 2, none⟩) (ab0 hn268_2) (.int .u16 ((af l0 x4_1).f2.f0))).trans hx268_4; replace hx268_5 := (cell_far (p := ⟨gb267, 2, none⟩) (ab0 hn268_2) (.int .u16 ((af l0 x4_1).f2.f0))).trans hx268_5; replace hx268_6 := (cell_far (p := ⟨gb267, 2, none⟩) (ab0 hn268_2) (.int .u16 ((af l0 x4_1).f2.f0))).trans hx268_6; replace hx268_7 := (cell_far (p := ⟨gb267, 2, none⟩) (ab0 hn268_2) (.int .u16 ((af l0 x4_1).f2.f0))).trans hx268_7; replace hx268_0 := (cell_far (p := ⟨gb267, 3, none⟩) (ab0 hn268_3) (.int .u8 ((af l0 x4_1).f2.f1))).trans hx268_0; replace hx268_1 := (cell_far (p := ⟨gb267, 3, none⟩) (ab0 hn268_3) (.int .u8 ((af l0 x4_1).f2.f1))).trans hx268_1; replace hx268_2 := (cell_far (p := ⟨gb267, 3, none⟩) (ab0 hn268_3) (.int .u8 ((af l0 x4_1).f2.f1))).trans hx268_2; replace hx268_3 := (cell_far (p := ⟨gb267, 3, none⟩) (ab0 hn268_3) (.int .u8 ((af l0 x4_1).f2.f1))).trans hx268_3; replace hx268_4 := (cell_far (p := ⟨gb267, 3, none⟩) (ab0 hn268_3) (.int .u8 ((af l0 x4_1).f2.f1))).trans hx268_4; replace hx268_5 := (cell_far (p := ⟨gb267, 3, none⟩) (ab0 hn268_3) (.int .u8 ((af l0 x4_1).f2.f1))).trans hx268_5; replace hx268_6 := (cell_far (p := ⟨gb267, 3, none⟩) (ab0 hn268_3) (.int .u8 ((af l0 x4_1).f2.f1))).trans hx268_6; replace hx268_7 := (cell_far (p := ⟨gb267, 3, none⟩) (ab0 hn268_3) (.int .u8 ((af l0 x4_1).f2.f1))).trans hx268_7; replace hx268_0 := (cell_far (p := ⟨gb267, 4, none⟩) (ab0 hn268_4) (.int .u8 ((af l0 x4_1).f2.f2))).trans hx268_0; replace hx268_1 := (cell_far (p := ⟨gb267, 4, none⟩) (ab0 hn268_4) (.int .u8 ((af l0 x4_1).f2.f2))).trans hx268_1; replace hx268_2 := (cell_far (p := ⟨gb267, 4, none⟩) (ab0 hn268_4) (.int .u8 ((af l0 x4_1).f2.f2))).trans hx268_2; replace hx268_3 := (cell_far (p := ⟨gb267, 4, none⟩) (ab0 hn268_4) (.int .u8 ((af l0 x4_1).f2.f2))).trans hx268_3; replace hx268_4 := (cell_far (p := ⟨gb267, 4, none⟩) (ab0 hn268_4) (.int .u8 ((af l0 x4_1).f2.f2))).trans hx268_4; replace hx268_5 := (cell_far (p := ⟨gb267, 4, none⟩) (ab0 hn268_4) (.int .u8 ((af l0 x4_1).f2.f2))).trans hx268_5; replace hx268_6 := (cell_far (p := ⟨gb267, 4, none⟩) (ab0 hn268_4) (.int .u8 ((af l0 x4_1).f2.f2))).trans hx268_6; replace hx268_7 := (cell_far (p := ⟨gb267, 4, none⟩) (ab0 hn268_4) (.int .u8 ((af l0 x4_1).f2.f2))).trans hx268_7; replace hx268_0 := (cell_far (p := ⟨gb267, 5, none⟩) (ab0 hn268_5) (.int .u32 ((af l0 x4_1).f2.f3))).trans hx268_0; replace hx268_1 := (cell_far (p := ⟨gb267, 5, none⟩) (ab0 hn268_5) (.int .u32 ((af l0 x4_1).f2.f3))).trans hx268_1; replace hx268_2 := (cell_far (p := ⟨gb267, 5, none⟩) (ab0 hn268_5) (.int .u32 ((af l0 x4_1).f2.f3))).trans hx268_2; replace hx268_3 := (cell_far (p := ⟨gb267, 5, none⟩) (ab0 hn268_5) (.int .u32 ((af l0 x4_1).f2.f3))).trans hx268_3; replace hx268_4 := (cell_far (p := ⟨gb267, 5, none⟩) (ab0 hn268_5) (.int .u32 ((af l0 x4_1).f2.f3))).trans hx268_4; replace hx268_5 := (cell_far (p := ⟨gb267, 5, none⟩) (ab0 hn268_5) (.int .u32 ((af l0 x4_1).f2.f3))).trans hx268_5; replace hx268_6 := (cell_far (p := ⟨gb267, 5, none⟩) (ab0 hn268_5) (.int .u32 ((af l0 x4_1).f2.f3))).trans hx268_6; replace hx268_7 := (cell_far (p := ⟨gb267, 5, none⟩) (ab0 hn268_5) (.int .u32 ((af l0 x4_1).f2.f3))).trans hx268_7; replace hx268_0 := (cell_far (p := ⟨gb267, 6, none⟩) (ab0 hn268_6) (.int .i64 ((af l0 x4_1).f3))).trans hx268_0; replace hx268_1 := (cell_far (p := ⟨gb267, 6, none⟩) (ab0 hn268_6) (.int .i64 ((af l0 x4_1).f3))).trans hx268_1; replace hx268_2 := (cell_far (p := ⟨gb267, 6, none⟩) (ab0 hn268_6) (.int .i64 ((af l0 x4_1).f3))).trans hx268_2; replace hx268_3 := (cell_far (p := ⟨gb267, 6, none⟩) (ab0 hn268_6) (.int .i64 ((af l0 x4_1).f3))).trans hx268_3; replace hx268_4 := (cell_far (p := ⟨gb267, 6, none⟩) (ab0 hn268_6) (.int .i64 ((af l0 x4_1).f3))).trans hx268_4; replace hx268_5 := (cell_far (p := ⟨gb267, 6, none⟩) (ab0 hn268_6) (.int .i64 ((af l0 x4_1).f3))).trans hx268_5; replace hx268_6 := (cell_far (p := ⟨gb267, 6, none⟩) (ab0 hn268_6) (.int .i64 ((af l0 x4_1).f3))).trans hx268_6; replace hx268_7 := (cell_far (p := ⟨gb267, 6, none⟩) (ab0 hn268_6) (.int .i64 ((af l0 x4_1).f3))).trans hx268_7; replace hx268_0 := (cell_far (p := ⟨gb267, 7, none⟩) (ab0 hn268_7) (.int .i64 ((af l0 x4_1).f4))).trans hx268_0; replace hx268_1 := (cell_far (p := ⟨gb267, 7, none⟩) (ab0 hn268_7) (.int .i64 ((af l0 x4_1).f4))).trans hx268_1; replace hx268_2 := (cell_far (p := ⟨gb267, 7, none⟩) (ab0 hn268_7) (.int .i64 ((af l0 x4_1).f4))).trans hx268_2; replace hx268_3 := (cell_far (p := ⟨gb267, 7, none⟩) (ab0 hn268_7) (.int .i64 ((af l0 x4_1).f4))).trans hx268_3; replace hx268_4 := (cell_far (p := ⟨gb267, 7, none⟩) (ab0 hn268_7) (.int .i64 ((af l0 x4_1).f4))).trans hx268_4; replace hx268_5 := (cell_far (p := ⟨gb267, 7, none⟩) (ab0 hn268_7) (.int .i64 ((af l0 x4_1).f4))).trans hx268_5; replace hx268_6 := (cell_far (p := ⟨gb267, 7, none⟩) (ab0 hn268_7) (.int .i64 ((af l0 x4_1).f4))).trans hx268_6; replace hx268_7 := (cell_far (p := ⟨gb267, 7, none⟩) (ab0 hn268_7) (.int .i64 ((af l0 x4_1).f4))).trans hx268_7; clear hn268_0; clear hn268_1; clear hn268_2; clear hn268_3; clear hn268_4; clear hn268_5; clear hn268_6; clear hn268_7; replace p268 := eq_true p268; replace q268 := eq_true q268) | (go_at_call 22; (with_reducible refine (dz.calls _ _ _ _ _ ?side1 HC268_0.out A4.out).mono ?_); (case side1 => exact Kd.dN HR268_0.out bE); rintro e w8 ⟨v270, rfl, ho0, hb⟩; have HO271 := aa.mk (Kd.jH ho0 (gq bE)); replace HO_3 := aa.mk (Kd.xV (by (with_reducible repeat (first | apply Kd.lm | apply Kd.lq | apply Kd.ng)); exact (Kd.kQ (Kd.l8 (p := ⟨gb267, 7, none⟩) (Kd.l8 (p := ⟨gb267, 6, none⟩) (Kd.l8 (p := ⟨gb267, 5, none⟩) (Kd.l8 (p := ⟨gb267, 4, none⟩) (Kd.l8 (p := ⟨gb267, 3, none⟩) (Kd.l8 (p := ⟨gb267, 2, none⟩) (Kd.l8 (p := ⟨gb267, 1, none⟩) (Kd.l8 (p := ⟨gb267, 0, none⟩) (Kd.kQ HO_3.out (fun k_ hk => (⟨hk, hk.2⟩ : _ ∧ k_ ≠ gb267))) (fun _ hk => hk.2) (.slice A266_0 ((af l0 x4_1).f0).length c266_0)) (fun _ hk => hk.2) (.int .i64 ((af l0 x4_1).f1))) (fun _ hk => hk.2) (.int .u16 ((af l0 x4_1).f2.f0))) (fun _ hk => hk.2) (.int .u8 ((af l0 x4_1).f2.f1))) (fun _ hk => hk.2) (.int .u8 ((af l0 x4_1).f2.f2))) (fun _ hk => hk.2) (.int .u32 ((af l0 x4_1).f2.f3))) (fun _ hk => hk.2) (.int .i64 ((af l0 x4_1).f3))) (fun _ hk => hk.2) (.int .i64 ((af l0 x4_1).f4))) (fun _ h_ => h_.1))) (Kd.o6 ho0) hb); replace BK267 := aa.mk (ak (g := gb267) (o := .cells #[.slice A266_0 ((af l0 x4_1).f0).length c266_0, .int .i64 ((af l0 x4_1).f1), .int .u16 ((af l0 x4_1).f2.f0), .int .u8 ((af l0 x4_1).f2.f1), .int .u8 ((af l0 x4_1).f2.f2), .int .u32 ((af l0 x4_1).f2.f3), .int .i64 ((af l0 x4_1).f3), .int .i64 ((af l0 x4_1).f4)] 47 (0, 0)) (by (with_reducible repeat (first | refine bg ?_ _ | refine bv ?_ | refine aG ?_ _)); refine aQ (cs := #[.slice A266_0 ((af l0 x4_1).f0).length c266_0, .int .i64 ((af l0 x4_1).f1), .int .u16 ((af l0 x4_1).f2.f0), .int .u8 ((af l0 x4_1).f2.f1), .int .u8 ((af l0 x4_1).f2.f2), .int .u32 ((af l0 x4_1).f2.f3), .int .i64 ((af l0 x4_1).f3), .int .i64 0]) ?_ 7 _ rfl; (with_reducible repeat (first | refine bg ?_ _ | refine bv ?_ | refine aG ?_ _)); refine aQ (cs := #[.slice A266_0 ((af l0 x4_1).f0).length c266_0, .int .i64 ((af l0 x4_1).f1), .int .u16 ((af l0 x4_1).f2.f0), .int .u8 ((af l0 x4_1).f2.f1), .int .u8 ((af l0 x4_1).f2.f2), .int .u32 ((af l0 x4_1).f2.f3), .int .i64 0, .int .i64 0]) ?_ 6 _ rfl; (with_reducible repeat (first | refine bg ?_ _ | refine bv ?_ | refine aG ?_ _)); refine aQ (cs := #[.slice A266_0 ((af l0 x4_1).f0).length c266_0, .int .i64 ((af l0 x4_1).f1), .int .u16 ((af l0 x4_1).f2.f0), .int .u8 ((af l0 x4_1).f2.f1), .int .u8 ((af l0 x4_1).f2.f2), .int .u32 0, .int .i64 0, .int .i64 0]) ?_ 5 _ rfl; (with_reducible repeat (first | refine bg ?_ _ | refine bv ?_ | refine aG ?_ _)); refine aQ (cs := #[.slice A266_0 ((af l0 x4_1).f0).length c266_0, .int .i64 ((af l0 x4_1).f1), .int .u16 ((af l0 x4_1).f2.f0), .int .u8 ((af l0 x4_1).f2.f1), .int .u8 0, .int .u32 0, .int .i64 0, .int .i64 0]) ?_ 4 _ rfl; (with_reducible repeat (first | refine bg ?_ _ | refine bv ?_ | refine aG ?_ _)); refine aQ (cs := #[.slice A266_0 ((af l0 x4_1).f0).length c266_0, .int .i64 ((af l0 x4_1).f1), .int .u16 ((af l0 x4_1).f2.f0), .int .u8 0, .int .u8 0, .int .u32 0, .int .i64 0, .int .i64 0]) ?_ 3 _ rfl; (with_reducible repeat (first | refine bg ?_ _ | refine bv ?_ | refine aG ?_ _)); refine aQ (cs := #[.slice A266_0 ((af l0 x4_1).f0).length c266_0, .int .i64 ((af l0 x4_1).f1), .int .u16 0, .int .u8 0, .int .u8 0, .int .u32 0, .int .i64 0, .int .i64 0]) ?_ 2 _ rfl; (with_reducible repeat (first | refine bg ?_ _ | refine bv ?_ | refine aG ?_ _)); refine aQ (cs := #[.slice A266_0 ((af l0 x4_1).f0).length c266_0, .int .i64 0, .int .u16 0, .int .u8 0, .int .u8 0, .int .u32 0, .int .i64 0, .int .i64 0]) ?_ 1 _ rfl; (with_reducible repeat (first | refine bg ?_ _ | refine bv ?_ | refine aG ?_ _)); refine aQ (cs := #[.slice none 0 0, .int .i64 0, .int .u16 0, .int .u8 0, .int .u8 0, .int .u32 0, .int .i64 0, .int .i64 0]) ?_ 0 _ rfl; (with_reducible repeat (first | refine bg ?_ _ | refine bv ?_ | refine aG ?_ _)); exact BK267.out) hb); replace HB := di HB hb; obtain ⟨Ao9, co9, eo9⟩ := Kd.gQ HO271.out; subst eo9; obtain ⟨_, _, _, _, _, _, _, _, _, _, _, _, _, _, _, _⟩ := cz8 BK267) | ((with_reducible refine gu (t := 26) (p := 22) rfl ?_); refine fF (t := 26) (p := 22) (v := ?vo_w11) (w1 := (w8.setCell ⟨gb267, 0, none⟩ (.slice Ao9 t269.length co9))) ?hg ?ho ?hn ?hr ?_; (case ho => rfl); (case hg => rfl); (case hn => rfl); (case hr => first | (go_simp; done) | (go_simp; rfl)); intro w11 hw; have n0_ : aa (Kd.S k47 47 w11 w.heap.size (fun k_ => some k_ ≠ (.slice Ao9 t269.length co9 : Value).ownBlock ∧ k_ ≠ gb267) u3 x3_1) := ⟨(by rw [hw]; exact (by (with_reducible repeat (first | apply Kd.lm | apply Kd.lq | apply Kd.ng)); exact Kd.kQ (Kd.l8 (p := ⟨gb267, 0, none⟩) (Kd.kQ HO_3.out (fun k_ hk => (⟨hk, hk.1.2⟩ : _ ∧ k_ ≠ gb267))) (fun _ hk => hk.2) (.slice Ao9 t269.length co9)) (fun _ hk => ⟨hk.1.2, hk.1.1.2⟩)))⟩; have n1_ : aa (Kd.R k45 45 w11 w.heap.size (fun _ => True) (.slice Ao9 t269.length co9) t269) := ⟨(by rw [hw]; exact (by (with_reducible repeat (first | apply Kd.eD | apply Kd.eP | apply Kd.fZ)); exact Kd.gP (Kd.R_far (p := ⟨gb267, 0, none⟩) (Kd.oG HO271.out BK267.out (by decide)) (fun _ hk => hk.2) (.slice Ao9 t269.length co9)) (fun _ hk => trivial)))⟩; have n2_ : aa (w11.heap[gb267]? = some (.cells #[.slice Ao9 t269.length co9, .int .i64 ((af l0 x4_1).f1), .int .u16 ((af l0 x4_1).f2.f0), .int .u8 ((af l0 x4_1).f2.f1), .int .u8 ((af l0 x4_1).f2.f2), .int .u32 ((af l0 x4_1).f2.f3), .int .i64 ((af l0 x4_1).f3), .int .i64 ((af l0 x4_1).f4)] 47 (0, 0))) := ⟨(by rw [hw]; exact (by (with_reducible repeat (first | refine bg ?_ _ | refine bv ?_ | refine aG ?_ _)); refine aQ (cs := #[.slice A266_0 ((af l0 x4_1).f0).length c266_0, .int .i64 ((af l0 x4_1).f1), .int .u16 ((af l0 x4_1).f2.f0), .int .u8 ((af l0 x4_1).f2.f1), .int .u8 ((af l0 x4_1).f2.f2), .int .u32 ((af l0 x4_1).f2.f3), .int .i64 ((af l0 x4_1).f3), .int .i64 ((af l0 x4_1).f4)]) ?_ 0 _ rfl; (with_reducible repeat (first | refine bg ?_ _ | refine bv ?_ | refine aG ?_ _)); exact BK267.out))⟩; have n3_ : aa (Below w.heap.size w w11) := ⟨(by rw [hw]; exact bE)⟩; clear hw; clear HO_3; clear HO271; clear BK267; clear HB; have HO_3 := n0_; have HO271 := n1_; have BK267 := n2_; have HB := n3_; clear n0_ n1_ n2_ n3_; obtain ⟨_, _, _, _, _, _, _, _, _, _, _, _, _, _, _, _⟩ := cz8 BK267) | ((with_reducible refine mD (b := .append) (xs := #[.tmp 23, .tmp 25]) rfl ?_); at_builtin; refine Kd.xU k47 (w0 := w) w.heap.size rfl (.tmp 23) (.tmp 25) 22 47 (.agg #[(.slice none 0 0), (.int .i64 0), (.int .u16 0), (.int .u8 0), (.int .u8 0), (.int .u32 0), (.int .i64 0), (.int .i64 0)]) 56 rfl Try.underlying22 lZ rfl (by decide) (by omega) u3 x3_1 (⟨t269, (af l0 x4_1).f1, (⟨(af l0 x4_1).f2.f0, (af l0 x4_1).f2.f1, (af l0 x4_1).f2.f2, (af l0 x4_1).f2.f3⟩ : S45), (af l0 x4_1).f3, (af l0 x4_1).f4⟩ : S47) [.slice Ao9 t269.length co9, .int .i64 ((af l0 x4_1).f1), .int .u16 ((af l0 x4_1).f2.f0), .int .u8 ((af l0 x4_1).f2.f1), .int .u8 ((af l0 x4_1).f2.f2), .int .u32 ((af l0 x4_1).f2.f3), .int .i64 ((af l0 x4_1).f3), .int .i64 ((af l0 x4_1).f4)] (fun k_ => k_ ≠ gb267) (fun k_ => some k_ = (.slice Ao9 t269.length co9 : Value).ownBlock) rfl rfl ?aP (fun k_ hk_ => ((Kd.gP (ok' := fun k_ => ((fun k_ => k_ ≠ gb267)) k_ ∧ some k_ ≠ (u3 : Value).ownBlock) (Kd.oG (Kd.sM (HO271.out) (Kd.vH HO_3.out) (by decide)) BK267.out (by decide)) (fun k_ hk => ⟨hk.2, hk.1.2⟩))).1 k_ hk_.symm) ?aF ?aO ?aB ?aS ?aL ?_; (case aP => exact oO _ _ _ (⟨t269, (af l0 x4_1).f1, (⟨(af l0 x4_1).f2.f0, (af l0 x4_1).f2.f1, (af l0 x4_1).f2.f2, (af l0 x4_1).f2.f3⟩ : S45), (af l0 x4_1).f3, (af l0 x4_1).f4⟩ : S47) (Kd.gP (Kd.qX rfl (Kd.gP (ok' := fun k_ => ((fun k_ => k_ ≠ gb267)) k_ ∧ some k_ ≠ (u3 : Value).ownBlock) (Kd.oG (Kd.sM (HO271.out) (Kd.vH HO_3.out) (by decide)) BK267.out (by decide)) (fun k_ hk => ⟨hk.2, hk.1.2⟩))) (fun _ h_ => h_))); (case aB => exact bE); (case aF => exact (fun k_ hk => Kd.freshB (g := gb267) (o := .cells #[.slice Ao9 t269.length co9, .int .i64 ((af l0 x4_1).f1), .int .u16 ((af l0 x4_1).f2.f0), .int .u8 ((af l0 x4_1).f2.f1), .int .u8 ((af l0 x4_1).f2.f2), .int .u32 ((af l0 x4_1).f2.f3), .int .i64 ((af l0 x4_1).f3), .int .i64 ((af l0 x4_1).f4)] 47 (0, 0)) iV k_ hk)); (case aO => exact (by (with_reducible repeat (first | apply Kd.lm | apply Kd.lq | apply Kd.ng)); exact Kd.kQ HO_3.out (fun k_ hk => ⟨hk.2, fun e_ => hk.1 e_⟩))); (case aS => exact (gq bE)); (case aL => have := LMc5.out; omega); intro v273 w13 ho hb hg hat; rw [← Ny272.out] at ho; replace BK267 := aa.mk (ny (g := gb267) (o := .cells #[.slice Ao9 t269.length co9, .int .i64 ((af l0 x4_1).f1), .int .u16 ((af l0 x4_1).f2.f0), .int .u8 ((af l0 x4_1).f2.f1), .int .u8 ((af l0 x4_1).f2.f2), .int .u32 ((af l0 x4_1).f2.f3), .int .i64 ((af l0 x4_1).f3), .int .i64 ((af l0 x4_1).f4)] 47 (0, 0)) iV hg (Kd.S_away HO_3.out (fun _ hk => hk.2))); have HO274 := aa.mk (ho); replace HB := aa.mk hb; clear HO_3 HO271; clear ho hb hg hat))
         go_roundg k1
         case measure => have := HK1.out; omega
         case rel => exact ⟨_, _, aZ, H, ⟨by have := HK1.out; omega⟩, ⟨by (with_reducible repeat (first | apply Kd.lm | apply Kd.lq | apply Kd.ng)); exact Kd.kQ HO274.out (fun _ hk => trivial)⟩, ⟨bE⟩⟩
       exact absurd H (by simp)
     exact absurd H (by simp)
   obtain rfl := Option.some.inj H
   go_wp2
   go_ret
   exact ⟨_, dB, by (with_reducible repeat (first | apply Kd.lm | apply Kd.lq | apply Kd.ng)); exact HO_3.out, bE⟩
def kv.f (a0 : Int) (a1 : Int) (a2 : Int) : Option (Bool) := if a1 ≥ 0 then (if a2 ≥ 0 then (if a2 ≤ a0 then (some (decide (a1 ≤ (wrap64 (a0 - a2))))) else (some false)) else (some false)) else (some false)
mutual
def bW.j0 : Nat → List Int → Int → Int → Bool → Option (Int × Bool)
 | 0, _, _, _, _ => none
 | k + 1, x0, x1, x2, x27 => if x27 = true then (some (0, false)) else (bW.l0 k x0 x1 x2 0 0)
def bW.l0 : Nat → List Int → Int → Int → Int → Int → Option (Int × Bool)
 | 0, _, _, _, _, _ => none
 | k + 1, x0, x1, x2, x8, x9 => if x9 < x2 then (if 0 ≤ (wrap64 (x1 + x9)) then (if (wrap64 (x1 + x9)) < (x0.length : Int) then (bW.l0 k x0 x1 x2 (Go.bits .or .u32 ((x8 * 256) % 4294967296) ((rd x0 (wrap64 (x1 + x9))) % 4294967296)) (wrap64 (x9 + 1))) else (none)) else (none)) else (some (x8, true))
end
def bW.f (k : Nat) (l0 : List Int) (a1 : Int) (a2 : Int) : Option (Int × Bool) := if a2 = 1 then ((kv.f (l0.length : Int) a1 a2).bind fun t275 => (bW.j0 k l0 a1 a2 (!t275))) else (if a2 = 2 then ((kv.f (l0.length : Int) a1 a2).bind fun t276 => (bW.j0 k l0 a1 a2 (!t276))) else (if a2 = 4 then ((kv.f (l0.length : Int) a1 a2).bind fun t277 => (bW.j0 k l0 a1 a2 (!t277))) else (bW.j0 k l0 a1 a2 true)))
attribute [local go_sem] dY d9 fC fD dP dQ dZ ek
def jD.f (k : Nat) (l0 : List Int) (a1 : Int) (a2 : Int) : Option (Int × Int) := if a1 > (IntKind.u64.wrap ((l0.length : Int))) then (some (0, 1)) else ((bW.f k l0 (wrap64 (a1)) a2).bind fun bt279 => (if bt279.2 = true then (some (bt279.1, 0)) else (some (0, 1))))
def iL.j0 : Nat → Int → Bool → Option (Int)
 | 0, _, _ => none
 | k + 1, x3, x4 => if x4 = true then (some 4) else (if x3 = 40 then (some 2) else (if x3 = 72 then (some 2) else (some 1)))
def iL.f (k : Nat) (a0 : Int) : Option (Int) := if a0 = 32 then (iL.j0 k a0 (a0 == 32)) else (iL.j0 k a0 (a0 == 64))
def dR.f (a0 : Int) (a1 : Int) (a2 : Bool) : Option (Int) := if a1 > 31 then (some 0) else (if a2 = true then (if 0 ≤ a1 then (some (shl .u32 a0 a1)) else (none)) else (if 0 ≤ a1 then (some (shr .u32 a0 a1)) else (none)))
def gU.f (a0 : Int) (a1 : Int) (a2 : Int) : Option (Int × Int) := if (Go.bits .andNot .u16 a0 8) = 4 then (some ((a1 + a2) % 4294967296, 0)) else (if (Go.bits .andNot .u16 a0 8) = 20 then (some ((a1 - a2) % 4294967296, 0)) else (if (Go.bits .andNot .u16 a0 8) = 36 then (some ((a1 * a2) % 4294967296, 0)) else (if (Go.bits .andNot .u16 a0 8) = 68 then (some (Go.bits .or .u32 a1 a2, 0)) else (if (Go.bits .andNot .u16 a0 8) = 84 then (some (Go.bits .and .u32 a1 a2, 0)) else (if (Go.bits .andNot .u16 a0 8) = 164 then (some (Go.bits .xor .u32 a1 a2, 0)) else (if (Go.bits .andNot .u16 a0 8) = 100 then ((dR.f a1 a2 true).bind fun t281 => (some (t281, 0))) else (if (Go.bits .andNot .u16 a0 8) = 116 then ((dR.f a1 a2 false).bind fun t282 => (some (t282, 0))) else (if a2 = 0 then (some (0, 2)) else (if (Go.bits .andNot .u16 a0 8) = 52 then (some ((Int.tdiv a1 a2) % 4294967296, 0)) else (some (Int.tmod a1 a2, 0)))))))))))
def eO.j0 : Nat → Int → Int → Int → Int → Int → Int → Option (Bool)
 | 0, _, _, _, _, _, _ => none
 | k + 1, x1, x7, x284000, x284001, x284002, x284003 => if (Go.bits .andNot .u16 x284000 8) = 21 then (some (x1 == x7)) else (if (Go.bits .andNot .u16 x284000 8) = 37 then (some (decide (x1 > x7))) else (if (Go.bits .andNot .u16 x284000 8) = 53 then (some (decide (x1 ≥ x7))) else (some ((Go.bits .and .u32 x1 x7) != 0))))
def eO.f (k : Nat) (a0_0 : Int) (a0_1 : Int) (a0_2 : Int) (a0_3 : Int) (a1 : Int) (a2 : Int) : Option (Bool) := (cO.f k a0_0).bind fun t284 => (if t284 = true then (eO.j0 k a1 a2 a0_0 a0_1 a0_2 a0_3) else (eO.j0 k a1 a0_3 a0_0 a0_1 a0_2 a0_3))
end Go.Proofs.Ytdkalnkplgfgoaa.PA
namespace Go.Proofs.Ytdkalnkplgfgoaa.Ln
open Go.RowKit Go.Maps Go.Proofs.YtdkalnkplgfgoaaW.PrintWords Go.Proofs.YtdkalnkplgfgoaaW.PrintLast Go.Proofs.YtdkalnkplgfgoaaW.PrintMore Go.Proofs.Ytdkalnkplgfgoaa.PA
structure cK where
 a : Int
 x : Int
 m : List Int
def rQ (M : cK) : Array Value := (.int .u32 M.a :: .int .u32 M.x :: M.m.map (fun v => Value.int .u32 v)).toArray
def rdP (p : List Int) (at_ size : Int) : Int × Int := (jD.f 10 p at_ size).getD (0, 0)
def szP (c : Int) : Int := (iL.f 10 c).getD 0
def opP (c a b : Int) : Int × Int := (gU.f c a b).getD (0, 0)
def byX (c : Int) : Bool := (cO.f 10 c).getD false
def ix (k : Int) : Nat := (Go.bits .and .u32 k 15).toNat
def dh (i : S45) (p : List Int) (M : cK) : cK × Int :=
 let c := i.f0
 if c = 0 then ({ M with a := i.f3 }, 0)
 else if c = 32 ∨ c = 40 ∨ c = 48 then ({ M with a := (rdP p (IntKind.u64.wrap i.f3) (szP c)).1 }, (rdP p (IntKind.u64.wrap i.f3) (szP c)).2)
 else if c = 64 ∨ c = 72 ∨ c = 80 then ({ M with a := (rdP p (IntKind.u64.wrap (IntKind.u64.wrap i.f3 + IntKind.u64.wrap M.x)) (szP c)).1 }, (rdP p (IntKind.u64.wrap (IntKind.u64.wrap i.f3 + IntKind.u64.wrap M.x)) (szP c)).2)
 else if c = 96 then ({ M with a := M.m.getD (ix i.f3) 0 }, 0)
 else if c = 128 then ({ M with a := IntKind.u32.wrap (p.length : Int) }, 0)
 else if c = 1 then ({ M with x := i.f3 }, 0)
 else if c = 97 then ({ M with x := M.m.getD (ix i.f3) 0 }, 0)
 else if c = 129 then ({ M with x := IntKind.u32.wrap (p.length : Int) }, 0)
 else if c = 177 then ({ M with x := IntKind.u32.wrap (4 * Go.bits .and .u32 (rdP p (IntKind.u64.wrap i.f3) 1).1 15) }, (rdP p (IntKind.u64.wrap i.f3) 1).2)
 else if c = 2 then ({ M with m := M.m.set (ix i.f3) M.a }, 0)
 else if c = 3 then ({ M with m := M.m.set (ix i.f3) M.x }, 0)
 else if c = 132 then ({ M with a := IntKind.u32.wrap (-M.a) }, 0)
 else if c = 7 then ({ M with x := M.a }, 0)
 else if c = 135 then ({ M with a := M.x }, 0)
 else ({ M with a := (opP c M.a (if byX c then M.x else i.f3)).1 }, (opP c M.a (if byX c then M.x else i.f3)).2)
theorem iq {α : Type} {P : α → Prop} {c : Prop} [Decidable c] {a b : α} (h1 : c → P a) (h2 : ¬ c → P b) : P (if c then a else b) := by
 by_cases h : c
 · rw [if_pos h]; exact h1 h
 rw [if_neg h]; exact h2 h
theorem xK (i : S45) (pk : List Int) (M : cK) : (dh i pk M).1.m.length = M.m.length := by
 show (fun s : cK × Int => s.1.m.length = M.m.length) (dh i pk M)
 unfold dh
 dsimp only
 repeat (refine iq (P := fun s : cK × Int => s.1.m.length = M.m.length) (fun _ => by first | rfl | exact List.length_set) (fun _ => ?_))
 rfl
end Go.Proofs.Ytdkalnkplgfgoaa.Ln
namespace Go.Proofs.Ytdkalnkplgfgoaa.PA
open Go.RowKit Go.Proofs.YtdkalnkplgfgoaaW.PrintWords Go.Proofs.YtdkalnkplgfgoaaW.PrintLast Go.Proofs.YtdkalnkplgfgoaaW.PrintMore
attribute [local go_sem] dY d9 fC fD dP dQ dZ ek
def bP.l0 : Nat → List (S47) → Int → Int → Option (Int)
 | 0, _, _, _ => none
 | k + 1, x0, x3, x4 => if x4 < (x0.length : Int) then (if 0 ≤ x4 then (if ((af x0 x4).f1) = 2 then (bP.l0 k x0 (wrap64 (x3 + (((af x0 x4).f0).length : Int))) (wrap64 (x4 + 1))) else (bP.l0 k x0 (wrap64 ((wrap64 (x3 + (((af x0 x4).f0).length : Int))) + 1)) (wrap64 (x4 + 1)))) else (none)) else (some x3)
def bP.f (k : Nat) (l0 : List (S47)) : Option (Int) := bP.l0 k l0 0 0
theorem bP.calls (k : Nat) (A0 : Option Addr) (c0 : Nat) (l0 : List (S47)) (r : Int) (w : World) (hr0 : Kd.C k47 w A0 l0.length l0) (hc0 : l0.length ≤ c0) (h : bP.f k l0 = some r) :
 Calls Try.prog 31 #[.slice A0 l0.length c0] w fun e w' => e = .returned (.int .i64 r) ∧ cz w w' := by
 have HR0 := aa.mk hr0
 have HC0 := aa.mk hc0
 clear hr0 hc0
 have H : (bP.l0 k l0 0 0) = some r := h
 clear h
 replace H := aa.mk H
 go_enter Try.func31, Try.ntmps31
 go_wp2
 go_loopg [3, 4] k (fun kq v3 v4 w' => ∃ (x3_1 : Int) (x4_1 : Int), v3 = .int .i64 x3_1 ∧ v4 = .int .i64 x4_1 ∧ aa (bP.l0 kq l0 x3_1 x4_1 = some r) ∧ aa (kq ≤ k) ∧ cz w w')
 case atStart => exact ⟨_, _, aZ, aZ, H, ⟨Nat.le_refl _⟩, bJ⟩
 case round =>
  clear H
  obtain ⟨x3_1, x4_1, rfl, rfl, HA, HK1, ⟨m1, rfl⟩⟩ := hrel
  cases gk with
  | zero => exact absurd HA.out (by simp [bP.l0])
  | succ k1 =>
   have H := HA.out
   clear HA
   simp only [bP.l0] at H
   replace H := fA H
   obtain ⟨H, -, _⟩ | ⟨H, -, _⟩ := H
   · replace H := fA H
     obtain ⟨H, -, _⟩ | ⟨H, c3, -⟩ := H
     · replace H := bO H
       obtain ⟨H, -, _, _⟩ | ⟨H, c4, _, _⟩ := H
       · replace H := aa.mk H
         have p369 : 0 ≤ (x4_1 : Int) := of_decide_eq_true (by first | (with_reducible assumption) | assumption)
         have q369 : x4_1 < (l0.length : Int) := of_decide_eq_true (by first | (with_reducible assumption) | assumption)
         obtain ⟨ad369, A369_0, c369_0, e369, hx369_0, hx369_1, hx369_2, hx369_3, hx369_4, hx369_5, hx369_6, hx369_7, hl369_0, hi369_0⟩ := ib HR0.out x4_1 p369 q369
         cases e369
         have HR369_0 := aa.mk hi369_0
         have HC369_0 := aa.mk hl369_0
         clear hi369_0 hl369_0
         replace p369 := eq_true p369
         replace q369 := eq_true q369
         have p370 : 0 ≤ (x4_1 : Int) := of_decide_eq_true (by first | (with_reducible assumption) | assumption)
         have q370 : x4_1 < (l0.length : Int) := of_decide_eq_true (by first | (with_reducible assumption) | assumption)
         obtain ⟨ad370, A370_0, c370_0, e370, hx370_0, hx370_1, hx370_2, hx370_3, hx370_4, hx370_5, hx370_6, hx370_7, hl370_0, hi370_0⟩ := ib HR0.out x4_1 p370 q370
         obtain rfl : ad369 = ad370 := (by injection e370)
         have HR370_0 := aa.mk hi370_0
         have HC370_0 := aa.mk hl370_0
         clear hi370_0 hl370_0
         replace p370 := eq_true p370
         replace q370 := eq_true q370
         have ea_ := Option.some.inj (hx369_0.symm.trans hx370_0)
         injection ea_ with ea_ en_ ec_
         subst ea_
         subst ec_
         clear en_
         go_wp2
         go_roundg k1
         case measure => have := HK1.out; omega
         case rel => exact ⟨_, _, aZ, aZ, H, ⟨by have := HK1.out; omega⟩, bJ⟩
       replace H := aa.mk H
       have p369 : 0 ≤ (x4_1 : Int) := of_decide_eq_true (by first | (with_reducible assumption) | assumption)
       have q369 : x4_1 < (l0.length : Int) := of_decide_eq_true (by first | (with_reducible assumption) | assumption)
       obtain ⟨ad369, A369_0, c369_0, e369, hx369_0, hx369_1, hx369_2, hx369_3, hx369_4, hx369_5, hx369_6, hx369_7, hl369_0, hi369_0⟩ := ib HR0.out x4_1 p369 q369
       cases e369
       have HR369_0 := aa.mk hi369_0
       have HC369_0 := aa.mk hl369_0
       clear hi369_0 hl369_0
       replace p369 := eq_true p369
       replace q369 := eq_true q369
       have p370 : 0 ≤ (x4_1 : Int) := of_decide_eq_true (by first | (with_reducible assumption) | assumption)
       have q370 : x4_1 < (l0.length : Int) := of_decide_eq_true (by first | (with_reducible assumption) | assumption)
       obtain ⟨ad370, A370_0, c370_0, e370, hx370_0, hx370_1, hx370_2, hx370_3, hx370_4, hx370_5, hx370_6, hx370_7, hl370_0, hi370_0⟩ := ib HR0.out x4_1 p370 q370
       obtain rfl : ad369 = ad370 := (by injection e370)
       have HR370_0 := aa.mk hi370_0
       have HC370_0 := aa.mk hl370_0
       clear hi370_0 hl370_0
       replace p370 := eq_true p370
       replace q370 := eq_true q370
       have ea_ := Option.some.inj (hx369_0.symm.trans hx370_0)
       injection ea_ with ea_ en_ ec_
       subst ea_
       subst ec_
       clear en_
       go_wp2
       go_roundg k1
       case measure => have := HK1.out; omega
       case rel => exact ⟨_, _, aZ, aZ, H, ⟨by have := HK1.out; omega⟩, bJ⟩
     exact absurd H (by simp)
   cases H
   go_wp2
   go_ret
   exact ⟨aZ, bJ⟩
end Go.Proofs.Ytdkalnkplgfgoaa.PA
namespace Go.Proofs.Ytdkalnkplgfgoaa.Ln
open Go.RowKit Go.Proofs.YtdkalnkplgfgoaaW.PrintWords Go.Proofs.YtdkalnkplgfgoaaW.PrintLast Go.Proofs.YtdkalnkplgfgoaaW.PrintMore
section
variable {P : Program} {ops : Array Oper} {o : Oper} {a : Act} {Q : Exit → Act → World → Prop} {Kc : Act → World → Prop} {α : Type}
theorem qp (d : Kd α) {w0 W : World} (base : Nat) (s x : Operand) (t e : TypeId) (z : Value) (bytes : Nat) (hg : o.guard = none)
 (ho : o.op = .call { callee := .builtin .append, args := #[s, x], argTypes := #[t, t] })
 (ht : P.underlying t = some (.slice e)) (hinfo : (P.info? e).map (fun i => (i.zero, i.size, i.bytes)) = some (some z, d.sz, bytes)) (hz : z.cells.size = d.sz) (hs0 : 0 < d.sz) (hb0 : 0 < bytes)
 (v : Value) (xs : List α) (p : α) (cs : List Value) (hs : a.eval s = v) (hx : a.eval x = .slice (some ⟨W.heap.size, 0, none⟩) 1 1) (hp : d.M W base (fun _ => False) p cs)
 (HO : d.R e W base (fun _ => True) v xs) (HB : Below base w0 W) (hbase : base ≤ W.heap.size) (hl : (xs.length + 1) * bytes ≤ 140737488355328)
 (h : ∀ v1 w1, d.R e w1 base (fun _ => True) v1 (xs ++ [p]) → Below base w0 w1 → W.drew.grownBy w1 v.ownBlock → Kc (a.put o.dst v1) w1) :
 if Region.wanted o (yielded ops a.tmps) = true then Oper.wp P o a ((W.alloc (.cells cs.toArray e)).drew) Kc Q else Kc (a.put o.dst undef) ((W.alloc (.cells cs.toArray e)).drew) :=
 Kd.qw (w0 := w0) (W := W.drew) d base (by simp [Region.wanted, hg]) s x t e z bytes ho ht hinfo hz hs0 hb0 v xs p cs (fun _ => True) (fun _ => False) hs hx (d.M_move (w := W) (w1 := W.drew) (fun _ _ => rfl) hp) (fun _ h => h.elim) (fun _ _ => trivial) (Kd.fZ HO) (au HB) hbase hl (fun v1 w1 r b g _ => h v1 w1 r b g)
end
open Go.Maps Go.Proofs.Ytdkalnkplgfgoaa.PA
def hoP (i : S45) (a x : Int) : Bool := (eO.f 10 i.f0 i.f1 i.f2 i.f3 a x).getD false
def z16 : cK := ⟨0, 0, List.replicate 16 0⟩
structure RS (w wr : World) (gv gm : Nat) (M : cK) (vt : Value) (T : List Int) : Prop where
 below : Below w.heap.size w wr
 res : wr.heap[gv]? = some (.cells #[.int .u32 0, .int .i64 0, .int .i64 0] 59 (0, 0))
 mach : wr.heap[gm]? = some (.cells (rQ M) 97 (0, 0))
 len : M.m.length = 16
 tr : (Kd.int .i64).R 3 wr w.heap.size (fun _ => True) vt T
 hv : w.heap.size ≤ gv
 hm : w.heap.size ≤ gm
theorem RS.fin {w wr : World} {gv gm : Nat} {M : cK} {vt : Value} {T : List Int} (h : RS w wr gv gm M vt T) (a b c : Value) :
 (((wr.setCell ⟨gv, 0, none⟩ a).setCell ⟨gv, 1, none⟩ b).setCell ⟨gv, 2, none⟩ c).heap[gv]? = some (.cells #[a, b, c] 59 (0, 0)) ∧ Below w.heap.size w (((wr.setCell ⟨gv, 0, none⟩ a).setCell ⟨gv, 1, none⟩ b).setCell ⟨gv, 2, none⟩ c) :=
 ⟨aQ (aQ (aQ h.res 0 _ rfl) 1 _ rfl) 2 _ rfl, cZ (cZ (cZ h.below h.hv) h.hv) h.hv⟩
theorem RS.step {w wr w1 : World} {gv gm : Nat} {M M1 : cK} {vt : Value} {T : List Int} (h : RS w wr gv gm M vt T) (kp : Kp (fun k => k = gm) wr w1) (hM : w1.heap[gm]? = some (.cells (rQ M1) 97 (0, 0))) (hl : M1.m.length = 16) : RS w w1 gv gm M1 vt T :=
 ⟨kp.fK h.below h.below.size (fun k e => e ▸ h.hm), (kp.block gv (av h.res) (bR h.res h.mach (by decide))).trans h.res, hM, hl, wF h.tr (fun k e => .inl ⟨_, _, _, e ▸ h.mach, by decide⟩) kp, h.hv, h.hm⟩
end Go.Proofs.Ytdkalnkplgfgoaa.Ln
