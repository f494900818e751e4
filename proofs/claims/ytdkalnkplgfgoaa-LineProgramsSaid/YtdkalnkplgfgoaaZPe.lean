/- Lemmas and walks for the statements of the texts ZPZ..: the declarations that they need, taken together by a program of this session. Conditions: as each says. -/
import Derived.Test.YtdkalnkplgfgoaaZPa
import Derived.Test.YtdkalnkplgfgoaaZPd
namespace Go.Proofs.Ytdkalnkplgfgoaa.PA
open Go.RowKit Go.Proofs.YtdkalnkplgfgoaaW.PrintWords Go.Proofs.YtdkalnkplgfgoaaW.PrintLast Go.Proofs.YtdkalnkplgfgoaaW.PrintMore
attribute [local go_sem] max2_int min2_int max_two min_two max_three min_three max_four min_four   -- for this text's walks alone
set_option linter.unusedVariables false
set_option linter.unusedSimpArgs false
mutual
def insn_Known.j0 : Nat → Int → Int → Bool → Option (Bool)
  | 0, _, _, _ => none
  | k + 1, x0, x3, x4 => if x4 = true then (some true) else (if x3 = 1 then (insn_Known.j1 k x0 x3 (x3 == 1)) else (if x3 = 97 then (insn_Known.j1 k x0 x3 (x3 == 97)) else (if x3 = 129 then (insn_Known.j1 k x0 x3 (x3 == 129)) else (insn_Known.j1 k x0 x3 (x3 == 177)))))
def insn_Known.j1 : Nat → Int → Int → Bool → Option (Bool)
  | 0, _, _, _ => none
  | k + 1, x0, x3, x14 => if x14 = true then (some true) else (if x3 = 2 then (insn_Known.j2 k x0 (x3 == 2)) else (if x3 = 3 then (insn_Known.j2 k x0 (x3 == 3)) else (if x3 = 6 then (insn_Known.j2 k x0 (x3 == 6)) else (if x3 = 22 then (insn_Known.j2 k x0 (x3 == 22)) else (if x3 = 7 then (insn_Known.j2 k x0 (x3 == 7)) else (if x3 = 135 then (insn_Known.j2 k x0 (x3 == 135)) else (insn_Known.j2 k x0 (x3 == 5))))))))
def insn_Known.j2 : Nat → Int → Bool → Option (Bool)
  | 0, _, _ => none
  | k + 1, x0, x19 => if x19 = true then (some true) else ((insn_alu.f k x0).bind fun t182 => (if t182 = true then (some true) else ((insn_test.f k x0).bind fun t183 => (some t183))))
end
def insn_Known.f (k : Nat) (a0 : Int) : Option (Bool) := if a0 = 0 then (insn_Known.j0 k a0 a0 (a0 == 0)) else (if a0 = 32 then (insn_Known.j0 k a0 a0 (a0 == 32)) else (if a0 = 40 then (insn_Known.j0 k a0 a0 (a0 == 40)) else (if a0 = 48 then (insn_Known.j0 k a0 a0 (a0 == 48)) else (if a0 = 64 then (insn_Known.j0 k a0 a0 (a0 == 64)) else (if a0 = 72 then (insn_Known.j0 k a0 a0 (a0 == 72)) else (if a0 = 80 then (insn_Known.j0 k a0 a0 (a0 == 80)) else (if a0 = 96 then (insn_Known.j0 k a0 a0 (a0 == 96)) else (insn_Known.j0 k a0 a0 (a0 == 128)))))))))
set_option maxHeartbeats 8000000 in
set_option maxRecDepth 100000 in
theorem insn_Known.calls (k : Nat) (a0 : Int) (r : Bool) (w : World) (h : insn_Known.f k a0 = some r) :
    Calls Try.prog 143 #[.int .u16 a0] w fun e w' => e = .returned (.bool r) ∧ Drawn0 w w' := by
  have H : (if a0 = 0 then (insn_Known.j0 k a0 a0 (a0 == 0)) else (if a0 = 32 then (insn_Known.j0 k a0 a0 (a0 == 32)) else (if a0 = 40 then (insn_Known.j0 k a0 a0 (a0 == 40)) else (if a0 = 48 then (insn_Known.j0 k a0 a0 (a0 == 48)) else (if a0 = 64 then (insn_Known.j0 k a0 a0 (a0 == 64)) else (if a0 = 72 then (insn_Known.j0 k a0 a0 (a0 == 72)) else (if a0 = 80 then (insn_Known.j0 k a0 a0 (a0 == 80)) else (if a0 = 96 then (insn_Known.j0 k a0 a0 (a0 == 96)) else (insn_Known.j0 k a0 a0 (a0 == 128)))))))))) = some r := h
  clear h
  have HC2 := Aside0.mk H
  clear H
  go_enter Try.func143, Try.ntmps143
  go_upto_if 4 with (fail)
  go_cut [4] (fun v4 wc => ∃ (kq : Nat) (x4_1 : Bool), v4 = .bool x4_1 ∧ Aside0 (insn_Known.j0 kq a0 a0 x4_1 = some r) ∧ Aside0 (kq ≤ k) ∧ Drawn0 w wc)
  case first =>
    have H := HC2.out
    clear HC2
    by_cases c3 : a0 = 0
    · rw [if_pos c3] at H
      have c3b0 : (a0 == 0) = true := beq_iff_eq.mpr c3
      have c3b1 : (a0 != 0) = false := bne_eq_false_iff_eq.mpr c3
      clear c3
      (first | rw [c3b0] | (simp only [i64_w, i32_w]; rw [c3b0]) | skip)
      have H' := Aside0.mk H
      clear H
      go_wp2
      go_meet
      case rel => exact ⟨_, ((a0 == 0)), (by first | rfl | (simp; done) | (simp [*]; done)), H', ⟨by first | omega | exact Nat.le_refl _⟩, by repeat (first | exact Drawn0.refl _ | apply Drawn0.step)⟩
    · rw [if_neg c3] at H
      have c3b0 : (a0 == 0) = false := beq_eq_false_iff_ne.mpr c3
      have c3b1 : (a0 != 0) = true := bne_iff_ne.mpr c3
      (first | rw [c3b0] | (simp only [i64_w, i32_w]; rw [c3b0]) | skip)
      by_cases c4 : a0 = 32
      · rw [if_pos c4] at H
        have c4b0 : (a0 == 32) = true := beq_iff_eq.mpr c4
        have c4b1 : (a0 != 32) = false := bne_eq_false_iff_eq.mpr c4
        clear c4
        have H' := Aside0.mk H
        clear H
        go_wp2
        go_meet
        case rel => exact ⟨_, ((a0 == 32)), (by first | rfl | (simp; done) | (simp [*]; done)), H', ⟨by first | omega | exact Nat.le_refl _⟩, by repeat (first | exact Drawn0.refl _ | apply Drawn0.step)⟩
      · rw [if_neg c4] at H
        have c4b0 : (a0 == 32) = false := beq_eq_false_iff_ne.mpr c4
        have c4b1 : (a0 != 32) = true := bne_iff_ne.mpr c4
        by_cases c5 : a0 = 40
        · rw [if_pos c5] at H
          have c5b0 : (a0 == 40) = true := beq_iff_eq.mpr c5
          have c5b1 : (a0 != 40) = false := bne_eq_false_iff_eq.mpr c5
          clear c5
          have H' := Aside0.mk H
          clear H
          go_wp2
          go_meet
          case rel => exact ⟨_, ((a0 == 40)), (by first | rfl | (simp; done) | (simp [*]; done)), H', ⟨by first | omega | exact Nat.le_refl _⟩, by repeat (first | exact Drawn0.refl _ | apply Drawn0.step)⟩
        · rw [if_neg c5] at H
          have c5b0 : (a0 == 40) = false := beq_eq_false_iff_ne.mpr c5
          have c5b1 : (a0 != 40) = true := bne_iff_ne.mpr c5
          by_cases c6 : a0 = 48
          · rw [if_pos c6] at H
            have c6b0 : (a0 == 48) = true := beq_iff_eq.mpr c6
            have c6b1 : (a0 != 48) = false := bne_eq_false_iff_eq.mpr c6
            clear c6
            have H' := Aside0.mk H
            clear H
            go_wp2
            go_meet
            case rel => exact ⟨_, ((a0 == 48)), (by first | rfl | (simp; done) | (simp [*]; done)), H', ⟨by first | omega | exact Nat.le_refl _⟩, by repeat (first | exact Drawn0.refl _ | apply Drawn0.step)⟩
          · rw [if_neg c6] at H
            have c6b0 : (a0 == 48) = false := beq_eq_false_iff_ne.mpr c6
            have c6b1 : (a0 != 48) = true := bne_iff_ne.mpr c6
            by_cases c7 : a0 = 64
            · rw [if_pos c7] at H
              have c7b0 : (a0 == 64) = true := beq_iff_eq.mpr c7
              have c7b1 : (a0 != 64) = false := bne_eq_false_iff_eq.mpr c7
              clear c7
              have H' := Aside0.mk H
              clear H
              go_wp2
              go_meet
              case rel => exact ⟨_, ((a0 == 64)), (by first | rfl | (simp; done) | (simp [*]; done)), H', ⟨by first | omega | exact Nat.le_refl _⟩, by repeat (first | exact Drawn0.refl _ | apply Drawn0.step)⟩
            · rw [if_neg c7] at H
              have c7b0 : (a0 == 64) = false := beq_eq_false_iff_ne.mpr c7
              have c7b1 : (a0 != 64) = true := bne_iff_ne.mpr c7
              by_cases c8 : a0 = 72
              · rw [if_pos c8] at H
                have c8b0 : (a0 == 72) = true := beq_iff_eq.mpr c8
                have c8b1 : (a0 != 72) = false := bne_eq_false_iff_eq.mpr c8
                clear c8
                have H' := Aside0.mk H
                clear H
                go_wp2
                go_meet
                case rel => exact ⟨_, ((a0 == 72)), (by first | rfl | (simp; done) | (simp [*]; done)), H', ⟨by first | omega | exact Nat.le_refl _⟩, by repeat (first | exact Drawn0.refl _ | apply Drawn0.step)⟩
              · rw [if_neg c8] at H
                have c8b0 : (a0 == 72) = false := beq_eq_false_iff_ne.mpr c8
                have c8b1 : (a0 != 72) = true := bne_iff_ne.mpr c8
                by_cases c9 : a0 = 80
                · rw [if_pos c9] at H
                  have c9b0 : (a0 == 80) = true := beq_iff_eq.mpr c9
                  have c9b1 : (a0 != 80) = false := bne_eq_false_iff_eq.mpr c9
                  clear c9
                  have H' := Aside0.mk H
                  clear H
                  go_wp2
                  go_meet
                  case rel => exact ⟨_, ((a0 == 80)), (by first | rfl | (simp; done) | (simp [*]; done)), H', ⟨by first | omega | exact Nat.le_refl _⟩, by repeat (first | exact Drawn0.refl _ | apply Drawn0.step)⟩
                · rw [if_neg c9] at H
                  have c9b0 : (a0 == 80) = false := beq_eq_false_iff_ne.mpr c9
                  have c9b1 : (a0 != 80) = true := bne_iff_ne.mpr c9
                  by_cases c10 : a0 = 96
                  · rw [if_pos c10] at H
                    have c10b0 : (a0 == 96) = true := beq_iff_eq.mpr c10
                    have c10b1 : (a0 != 96) = false := bne_eq_false_iff_eq.mpr c10
                    clear c10
                    have H' := Aside0.mk H
                    clear H
                    go_wp2
                    go_meet
                    case rel => exact ⟨_, ((a0 == 96)), (by first | rfl | (simp; done) | (simp [*]; done)), H', ⟨by first | omega | exact Nat.le_refl _⟩, by repeat (first | exact Drawn0.refl _ | apply Drawn0.step)⟩
                  · rw [if_neg c10] at H
                    have c10b0 : (a0 == 96) = false := beq_eq_false_iff_ne.mpr c10
                    have c10b1 : (a0 != 96) = true := bne_iff_ne.mpr c10
                    have H' := Aside0.mk H
                    clear H
                    go_wp2
                    go_meet
                    case rel => exact ⟨_, ((a0 == 128)), (by first | rfl | (simp; done) | (simp [*]; done)), H', ⟨by first | omega | exact Nat.le_refl _⟩, by repeat (first | exact Drawn0.refl _ | apply Drawn0.step)⟩
  case rest =>
    clear HC2
    try clear c1
    try clear p2
    try clear c3
    try clear c3b0
    try clear c3b1
    try clear c4
    try clear c4b0
    try clear c4b1
    try clear c5
    try clear c5b0
    try clear c5b1
    try clear c6
    try clear c6b0
    try clear c6b1
    try clear c7
    try clear c7b0
    try clear c7b1
    try clear c8
    try clear c8b0
    try clear c8b1
    try clear c9
    try clear c9b0
    try clear c9b1
    try clear c10
    try clear c10b0
    try clear c10b1
    obtain ⟨kq, x4_1, rfl, HA, HJ1, ⟨mc1, rfl⟩⟩ := hcut
    cases kq with
    | zero => exact absurd HA.out (by simp [insn_Known.j0])
    | succ kj1 =>
      have H := HA.out
      clear HA
      simp only [insn_Known.j0] at H
      by_cases c11 : x4_1 = true
      · subst c11
        have H1 : (some true) = some r := by rw [if_pos rfl] at H; exact H
        clear H
        have H := H1
        clear H1
        obtain rfl := Option.some.inj H
        go_wp2
        go_ret
        exact ⟨by first | rfl | (simp; done) | (simp [*]; done), by repeat (first | exact Drawn0.refl _ | apply Drawn0.step)⟩
      · replace c11 := Bool.eq_false_iff.mpr c11
        subst c11
        have H1 : (if a0 = 1 then (insn_Known.j1 kj1 a0 a0 (a0 == 1)) else (if a0 = 97 then (insn_Known.j1 kj1 a0 a0 (a0 == 97)) else (if a0 = 129 then (insn_Known.j1 kj1 a0 a0 (a0 == 129)) else (insn_Known.j1 kj1 a0 a0 (a0 == 177))))) = some r := by rw [if_neg (show ¬ (false = true) by decide)] at H; exact H
        clear H
        have H := H1
        clear H1
        have HC12 := Aside0.mk H
        clear H
        go_upto_if 14 with (fail)
        go_cut [14] (fun v14 wc => ∃ (kq : Nat) (x14_11 : Bool), v14 = .bool x14_11 ∧ Aside0 (insn_Known.j1 kq a0 a0 x14_11 = some r) ∧ Aside0 (kq ≤ kj1) ∧ Drawn0 w wc)
        case first =>
          have H := HC12.out
          clear HC12
          by_cases c13 : a0 = 1
          · rw [if_pos c13] at H
            have c13b0 : (a0 == 1) = true := beq_iff_eq.mpr c13
            have c13b1 : (a0 != 1) = false := bne_eq_false_iff_eq.mpr c13
            clear c13
            (first | rw [c13b0] | (simp only [i64_w, i32_w]; rw [c13b0]) | skip)
            have H' := Aside0.mk H
            clear H
            go_wp2
            go_meet
            case rel => exact ⟨_, ((a0 == 1)), (by first | rfl | (simp; done) | (simp [*]; done)), H', ⟨by have := HJ1.out; first | omega | exact Nat.le_refl _⟩, by repeat (first | exact Drawn0.refl _ | apply Drawn0.step)⟩
          · rw [if_neg c13] at H
            have c13b0 : (a0 == 1) = false := beq_eq_false_iff_ne.mpr c13
            have c13b1 : (a0 != 1) = true := bne_iff_ne.mpr c13
            (first | rw [c13b0] | (simp only [i64_w, i32_w]; rw [c13b0]) | skip)
            by_cases c14 : a0 = 97
            · rw [if_pos c14] at H
              have c14b0 : (a0 == 97) = true := beq_iff_eq.mpr c14
              have c14b1 : (a0 != 97) = false := bne_eq_false_iff_eq.mpr c14
              clear c14
              have H' := Aside0.mk H
              clear H
              go_wp2
              go_meet
              case rel => exact ⟨_, ((a0 == 97)), (by first | rfl | (simp; done) | (simp [*]; done)), H', ⟨by have := HJ1.out; first | omega | exact Nat.le_refl _⟩, by repeat (first | exact Drawn0.refl _ | apply Drawn0.step)⟩
            · rw [if_neg c14] at H
              have c14b0 : (a0 == 97) = false := beq_eq_false_iff_ne.mpr c14
              have c14b1 : (a0 != 97) = true := bne_iff_ne.mpr c14
              by_cases c15 : a0 = 129
              · rw [if_pos c15] at H
                have c15b0 : (a0 == 129) = true := beq_iff_eq.mpr c15
                have c15b1 : (a0 != 129) = false := bne_eq_false_iff_eq.mpr c15
                clear c15
                have H' := Aside0.mk H
                clear H
                go_wp2
                go_meet
                case rel => exact ⟨_, ((a0 == 129)), (by first | rfl | (simp; done) | (simp [*]; done)), H', ⟨by have := HJ1.out; first | omega | exact Nat.le_refl _⟩, by repeat (first | exact Drawn0.refl _ | apply Drawn0.step)⟩
              · rw [if_neg c15] at H
                have c15b0 : (a0 == 129) = false := beq_eq_false_iff_ne.mpr c15
                have c15b1 : (a0 != 129) = true := bne_iff_ne.mpr c15
                have H' := Aside0.mk H
                clear H
                go_wp2
                go_meet
                case rel => exact ⟨_, ((a0 == 177)), (by first | rfl | (simp; done) | (simp [*]; done)), H', ⟨by have := HJ1.out; first | omega | exact Nat.le_refl _⟩, by repeat (first | exact Drawn0.refl _ | apply Drawn0.step)⟩
        case rest =>
          clear HC12
          try clear c1
          try clear p2
          try clear c3
          try clear c3b0
          try clear c3b1
          try clear c4
          try clear c4b0
          try clear c4b1
          try clear c5
          try clear c5b0
          try clear c5b1
          try clear c6
          try clear c6b0
          try clear c6b1
          try clear c7
          try clear c7b0
          try clear c7b1
          try clear c8
          try clear c8b0
          try clear c8b1
          try clear c9
          try clear c9b0
          try clear c9b1
          try clear c10
          try clear c10b0
          try clear c10b1
          try clear c11
          try clear c13
          try clear c13b0
          try clear c13b1
          try clear c14
          try clear c14b0
          try clear c14b1
          try clear c15
          try clear c15b0
          try clear c15b1
          try clear p2
          obtain ⟨kq, x14_11, rfl, HA, HJ11, ⟨mc11, rfl⟩⟩ := hcut
          cases kq with
          | zero => exact absurd HA.out (by simp [insn_Known.j1])
          | succ kj11 =>
            have H := HA.out
            clear HA
            simp only [insn_Known.j1] at H
            by_cases c16 : x14_11 = true
            · subst c16
              have H1 : (some true) = some r := by rw [if_pos rfl] at H; exact H
              clear H
              have H := H1
              clear H1
              obtain rfl := Option.some.inj H
              go_wp2
              go_ret
              exact ⟨by first | rfl | (simp; done) | (simp [*]; done), by repeat (first | exact Drawn0.refl _ | apply Drawn0.step)⟩
            · replace c16 := Bool.eq_false_iff.mpr c16
              subst c16
              have H1 : (if a0 = 2 then (insn_Known.j2 kj11 a0 (a0 == 2)) else (if a0 = 3 then (insn_Known.j2 kj11 a0 (a0 == 3)) else (if a0 = 6 then (insn_Known.j2 kj11 a0 (a0 == 6)) else (if a0 = 22 then (insn_Known.j2 kj11 a0 (a0 == 22)) else (if a0 = 7 then (insn_Known.j2 kj11 a0 (a0 == 7)) else (if a0 = 135 then (insn_Known.j2 kj11 a0 (a0 == 135)) else (insn_Known.j2 kj11 a0 (a0 == 5)))))))) = some r := by rw [if_neg (show ¬ (false = true) by decide)] at H; exact H
              clear H
              have H := H1
              clear H1
              have HC17 := Aside0.mk H
              clear H
              go_upto_if 19 with (fail)
              go_cut [19] (fun v19 wc => ∃ (kq : Nat) (x19_16 : Bool), v19 = .bool x19_16 ∧ Aside0 (insn_Known.j2 kq a0 x19_16 = some r) ∧ Aside0 (kq ≤ kj11) ∧ Drawn0 w wc)
              case first =>
                have H := HC17.out
                clear HC17
                by_cases c18 : a0 = 2
                · rw [if_pos c18] at H
                  have c18b0 : (a0 == 2) = true := beq_iff_eq.mpr c18
                  have c18b1 : (a0 != 2) = false := bne_eq_false_iff_eq.mpr c18
                  clear c18
                  (first | rw [c18b0] | (simp only [i64_w, i32_w]; rw [c18b0]) | skip)
                  have H' := Aside0.mk H
                  clear H
                  go_wp2
                  go_meet
                  case rel => exact ⟨_, ((a0 == 2)), (by first | rfl | (simp; done) | (simp [*]; done)), H', ⟨by have := HJ1.out; have := HJ11.out; first | omega | exact Nat.le_refl _⟩, by repeat (first | exact Drawn0.refl _ | apply Drawn0.step)⟩
                · rw [if_neg c18] at H
                  have c18b0 : (a0 == 2) = false := beq_eq_false_iff_ne.mpr c18
                  have c18b1 : (a0 != 2) = true := bne_iff_ne.mpr c18
                  (first | rw [c18b0] | (simp only [i64_w, i32_w]; rw [c18b0]) | skip)
                  by_cases c19 : a0 = 3
                  · rw [if_pos c19] at H
                    have c19b0 : (a0 == 3) = true := beq_iff_eq.mpr c19
                    have c19b1 : (a0 != 3) = false := bne_eq_false_iff_eq.mpr c19
                    clear c19
                    have H' := Aside0.mk H
                    clear H
                    go_wp2
                    go_meet
                    case rel => exact ⟨_, ((a0 == 3)), (by first | rfl | (simp; done) | (simp [*]; done)), H', ⟨by have := HJ1.out; have := HJ11.out; first | omega | exact Nat.le_refl _⟩, by repeat (first | exact Drawn0.refl _ | apply Drawn0.step)⟩
                  · rw [if_neg c19] at H
                    have c19b0 : (a0 == 3) = false := beq_eq_false_iff_ne.mpr c19
                    have c19b1 : (a0 != 3) = true := bne_iff_ne.mpr c19
                    by_cases c20 : a0 = 6
                    · rw [if_pos c20] at H
                      have c20b0 : (a0 == 6) = true := beq_iff_eq.mpr c20
                      have c20b1 : (a0 != 6) = false := bne_eq_false_iff_eq.mpr c20
                      clear c20
                      have H' := Aside0.mk H
                      clear H
                      go_wp2
                      go_meet
                      case rel => exact ⟨_, ((a0 == 6)), (by first | rfl | (simp; done) | (simp [*]; done)), H', ⟨by have := HJ1.out; have := HJ11.out; first | omega | exact Nat.le_refl _⟩, by repeat (first | exact Drawn0.refl _ | apply Drawn0.step)⟩
                    · rw [if_neg c20] at H
                      have c20b0 : (a0 == 6) = false := beq_eq_false_iff_ne.mpr c20
                      have c20b1 : (a0 != 6) = true := bne_iff_ne.mpr c20
                      by_cases c21 : a0 = 22
                      · rw [if_pos c21] at H
                        have c21b0 : (a0 == 22) = true := beq_iff_eq.mpr c21
                        have c21b1 : (a0 != 22) = false := bne_eq_false_iff_eq.mpr c21
                        clear c21
                        have H' := Aside0.mk H
                        clear H
                        go_wp2
                        go_meet
                        case rel => exact ⟨_, ((a0 == 22)), (by first | rfl | (simp; done) | (simp [*]; done)), H', ⟨by have := HJ1.out; have := HJ11.out; first | omega | exact Nat.le_refl _⟩, by repeat (first | exact Drawn0.refl _ | apply Drawn0.step)⟩
                      · rw [if_neg c21] at H
                        have c21b0 : (a0 == 22) = false := beq_eq_false_iff_ne.mpr c21
                        have c21b1 : (a0 != 22) = true := bne_iff_ne.mpr c21
                        by_cases c22 : a0 = 7
                        · rw [if_pos c22] at H
                          have c22b0 : (a0 == 7) = true := beq_iff_eq.mpr c22
                          have c22b1 : (a0 != 7) = false := bne_eq_false_iff_eq.mpr c22
                          clear c22
                          have H' := Aside0.mk H
                          clear H
                          go_wp2
                          go_meet
                          case rel => exact ⟨_, ((a0 == 7)), (by first | rfl | (simp; done) | (simp [*]; done)), H', ⟨by have := HJ1.out; have := HJ11.out; first | omega | exact Nat.le_refl _⟩, by repeat (first | exact Drawn0.refl _ | apply Drawn0.step)⟩
                        · rw [if_neg c22] at H
                          have c22b0 : (a0 == 7) = false := beq_eq_false_iff_ne.mpr c22
                          have c22b1 : (a0 != 7) = true := bne_iff_ne.mpr c22
                          by_cases c23 : a0 = 135
                          · rw [if_pos c23] at H
                            have c23b0 : (a0 == 135) = true := beq_iff_eq.mpr c23
                            have c23b1 : (a0 != 135) = false := bne_eq_false_iff_eq.mpr c23
                            clear c23
                            have H' := Aside0.mk H
                            clear H
                            go_wp2
                            go_meet
                            case rel => exact ⟨_, ((a0 == 135)), (by first | rfl | (simp; done) | (simp [*]; done)), H', ⟨by have := HJ1.out; have := HJ11.out; first | omega | exact Nat.le_refl _⟩, by repeat (first | exact Drawn0.refl _ | apply Drawn0.step)⟩
                          · rw [if_neg c23] at H
                            have c23b0 : (a0 == 135) = false := beq_eq_false_iff_ne.mpr c23
                            have c23b1 : (a0 != 135) = true := bne_iff_ne.mpr c23
                            have H' := Aside0.mk H
                            clear H
                            go_wp2
                            go_meet
                            case rel => exact ⟨_, ((a0 == 5)), (by first | rfl | (simp; done) | (simp [*]; done)), H', ⟨by have := HJ1.out; have := HJ11.out; first | omega | exact Nat.le_refl _⟩, by repeat (first | exact Drawn0.refl _ | apply Drawn0.step)⟩
              case rest =>
                clear HC17
                try clear c1
                try clear c2
                try clear p2
                try clear c3
                try clear c3b0
                try clear c3b1
                try clear c4
                try clear c4b0
                try clear c4b1
                try clear c5
                try clear c5b0
                try clear c5b1
                try clear c6
                try clear c6b0
                try clear c6b1
                try clear c7
                try clear c7b0
                try clear c7b1
                try clear c8
                try clear c8b0
                try clear c8b1
                try clear c9
                try clear c9b0
                try clear c9b1
                try clear c10
                try clear c10b0
                try clear c10b1
                try clear c11
                try clear c13
                try clear c13b0
                try clear c13b1
                try clear c14
                try clear c14b0
                try clear c14b1
                try clear c15
                try clear c15b0
                try clear c15b1
                try clear c16
                try clear c18
                try clear c18b0
                try clear c18b1
                try clear c19
                try clear c19b0
                try clear c19b1
                try clear c20
                try clear c20b0
                try clear c20b1
                try clear c21
                try clear c21b0
                try clear c21b1
                try clear c22
                try clear c22b0
                try clear c22b1
                try clear c23
                try clear c23b0
                try clear c23b1
                try clear p2
                obtain ⟨kq, x19_16, rfl, HA, HJ16, ⟨mc16, rfl⟩⟩ := hcut
                cases kq with
                | zero => exact absurd HA.out (by simp [insn_Known.j2])
                | succ kj16 =>
                  have H := HA.out
                  clear HA
                  simp only [insn_Known.j2] at H
                  by_cases c24 : x19_16 = true
                  · subst c24
                    have H1 : (some true) = some r := by rw [if_pos rfl] at H; exact H
                    clear H
                    have H := H1
                    clear H1
                    obtain rfl := Option.some.inj H
                    go_wp2
                    go_ret
                    exact ⟨by first | rfl | (simp; done) | (simp [*]; done), by repeat (first | exact Drawn0.refl _ | apply Drawn0.step)⟩
                  · replace c24 := Bool.eq_false_iff.mpr c24
                    subst c24
                    have H1 : ((insn_alu.f kj16 a0).bind fun t182 => (if t182 = true then (some true) else ((insn_test.f kj16 a0).bind fun t183 => (some t183)))) = some r := by rw [if_neg (show ¬ (false = true) by decide)] at H; exact H
                    clear H
                    have H := H1
                    clear H1
                    replace H := Option.bind_eq_some_iff.mp H
                    obtain ⟨t182, A250, H⟩ := H
                    replace H : (if t182 = true then (some true) else ((insn_test.f kj16 a0).bind fun t183 => (some t183))) = some r := H
                    have A25 := Aside0.mk A250
                    clear A250
                    by_cases c26 : t182 = true
                    · subst c26
                      have H1 : (some true) = some r := by rw [if_pos rfl] at H; exact H
                      clear H
                      have H := H1
                      clear H1
                      obtain rfl := Option.some.inj H
                      go_wp2_with (first | ((with_reducible refine gate_callee (f := 163) rfl ?_); refine goesL_ (some 28) rfl rfl Try.func163 (by kernel_rfl) rfl #[.int .u16 a0] rfl (by (try simp only [List.map_toArray, List.map_cons, List.map_nil]); first | done | rfl | (simp only [List.length_drop, List.length_take]; rfl)) ?_; (with_reducible refine (insn_alu.calls kj16 a0 true _ A25.out).mono ?_); rintro e w' ⟨rfl, ⟨nd, rfl⟩⟩; refine ⟨_, rfl, ?_⟩))
                      go_ret
                      exact ⟨by first | rfl | (simp; done) | (simp [*]; done), by repeat (first | exact Drawn0.refl _ | apply Drawn0.step)⟩
                    · replace c26 := Bool.eq_false_iff.mpr c26
                      subst c26
                      have H1 : ((insn_test.f kj16 a0).bind fun t183 => (some t183)) = some r := by rw [if_neg (show ¬ (false = true) by decide)] at H; exact H
                      clear H
                      have H := H1
                      clear H1
                      replace H := Option.bind_eq_some_iff.mp H
                      obtain ⟨t183, A270, H⟩ := H
                      replace H : (some t183) = some r := H
                      have A27 := Aside0.mk A270
                      clear A270
                      obtain rfl := Option.some.inj H
                      go_wp2_with (first | ((with_reducible refine gate_callee (f := 163) rfl ?_); refine goesL_ (some 28) rfl rfl Try.func163 (by kernel_rfl) rfl #[.int .u16 a0] rfl (by (try simp only [List.map_toArray, List.map_cons, List.map_nil]); first | done | rfl | (simp only [List.length_drop, List.length_take]; rfl)) ?_; (with_reducible refine (insn_alu.calls kj16 a0 false _ A25.out).mono ?_); rintro e w' ⟨rfl, ⟨nd, rfl⟩⟩; refine ⟨_, rfl, ?_⟩) | (go_at_call 151; (with_reducible refine (insn_test.calls kj16 a0 t183 _ A27.out).mono ?_); rintro e w' ⟨rfl, ⟨nd, rfl⟩⟩))
                      go_ret
                      exact ⟨by first | rfl | (simp; done) | (simp [*]; done), by repeat (first | exact Drawn0.refl _ | apply Drawn0.step)⟩
def insn_Class.f (k : Nat) (a0 : Int) : Option (Int) := (insn_Known.f k a0).bind fun t184 => (if t184 = true then (some (wrap64 (Go.bits .and .u16 a0 7))) else (some (-1)))
set_option maxHeartbeats 8000000 in
set_option maxRecDepth 100000 in
theorem insn_Class.calls (k : Nat) (a0 : Int) (r : Int) (w : World) (h : insn_Class.f k a0 = some r) :
    Calls Try.prog 99 #[.int .u16 a0] w fun e w' => e = .returned (.int .i64 r) ∧ Drawn0 w w' := by
  have H : ((insn_Known.f k a0).bind fun t184 => (if t184 = true then (some (wrap64 (Go.bits .and .u16 a0 7))) else (some (-1)))) = some r := h
  clear h
  replace H := Option.bind_eq_some_iff.mp H
  obtain ⟨t184, A20, H⟩ := H
  replace H : (if t184 = true then (some (wrap64 (Go.bits .and .u16 a0 7))) else (some (-1))) = some r := H
  have A2 := Aside0.mk A20
  clear A20
  by_cases c3 : t184 = true
  · subst c3
    have H1 : (some (wrap64 (Go.bits .and .u16 a0 7))) = some r := by rw [if_pos rfl] at H; exact H
    clear H
    have H := H1
    clear H1
    obtain rfl := Option.some.inj H
    go_enter Try.func99, Try.ntmps99
    go_wp2_with (first | ((with_reducible refine gate_callee (f := 143) rfl ?_); refine goesL_ (some 4) rfl rfl Try.func143 (by kernel_rfl) rfl #[.int .u16 a0] rfl (by (try simp only [List.map_toArray, List.map_cons, List.map_nil]); first | done | rfl | (simp only [List.length_drop, List.length_take]; rfl)) ?_; (with_reducible refine (insn_Known.calls k a0 true _ A2.out).mono ?_); rintro e w' ⟨rfl, ⟨nd, rfl⟩⟩; refine ⟨_, rfl, ?_⟩))
    go_ret
    exact ⟨by first | rfl | (simp; done) | (simp [*]; done), by repeat (first | exact Drawn0.refl _ | apply Drawn0.step)⟩
  · replace c3 := Bool.eq_false_iff.mpr c3
    subst c3
    have H1 : (some (-1)) = some r := by rw [if_neg (show ¬ (false = true) by decide)] at H; exact H
    clear H
    have H := H1
    clear H1
    obtain rfl := Option.some.inj H
    go_enter Try.func99, Try.ntmps99
    go_wp2_with (first | ((with_reducible refine gate_callee (f := 143) rfl ?_); refine goesL_ (some 4) rfl rfl Try.func143 (by kernel_rfl) rfl #[.int .u16 a0] rfl (by (try simp only [List.map_toArray, List.map_cons, List.map_nil]); first | done | rfl | (simp only [List.length_drop, List.length_take]; rfl)) ?_; (with_reducible refine (insn_Known.calls k a0 false _ A2.out).mono ?_); rintro e w' ⟨rfl, ⟨nd, rfl⟩⟩; refine ⟨_, rfl, ?_⟩))
    go_ret
    exact ⟨by first | rfl | (simp; done) | (simp [*]; done), by repeat (first | exact Drawn0.refl _ | apply Drawn0.step)⟩
end Go.Proofs.Ytdkalnkplgfgoaa.PA
namespace Go.Proofs.Ytdkalnkplgfgoaa.PA
open Go.RowKit Go.Proofs.YtdkalnkplgfgoaaW.PrintWords Go.Proofs.YtdkalnkplgfgoaaW.PrintLast Go.Proofs.YtdkalnkplgfgoaaW.PrintMore
attribute [local go_sem] max2_int min2_int max_two min_two max_three min_three max_four min_four   -- for this text's walks alone
set_option linter.unusedVariables false
set_option linter.unusedSimpArgs false
mutual
def graph_straight.j0 : Nat → Int → Bool → Int → Int → Int → Int → Option (Bool)
  | 0, _, _, _, _, _, _ => none
  | k + 1, x11, x12, x186000, x186001, x186002, x186003 => if x12 = true then (some (decide (x186003 < 16))) else (if x11 = 52 then (graph_straight.j1 k x11 (x11 == 52) x186000 x186001 x186002 x186003) else (graph_straight.j1 k x11 (x11 == 148) x186000 x186001 x186002 x186003))
def graph_straight.j1 : Nat → Int → Bool → Int → Int → Int → Int → Option (Bool)
  | 0, _, _, _, _, _, _ => none
  | k + 1, x11, x20, x186000, x186001, x186002, x186003 => if x20 = true then (some (x186003 != 0)) else (if x11 = 100 then (some (decide (x186003 ≤ 31))) else (if x11 = 116 then (some (decide (x186003 ≤ 31))) else (some true)))
end
def graph_straight.f (k : Nat) (a0_0 : Int) (a0_1 : Int) (a0_2 : Int) (a0_3 : Int) : Option (Bool) := (insn_Class.f k a0_0).bind fun t186 => (if t186 = (-1) then (some false) else (if t186 = 5 then (some false) else (if t186 = 6 then (some false) else (if a0_0 = 2 then (graph_straight.j0 k a0_0 (a0_0 == 2) a0_0 a0_1 a0_2 a0_3) else (if a0_0 = 3 then (graph_straight.j0 k a0_0 (a0_0 == 3) a0_0 a0_1 a0_2 a0_3) else (if a0_0 = 96 then (graph_straight.j0 k a0_0 (a0_0 == 96) a0_0 a0_1 a0_2 a0_3) else (graph_straight.j0 k a0_0 (a0_0 == 97) a0_0 a0_1 a0_2 a0_3)))))))
set_option maxHeartbeats 8000000 in
set_option maxRecDepth 100000 in
theorem graph_straight.calls (k : Nat) (a0_0 : Int) (a0_1 : Int) (a0_2 : Int) (a0_3 : Int) (r : Bool) (w : World) (h : graph_straight.f k a0_0 a0_1 a0_2 a0_3 = some r) :
    Calls Try.prog 123 #[.agg #[.int .u16 a0_0, .int .u8 a0_1, .int .u8 a0_2, .int .u32 a0_3]] w fun e w' => e = .returned (.bool r) ∧ Below w.heap.size w w' := by
  have hu45 := Try.underlying45
  have HB := Aside0.mk (Below.refl w.heap.size w)
  have H : ((insn_Class.f k a0_0).bind fun t186 => (if t186 = (-1) then (some false) else (if t186 = 5 then (some false) else (if t186 = 6 then (some false) else (if a0_0 = 2 then (graph_straight.j0 k a0_0 (a0_0 == 2) a0_0 a0_1 a0_2 a0_3) else (if a0_0 = 3 then (graph_straight.j0 k a0_0 (a0_0 == 3) a0_0 a0_1 a0_2 a0_3) else (if a0_0 = 96 then (graph_straight.j0 k a0_0 (a0_0 == 96) a0_0 a0_1 a0_2 a0_3) else (graph_straight.j0 k a0_0 (a0_0 == 97) a0_0 a0_1 a0_2 a0_3)))))))) = some r := h
  clear h
  replace H := Option.bind_eq_some_iff.mp H
  obtain ⟨t186, A20, H⟩ := H
  replace H : (if t186 = (-1) then (some false) else (if t186 = 5 then (some false) else (if t186 = 6 then (some false) else (if a0_0 = 2 then (graph_straight.j0 k a0_0 (a0_0 == 2) a0_0 a0_1 a0_2 a0_3) else (if a0_0 = 3 then (graph_straight.j0 k a0_0 (a0_0 == 3) a0_0 a0_1 a0_2 a0_3) else (if a0_0 = 96 then (graph_straight.j0 k a0_0 (a0_0 == 96) a0_0 a0_1 a0_2 a0_3) else (graph_straight.j0 k a0_0 (a0_0 == 97) a0_0 a0_1 a0_2 a0_3))))))) = some r := H
  have A2 := Aside0.mk A20
  clear A20
  by_cases c3 : t186 = (-1)
  · rw [if_pos c3] at H
    have c3b0 : (t186 == (-1)) = true := beq_iff_eq.mpr c3
    have c3b1 : (t186 != (-1)) = false := bne_eq_false_iff_eq.mpr c3
    clear c3
    obtain rfl := Option.some.inj H
    go_enter Try.func123, Try.ntmps123
    go_wp2_with (first | ((with_reducible refine gate_dst (N := 1) rfl ?_); refine box_event ?hg (N := 1) ?hd (cs := #[.int .u16 a0_0, .int .u8 a0_1, .int .u8 a0_2, .int .u32 a0_3]) (t := 45) ?hr ?_; (case hd => rfl); (case hg => rfl); (case hr => first | (go_simp; done) | (go_simp; rfl)); intro gb185 hg w4 hbox hb; have n0_ := Aside0.mk (below_step (by repeat (first | (with_reducible first | exact HB.out | apply below_alloc | apply pw_below_drewN | apply below_drew1) | exact HB.out)) hb); have n1_ := Aside0.mk (hbox); have n2_ := Aside0.mk ((by rw [hg]; exact (below_size (by repeat (first | (with_reducible first | exact HB.out | apply below_alloc | apply pw_below_drewN | apply below_drew1) | exact HB.out))) : w.heap.size ≤ gb185)); have n3_ := Aside0.mk ((by rw [hg]; exact (below_size (by repeat (first | (with_reducible first | exact HB.out | apply below_alloc | apply pw_below_drewN | apply below_drew1) | exact HB.out))) : w.heap.size ≤ gb185)); clear HB; have HB := n0_; have BK185 := n1_; have GW185 := n2_; have GE185 := n3_; clear n0_ n1_ n2_ n3_; clear hb hbox hg; have hcz5_0 : w4.cell? ⟨gb185, 0, none⟩ = some (.int .u16 a0_0) := (blk_cell BK185.out 0).trans rfl; have hcz5_1 : w4.cell? ⟨gb185, 1, none⟩ = some (.int .u8 a0_1) := (blk_cell BK185.out 1).trans rfl; have hcz5_2 : w4.cell? ⟨gb185, 2, none⟩ = some (.int .u8 a0_2) := (blk_cell BK185.out 2).trans rfl; have hcz5_3 : w4.cell? ⟨gb185, 3, none⟩ = some (.int .u32 a0_3) := (blk_cell BK185.out 3).trans rfl; have hfz5_0 := blk_frozen BK185.out 0; have hfz5_1 := blk_frozen BK185.out 1; have hfz5_2 := blk_frozen BK185.out 2; have hfz5_3 := blk_frozen BK185.out 3) | ((with_reducible refine gate_callee (f := 99) rfl ?_); refine goesL_ (some 5) rfl rfl Try.func99 (by kernel_rfl) rfl #[.int .u16 a0_0] rfl (by (try simp only [List.map_toArray, List.map_cons, List.map_nil]); first | done | rfl | (simp only [List.length_drop, List.length_take]; rfl)) ?_; (with_reducible refine (insn_Class.calls k a0_0 t186 _ A2.out).mono ?_); rintro e w' ⟨rfl, ⟨nd, rfl⟩⟩; refine ⟨_, rfl, ?_⟩))
    go_ret
    exact ⟨by first | rfl | (simp [errW_none, errW_some] <;> rfl) | (simp [*, errW_none, errW_some] <;> rfl), by repeat (first | (with_reducible first | exact HB.out | apply below_alloc | apply pw_below_drewN | apply below_drew1 | refine below_set ?_ GE185.out) | exact HB.out)⟩
  · rw [if_neg c3] at H
    have c3b0 : (t186 == (-1)) = false := beq_eq_false_iff_ne.mpr c3
    have c3b1 : (t186 != (-1)) = true := bne_iff_ne.mpr c3
    by_cases c6 : t186 = 5
    · rw [if_pos c6] at H
      have c6b0 : (t186 == 5) = true := beq_iff_eq.mpr c6
      have c6b1 : (t186 != 5) = false := bne_eq_false_iff_eq.mpr c6
      clear c6
      obtain rfl := Option.some.inj H
      go_enter Try.func123, Try.ntmps123
      go_wp2_with (first | ((with_reducible refine gate_dst (N := 1) rfl ?_); refine box_event ?hg (N := 1) ?hd (cs := #[.int .u16 a0_0, .int .u8 a0_1, .int .u8 a0_2, .int .u32 a0_3]) (t := 45) ?hr ?_; (case hd => rfl); (case hg => rfl); (case hr => first | (go_simp; done) | (go_simp; rfl)); intro gb185 hg w7 hbox hb; have n0_ := Aside0.mk (below_step (by repeat (first | (with_reducible first | exact HB.out | apply below_alloc | apply pw_below_drewN | apply below_drew1) | exact HB.out)) hb); have n1_ := Aside0.mk (hbox); have n2_ := Aside0.mk ((by rw [hg]; exact (below_size (by repeat (first | (with_reducible first | exact HB.out | apply below_alloc | apply pw_below_drewN | apply below_drew1) | exact HB.out))) : w.heap.size ≤ gb185)); have n3_ := Aside0.mk ((by rw [hg]; exact (below_size (by repeat (first | (with_reducible first | exact HB.out | apply below_alloc | apply pw_below_drewN | apply below_drew1) | exact HB.out))) : w.heap.size ≤ gb185)); clear HB; have HB := n0_; have BK185 := n1_; have GW185 := n2_; have GE185 := n3_; clear n0_ n1_ n2_ n3_; clear hb hbox hg; have hcz8_0 : w7.cell? ⟨gb185, 0, none⟩ = some (.int .u16 a0_0) := (blk_cell BK185.out 0).trans rfl; have hcz8_1 : w7.cell? ⟨gb185, 1, none⟩ = some (.int .u8 a0_1) := (blk_cell BK185.out 1).trans rfl; have hcz8_2 : w7.cell? ⟨gb185, 2, none⟩ = some (.int .u8 a0_2) := (blk_cell BK185.out 2).trans rfl; have hcz8_3 : w7.cell? ⟨gb185, 3, none⟩ = some (.int .u32 a0_3) := (blk_cell BK185.out 3).trans rfl; have hfz8_0 := blk_frozen BK185.out 0; have hfz8_1 := blk_frozen BK185.out 1; have hfz8_2 := blk_frozen BK185.out 2; have hfz8_3 := blk_frozen BK185.out 3) | ((with_reducible refine gate_callee (f := 99) rfl ?_); refine goesL_ (some 5) rfl rfl Try.func99 (by kernel_rfl) rfl #[.int .u16 a0_0] rfl (by (try simp only [List.map_toArray, List.map_cons, List.map_nil]); first | done | rfl | (simp only [List.length_drop, List.length_take]; rfl)) ?_; (with_reducible refine (insn_Class.calls k a0_0 t186 _ A2.out).mono ?_); rintro e w' ⟨rfl, ⟨nd, rfl⟩⟩; refine ⟨_, rfl, ?_⟩))
      go_ret
      exact ⟨by first | rfl | (simp [errW_none, errW_some] <;> rfl) | (simp [*, errW_none, errW_some] <;> rfl), by repeat (first | (with_reducible first | exact HB.out | apply below_alloc | apply pw_below_drewN | apply below_drew1 | refine below_set ?_ GE185.out) | exact HB.out)⟩
    · rw [if_neg c6] at H
      have c6b0 : (t186 == 5) = false := beq_eq_false_iff_ne.mpr c6
      have c6b1 : (t186 != 5) = true := bne_iff_ne.mpr c6
      by_cases c9 : t186 = 6
      · rw [if_pos c9] at H
        have c9b0 : (t186 == 6) = true := beq_iff_eq.mpr c9
        have c9b1 : (t186 != 6) = false := bne_eq_false_iff_eq.mpr c9
        clear c9
        obtain rfl := Option.some.inj H
        go_enter Try.func123, Try.ntmps123
        go_wp2_with (first | ((with_reducible refine gate_dst (N := 1) rfl ?_); refine box_event ?hg (N := 1) ?hd (cs := #[.int .u16 a0_0, .int .u8 a0_1, .int .u8 a0_2, .int .u32 a0_3]) (t := 45) ?hr ?_; (case hd => rfl); (case hg => rfl); (case hr => first | (go_simp; done) | (go_simp; rfl)); intro gb185 hg w10 hbox hb; have n0_ := Aside0.mk (below_step (by repeat (first | (with_reducible first | exact HB.out | apply below_alloc | apply pw_below_drewN | apply below_drew1) | exact HB.out)) hb); have n1_ := Aside0.mk (hbox); have n2_ := Aside0.mk ((by rw [hg]; exact (below_size (by repeat (first | (with_reducible first | exact HB.out | apply below_alloc | apply pw_below_drewN | apply below_drew1) | exact HB.out))) : w.heap.size ≤ gb185)); have n3_ := Aside0.mk ((by rw [hg]; exact (below_size (by repeat (first | (with_reducible first | exact HB.out | apply below_alloc | apply pw_below_drewN | apply below_drew1) | exact HB.out))) : w.heap.size ≤ gb185)); clear HB; have HB := n0_; have BK185 := n1_; have GW185 := n2_; have GE185 := n3_; clear n0_ n1_ n2_ n3_; clear hb hbox hg; have hcz11_0 : w10.cell? ⟨gb185, 0, none⟩ = some (.int .u16 a0_0) := (blk_cell BK185.out 0).trans rfl; have hcz11_1 : w10.cell? ⟨gb185, 1, none⟩ = some (.int .u8 a0_1) := (blk_cell BK185.out 1).trans rfl; have hcz11_2 : w10.cell? ⟨gb185, 2, none⟩ = some (.int .u8 a0_2) := (blk_cell BK185.out 2).trans rfl; have hcz11_3 : w10.cell? ⟨gb185, 3, none⟩ = some (.int .u32 a0_3) := (blk_cell BK185.out 3).trans rfl; have hfz11_0 := blk_frozen BK185.out 0; have hfz11_1 := blk_frozen BK185.out 1; have hfz11_2 := blk_frozen BK185.out 2; have hfz11_3 := blk_frozen BK185.out 3) | ((with_reducible refine gate_callee (f := 99) rfl ?_); refine goesL_ (some 5) rfl rfl Try.func99 (by kernel_rfl) rfl #[.int .u16 a0_0] rfl (by (try simp only [List.map_toArray, List.map_cons, List.map_nil]); first | done | rfl | (simp only [List.length_drop, List.length_take]; rfl)) ?_; (with_reducible refine (insn_Class.calls k a0_0 t186 _ A2.out).mono ?_); rintro e w' ⟨rfl, ⟨nd, rfl⟩⟩; refine ⟨_, rfl, ?_⟩))
        go_ret
        exact ⟨by first | rfl | (simp [errW_none, errW_some] <;> rfl) | (simp [*, errW_none, errW_some] <;> rfl), by repeat (first | (with_reducible first | exact HB.out | apply below_alloc | apply pw_below_drewN | apply below_drew1 | refine below_set ?_ GE185.out) | exact HB.out)⟩
      · rw [if_neg c9] at H
        have c9b0 : (t186 == 6) = false := beq_eq_false_iff_ne.mpr c9
        have c9b1 : (t186 != 6) = true := bne_iff_ne.mpr c9
        have HC12 := Aside0.mk H
        clear H
        go_enter Try.func123, Try.ntmps123
        go_upto_if 12 with (first | ((with_reducible refine gate_dst (N := 1) rfl ?_); refine box_event ?hg (N := 1) ?hd (cs := #[.int .u16 a0_0, .int .u8 a0_1, .int .u8 a0_2, .int .u32 a0_3]) (t := 45) ?hr ?_; (case hd => rfl); (case hg => rfl); (case hr => first | (go_simp; done) | (go_simp; rfl)); intro gb185 hg w13 hbox hb; have n0_ := Aside0.mk (below_step (by repeat (first | (with_reducible first | exact HB.out | apply below_alloc | apply pw_below_drewN | apply below_drew1) | exact HB.out)) hb); have n1_ := Aside0.mk (hbox); have n2_ := Aside0.mk ((by rw [hg]; exact (below_size (by repeat (first | (with_reducible first | exact HB.out | apply below_alloc | apply pw_below_drewN | apply below_drew1) | exact HB.out))) : w.heap.size ≤ gb185)); have n3_ := Aside0.mk ((by rw [hg]; exact (below_size (by repeat (first | (with_reducible first | exact HB.out | apply below_alloc | apply pw_below_drewN | apply below_drew1) | exact HB.out))) : w.heap.size ≤ gb185)); clear HB; have HB := n0_; have BK185 := n1_; have GW185 := n2_; have GE185 := n3_; clear n0_ n1_ n2_ n3_; clear hb hbox hg; have hcz14_0 : w13.cell? ⟨gb185, 0, none⟩ = some (.int .u16 a0_0) := (blk_cell BK185.out 0).trans rfl; have hcz14_1 : w13.cell? ⟨gb185, 1, none⟩ = some (.int .u8 a0_1) := (blk_cell BK185.out 1).trans rfl; have hcz14_2 : w13.cell? ⟨gb185, 2, none⟩ = some (.int .u8 a0_2) := (blk_cell BK185.out 2).trans rfl; have hcz14_3 : w13.cell? ⟨gb185, 3, none⟩ = some (.int .u32 a0_3) := (blk_cell BK185.out 3).trans rfl; have hfz14_0 := blk_frozen BK185.out 0; have hfz14_1 := blk_frozen BK185.out 1; have hfz14_2 := blk_frozen BK185.out 2; have hfz14_3 := blk_frozen BK185.out 3) | ((with_reducible refine gate_callee (f := 99) rfl ?_); refine goesL_ (some 5) rfl rfl Try.func99 (by kernel_rfl) rfl #[.int .u16 a0_0] rfl (by (try simp only [List.map_toArray, List.map_cons, List.map_nil]); first | done | rfl | (simp only [List.length_drop, List.length_take]; rfl)) ?_; (with_reducible refine (insn_Class.calls k a0_0 t186 _ A2.out).mono ?_); rintro e w' ⟨rfl, ⟨nd, rfl⟩⟩; refine ⟨_, rfl, ?_⟩))
        (try simp only [Act.put, List.setIfInBounds_toArray, List.set_cons_zero, List.set_cons_succ])
        go_cut [12] (fun v12 wc => ∃ (kq : Nat) (x12_11 : Bool), v12 = .bool x12_11 ∧ Aside0 (graph_straight.j0 kq a0_0 x12_11 a0_0 a0_1 a0_2 a0_3 = some r) ∧ Aside0 (kq ≤ k) ∧ Aside0 (wc.heap[gb185]? = some (.cells #[.int .u16 a0_0, .int .u8 a0_1, .int .u8 a0_2, .int .u32 a0_3] 45 (0, 0))) ∧ Aside0 (Below w.heap.size w wc))
        case first =>
          have H := HC12.out
          clear HC12
          by_cases c15 : a0_0 = 2
          · rw [if_pos c15] at H
            have c15b0 : (a0_0 == 2) = true := beq_iff_eq.mpr c15
            have c15b1 : (a0_0 != 2) = false := bne_eq_false_iff_eq.mpr c15
            clear c15
            (first | rw [c15b0] | (simp only [i64_w, i32_w]; rw [c15b0]) | skip)
            have H' := Aside0.mk H
            clear H
            go_wp2
            go_meet
            case rel => exact ⟨_, ((a0_0 == 2)), (by first | rfl | (simp; done) | (simp [*]; done)), H', ⟨by first | omega | exact Nat.le_refl _⟩, ⟨by (with_reducible repeat (first | refine blk_drewN ?_ _ | refine blk_drew ?_ | refine blk_alloc ?_ _)); exact BK185.out⟩, ⟨by repeat (first | (with_reducible first | exact HB.out | apply below_alloc | apply pw_below_drewN | apply below_drew1 | refine below_set ?_ GE185.out) | exact HB.out)⟩⟩
          · rw [if_neg c15] at H
            have c15b0 : (a0_0 == 2) = false := beq_eq_false_iff_ne.mpr c15
            have c15b1 : (a0_0 != 2) = true := bne_iff_ne.mpr c15
            (first | rw [c15b0] | (simp only [i64_w, i32_w]; rw [c15b0]) | skip)
            by_cases c16 : a0_0 = 3
            · rw [if_pos c16] at H
              have c16b0 : (a0_0 == 3) = true := beq_iff_eq.mpr c16
              have c16b1 : (a0_0 != 3) = false := bne_eq_false_iff_eq.mpr c16
              clear c16
              have H' := Aside0.mk H
              clear H
              go_wp2
              go_meet
              case rel => exact ⟨_, ((a0_0 == 3)), (by first | rfl | (simp; done) | (simp [*]; done)), H', ⟨by first | omega | exact Nat.le_refl _⟩, ⟨by (with_reducible repeat (first | refine blk_drewN ?_ _ | refine blk_drew ?_ | refine blk_alloc ?_ _)); exact BK185.out⟩, ⟨by repeat (first | (with_reducible first | exact HB.out | apply below_alloc | apply pw_below_drewN | apply below_drew1 | refine below_set ?_ GE185.out) | exact HB.out)⟩⟩
            · rw [if_neg c16] at H
              have c16b0 : (a0_0 == 3) = false := beq_eq_false_iff_ne.mpr c16
              have c16b1 : (a0_0 != 3) = true := bne_iff_ne.mpr c16
              by_cases c17 : a0_0 = 96
              · rw [if_pos c17] at H
                have c17b0 : (a0_0 == 96) = true := beq_iff_eq.mpr c17
                have c17b1 : (a0_0 != 96) = false := bne_eq_false_iff_eq.mpr c17
                clear c17
                have H' := Aside0.mk H
                clear H
                go_wp2
                go_meet
                case rel => exact ⟨_, ((a0_0 == 96)), (by first | rfl | (simp; done) | (simp [*]; done)), H', ⟨by first | omega | exact Nat.le_refl _⟩, ⟨by (with_reducible repeat (first | refine blk_drewN ?_ _ | refine blk_drew ?_ | refine blk_alloc ?_ _)); exact BK185.out⟩, ⟨by repeat (first | (with_reducible first | exact HB.out | apply below_alloc | apply pw_below_drewN | apply below_drew1 | refine below_set ?_ GE185.out) | exact HB.out)⟩⟩
              · rw [if_neg c17] at H
                have c17b0 : (a0_0 == 96) = false := beq_eq_false_iff_ne.mpr c17
                have c17b1 : (a0_0 != 96) = true := bne_iff_ne.mpr c17
                have H' := Aside0.mk H
                clear H
                go_wp2
                go_meet
                case rel => exact ⟨_, ((a0_0 == 97)), (by first | rfl | (simp; done) | (simp [*]; done)), H', ⟨by first | omega | exact Nat.le_refl _⟩, ⟨by (with_reducible repeat (first | refine blk_drewN ?_ _ | refine blk_drew ?_ | refine blk_alloc ?_ _)); exact BK185.out⟩, ⟨by repeat (first | (with_reducible first | exact HB.out | apply below_alloc | apply pw_below_drewN | apply below_drew1 | refine below_set ?_ GE185.out) | exact HB.out)⟩⟩
        case rest =>
          clear HC12
          try clear c1
          try clear p2
          try clear c3
          try clear c3b0
          try clear c3b1
          try clear c6
          try clear c6b0
          try clear c6b1
          try clear c9
          try clear c9b0
          try clear c9b1
          try clear c12
          try clear c15
          try clear c15b0
          try clear c15b1
          try clear c16
          try clear c16b0
          try clear c16b1
          try clear c17
          try clear c17b0
          try clear c17b1
          try clear hcz11_0
          try clear hcz11_1
          try clear hcz11_2
          try clear hcz11_3
          try clear hcz14_0
          try clear hcz14_1
          try clear hcz14_2
          try clear hcz14_3
          try clear hcz5_0
          try clear hcz5_1
          try clear hcz5_2
          try clear hcz5_3
          try clear hcz8_0
          try clear hcz8_1
          try clear hcz8_2
          try clear hcz8_3
          try clear hfz11_0
          try clear hfz11_1
          try clear hfz11_2
          try clear hfz11_3
          try clear hfz14_0
          try clear hfz14_1
          try clear hfz14_2
          try clear hfz14_3
          try clear hfz5_0
          try clear hfz5_1
          try clear hfz5_2
          try clear hfz5_3
          try clear hfz8_0
          try clear hfz8_1
          try clear hfz8_2
          try clear hfz8_3
          obtain ⟨kq, x12_11, rfl, HA, HJ11, BK185, HB⟩ := hcut
          cases kq with
          | zero => exact absurd HA.out (by simp [graph_straight.j0])
          | succ kj11 =>
            have H := HA.out
            clear HA
            simp only [graph_straight.j0] at H
            by_cases c18 : x12_11 = true
            · subst c18
              have H1 : (some (decide (a0_3 < 16))) = some r := by rw [if_pos rfl] at H; exact H
              clear H
              have H := H1
              clear H1
              obtain rfl := Option.some.inj H
              have hcz19_0 : wc.cell? ⟨gb185, 0, none⟩ = some (.int .u16 a0_0) := (blk_cell BK185.out 0).trans rfl
              have hcz19_1 : wc.cell? ⟨gb185, 1, none⟩ = some (.int .u8 a0_1) := (blk_cell BK185.out 1).trans rfl
              have hcz19_2 : wc.cell? ⟨gb185, 2, none⟩ = some (.int .u8 a0_2) := (blk_cell BK185.out 2).trans rfl
              have hcz19_3 : wc.cell? ⟨gb185, 3, none⟩ = some (.int .u32 a0_3) := (blk_cell BK185.out 3).trans rfl
              have hfz19_0 := blk_frozen BK185.out 0
              have hfz19_1 := blk_frozen BK185.out 1
              have hfz19_2 := blk_frozen BK185.out 2
              have hfz19_3 := blk_frozen BK185.out 3
              go_wp2
              go_ret
              exact ⟨by first | rfl | (simp [errW_none, errW_some] <;> rfl) | (simp [*, errW_none, errW_some] <;> rfl), by repeat (first | (with_reducible first | exact HB.out | apply below_alloc | apply pw_below_drewN | apply below_drew1 | refine below_set ?_ GE185.out) | exact HB.out)⟩
            · replace c18 := Bool.eq_false_iff.mpr c18
              subst c18
              have H1 : (if a0_0 = 52 then (graph_straight.j1 kj11 a0_0 (a0_0 == 52) a0_0 a0_1 a0_2 a0_3) else (graph_straight.j1 kj11 a0_0 (a0_0 == 148) a0_0 a0_1 a0_2 a0_3)) = some r := by rw [if_neg (show ¬ (false = true) by decide)] at H; exact H
              clear H
              have H := H1
              clear H1
              have HC20 := Aside0.mk H
              clear H
              go_upto_if 20 with (fail)
              go_cut [20] (fun v20 wc => ∃ (kq : Nat) (x20_19 : Bool), v20 = .bool x20_19 ∧ Aside0 (graph_straight.j1 kq a0_0 x20_19 a0_0 a0_1 a0_2 a0_3 = some r) ∧ Aside0 (kq ≤ kj11) ∧ Aside0 (wc.heap[gb185]? = some (.cells #[.int .u16 a0_0, .int .u8 a0_1, .int .u8 a0_2, .int .u32 a0_3] 45 (0, 0))) ∧ Aside0 (Below w.heap.size w wc))
              case first =>
                have H := HC20.out
                clear HC20
                by_cases c21 : a0_0 = 52
                · rw [if_pos c21] at H
                  have c21b0 : (a0_0 == 52) = true := beq_iff_eq.mpr c21
                  have c21b1 : (a0_0 != 52) = false := bne_eq_false_iff_eq.mpr c21
                  clear c21
                  (first | rw [c21b0] | (simp only [i64_w, i32_w]; rw [c21b0]) | skip)
                  have H' := Aside0.mk H
                  clear H
                  go_wp2
                  go_meet
                  case rel => exact ⟨_, ((a0_0 == 52)), (by first | rfl | (simp; done) | (simp [*]; done)), H', ⟨by have := HJ11.out; first | omega | exact Nat.le_refl _⟩, ⟨by (with_reducible repeat (first | refine blk_drewN ?_ _ | refine blk_drew ?_ | refine blk_alloc ?_ _)); exact BK185.out⟩, ⟨by repeat (first | (with_reducible first | exact HB.out | apply below_alloc | apply pw_below_drewN | apply below_drew1 | refine below_set ?_ GE185.out) | exact HB.out)⟩⟩
                · rw [if_neg c21] at H
                  have c21b0 : (a0_0 == 52) = false := beq_eq_false_iff_ne.mpr c21
                  have c21b1 : (a0_0 != 52) = true := bne_iff_ne.mpr c21
                  (first | rw [c21b0] | (simp only [i64_w, i32_w]; rw [c21b0]) | skip)
                  have H' := Aside0.mk H
                  clear H
                  go_wp2
                  go_meet
                  case rel => exact ⟨_, ((a0_0 == 148)), (by first | rfl | (simp; done) | (simp [*]; done)), H', ⟨by have := HJ11.out; first | omega | exact Nat.le_refl _⟩, ⟨by (with_reducible repeat (first | refine blk_drewN ?_ _ | refine blk_drew ?_ | refine blk_alloc ?_ _)); exact BK185.out⟩, ⟨by repeat (first | (with_reducible first | exact HB.out | apply below_alloc | apply pw_below_drewN | apply below_drew1 | refine below_set ?_ GE185.out) | exact HB.out)⟩⟩
              case rest =>
                clear HC20
                try clear c1
                try clear c2
                try clear p2
                try clear c3
                try clear c3b0
                try clear c3b1
                try clear c6
                try clear c6b0
                try clear c6b1
                try clear c9
                try clear c9b0
                try clear c9b1
                try clear c12
                try clear c15
                try clear c15b0
                try clear c15b1
                try clear c16
                try clear c16b0
                try clear c16b1
                try clear c17
                try clear c17b0
                try clear c17b1
                try clear c18
                try clear c21
                try clear c21b0
                try clear c21b1
                try clear hcz11_0
                try clear hcz11_1
                try clear hcz11_2
                try clear hcz11_3
                try clear hcz14_0
                try clear hcz14_1
                try clear hcz14_2
                try clear hcz14_3
                try clear hcz19_0
                try clear hcz19_1
                try clear hcz19_2
                try clear hcz19_3
                try clear hcz5_0
                try clear hcz5_1
                try clear hcz5_2
                try clear hcz5_3
                try clear hcz8_0
                try clear hcz8_1
                try clear hcz8_2
                try clear hcz8_3
                try clear hfz11_0
                try clear hfz11_1
                try clear hfz11_2
                try clear hfz11_3
                try clear hfz14_0
                try clear hfz14_1
                try clear hfz14_2
                try clear hfz14_3
                try clear hfz19_0
                try clear hfz19_1
                try clear hfz19_2
                try clear hfz19_3
                try clear hfz5_0
                try clear hfz5_1
                try clear hfz5_2
                try clear hfz5_3
                try clear hfz8_0
                try clear hfz8_1
                try clear hfz8_2
                try clear hfz8_3
                try clear p2
                obtain ⟨kq, x20_19, rfl, HA, HJ19, BK185, HB⟩ := hcut
                cases kq with
                | zero => exact absurd HA.out (by simp [graph_straight.j1])
                | succ kj19 =>
                  have H := HA.out
                  clear HA
                  simp only [graph_straight.j1] at H
                  by_cases c22 : x20_19 = true
                  · subst c22
                    have H1 : (some (a0_3 != 0)) = some r := by rw [if_pos rfl] at H; exact H
                    clear H
                    have H := H1
                    clear H1
                    obtain rfl := Option.some.inj H
                    have hcz23_0 : wc.cell? ⟨gb185, 0, none⟩ = some (.int .u16 a0_0) := (blk_cell BK185.out 0).trans rfl
                    have hcz23_1 : wc.cell? ⟨gb185, 1, none⟩ = some (.int .u8 a0_1) := (blk_cell BK185.out 1).trans rfl
                    have hcz23_2 : wc.cell? ⟨gb185, 2, none⟩ = some (.int .u8 a0_2) := (blk_cell BK185.out 2).trans rfl
                    have hcz23_3 : wc.cell? ⟨gb185, 3, none⟩ = some (.int .u32 a0_3) := (blk_cell BK185.out 3).trans rfl
                    have hfz23_0 := blk_frozen BK185.out 0
                    have hfz23_1 := blk_frozen BK185.out 1
                    have hfz23_2 := blk_frozen BK185.out 2
                    have hfz23_3 := blk_frozen BK185.out 3
                    go_wp2
                    go_ret
                    exact ⟨by first | rfl | (simp [errW_none, errW_some] <;> rfl) | (simp [*, errW_none, errW_some] <;> rfl), by repeat (first | (with_reducible first | exact HB.out | apply below_alloc | apply pw_below_drewN | apply below_drew1 | refine below_set ?_ GE185.out) | exact HB.out)⟩
                  · replace c22 := Bool.eq_false_iff.mpr c22
                    subst c22
                    have H1 : (if a0_0 = 100 then (some (decide (a0_3 ≤ 31))) else (if a0_0 = 116 then (some (decide (a0_3 ≤ 31))) else (some true))) = some r := by rw [if_neg (show ¬ (false = true) by decide)] at H; exact H
                    clear H
                    have H := H1
                    clear H1
                    by_cases c24 : a0_0 = 100
                    · rw [if_pos c24] at H
                      have c24b0 : (a0_0 == 100) = true := beq_iff_eq.mpr c24
                      have c24b1 : (a0_0 != 100) = false := bne_eq_false_iff_eq.mpr c24
                      clear c24
                      obtain rfl := Option.some.inj H
                      have hcz25_0 : wc.cell? ⟨gb185, 0, none⟩ = some (.int .u16 a0_0) := (blk_cell BK185.out 0).trans rfl
                      have hcz25_1 : wc.cell? ⟨gb185, 1, none⟩ = some (.int .u8 a0_1) := (blk_cell BK185.out 1).trans rfl
                      have hcz25_2 : wc.cell? ⟨gb185, 2, none⟩ = some (.int .u8 a0_2) := (blk_cell BK185.out 2).trans rfl
                      have hcz25_3 : wc.cell? ⟨gb185, 3, none⟩ = some (.int .u32 a0_3) := (blk_cell BK185.out 3).trans rfl
                      have hfz25_0 := blk_frozen BK185.out 0
                      have hfz25_1 := blk_frozen BK185.out 1
                      have hfz25_2 := blk_frozen BK185.out 2
                      have hfz25_3 := blk_frozen BK185.out 3
                      go_wp2
                      go_ret
                      exact ⟨by first | rfl | (simp [errW_none, errW_some] <;> rfl) | (simp [*, errW_none, errW_some] <;> rfl), by repeat (first | (with_reducible first | exact HB.out | apply below_alloc | apply pw_below_drewN | apply below_drew1 | refine below_set ?_ GE185.out) | exact HB.out)⟩
                    · rw [if_neg c24] at H
                      have c24b0 : (a0_0 == 100) = false := beq_eq_false_iff_ne.mpr c24
                      have c24b1 : (a0_0 != 100) = true := bne_iff_ne.mpr c24
                      by_cases c26 : a0_0 = 116
                      · rw [if_pos c26] at H
                        have c26b0 : (a0_0 == 116) = true := beq_iff_eq.mpr c26
                        have c26b1 : (a0_0 != 116) = false := bne_eq_false_iff_eq.mpr c26
                        clear c26
                        obtain rfl := Option.some.inj H
                        have hcz27_0 : wc.cell? ⟨gb185, 0, none⟩ = some (.int .u16 a0_0) := (blk_cell BK185.out 0).trans rfl
                        have hcz27_1 : wc.cell? ⟨gb185, 1, none⟩ = some (.int .u8 a0_1) := (blk_cell BK185.out 1).trans rfl
                        have hcz27_2 : wc.cell? ⟨gb185, 2, none⟩ = some (.int .u8 a0_2) := (blk_cell BK185.out 2).trans rfl
                        have hcz27_3 : wc.cell? ⟨gb185, 3, none⟩ = some (.int .u32 a0_3) := (blk_cell BK185.out 3).trans rfl
                        have hfz27_0 := blk_frozen BK185.out 0
                        have hfz27_1 := blk_frozen BK185.out 1
                        have hfz27_2 := blk_frozen BK185.out 2
                        have hfz27_3 := blk_frozen BK185.out 3
                        go_wp2
                        go_ret
                        exact ⟨by first | rfl | (simp [errW_none, errW_some] <;> rfl) | (simp [*, errW_none, errW_some] <;> rfl), by repeat (first | (with_reducible first | exact HB.out | apply below_alloc | apply pw_below_drewN | apply below_drew1 | refine below_set ?_ GE185.out) | exact HB.out)⟩
                      · rw [if_neg c26] at H
                        have c26b0 : (a0_0 == 116) = false := beq_eq_false_iff_ne.mpr c26
                        have c26b1 : (a0_0 != 116) = true := bne_iff_ne.mpr c26
                        obtain rfl := Option.some.inj H
                        go_wp2
                        go_ret
                        exact ⟨by first | rfl | (simp [errW_none, errW_some] <;> rfl) | (simp [*, errW_none, errW_some] <;> rfl), by repeat (first | (with_reducible first | exact HB.out | apply below_alloc | apply pw_below_drewN | apply below_drew1 | refine below_set ?_ GE185.out) | exact HB.out)⟩
def insn_looksAtK.j0 : Nat → Int → Bool → Option (Bool)
  | 0, _, _ => none
  | k + 1, x0, x4 => if x4 = true then (some false) else ((insn_alu.f k x0).bind fun t187 => (if t187 = true then (some ((Go.bits .and .u16 x0 8) == 0)) else ((insn_test.f k x0).bind fun t188 => (if t188 = true then (some ((Go.bits .and .u16 x0 8) == 0)) else (some true)))))
def insn_looksAtK.f (k : Nat) (a0 : Int) : Option (Bool) := if a0 = 128 then (insn_looksAtK.j0 k a0 (a0 == 128)) else (if a0 = 129 then (insn_looksAtK.j0 k a0 (a0 == 129)) else (if a0 = 132 then (insn_looksAtK.j0 k a0 (a0 == 132)) else (if a0 = 22 then (insn_looksAtK.j0 k a0 (a0 == 22)) else (if a0 = 7 then (insn_looksAtK.j0 k a0 (a0 == 7)) else (insn_looksAtK.j0 k a0 (a0 == 135))))))
set_option maxHeartbeats 8000000 in
set_option maxRecDepth 100000 in
theorem insn_looksAtK.calls (k : Nat) (a0 : Int) (r : Bool) (w : World) (h : insn_looksAtK.f k a0 = some r) :
    Calls Try.prog 150 #[.int .u16 a0] w fun e w' => e = .returned (.bool r) ∧ Drawn0 w w' := by
  have H : (if a0 = 128 then (insn_looksAtK.j0 k a0 (a0 == 128)) else (if a0 = 129 then (insn_looksAtK.j0 k a0 (a0 == 129)) else (if a0 = 132 then (insn_looksAtK.j0 k a0 (a0 == 132)) else (if a0 = 22 then (insn_looksAtK.j0 k a0 (a0 == 22)) else (if a0 = 7 then (insn_looksAtK.j0 k a0 (a0 == 7)) else (insn_looksAtK.j0 k a0 (a0 == 135))))))) = some r := h
  clear h
  have HC2 := Aside0.mk H
  clear H
  go_enter Try.func150, Try.ntmps150
  go_upto_if 4 with (fail)
  go_cut [4] (fun v4 wc => ∃ (kq : Nat) (x4_1 : Bool), v4 = .bool x4_1 ∧ Aside0 (insn_looksAtK.j0 kq a0 x4_1 = some r) ∧ Aside0 (kq ≤ k) ∧ Drawn0 w wc)
  case first =>
    have H := HC2.out
    clear HC2
    by_cases c3 : a0 = 128
    · rw [if_pos c3] at H
      have c3b0 : (a0 == 128) = true := beq_iff_eq.mpr c3
      have c3b1 : (a0 != 128) = false := bne_eq_false_iff_eq.mpr c3
      clear c3
      (first | rw [c3b0] | (simp only [i64_w, i32_w]; rw [c3b0]) | skip)
      have H' := Aside0.mk H
      clear H
      go_wp2
      go_meet
      case rel => exact ⟨_, ((a0 == 128)), (by first | rfl | (simp; done) | (simp [*]; done)), H', ⟨by first | omega | exact Nat.le_refl _⟩, by repeat (first | exact Drawn0.refl _ | apply Drawn0.step)⟩
    · rw [if_neg c3] at H
      have c3b0 : (a0 == 128) = false := beq_eq_false_iff_ne.mpr c3
      have c3b1 : (a0 != 128) = true := bne_iff_ne.mpr c3
      (first | rw [c3b0] | (simp only [i64_w, i32_w]; rw [c3b0]) | skip)
      by_cases c4 : a0 = 129
      · rw [if_pos c4] at H
        have c4b0 : (a0 == 129) = true := beq_iff_eq.mpr c4
        have c4b1 : (a0 != 129) = false := bne_eq_false_iff_eq.mpr c4
        clear c4
        have H' := Aside0.mk H
        clear H
        go_wp2
        go_meet
        case rel => exact ⟨_, ((a0 == 129)), (by first | rfl | (simp; done) | (simp [*]; done)), H', ⟨by first | omega | exact Nat.le_refl _⟩, by repeat (first | exact Drawn0.refl _ | apply Drawn0.step)⟩
      · rw [if_neg c4] at H
        have c4b0 : (a0 == 129) = false := beq_eq_false_iff_ne.mpr c4
        have c4b1 : (a0 != 129) = true := bne_iff_ne.mpr c4
        by_cases c5 : a0 = 132
        · rw [if_pos c5] at H
          have c5b0 : (a0 == 132) = true := beq_iff_eq.mpr c5
          have c5b1 : (a0 != 132) = false := bne_eq_false_iff_eq.mpr c5
          clear c5
          have H' := Aside0.mk H
          clear H
          go_wp2
          go_meet
          case rel => exact ⟨_, ((a0 == 132)), (by first | rfl | (simp; done) | (simp [*]; done)), H', ⟨by first | omega | exact Nat.le_refl _⟩, by repeat (first | exact Drawn0.refl _ | apply Drawn0.step)⟩
        · rw [if_neg c5] at H
          have c5b0 : (a0 == 132) = false := beq_eq_false_iff_ne.mpr c5
          have c5b1 : (a0 != 132) = true := bne_iff_ne.mpr c5
          by_cases c6 : a0 = 22
          · rw [if_pos c6] at H
            have c6b0 : (a0 == 22) = true := beq_iff_eq.mpr c6
            have c6b1 : (a0 != 22) = false := bne_eq_false_iff_eq.mpr c6
            clear c6
            have H' := Aside0.mk H
            clear H
            go_wp2
            go_meet
            case rel => exact ⟨_, ((a0 == 22)), (by first | rfl | (simp; done) | (simp [*]; done)), H', ⟨by first | omega | exact Nat.le_refl _⟩, by repeat (first | exact Drawn0.refl _ | apply Drawn0.step)⟩
          · rw [if_neg c6] at H
            have c6b0 : (a0 == 22) = false := beq_eq_false_iff_ne.mpr c6
            have c6b1 : (a0 != 22) = true := bne_iff_ne.mpr c6
            by_cases c7 : a0 = 7
            · rw [if_pos c7] at H
              have c7b0 : (a0 == 7) = true := beq_iff_eq.mpr c7
              have c7b1 : (a0 != 7) = false := bne_eq_false_iff_eq.mpr c7
              clear c7
              have H' := Aside0.mk H
              clear H
              go_wp2
              go_meet
              case rel => exact ⟨_, ((a0 == 7)), (by first | rfl | (simp; done) | (simp [*]; done)), H', ⟨by first | omega | exact Nat.le_refl _⟩, by repeat (first | exact Drawn0.refl _ | apply Drawn0.step)⟩
            · rw [if_neg c7] at H
              have c7b0 : (a0 == 7) = false := beq_eq_false_iff_ne.mpr c7
              have c7b1 : (a0 != 7) = true := bne_iff_ne.mpr c7
              have H' := Aside0.mk H
              clear H
              go_wp2
              go_meet
              case rel => exact ⟨_, ((a0 == 135)), (by first | rfl | (simp; done) | (simp [*]; done)), H', ⟨by first | omega | exact Nat.le_refl _⟩, by repeat (first | exact Drawn0.refl _ | apply Drawn0.step)⟩
  case rest =>
    clear HC2
    try clear c1
    try clear p2
    try clear c3
    try clear c3b0
    try clear c3b1
    try clear c4
    try clear c4b0
    try clear c4b1
    try clear c5
    try clear c5b0
    try clear c5b1
    try clear c6
    try clear c6b0
    try clear c6b1
    try clear c7
    try clear c7b0
    try clear c7b1
    obtain ⟨kq, x4_1, rfl, HA, HJ1, ⟨mc1, rfl⟩⟩ := hcut
    cases kq with
    | zero => exact absurd HA.out (by simp [insn_looksAtK.j0])
    | succ kj1 =>
      have H := HA.out
      clear HA
      simp only [insn_looksAtK.j0] at H
      by_cases c8 : x4_1 = true
      · subst c8
        have H1 : (some false) = some r := by rw [if_pos rfl] at H; exact H
        clear H
        have H := H1
        clear H1
        obtain rfl := Option.some.inj H
        go_wp2
        go_ret
        exact ⟨by first | rfl | (simp; done) | (simp [*]; done), by repeat (first | exact Drawn0.refl _ | apply Drawn0.step)⟩
      · replace c8 := Bool.eq_false_iff.mpr c8
        subst c8
        have H1 : ((insn_alu.f kj1 a0).bind fun t187 => (if t187 = true then (some ((Go.bits .and .u16 a0 8) == 0)) else ((insn_test.f kj1 a0).bind fun t188 => (if t188 = true then (some ((Go.bits .and .u16 a0 8) == 0)) else (some true))))) = some r := by rw [if_neg (show ¬ (false = true) by decide)] at H; exact H
        clear H
        have H := H1
        clear H1
        replace H := Option.bind_eq_some_iff.mp H
        obtain ⟨t187, A90, H⟩ := H
        replace H : (if t187 = true then (some ((Go.bits .and .u16 a0 8) == 0)) else ((insn_test.f kj1 a0).bind fun t188 => (if t188 = true then (some ((Go.bits .and .u16 a0 8) == 0)) else (some true)))) = some r := H
        have A9 := Aside0.mk A90
        clear A90
        by_cases c10 : t187 = true
        · subst c10
          have H1 : (some ((Go.bits .and .u16 a0 8) == 0)) = some r := by rw [if_pos rfl] at H; exact H
          clear H
          have H := H1
          clear H1
          obtain rfl := Option.some.inj H
          go_wp2_with (first | ((with_reducible refine gate_callee (f := 163) rfl ?_); refine goesL_ (some 12) rfl rfl Try.func163 (by kernel_rfl) rfl #[.int .u16 a0] rfl (by (try simp only [List.map_toArray, List.map_cons, List.map_nil]); first | done | rfl | (simp only [List.length_drop, List.length_take]; rfl)) ?_; (with_reducible refine (insn_alu.calls kj1 a0 true _ A9.out).mono ?_); rintro e w' ⟨rfl, ⟨nd, rfl⟩⟩; refine ⟨_, rfl, ?_⟩))
          go_ret
          exact ⟨by first | rfl | (simp; done) | (simp [*]; done), by repeat (first | exact Drawn0.refl _ | apply Drawn0.step)⟩
        · replace c10 := Bool.eq_false_iff.mpr c10
          subst c10
          have H1 : ((insn_test.f kj1 a0).bind fun t188 => (if t188 = true then (some ((Go.bits .and .u16 a0 8) == 0)) else (some true))) = some r := by rw [if_neg (show ¬ (false = true) by decide)] at H; exact H
          clear H
          have H := H1
          clear H1
          replace H := Option.bind_eq_some_iff.mp H
          obtain ⟨t188, A110, H⟩ := H
          replace H : (if t188 = true then (some ((Go.bits .and .u16 a0 8) == 0)) else (some true)) = some r := H
          have A11 := Aside0.mk A110
          clear A110
          by_cases c12 : t188 = true
          · subst c12
            have H1 : (some ((Go.bits .and .u16 a0 8) == 0)) = some r := by rw [if_pos rfl] at H; exact H
            clear H
            have H := H1
            clear H1
            obtain rfl := Option.some.inj H
            go_wp2_with (first | ((with_reducible refine gate_callee (f := 163) rfl ?_); refine goesL_ (some 12) rfl rfl Try.func163 (by kernel_rfl) rfl #[.int .u16 a0] rfl (by (try simp only [List.map_toArray, List.map_cons, List.map_nil]); first | done | rfl | (simp only [List.length_drop, List.length_take]; rfl)) ?_; (with_reducible refine (insn_alu.calls kj1 a0 false _ A9.out).mono ?_); rintro e w' ⟨rfl, ⟨nd, rfl⟩⟩; refine ⟨_, rfl, ?_⟩) | (go_at_call 151; (with_reducible refine (insn_test.calls kj1 a0 true _ A11.out).mono ?_); rintro e w' ⟨rfl, ⟨nd, rfl⟩⟩))
            go_ret
            exact ⟨by first | rfl | (simp; done) | (simp [*]; done), by repeat (first | exact Drawn0.refl _ | apply Drawn0.step)⟩
          · replace c12 := Bool.eq_false_iff.mpr c12
            subst c12
            have H1 : (some true) = some r := by rw [if_neg (show ¬ (false = true) by decide)] at H; exact H
            clear H
            have H := H1
            clear H1
            obtain rfl := Option.some.inj H
            go_wp2_with (first | ((with_reducible refine gate_callee (f := 163) rfl ?_); refine goesL_ (some 12) rfl rfl Try.func163 (by kernel_rfl) rfl #[.int .u16 a0] rfl (by (try simp only [List.map_toArray, List.map_cons, List.map_nil]); first | done | rfl | (simp only [List.length_drop, List.length_take]; rfl)) ?_; (with_reducible refine (insn_alu.calls kj1 a0 false _ A9.out).mono ?_); rintro e w' ⟨rfl, ⟨nd, rfl⟩⟩; refine ⟨_, rfl, ?_⟩) | (go_at_call 151; (with_reducible refine (insn_test.calls kj1 a0 false _ A11.out).mono ?_); rintro e w' ⟨rfl, ⟨nd, rfl⟩⟩))
            go_ret
            exact ⟨by first | rfl | (simp; done) | (simp [*]; done), by repeat (first | exact Drawn0.refl _ | apply Drawn0.step)⟩
def insn_mayFault.f (a0 : Int) : Option (Bool) := if a0 = 32 then (some true) else (if a0 = 40 then (some true) else (if a0 = 48 then (some true) else (if a0 = 64 then (some true) else (if a0 = 72 then (some true) else (if a0 = 80 then (some true) else (if a0 = 177 then (some true) else (if a0 = 60 then (some true) else (if a0 = 156 then (some true) else (some false)))))))))
set_option maxHeartbeats 8000000 in
set_option maxRecDepth 100000 in
theorem insn_mayFault.calls (a0 : Int) (r : Bool) (w : World) (h : insn_mayFault.f a0 = some r) :
    Calls Try.prog 152 #[.int .u16 a0] w fun e w' => e = .returned (.bool r) ∧ Drawn0 w w' := by
  have H : (if a0 = 32 then (some true) else (if a0 = 40 then (some true) else (if a0 = 48 then (some true) else (if a0 = 64 then (some true) else (if a0 = 72 then (some true) else (if a0 = 80 then (some true) else (if a0 = 177 then (some true) else (if a0 = 60 then (some true) else (if a0 = 156 then (some true) else (some false)))))))))) = some r := h
  clear h
  by_cases c2 : a0 = 32
  · rw [if_pos c2] at H
    have c2b0 : (a0 == 32) = true := beq_iff_eq.mpr c2
    have c2b1 : (a0 != 32) = false := bne_eq_false_iff_eq.mpr c2
    clear c2
    obtain rfl := Option.some.inj H
    go_enter Try.func152, Try.ntmps152
    go_wp2
    go_ret
    exact ⟨by first | rfl | (simp; done) | (simp [*]; done), by repeat (first | exact Drawn0.refl _ | apply Drawn0.step)⟩
  · rw [if_neg c2] at H
    have c2b0 : (a0 == 32) = false := beq_eq_false_iff_ne.mpr c2
    have c2b1 : (a0 != 32) = true := bne_iff_ne.mpr c2
    by_cases c3 : a0 = 40
    · rw [if_pos c3] at H
      have c3b0 : (a0 == 40) = true := beq_iff_eq.mpr c3
      have c3b1 : (a0 != 40) = false := bne_eq_false_iff_eq.mpr c3
      clear c3
      obtain rfl := Option.some.inj H
      go_enter Try.func152, Try.ntmps152
      go_wp2
      go_ret
      exact ⟨by first | rfl | (simp; done) | (simp [*]; done), by repeat (first | exact Drawn0.refl _ | apply Drawn0.step)⟩
    · rw [if_neg c3] at H
      have c3b0 : (a0 == 40) = false := beq_eq_false_iff_ne.mpr c3
      have c3b1 : (a0 != 40) = true := bne_iff_ne.mpr c3
      by_cases c4 : a0 = 48
      · rw [if_pos c4] at H
        have c4b0 : (a0 == 48) = true := beq_iff_eq.mpr c4
        have c4b1 : (a0 != 48) = false := bne_eq_false_iff_eq.mpr c4
        clear c4
        obtain rfl := Option.some.inj H
        go_enter Try.func152, Try.ntmps152
        go_wp2
        go_ret
        exact ⟨by first | rfl | (simp; done) | (simp [*]; done), by repeat (first | exact Drawn0.refl _ | apply Drawn0.step)⟩
      · rw [if_neg c4] at H
        have c4b0 : (a0 == 48) = false := beq_eq_false_iff_ne.mpr c4
        have c4b1 : (a0 != 48) = true := bne_iff_ne.mpr c4
        by_cases c5 : a0 = 64
        · rw [if_pos c5] at H
          have c5b0 : (a0 == 64) = true := beq_iff_eq.mpr c5
          have c5b1 : (a0 != 64) = false := bne_eq_false_iff_eq.mpr c5
          clear c5
          obtain rfl := Option.some.inj H
          go_enter Try.func152, Try.ntmps152
          go_wp2
          go_ret
          exact ⟨by first | rfl | (simp; done) | (simp [*]; done), by repeat (first | exact Drawn0.refl _ | apply Drawn0.step)⟩
        · rw [if_neg c5] at H
          have c5b0 : (a0 == 64) = false := beq_eq_false_iff_ne.mpr c5
          have c5b1 : (a0 != 64) = true := bne_iff_ne.mpr c5
          by_cases c6 : a0 = 72
          · rw [if_pos c6] at H
            have c6b0 : (a0 == 72) = true := beq_iff_eq.mpr c6
            have c6b1 : (a0 != 72) = false := bne_eq_false_iff_eq.mpr c6
            clear c6
            obtain rfl := Option.some.inj H
            go_enter Try.func152, Try.ntmps152
            go_wp2
            go_ret
            exact ⟨by first | rfl | (simp; done) | (simp [*]; done), by repeat (first | exact Drawn0.refl _ | apply Drawn0.step)⟩
          · rw [if_neg c6] at H
            have c6b0 : (a0 == 72) = false := beq_eq_false_iff_ne.mpr c6
            have c6b1 : (a0 != 72) = true := bne_iff_ne.mpr c6
            by_cases c7 : a0 = 80
            · rw [if_pos c7] at H
              have c7b0 : (a0 == 80) = true := beq_iff_eq.mpr c7
              have c7b1 : (a0 != 80) = false := bne_eq_false_iff_eq.mpr c7
              clear c7
              obtain rfl := Option.some.inj H
              go_enter Try.func152, Try.ntmps152
              go_wp2
              go_ret
              exact ⟨by first | rfl | (simp; done) | (simp [*]; done), by repeat (first | exact Drawn0.refl _ | apply Drawn0.step)⟩
            · rw [if_neg c7] at H
              have c7b0 : (a0 == 80) = false := beq_eq_false_iff_ne.mpr c7
              have c7b1 : (a0 != 80) = true := bne_iff_ne.mpr c7
              by_cases c8 : a0 = 177
              · rw [if_pos c8] at H
                have c8b0 : (a0 == 177) = true := beq_iff_eq.mpr c8
                have c8b1 : (a0 != 177) = false := bne_eq_false_iff_eq.mpr c8
                clear c8
                obtain rfl := Option.some.inj H
                go_enter Try.func152, Try.ntmps152
                go_wp2
                go_ret
                exact ⟨by first | rfl | (simp; done) | (simp [*]; done), by repeat (first | exact Drawn0.refl _ | apply Drawn0.step)⟩
              · rw [if_neg c8] at H
                have c8b0 : (a0 == 177) = false := beq_eq_false_iff_ne.mpr c8
                have c8b1 : (a0 != 177) = true := bne_iff_ne.mpr c8
                by_cases c9 : a0 = 60
                · rw [if_pos c9] at H
                  have c9b0 : (a0 == 60) = true := beq_iff_eq.mpr c9
                  have c9b1 : (a0 != 60) = false := bne_eq_false_iff_eq.mpr c9
                  clear c9
                  obtain rfl := Option.some.inj H
                  go_enter Try.func152, Try.ntmps152
                  go_wp2
                  go_ret
                  exact ⟨by first | rfl | (simp; done) | (simp [*]; done), by repeat (first | exact Drawn0.refl _ | apply Drawn0.step)⟩
                · rw [if_neg c9] at H
                  have c9b0 : (a0 == 60) = false := beq_eq_false_iff_ne.mpr c9
                  have c9b1 : (a0 != 60) = true := bne_iff_ne.mpr c9
                  by_cases c10 : a0 = 156
                  · rw [if_pos c10] at H
                    have c10b0 : (a0 == 156) = true := beq_iff_eq.mpr c10
                    have c10b1 : (a0 != 156) = false := bne_eq_false_iff_eq.mpr c10
                    clear c10
                    obtain rfl := Option.some.inj H
                    go_enter Try.func152, Try.ntmps152
                    go_wp2
                    go_ret
                    exact ⟨by first | rfl | (simp; done) | (simp [*]; done), by repeat (first | exact Drawn0.refl _ | apply Drawn0.step)⟩
                  · rw [if_neg c10] at H
                    have c10b0 : (a0 == 156) = false := beq_eq_false_iff_ne.mpr c10
                    have c10b1 : (a0 != 156) = true := bne_iff_ne.mpr c10
                    obtain rfl := Option.some.inj H
                    go_enter Try.func152, Try.ntmps152
                    go_wp2
                    go_ret
                    exact ⟨by first | rfl | (simp; done) | (simp [*]; done), by repeat (first | exact Drawn0.refl _ | apply Drawn0.step)⟩
def insn_Uses.f (k : Nat) (a0 : Int) : Option (Bool × Bool × Bool) := (insn_Known.f k a0).bind fun t189 => (if t189 = true then ((insn_looksAtK.f k a0).bind fun t190 => ((insn_test.f k a0).bind fun t191 => ((insn_mayFault.f a0).bind fun t192 => (some (t190, t191, t192))))) else (some (false, false, false)))
set_option maxHeartbeats 8000000 in
set_option maxRecDepth 100000 in
theorem insn_Uses.calls (k : Nat) (a0 : Int) (r1 : Bool) (r2 : Bool) (r3 : Bool) (w : World) (h : insn_Uses.f k a0 = some (r1, r2, r3)) :
    Calls Try.prog 100 #[.int .u16 a0] w fun e w' => e = .returned (.tuple #[.bool r1, .bool r2, .bool r3]) ∧ Drawn0 w w' := by
  have H : ((insn_Known.f k a0).bind fun t189 => (if t189 = true then ((insn_looksAtK.f k a0).bind fun t190 => ((insn_test.f k a0).bind fun t191 => ((insn_mayFault.f a0).bind fun t192 => (some (t190, t191, t192))))) else (some (false, false, false)))) = some (r1, r2, r3) := h
  clear h
  replace H := Option.bind_eq_some_iff.mp H
  obtain ⟨t189, A20, H⟩ := H
  replace H : (if t189 = true then ((insn_looksAtK.f k a0).bind fun t190 => ((insn_test.f k a0).bind fun t191 => ((insn_mayFault.f a0).bind fun t192 => (some (t190, t191, t192))))) else (some (false, false, false))) = some (r1, r2, r3) := H
  have A2 := Aside0.mk A20
  clear A20
  by_cases c3 : t189 = true
  · subst c3
    have H1 : ((insn_looksAtK.f k a0).bind fun t190 => ((insn_test.f k a0).bind fun t191 => ((insn_mayFault.f a0).bind fun t192 => (some (t190, t191, t192))))) = some (r1, r2, r3) := by rw [if_pos rfl] at H; exact H
    clear H
    have H := H1
    clear H1
    replace H := Option.bind_eq_some_iff.mp H
    obtain ⟨t190, A40, H⟩ := H
    replace H : ((insn_test.f k a0).bind fun t191 => ((insn_mayFault.f a0).bind fun t192 => (some (t190, t191, t192)))) = some (r1, r2, r3) := H
    have A4 := Aside0.mk A40
    clear A40
    replace H := Option.bind_eq_some_iff.mp H
    obtain ⟨t191, A50, H⟩ := H
    replace H : ((insn_mayFault.f a0).bind fun t192 => (some (t190, t191, t192))) = some (r1, r2, r3) := H
    have A5 := Aside0.mk A50
    clear A50
    replace H := Option.bind_eq_some_iff.mp H
    obtain ⟨t192, A60, H⟩ := H
    replace H : (some (t190, t191, t192)) = some (r1, r2, r3) := H
    have A6 := Aside0.mk A60
    clear A60
    simp only [Option.some.injEq, Prod.mk.injEq] at H
    obtain ⟨rfl, rfl, rfl⟩ := H
    go_enter Try.func100, Try.ntmps100
    go_wp2_with (first | ((with_reducible refine gate_callee (f := 143) rfl ?_); refine goesL_ (some 6) rfl rfl Try.func143 (by kernel_rfl) rfl #[.int .u16 a0] rfl (by (try simp only [List.map_toArray, List.map_cons, List.map_nil]); first | done | rfl | (simp only [List.length_drop, List.length_take]; rfl)) ?_; (with_reducible refine (insn_Known.calls k a0 true _ A2.out).mono ?_); rintro e w' ⟨rfl, ⟨nd, rfl⟩⟩; refine ⟨_, rfl, ?_⟩) | ((with_reducible refine gate_callee (f := 150) rfl ?_); refine goesL_ (some 9) rfl rfl Try.func150 (by kernel_rfl) rfl #[.int .u16 a0] rfl (by (try simp only [List.map_toArray, List.map_cons, List.map_nil]); first | done | rfl | (simp only [List.length_drop, List.length_take]; rfl)) ?_; (with_reducible refine (insn_looksAtK.calls k a0 t190 _ A4.out).mono ?_); rintro e w' ⟨rfl, ⟨nd, rfl⟩⟩; refine ⟨_, rfl, ?_⟩) | ((with_reducible refine gate_callee (f := 151) rfl ?_); refine goesL_ (some 11) rfl rfl Try.func151 (by kernel_rfl) rfl #[.int .u16 a0] rfl (by (try simp only [List.map_toArray, List.map_cons, List.map_nil]); first | done | rfl | (simp only [List.length_drop, List.length_take]; rfl)) ?_; (with_reducible refine (insn_test.calls k a0 t191 _ A5.out).mono ?_); rintro e w' ⟨rfl, ⟨nd, rfl⟩⟩; refine ⟨_, rfl, ?_⟩) | ((with_reducible refine gate_callee (f := 152) rfl ?_); refine goesL_ (some 13) rfl rfl Try.func152 (by kernel_rfl) rfl #[.int .u16 a0] rfl (by (try simp only [List.map_toArray, List.map_cons, List.map_nil]); first | done | rfl | (simp only [List.length_drop, List.length_take]; rfl)) ?_; (with_reducible refine (insn_mayFault.calls a0 t192 _ A6.out).mono ?_); rintro e w' ⟨rfl, ⟨nd, rfl⟩⟩; refine ⟨_, rfl, ?_⟩))
    go_ret3
    exact ⟨by first | rfl | (simp; done) | (simp [*]; done), by repeat (first | exact Drawn0.refl _ | apply Drawn0.step)⟩
  · replace c3 := Bool.eq_false_iff.mpr c3
    subst c3
    have H1 : (some (false, false, false)) = some (r1, r2, r3) := by rw [if_neg (show ¬ (false = true) by decide)] at H; exact H
    clear H
    have H := H1
    clear H1
    simp only [Option.some.injEq, Prod.mk.injEq] at H
    obtain ⟨rfl, rfl, rfl⟩ := H
    go_enter Try.func100, Try.ntmps100
    go_wp2_with (first | ((with_reducible refine gate_callee (f := 143) rfl ?_); refine goesL_ (some 6) rfl rfl Try.func143 (by kernel_rfl) rfl #[.int .u16 a0] rfl (by (try simp only [List.map_toArray, List.map_cons, List.map_nil]); first | done | rfl | (simp only [List.length_drop, List.length_take]; rfl)) ?_; (with_reducible refine (insn_Known.calls k a0 false _ A2.out).mono ?_); rintro e w' ⟨rfl, ⟨nd, rfl⟩⟩; refine ⟨_, rfl, ?_⟩))
    go_ret3
    exact ⟨by first | rfl | (simp; done) | (simp [*]; done), by repeat (first | exact Drawn0.refl _ | apply Drawn0.step)⟩
end Go.Proofs.Ytdkalnkplgfgoaa.PA
