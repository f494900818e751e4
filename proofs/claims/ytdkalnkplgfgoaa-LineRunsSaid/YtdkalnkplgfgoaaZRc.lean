/- Lemmas and walks for the statement in YtdkalnkplgfgoaaZRm: the declarations that it needs, taken together by a program of this session. Conditions: as each says. -/
import Derived.Test.YtdkalnkplgfgoaaZRb
namespace Go.Proofs.Ytdkalnkplgfgoaa.PA
open Go.RowKit Go.Proofs.YtdkalnkplgfgoaaW.PrintWords Go.Proofs.YtdkalnkplgfgoaaW.PrintLast Go.Proofs.YtdkalnkplgfgoaaW.PrintMore
attribute [local go_sem] max2_int min2_int max_two min_two max_three min_three max_four min_four   -- for this text's walks alone
set_option linter.unusedVariables false
set_option linter.unusedSimpArgs false
def riddleref2_ByX.f (k : Nat) (a0 : Int) : Option (Bool) := (riddleref2_Jump.f a0).bind fun t112 => (if t112 = true then (some ((Go.bits .and .u16 a0 8) != 0)) else ((riddleref2_Operation.f k a0).bind fun t113 => (if t113 = true then (some ((Go.bits .and .u16 a0 8) != 0)) else (some false))))
theorem riddleref2_ByX.mono : ∀ a0 k, LeO (riddleref2_ByX.f k a0) (riddleref2_ByX.f (k + 1) a0) := by
  intro a0 k
  unfold riddleref2_ByX.f
  repeat' first
      | (with_reducible exact riddleref2_Operation.mono _ _)
      | (with_reducible exact LeO.refl _)
      | (with_reducible exact LeO.none _)
      | (with_reducible refine LeO.ite ?_ ?_)
      | (with_reducible refine LeO.bind ?_ (fun _ => ?_))
      | exact riddleref2_Operation.mono _ _
      | exact LeO.none _
      | refine LeO.ite ?_ ?_
      | refine LeO.bind ?_ (fun _ => ?_)
set_option maxHeartbeats 8000000 in
set_option maxRecDepth 100000 in
theorem riddleref2_ByX.calls (k : Nat) (a0 : Int) (r : Bool) (w : World) (h : riddleref2_ByX.f k a0 = some r) :
    Calls Try.prog 58 #[.int .u16 a0] w fun e w' => e = .returned (.bool r) ∧ Drawn0 w w' := by
  have H : ((riddleref2_Jump.f a0).bind fun t112 => (if t112 = true then (some ((Go.bits .and .u16 a0 8) != 0)) else ((riddleref2_Operation.f k a0).bind fun t113 => (if t113 = true then (some ((Go.bits .and .u16 a0 8) != 0)) else (some false))))) = some r := h
  clear h
  replace H := Option.bind_eq_some_iff.mp H
  obtain ⟨t112, A20, H⟩ := H
  replace H : (if t112 = true then (some ((Go.bits .and .u16 a0 8) != 0)) else ((riddleref2_Operation.f k a0).bind fun t113 => (if t113 = true then (some ((Go.bits .and .u16 a0 8) != 0)) else (some false)))) = some r := H
  have A2 := Aside0.mk A20
  clear A20
  by_cases c3 : t112 = true
  · subst c3
    have H1 : (some ((Go.bits .and .u16 a0 8) != 0)) = some r := by rw [if_pos rfl] at H; exact H
    clear H
    have H := H1
    clear H1
    obtain rfl := Option.some.inj H
    go_enter Try.func58, Try.ntmps58
    go_wp2_with (first | ((with_reducible refine gate_callee (f := 50) rfl ?_); refine goesL_ (some 4) rfl rfl Try.func50 (by kernel_rfl) rfl #[.int .u16 a0] rfl (by (try simp only [List.map_toArray, List.map_cons, List.map_nil]); first | done | rfl | (simp only [List.length_drop, List.length_take]; rfl)) ?_; (with_reducible refine (riddleref2_Jump.calls a0 true _ A2.out).mono ?_); rintro e w' ⟨rfl, ⟨nd, rfl⟩⟩; refine ⟨_, rfl, ?_⟩))
    go_ret
    exact ⟨by first | rfl | (simp; done) | (simp [*]; done), by repeat (first | exact Drawn0.refl _ | apply Drawn0.step)⟩
  · replace c3 := Bool.eq_false_iff.mpr c3
    subst c3
    have H1 : ((riddleref2_Operation.f k a0).bind fun t113 => (if t113 = true then (some ((Go.bits .and .u16 a0 8) != 0)) else (some false))) = some r := by rw [if_neg (show ¬ (false = true) by decide)] at H; exact H
    clear H
    have H := H1
    clear H1
    replace H := Option.bind_eq_some_iff.mp H
    obtain ⟨t113, A40, H⟩ := H
    replace H : (if t113 = true then (some ((Go.bits .and .u16 a0 8) != 0)) else (some false)) = some r := H
    have A4 := Aside0.mk A40
    clear A40
    by_cases c5 : t113 = true
    · subst c5
      have H1 : (some ((Go.bits .and .u16 a0 8) != 0)) = some r := by rw [if_pos rfl] at H; exact H
      clear H
      have H := H1
      clear H1
      obtain rfl := Option.some.inj H
      go_enter Try.func58, Try.ntmps58
      go_wp2_with (first | ((with_reducible refine gate_callee (f := 50) rfl ?_); refine goesL_ (some 4) rfl rfl Try.func50 (by kernel_rfl) rfl #[.int .u16 a0] rfl (by (try simp only [List.map_toArray, List.map_cons, List.map_nil]); first | done | rfl | (simp only [List.length_drop, List.length_take]; rfl)) ?_; (with_reducible refine (riddleref2_Jump.calls a0 false _ A2.out).mono ?_); rintro e w' ⟨rfl, ⟨nd, rfl⟩⟩; refine ⟨_, rfl, ?_⟩) | (go_at_call 92; (with_reducible refine (riddleref2_Operation.calls k a0 true _ A4.out).mono ?_); rintro e w' ⟨rfl, ⟨nd, rfl⟩⟩))
      go_ret
      exact ⟨by first | rfl | (simp; done) | (simp [*]; done), by repeat (first | exact Drawn0.refl _ | apply Drawn0.step)⟩
    · replace c5 := Bool.eq_false_iff.mpr c5
      subst c5
      have H1 : (some false) = some r := by rw [if_neg (show ¬ (false = true) by decide)] at H; exact H
      clear H
      have H := H1
      clear H1
      obtain rfl := Option.some.inj H
      go_enter Try.func58, Try.ntmps58
      go_wp2_with (first | ((with_reducible refine gate_callee (f := 50) rfl ?_); refine goesL_ (some 4) rfl rfl Try.func50 (by kernel_rfl) rfl #[.int .u16 a0] rfl (by (try simp only [List.map_toArray, List.map_cons, List.map_nil]); first | done | rfl | (simp only [List.length_drop, List.length_take]; rfl)) ?_; (with_reducible refine (riddleref2_Jump.calls a0 false _ A2.out).mono ?_); rintro e w' ⟨rfl, ⟨nd, rfl⟩⟩; refine ⟨_, rfl, ?_⟩) | (go_at_call 92; (with_reducible refine (riddleref2_Operation.calls k a0 false _ A4.out).mono ?_); rintro e w' ⟨rfl, ⟨nd, rfl⟩⟩))
      go_ret
      exact ⟨by first | rfl | (simp; done) | (simp [*]; done), by repeat (first | exact Drawn0.refl _ | apply Drawn0.step)⟩
def riddleref2_Load.f (a0 : Int) : Option (Bool) := if a0 = 32 then (some true) else (if a0 = 40 then (some true) else (if a0 = 48 then (some true) else (if a0 = 64 then (some true) else (if a0 = 72 then (some true) else (if a0 = 80 then (some true) else (if a0 = 177 then (some true) else (some false)))))))
set_option maxHeartbeats 8000000 in
set_option maxRecDepth 100000 in
theorem riddleref2_Load.calls (a0 : Int) (r : Bool) (w : World) (h : riddleref2_Load.f a0 = some r) :
    Calls Try.prog 138 #[.int .u16 a0] w fun e w' => e = .returned (.bool r) ∧ Drawn0 w w' := by
  have H : (if a0 = 32 then (some true) else (if a0 = 40 then (some true) else (if a0 = 48 then (some true) else (if a0 = 64 then (some true) else (if a0 = 72 then (some true) else (if a0 = 80 then (some true) else (if a0 = 177 then (some true) else (some false)))))))) = some r := h
  clear h
  by_cases c2 : a0 = 32
  · rw [if_pos c2] at H
    have c2b0 : (a0 == 32) = true := beq_iff_eq.mpr c2
    have c2b1 : (a0 != 32) = false := bne_eq_false_iff_eq.mpr c2
    clear c2
    obtain rfl := Option.some.inj H
    go_enter Try.func138, Try.ntmps138
    go_wp2
    go_ret
    exact ⟨by first | rfl | (simp; done) | (simp [*]; done), by repeat (first | exact Drawn0.refl _ | apply Drawn0.step)⟩
  · rw [if_neg c2] at H
    have c2b0 : (a0 == 32) = false := beq_eq_false_iff_ne.mpr c2
    have c2b1 : (a0 != 32) = true := bne_iff_ne.mpr c2
    by_cases c3 : a0 = 40
    · rw [if_pos c3] at H
      have c3b0 : (a0 == 40) = true := beq_iff_eq.mpr c3
      have c3b1 : (a0 != 40) = false := bne_eq_false_iff_eq.mpr c3
      clear c3
      obtain rfl := Option.some.inj H
      go_enter Try.func138, Try.ntmps138
      go_wp2
      go_ret
      exact ⟨by first | rfl | (simp; done) | (simp [*]; done), by repeat (first | exact Drawn0.refl _ | apply Drawn0.step)⟩
    · rw [if_neg c3] at H
      have c3b0 : (a0 == 40) = false := beq_eq_false_iff_ne.mpr c3
      have c3b1 : (a0 != 40) = true := bne_iff_ne.mpr c3
      by_cases c4 : a0 = 48
      · rw [if_pos c4] at H
        have c4b0 : (a0 == 48) = true := beq_iff_eq.mpr c4
        have c4b1 : (a0 != 48) = false := bne_eq_false_iff_eq.mpr c4
        clear c4
        obtain rfl := Option.some.inj H
        go_enter Try.func138, Try.ntmps138
        go_wp2
        go_ret
        exact ⟨by first | rfl | (simp; done) | (simp [*]; done), by repeat (first | exact Drawn0.refl _ | apply Drawn0.step)⟩
      · rw [if_neg c4] at H
        have c4b0 : (a0 == 48) = false := beq_eq_false_iff_ne.mpr c4
        have c4b1 : (a0 != 48) = true := bne_iff_ne.mpr c4
        by_cases c5 : a0 = 64
        · rw [if_pos c5] at H
          have c5b0 : (a0 == 64) = true := beq_iff_eq.mpr c5
          have c5b1 : (a0 != 64) = false := bne_eq_false_iff_eq.mpr c5
          clear c5
          obtain rfl := Option.some.inj H
          go_enter Try.func138, Try.ntmps138
          go_wp2
          go_ret
          exact ⟨by first | rfl | (simp; done) | (simp [*]; done), by repeat (first | exact Drawn0.refl _ | apply Drawn0.step)⟩
        · rw [if_neg c5] at H
          have c5b0 : (a0 == 64) = false := beq_eq_false_iff_ne.mpr c5
          have c5b1 : (a0 != 64) = true := bne_iff_ne.mpr c5
          by_cases c6 : a0 = 72
          · rw [if_pos c6] at H
            have c6b0 : (a0 == 72) = true := beq_iff_eq.mpr c6
            have c6b1 : (a0 != 72) = false := bne_eq_false_iff_eq.mpr c6
            clear c6
            obtain rfl := Option.some.inj H
            go_enter Try.func138, Try.ntmps138
            go_wp2
            go_ret
            exact ⟨by first | rfl | (simp; done) | (simp [*]; done), by repeat (first | exact Drawn0.refl _ | apply Drawn0.step)⟩
          · rw [if_neg c6] at H
            have c6b0 : (a0 == 72) = false := beq_eq_false_iff_ne.mpr c6
            have c6b1 : (a0 != 72) = true := bne_iff_ne.mpr c6
            by_cases c7 : a0 = 80
            · rw [if_pos c7] at H
              have c7b0 : (a0 == 80) = true := beq_iff_eq.mpr c7
              have c7b1 : (a0 != 80) = false := bne_eq_false_iff_eq.mpr c7
              clear c7
              obtain rfl := Option.some.inj H
              go_enter Try.func138, Try.ntmps138
              go_wp2
              go_ret
              exact ⟨by first | rfl | (simp; done) | (simp [*]; done), by repeat (first | exact Drawn0.refl _ | apply Drawn0.step)⟩
            · rw [if_neg c7] at H
              have c7b0 : (a0 == 80) = false := beq_eq_false_iff_ne.mpr c7
              have c7b1 : (a0 != 80) = true := bne_iff_ne.mpr c7
              by_cases c8 : a0 = 177
              · rw [if_pos c8] at H
                have c8b0 : (a0 == 177) = true := beq_iff_eq.mpr c8
                have c8b1 : (a0 != 177) = false := bne_eq_false_iff_eq.mpr c8
                clear c8
                obtain rfl := Option.some.inj H
                go_enter Try.func138, Try.ntmps138
                go_wp2
                go_ret
                exact ⟨by first | rfl | (simp; done) | (simp [*]; done), by repeat (first | exact Drawn0.refl _ | apply Drawn0.step)⟩
              · rw [if_neg c8] at H
                have c8b0 : (a0 == 177) = false := beq_eq_false_iff_ne.mpr c8
                have c8b1 : (a0 != 177) = true := bne_iff_ne.mpr c8
                obtain rfl := Option.some.inj H
                go_enter Try.func138, Try.ntmps138
                go_wp2
                go_ret
                exact ⟨by first | rfl | (simp; done) | (simp [*]; done), by repeat (first | exact Drawn0.refl _ | apply Drawn0.step)⟩
def riddleref2_Uses.j0 : Nat → Int → Bool → Bool → Option (Bool × Bool × Bool)
  | 0, _, _, _ => none
  | k + 1, x0, x5, x13 => if x13 = true then ((riddleref2_Jump.f x0).bind fun t116 => ((riddleref2_Load.f x0).bind fun t117 => (if t117 = true then (some (false, t116, true)) else (if x0 = 60 then (some (false, t116, true)) else (some (false, t116, (x0 == 156))))))) else ((riddleref2_Jump.f x0).bind fun t118 => ((riddleref2_Load.f x0).bind fun t119 => (if t119 = true then (some (x5, t118, true)) else (if x0 = 60 then (some (x5, t118, true)) else (some (x5, t118, (x0 == 156)))))))
def riddleref2_Uses.f (k : Nat) (a0 : Int) : Option (Bool × Bool × Bool) := (riddleref2_Known.f k a0).bind fun t114 => (if t114 = true then ((riddleref2_ByX.f k a0).bind fun t115 => (if a0 = 128 then (riddleref2_Uses.j0 k a0 (!t115) (a0 == 128)) else (if a0 = 129 then (riddleref2_Uses.j0 k a0 (!t115) (a0 == 129)) else (if a0 = 132 then (riddleref2_Uses.j0 k a0 (!t115) (a0 == 132)) else (if a0 = 22 then (riddleref2_Uses.j0 k a0 (!t115) (a0 == 22)) else (if a0 = 7 then (riddleref2_Uses.j0 k a0 (!t115) (a0 == 7)) else (riddleref2_Uses.j0 k a0 (!t115) (a0 == 135)))))))) else (some (false, false, false)))
theorem riddleref2_Uses.mono_l : ∀ k, (∀ y0 y1 y2, LeO (riddleref2_Uses.j0 k y0 y1 y2) (riddleref2_Uses.j0 (k + 1) y0 y1 y2))
  | 0 => fun _ _ _ r h => by simp [riddleref2_Uses.j0] at h
  | k + 1 => by
    have ih0 := riddleref2_Uses.mono_l k
    · intro y0 y1 y2
      unfold riddleref2_Uses.j0
      repeat' first
      | (with_reducible exact ih0 _ _ _)
      | (with_reducible exact riddleref2_ByX.mono _ _)
      | (with_reducible exact riddleref2_Known.mono _ _)
      | (with_reducible exact LeO.refl _)
      | (with_reducible exact LeO.none _)
      | (with_reducible refine LeO.ite ?_ ?_)
      | (with_reducible refine LeO.bind ?_ (fun _ => ?_))
      | exact ih0 _ _ _
      | exact riddleref2_ByX.mono _ _
      | exact riddleref2_Known.mono _ _
      | exact LeO.none _
      | refine LeO.ite ?_ ?_
      | refine LeO.bind ?_ (fun _ => ?_)
theorem riddleref2_Uses.mono : ∀ a0 k, LeO (riddleref2_Uses.f k a0) (riddleref2_Uses.f (k + 1) a0) := by
  intro a0 k
  have ih0 := riddleref2_Uses.mono_l k
  unfold riddleref2_Uses.f
  repeat' first
      | (with_reducible exact ih0 _ _ _)
      | (with_reducible exact riddleref2_ByX.mono _ _)
      | (with_reducible exact riddleref2_Known.mono _ _)
      | (with_reducible exact LeO.refl _)
      | (with_reducible exact LeO.none _)
      | (with_reducible refine LeO.ite ?_ ?_)
      | (with_reducible refine LeO.bind ?_ (fun _ => ?_))
      | exact ih0 _ _ _
      | exact riddleref2_ByX.mono _ _
      | exact riddleref2_Known.mono _ _
      | exact LeO.none _
      | refine LeO.ite ?_ ?_
      | refine LeO.bind ?_ (fun _ => ?_)
set_option maxHeartbeats 8000000 in
set_option maxRecDepth 100000 in
theorem riddleref2_Uses.calls (k : Nat) (a0 : Int) (r1 : Bool) (r2 : Bool) (r3 : Bool) (w : World) (h : riddleref2_Uses.f k a0 = some (r1, r2, r3)) :
    Calls Try.prog 94 #[.int .u16 a0] w fun e w' => e = .returned (.tuple #[.bool r1, .bool r2, .bool r3]) ∧ Drawn0 w w' := by
  have H : ((riddleref2_Known.f k a0).bind fun t114 => (if t114 = true then ((riddleref2_ByX.f k a0).bind fun t115 => (if a0 = 128 then (riddleref2_Uses.j0 k a0 (!t115) (a0 == 128)) else (if a0 = 129 then (riddleref2_Uses.j0 k a0 (!t115) (a0 == 129)) else (if a0 = 132 then (riddleref2_Uses.j0 k a0 (!t115) (a0 == 132)) else (if a0 = 22 then (riddleref2_Uses.j0 k a0 (!t115) (a0 == 22)) else (if a0 = 7 then (riddleref2_Uses.j0 k a0 (!t115) (a0 == 7)) else (riddleref2_Uses.j0 k a0 (!t115) (a0 == 135)))))))) else (some (false, false, false)))) = some (r1, r2, r3) := h
  clear h
  replace H := Option.bind_eq_some_iff.mp H
  obtain ⟨t114, A20, H⟩ := H
  replace H : (if t114 = true then ((riddleref2_ByX.f k a0).bind fun t115 => (if a0 = 128 then (riddleref2_Uses.j0 k a0 (!t115) (a0 == 128)) else (if a0 = 129 then (riddleref2_Uses.j0 k a0 (!t115) (a0 == 129)) else (if a0 = 132 then (riddleref2_Uses.j0 k a0 (!t115) (a0 == 132)) else (if a0 = 22 then (riddleref2_Uses.j0 k a0 (!t115) (a0 == 22)) else (if a0 = 7 then (riddleref2_Uses.j0 k a0 (!t115) (a0 == 7)) else (riddleref2_Uses.j0 k a0 (!t115) (a0 == 135)))))))) else (some (false, false, false))) = some (r1, r2, r3) := H
  have A2 := Aside0.mk A20
  clear A20
  by_cases c3 : t114 = true
  · subst c3
    have H1 : ((riddleref2_ByX.f k a0).bind fun t115 => (if a0 = 128 then (riddleref2_Uses.j0 k a0 (!t115) (a0 == 128)) else (if a0 = 129 then (riddleref2_Uses.j0 k a0 (!t115) (a0 == 129)) else (if a0 = 132 then (riddleref2_Uses.j0 k a0 (!t115) (a0 == 132)) else (if a0 = 22 then (riddleref2_Uses.j0 k a0 (!t115) (a0 == 22)) else (if a0 = 7 then (riddleref2_Uses.j0 k a0 (!t115) (a0 == 7)) else (riddleref2_Uses.j0 k a0 (!t115) (a0 == 135)))))))) = some (r1, r2, r3) := by rw [if_pos rfl] at H; exact H
    clear H
    have H := H1
    clear H1
    replace H := Option.bind_eq_some_iff.mp H
    obtain ⟨t115, A40, H⟩ := H
    replace H : (if a0 = 128 then (riddleref2_Uses.j0 k a0 (!t115) (a0 == 128)) else (if a0 = 129 then (riddleref2_Uses.j0 k a0 (!t115) (a0 == 129)) else (if a0 = 132 then (riddleref2_Uses.j0 k a0 (!t115) (a0 == 132)) else (if a0 = 22 then (riddleref2_Uses.j0 k a0 (!t115) (a0 == 22)) else (if a0 = 7 then (riddleref2_Uses.j0 k a0 (!t115) (a0 == 7)) else (riddleref2_Uses.j0 k a0 (!t115) (a0 == 135))))))) = some (r1, r2, r3) := H
    have A4 := Aside0.mk A40
    clear A40
    have HC5 := Aside0.mk H
    clear H
    go_enter Try.func94, Try.ntmps94
    go_upto_if 13 with (first | ((with_reducible refine gate_callee (f := 81) rfl ?_); refine goesL_ (some 7) rfl rfl Try.func81 (by kernel_rfl) rfl #[.int .u16 a0] rfl (by (try simp only [List.map_toArray, List.map_cons, List.map_nil]); first | done | rfl | (simp only [List.length_drop, List.length_take]; rfl)) ?_; (with_reducible refine (riddleref2_Known.calls k a0 true _ A2.out).mono ?_); rintro e w' ⟨rfl, ⟨nd, rfl⟩⟩; refine ⟨_, rfl, ?_⟩) | ((with_reducible refine gate_callee (f := 58) rfl ?_); refine goesL_ (some 10) rfl rfl Try.func58 (by kernel_rfl) rfl #[.int .u16 a0] rfl (by (try simp only [List.map_toArray, List.map_cons, List.map_nil]); first | done | rfl | (simp only [List.length_drop, List.length_take]; rfl)) ?_; (with_reducible refine (riddleref2_ByX.calls k a0 t115 _ A4.out).mono ?_); rintro e w' ⟨rfl, ⟨nd, rfl⟩⟩; refine ⟨_, rfl, ?_⟩))
    (try simp only [Act.put, List.setIfInBounds_toArray, List.set_cons_zero, List.set_cons_succ])
    go_cut [13] (fun v13 wc => ∃ (kq : Nat) (x13_4 : Bool), v13 = .bool x13_4 ∧ Aside0 (riddleref2_Uses.j0 kq a0 (!t115) x13_4 = some (r1, r2, r3)) ∧ Aside0 (kq ≤ k) ∧ Drawn0 w wc)
    case first =>
      have H := HC5.out
      clear HC5
      by_cases c6 : a0 = 128
      · rw [if_pos c6] at H
        have c6b0 : (a0 == 128) = true := beq_iff_eq.mpr c6
        have c6b1 : (a0 != 128) = false := bne_eq_false_iff_eq.mpr c6
        clear c6
        (first | rw [c6b0] | (simp only [i64_w, i32_w]; rw [c6b0]) | skip)
        have H' := Aside0.mk H
        clear H
        go_wp2
        go_meet
        case rel => exact ⟨_, ((a0 == 128)), (by first | rfl | (simp; done) | (simp [*]; done)), H', ⟨by first | omega | exact Nat.le_refl _⟩, by repeat (first | exact Drawn0.refl _ | apply Drawn0.step)⟩
      · rw [if_neg c6] at H
        have c6b0 : (a0 == 128) = false := beq_eq_false_iff_ne.mpr c6
        have c6b1 : (a0 != 128) = true := bne_iff_ne.mpr c6
        (first | rw [c6b0] | (simp only [i64_w, i32_w]; rw [c6b0]) | skip)
        by_cases c7 : a0 = 129
        · rw [if_pos c7] at H
          have c7b0 : (a0 == 129) = true := beq_iff_eq.mpr c7
          have c7b1 : (a0 != 129) = false := bne_eq_false_iff_eq.mpr c7
          clear c7
          have H' := Aside0.mk H
          clear H
          go_wp2
          go_meet
          case rel => exact ⟨_, ((a0 == 129)), (by first | rfl | (simp; done) | (simp [*]; done)), H', ⟨by first | omega | exact Nat.le_refl _⟩, by repeat (first | exact Drawn0.refl _ | apply Drawn0.step)⟩
        · rw [if_neg c7] at H
          have c7b0 : (a0 == 129) = false := beq_eq_false_iff_ne.mpr c7
          have c7b1 : (a0 != 129) = true := bne_iff_ne.mpr c7
          by_cases c8 : a0 = 132
          · rw [if_pos c8] at H
            have c8b0 : (a0 == 132) = true := beq_iff_eq.mpr c8
            have c8b1 : (a0 != 132) = false := bne_eq_false_iff_eq.mpr c8
            clear c8
            have H' := Aside0.mk H
            clear H
            go_wp2
            go_meet
            case rel => exact ⟨_, ((a0 == 132)), (by first | rfl | (simp; done) | (simp [*]; done)), H', ⟨by first | omega | exact Nat.le_refl _⟩, by repeat (first | exact Drawn0.refl _ | apply Drawn0.step)⟩
          · rw [if_neg c8] at H
            have c8b0 : (a0 == 132) = false := beq_eq_false_iff_ne.mpr c8
            have c8b1 : (a0 != 132) = true := bne_iff_ne.mpr c8
            by_cases c9 : a0 = 22
            · rw [if_pos c9] at H
              have c9b0 : (a0 == 22) = true := beq_iff_eq.mpr c9
              have c9b1 : (a0 != 22) = false := bne_eq_false_iff_eq.mpr c9
              clear c9
              have H' := Aside0.mk H
              clear H
              go_wp2
              go_meet
              case rel => exact ⟨_, ((a0 == 22)), (by first | rfl | (simp; done) | (simp [*]; done)), H', ⟨by first | omega | exact Nat.le_refl _⟩, by repeat (first | exact Drawn0.refl _ | apply Drawn0.step)⟩
            · rw [if_neg c9] at H
              have c9b0 : (a0 == 22) = false := beq_eq_false_iff_ne.mpr c9
              have c9b1 : (a0 != 22) = true := bne_iff_ne.mpr c9
              by_cases c10 : a0 = 7
              · rw [if_pos c10] at H
                have c10b0 : (a0 == 7) = true := beq_iff_eq.mpr c10
                have c10b1 : (a0 != 7) = false := bne_eq_false_iff_eq.mpr c10
                clear c10
                have H' := Aside0.mk H
                clear H
                go_wp2
                go_meet
                case rel => exact ⟨_, ((a0 == 7)), (by first | rfl | (simp; done) | (simp [*]; done)), H', ⟨by first | omega | exact Nat.le_refl _⟩, by repeat (first | exact Drawn0.refl _ | apply Drawn0.step)⟩
              · rw [if_neg c10] at H
                have c10b0 : (a0 == 7) = false := beq_eq_false_iff_ne.mpr c10
                have c10b1 : (a0 != 7) = true := bne_iff_ne.mpr c10
                have H' := Aside0.mk H
                clear H
                go_wp2
                go_meet
                case rel => exact ⟨_, ((a0 == 135)), (by first | rfl | (simp; done) | (simp [*]; done)), H', ⟨by first | omega | exact Nat.le_refl _⟩, by repeat (first | exact Drawn0.refl _ | apply Drawn0.step)⟩
    case rest =>
      clear HC5
      try clear c1
      try clear p2
      try clear c3
      try clear c5
      try clear c6
      try clear c6b0
      try clear c6b1
      try clear c7
      try clear c7b0
      try clear c7b1
      try clear c8
      try clear c8b0
      try clear c8b1
      try clear c9
      try clear c9b0
      try clear c9b1
      try clear c10
      try clear c10b0
      try clear c10b1
      obtain ⟨kq, x13_4, rfl, HA, HJ4, ⟨mc4, rfl⟩⟩ := hcut
      cases kq with
      | zero => exact absurd HA.out (by simp [riddleref2_Uses.j0])
      | succ kj4 =>
        have H := HA.out
        clear HA
        simp only [riddleref2_Uses.j0] at H
        by_cases c11 : x13_4 = true
        · subst c11
          have H1 : ((riddleref2_Jump.f a0).bind fun t116 => ((riddleref2_Load.f a0).bind fun t117 => (if t117 = true then (some (false, t116, true)) else (if a0 = 60 then (some (false, t116, true)) else (some (false, t116, (a0 == 156))))))) = some (r1, r2, r3) := by rw [if_pos rfl] at H; exact H
          clear H
          have H := H1
          clear H1
          replace H := Option.bind_eq_some_iff.mp H
          obtain ⟨t116, A120, H⟩ := H
          replace H : ((riddleref2_Load.f a0).bind fun t117 => (if t117 = true then (some (false, t116, true)) else (if a0 = 60 then (some (false, t116, true)) else (some (false, t116, (a0 == 156)))))) = some (r1, r2, r3) := H
          have A12 := Aside0.mk A120
          clear A120
          replace H := Option.bind_eq_some_iff.mp H
          obtain ⟨t117, A130, H⟩ := H
          replace H : (if t117 = true then (some (false, t116, true)) else (if a0 = 60 then (some (false, t116, true)) else (some (false, t116, (a0 == 156))))) = some (r1, r2, r3) := H
          have A13 := Aside0.mk A130
          clear A130
          by_cases c14 : t117 = true
          · subst c14
            have H1 : (some (false, t116, true)) = some (r1, r2, r3) := by rw [if_pos rfl] at H; exact H
            clear H
            have H := H1
            clear H1
            simp only [Option.some.injEq, Prod.mk.injEq] at H
            obtain ⟨rfl, rfl, rfl⟩ := H
            go_wp2_with (first | ((with_reducible refine gate_callee (f := 50) rfl ?_); refine goesL_ (some 22) rfl rfl Try.func50 (by kernel_rfl) rfl #[.int .u16 a0] rfl (by (try simp only [List.map_toArray, List.map_cons, List.map_nil]); first | done | rfl | (simp only [List.length_drop, List.length_take]; rfl)) ?_; (with_reducible refine (riddleref2_Jump.calls a0 t116 _ A12.out).mono ?_); rintro e w' ⟨rfl, ⟨nd, rfl⟩⟩; refine ⟨_, rfl, ?_⟩) | ((with_reducible refine gate_callee (f := 138) rfl ?_); refine goesL_ (some 24) rfl rfl Try.func138 (by kernel_rfl) rfl #[.int .u16 a0] rfl (by (try simp only [List.map_toArray, List.map_cons, List.map_nil]); first | done | rfl | (simp only [List.length_drop, List.length_take]; rfl)) ?_; (with_reducible refine (riddleref2_Load.calls a0 true _ A13.out).mono ?_); rintro e w' ⟨rfl, ⟨nd, rfl⟩⟩; refine ⟨_, rfl, ?_⟩))
            go_ret3
            exact ⟨by first | rfl | (simp; done) | (simp [*]; done), by repeat (first | exact Drawn0.refl _ | apply Drawn0.step)⟩
          · replace c14 := Bool.eq_false_iff.mpr c14
            subst c14
            have H1 : (if a0 = 60 then (some (false, t116, true)) else (some (false, t116, (a0 == 156)))) = some (r1, r2, r3) := by rw [if_neg (show ¬ (false = true) by decide)] at H; exact H
            clear H
            have H := H1
            clear H1
            by_cases c15 : a0 = 60
            · rw [if_pos c15] at H
              have c15b0 : (a0 == 60) = true := beq_iff_eq.mpr c15
              have c15b1 : (a0 != 60) = false := bne_eq_false_iff_eq.mpr c15
              clear c15
              simp only [Option.some.injEq, Prod.mk.injEq] at H
              obtain ⟨rfl, rfl, rfl⟩ := H
              go_wp2_with (first | ((with_reducible refine gate_callee (f := 50) rfl ?_); refine goesL_ (some 22) rfl rfl Try.func50 (by kernel_rfl) rfl #[.int .u16 a0] rfl (by (try simp only [List.map_toArray, List.map_cons, List.map_nil]); first | done | rfl | (simp only [List.length_drop, List.length_take]; rfl)) ?_; (with_reducible refine (riddleref2_Jump.calls a0 t116 _ A12.out).mono ?_); rintro e w' ⟨rfl, ⟨nd, rfl⟩⟩; refine ⟨_, rfl, ?_⟩) | ((with_reducible refine gate_callee (f := 138) rfl ?_); refine goesL_ (some 24) rfl rfl Try.func138 (by kernel_rfl) rfl #[.int .u16 a0] rfl (by (try simp only [List.map_toArray, List.map_cons, List.map_nil]); first | done | rfl | (simp only [List.length_drop, List.length_take]; rfl)) ?_; (with_reducible refine (riddleref2_Load.calls a0 false _ A13.out).mono ?_); rintro e w' ⟨rfl, ⟨nd, rfl⟩⟩; refine ⟨_, rfl, ?_⟩))
              go_ret3
              exact ⟨by first | rfl | (simp; done) | (simp [*]; done), by repeat (first | exact Drawn0.refl _ | apply Drawn0.step)⟩
            · rw [if_neg c15] at H
              have c15b0 : (a0 == 60) = false := beq_eq_false_iff_ne.mpr c15
              have c15b1 : (a0 != 60) = true := bne_iff_ne.mpr c15
              simp only [Option.some.injEq, Prod.mk.injEq] at H
              obtain ⟨rfl, rfl, rfl⟩ := H
              go_wp2_with (first | ((with_reducible refine gate_callee (f := 50) rfl ?_); refine goesL_ (some 22) rfl rfl Try.func50 (by kernel_rfl) rfl #[.int .u16 a0] rfl (by (try simp only [List.map_toArray, List.map_cons, List.map_nil]); first | done | rfl | (simp only [List.length_drop, List.length_take]; rfl)) ?_; (with_reducible refine (riddleref2_Jump.calls a0 t116 _ A12.out).mono ?_); rintro e w' ⟨rfl, ⟨nd, rfl⟩⟩; refine ⟨_, rfl, ?_⟩) | ((with_reducible refine gate_callee (f := 138) rfl ?_); refine goesL_ (some 24) rfl rfl Try.func138 (by kernel_rfl) rfl #[.int .u16 a0] rfl (by (try simp only [List.map_toArray, List.map_cons, List.map_nil]); first | done | rfl | (simp only [List.length_drop, List.length_take]; rfl)) ?_; (with_reducible refine (riddleref2_Load.calls a0 false _ A13.out).mono ?_); rintro e w' ⟨rfl, ⟨nd, rfl⟩⟩; refine ⟨_, rfl, ?_⟩))
              go_ret3
              exact ⟨by first | rfl | (simp; done) | (simp [*]; done), by repeat (first | exact Drawn0.refl _ | apply Drawn0.step)⟩
        · replace c11 := Bool.eq_false_iff.mpr c11
          subst c11
          have H1 : ((riddleref2_Jump.f a0).bind fun t118 => ((riddleref2_Load.f a0).bind fun t119 => (if t119 = true then (some ((!t115), t118, true)) else (if a0 = 60 then (some ((!t115), t118, true)) else (some ((!t115), t118, (a0 == 156))))))) = some (r1, r2, r3) := by rw [if_neg (show ¬ (false = true) by decide)] at H; exact H
          clear H
          have H := H1
          clear H1
          replace H := Option.bind_eq_some_iff.mp H
          obtain ⟨t118, A160, H⟩ := H
          replace H : ((riddleref2_Load.f a0).bind fun t119 => (if t119 = true then (some ((!t115), t118, true)) else (if a0 = 60 then (some ((!t115), t118, true)) else (some ((!t115), t118, (a0 == 156)))))) = some (r1, r2, r3) := H
          have A16 := Aside0.mk A160
          clear A160
          replace H := Option.bind_eq_some_iff.mp H
          obtain ⟨t119, A170, H⟩ := H
          replace H : (if t119 = true then (some ((!t115), t118, true)) else (if a0 = 60 then (some ((!t115), t118, true)) else (some ((!t115), t118, (a0 == 156))))) = some (r1, r2, r3) := H
          have A17 := Aside0.mk A170
          clear A170
          by_cases c18 : t119 = true
          · subst c18
            have H1 : (some ((!t115), t118, true)) = some (r1, r2, r3) := by rw [if_pos rfl] at H; exact H
            clear H
            have H := H1
            clear H1
            simp only [Option.some.injEq, Prod.mk.injEq] at H
            obtain ⟨rfl, rfl, rfl⟩ := H
            go_wp2_with (first | ((with_reducible refine gate_callee (f := 50) rfl ?_); refine goesL_ (some 22) rfl rfl Try.func50 (by kernel_rfl) rfl #[.int .u16 a0] rfl (by (try simp only [List.map_toArray, List.map_cons, List.map_nil]); first | done | rfl | (simp only [List.length_drop, List.length_take]; rfl)) ?_; (with_reducible refine (riddleref2_Jump.calls a0 t118 _ A16.out).mono ?_); rintro e w' ⟨rfl, ⟨nd, rfl⟩⟩; refine ⟨_, rfl, ?_⟩) | ((with_reducible refine gate_callee (f := 138) rfl ?_); refine goesL_ (some 24) rfl rfl Try.func138 (by kernel_rfl) rfl #[.int .u16 a0] rfl (by (try simp only [List.map_toArray, List.map_cons, List.map_nil]); first | done | rfl | (simp only [List.length_drop, List.length_take]; rfl)) ?_; (with_reducible refine (riddleref2_Load.calls a0 true _ A17.out).mono ?_); rintro e w' ⟨rfl, ⟨nd, rfl⟩⟩; refine ⟨_, rfl, ?_⟩))
            go_ret3
            exact ⟨by first | rfl | (simp; done) | (simp [*]; done), by repeat (first | exact Drawn0.refl _ | apply Drawn0.step)⟩
          · replace c18 := Bool.eq_false_iff.mpr c18
            subst c18
            have H1 : (if a0 = 60 then (some ((!t115), t118, true)) else (some ((!t115), t118, (a0 == 156)))) = some (r1, r2, r3) := by rw [if_neg (show ¬ (false = true) by decide)] at H; exact H
            clear H
            have H := H1
            clear H1
            by_cases c19 : a0 = 60
            · rw [if_pos c19] at H
              have c19b0 : (a0 == 60) = true := beq_iff_eq.mpr c19
              have c19b1 : (a0 != 60) = false := bne_eq_false_iff_eq.mpr c19
              clear c19
              simp only [Option.some.injEq, Prod.mk.injEq] at H
              obtain ⟨rfl, rfl, rfl⟩ := H
              go_wp2_with (first | ((with_reducible refine gate_callee (f := 50) rfl ?_); refine goesL_ (some 22) rfl rfl Try.func50 (by kernel_rfl) rfl #[.int .u16 a0] rfl (by (try simp only [List.map_toArray, List.map_cons, List.map_nil]); first | done | rfl | (simp only [List.length_drop, List.length_take]; rfl)) ?_; (with_reducible refine (riddleref2_Jump.calls a0 t118 _ A16.out).mono ?_); rintro e w' ⟨rfl, ⟨nd, rfl⟩⟩; refine ⟨_, rfl, ?_⟩) | ((with_reducible refine gate_callee (f := 138) rfl ?_); refine goesL_ (some 24) rfl rfl Try.func138 (by kernel_rfl) rfl #[.int .u16 a0] rfl (by (try simp only [List.map_toArray, List.map_cons, List.map_nil]); first | done | rfl | (simp only [List.length_drop, List.length_take]; rfl)) ?_; (with_reducible refine (riddleref2_Load.calls a0 false _ A17.out).mono ?_); rintro e w' ⟨rfl, ⟨nd, rfl⟩⟩; refine ⟨_, rfl, ?_⟩))
              go_ret3
              exact ⟨by first | rfl | (simp; done) | (simp [*]; done), by repeat (first | exact Drawn0.refl _ | apply Drawn0.step)⟩
            · rw [if_neg c19] at H
              have c19b0 : (a0 == 60) = false := beq_eq_false_iff_ne.mpr c19
              have c19b1 : (a0 != 60) = true := bne_iff_ne.mpr c19
              simp only [Option.some.injEq, Prod.mk.injEq] at H
              obtain ⟨rfl, rfl, rfl⟩ := H
              go_wp2_with (first | ((with_reducible refine gate_callee (f := 50) rfl ?_); refine goesL_ (some 22) rfl rfl Try.func50 (by kernel_rfl) rfl #[.int .u16 a0] rfl (by (try simp only [List.map_toArray, List.map_cons, List.map_nil]); first | done | rfl | (simp only [List.length_drop, List.length_take]; rfl)) ?_; (with_reducible refine (riddleref2_Jump.calls a0 t118 _ A16.out).mono ?_); rintro e w' ⟨rfl, ⟨nd, rfl⟩⟩; refine ⟨_, rfl, ?_⟩) | ((with_reducible refine gate_callee (f := 138) rfl ?_); refine goesL_ (some 24) rfl rfl Try.func138 (by kernel_rfl) rfl #[.int .u16 a0] rfl (by (try simp only [List.map_toArray, List.map_cons, List.map_nil]); first | done | rfl | (simp only [List.length_drop, List.length_take]; rfl)) ?_; (with_reducible refine (riddleref2_Load.calls a0 false _ A17.out).mono ?_); rintro e w' ⟨rfl, ⟨nd, rfl⟩⟩; refine ⟨_, rfl, ?_⟩))
              go_ret3
              exact ⟨by first | rfl | (simp; done) | (simp [*]; done), by repeat (first | exact Drawn0.refl _ | apply Drawn0.step)⟩
  · replace c3 := Bool.eq_false_iff.mpr c3
    subst c3
    have H1 : (some (false, false, false)) = some (r1, r2, r3) := by rw [if_neg (show ¬ (false = true) by decide)] at H; exact H
    clear H
    have H := H1
    clear H1
    simp only [Option.some.injEq, Prod.mk.injEq] at H
    obtain ⟨rfl, rfl, rfl⟩ := H
    go_enter Try.func94, Try.ntmps94
    go_wp2_with (first | ((with_reducible refine gate_callee (f := 81) rfl ?_); refine goesL_ (some 7) rfl rfl Try.func81 (by kernel_rfl) rfl #[.int .u16 a0] rfl (by (try simp only [List.map_toArray, List.map_cons, List.map_nil]); first | done | rfl | (simp only [List.length_drop, List.length_take]; rfl)) ?_; (with_reducible refine (riddleref2_Known.calls k a0 false _ A2.out).mono ?_); rintro e w' ⟨rfl, ⟨nd, rfl⟩⟩; refine ⟨_, rfl, ?_⟩))
    go_ret3
    exact ⟨by first | rfl | (simp; done) | (simp [*]; done), by repeat (first | exact Drawn0.refl _ | apply Drawn0.step)⟩
end Go.Proofs.Ytdkalnkplgfgoaa.PA
namespace Go.Proofs.Ytdkalnkplgfgoaa.PA
open Go.RowKit Go.Proofs.YtdkalnkplgfgoaaW.PrintWords Go.Proofs.YtdkalnkplgfgoaaW.PrintLast Go.Proofs.YtdkalnkplgfgoaaW.PrintMore
attribute [local go_sem] max2_int min2_int max_two min_two max_three min_three max_four min_four   -- for this text's walks alone
set_option linter.unusedVariables false
set_option linter.unusedSimpArgs false
theorem eqA45 (d : Nat) (w : World) (x0 y0 : Int) (x1 y1 : Int) (x2 y2 : Int) (x3 y3 : Int) :
    (Op.equalIn (d + 2) 45 (.agg #[.int .u16 x0, .int .u8 x1, .int .u8 x2, .int .u32 x3]) (.agg #[.int .u16 y0, .int .u8 y1, .int .u8 y2, .int .u32 y3])).run Try.prog w = .ok (x0 == y0 && (x1 == y1 && (x2 == y2 && (x3 == y3)))) w := by
  refine eqA_of Try.underlying45 (by kernel_rfl) ?_
  refine eqf_cons (by rfl) (by go_simp; rfl) (by go_simp; rfl) (by go_simp) ?_
  refine eqf_cons (by rfl) (by go_simp; rfl) (by go_simp; rfl) (by go_simp) ?_
  refine eqf_cons (by rfl) (by go_simp; rfl) (by go_simp; rfl) (by go_simp) ?_
  exact eqf_last (by rfl) (by go_simp; rfl) (by go_simp; rfl) (by go_simp)
end Go.Proofs.Ytdkalnkplgfgoaa.PA
namespace Go.Proofs.Ytdkalnkplgfgoaa.PA
open Go.RowKit Go.Proofs.YtdkalnkplgfgoaaW.PrintWords Go.Proofs.YtdkalnkplgfgoaaW.PrintLast Go.Proofs.YtdkalnkplgfgoaaW.PrintMore
attribute [local go_sem] max2_int min2_int max_two min_two max_three min_three max_four min_four   -- for this text's walks alone
set_option linter.unusedVariables false
set_option linter.unusedSimpArgs false
mutual
def riddleref4_Fault.j0 : Nat → Bool → Int → Int → Int → Int → Option (Int)
  | 0, _, _, _, _, _ => none
  | k + 1, x8, x106000, x106001, x106002, x106003 => if x8 = true then (some 43) else (if x106000 = 52 then (riddleref4_Fault.j1 k (x106003 == 0) x106000 x106001 x106002 x106003) else (if x106000 = 148 then (riddleref4_Fault.j1 k (x106003 == 0) x106000 x106001 x106002 x106003) else (riddleref4_Fault.j1 k false x106000 x106001 x106002 x106003)))
def riddleref4_Fault.j1 : Nat → Bool → Int → Int → Int → Int → Option (Int)
  | 0, _, _, _, _, _ => none
  | k + 1, x32, x106000, x106001, x106002, x106003 => if x32 = true then (some 44) else (if x106000 = 100 then (if x106003 > 31 then (some 45) else (some 0)) else (if x106000 = 116 then (if x106003 > 31 then (some 45) else (some 0)) else (some 0)))
end
def riddleref4_Fault.f (k : Nat) (a0_0 : Int) (a0_1 : Int) (a0_2 : Int) (a0_3 : Int) : Option (Int) := (riddleref2_Known.f k a0_0).bind fun t106 => (if t106 = true then (if a0_0 = 2 then (riddleref4_Fault.j0 k (decide (a0_3 ≥ 16)) a0_0 a0_1 a0_2 a0_3) else (if a0_0 = 3 then (riddleref4_Fault.j0 k (decide (a0_3 ≥ 16)) a0_0 a0_1 a0_2 a0_3) else (if a0_0 = 96 then (riddleref4_Fault.j0 k (decide (a0_3 ≥ 16)) a0_0 a0_1 a0_2 a0_3) else (if a0_0 = 97 then (riddleref4_Fault.j0 k (decide (a0_3 ≥ 16)) a0_0 a0_1 a0_2 a0_3) else (riddleref4_Fault.j0 k false a0_0 a0_1 a0_2 a0_3))))) else (some 42))
theorem riddleref4_Fault.mono_l : ∀ k, (∀ y0 y1 y2 y3 y4, LeO (riddleref4_Fault.j0 k y0 y1 y2 y3 y4) (riddleref4_Fault.j0 (k + 1) y0 y1 y2 y3 y4)) ∧ (∀ y0 y1 y2 y3 y4, LeO (riddleref4_Fault.j1 k y0 y1 y2 y3 y4) (riddleref4_Fault.j1 (k + 1) y0 y1 y2 y3 y4))
  | 0 => ⟨fun _ _ _ _ _ r h => by simp [riddleref4_Fault.j0] at h, fun _ _ _ _ _ r h => by simp [riddleref4_Fault.j1] at h⟩
  | k + 1 => by
    obtain ⟨ih0, ih1⟩ := riddleref4_Fault.mono_l k
    refine ⟨?_, ?_⟩
    · intro y0 y1 y2 y3 y4
      unfold riddleref4_Fault.j0
      repeat' first
      | (with_reducible exact ih0 _ _ _ _ _)
      | (with_reducible exact ih1 _ _ _ _ _)
      | (with_reducible exact riddleref2_Known.mono _ _)
      | (with_reducible exact LeO.refl _)
      | (with_reducible exact LeO.none _)
      | (with_reducible refine LeO.ite ?_ ?_)
      | (with_reducible refine LeO.bind ?_ (fun _ => ?_))
      | exact ih0 _ _ _ _ _
      | exact ih1 _ _ _ _ _
      | exact riddleref2_Known.mono _ _
      | exact LeO.none _
      | refine LeO.ite ?_ ?_
      | refine LeO.bind ?_ (fun _ => ?_)
    · intro y0 y1 y2 y3 y4
      unfold riddleref4_Fault.j1
      repeat' first
      | (with_reducible exact ih0 _ _ _ _ _)
      | (with_reducible exact ih1 _ _ _ _ _)
      | (with_reducible exact riddleref2_Known.mono _ _)
      | (with_reducible exact LeO.refl _)
      | (with_reducible exact LeO.none _)
      | (with_reducible refine LeO.ite ?_ ?_)
      | (with_reducible refine LeO.bind ?_ (fun _ => ?_))
      | exact ih0 _ _ _ _ _
      | exact ih1 _ _ _ _ _
      | exact riddleref2_Known.mono _ _
      | exact LeO.none _
      | refine LeO.ite ?_ ?_
      | refine LeO.bind ?_ (fun _ => ?_)
theorem riddleref4_Fault.mono : ∀ a0 a1 a2 a3 k, LeO (riddleref4_Fault.f k a0 a1 a2 a3) (riddleref4_Fault.f (k + 1) a0 a1 a2 a3) := by
  intro a0 a1 a2 a3 k
  obtain ⟨ih0, ih1⟩ := riddleref4_Fault.mono_l k
  unfold riddleref4_Fault.f
  repeat' first
      | (with_reducible exact ih0 _ _ _ _ _)
      | (with_reducible exact ih1 _ _ _ _ _)
      | (with_reducible exact riddleref2_Known.mono _ _)
      | (with_reducible exact LeO.refl _)
      | (with_reducible exact LeO.none _)
      | (with_reducible refine LeO.ite ?_ ?_)
      | (with_reducible refine LeO.bind ?_ (fun _ => ?_))
      | exact ih0 _ _ _ _ _
      | exact ih1 _ _ _ _ _
      | exact riddleref2_Known.mono _ _
      | exact LeO.none _
      | refine LeO.ite ?_ ?_
      | refine LeO.bind ?_ (fun _ => ?_)
set_option maxHeartbeats 8000000 in
set_option maxRecDepth 100000 in
theorem riddleref4_Fault.calls (k : Nat) (a0_0 : Int) (a0_1 : Int) (a0_2 : Int) (a0_3 : Int) (r : Int) (w : World) (h : riddleref4_Fault.f k a0_0 a0_1 a0_2 a0_3 = some r) :
    Calls Try.prog 49 #[.agg #[.int .u16 a0_0, .int .u8 a0_1, .int .u8 a0_2, .int .u32 a0_3]] w fun e w' => e = .returned (.int .i64 r) ∧ Below w.heap.size w w' := by
  have hu45 := Try.underlying45
  have HB := Aside0.mk (Below.refl w.heap.size w)
  have H : ((riddleref2_Known.f k a0_0).bind fun t106 => (if t106 = true then (if a0_0 = 2 then (riddleref4_Fault.j0 k (decide (a0_3 ≥ 16)) a0_0 a0_1 a0_2 a0_3) else (if a0_0 = 3 then (riddleref4_Fault.j0 k (decide (a0_3 ≥ 16)) a0_0 a0_1 a0_2 a0_3) else (if a0_0 = 96 then (riddleref4_Fault.j0 k (decide (a0_3 ≥ 16)) a0_0 a0_1 a0_2 a0_3) else (if a0_0 = 97 then (riddleref4_Fault.j0 k (decide (a0_3 ≥ 16)) a0_0 a0_1 a0_2 a0_3) else (riddleref4_Fault.j0 k false a0_0 a0_1 a0_2 a0_3))))) else (some 42))) = some r := h
  clear h
  replace H := Option.bind_eq_some_iff.mp H
  obtain ⟨t106, A20, H⟩ := H
  replace H : (if t106 = true then (if a0_0 = 2 then (riddleref4_Fault.j0 k (decide (a0_3 ≥ 16)) a0_0 a0_1 a0_2 a0_3) else (if a0_0 = 3 then (riddleref4_Fault.j0 k (decide (a0_3 ≥ 16)) a0_0 a0_1 a0_2 a0_3) else (if a0_0 = 96 then (riddleref4_Fault.j0 k (decide (a0_3 ≥ 16)) a0_0 a0_1 a0_2 a0_3) else (if a0_0 = 97 then (riddleref4_Fault.j0 k (decide (a0_3 ≥ 16)) a0_0 a0_1 a0_2 a0_3) else (riddleref4_Fault.j0 k false a0_0 a0_1 a0_2 a0_3))))) else (some 42)) = some r := H
  have A2 := Aside0.mk A20
  clear A20
  by_cases c3 : t106 = true
  · subst c3
    have H1 : (if a0_0 = 2 then (riddleref4_Fault.j0 k (decide (a0_3 ≥ 16)) a0_0 a0_1 a0_2 a0_3) else (if a0_0 = 3 then (riddleref4_Fault.j0 k (decide (a0_3 ≥ 16)) a0_0 a0_1 a0_2 a0_3) else (if a0_0 = 96 then (riddleref4_Fault.j0 k (decide (a0_3 ≥ 16)) a0_0 a0_1 a0_2 a0_3) else (if a0_0 = 97 then (riddleref4_Fault.j0 k (decide (a0_3 ≥ 16)) a0_0 a0_1 a0_2 a0_3) else (riddleref4_Fault.j0 k false a0_0 a0_1 a0_2 a0_3))))) = some r := by rw [if_pos rfl] at H; exact H
    clear H
    have H := H1
    clear H1
    have HC4 := Aside0.mk H
    clear H
    go_enter Try.func49, Try.ntmps49
    go_upto_region 3 with (first | ((with_reducible refine gate_dst (N := 1) rfl ?_); refine box_event ?hg (N := 1) ?hd (cs := #[.int .u16 a0_0, .int .u8 a0_1, .int .u8 a0_2, .int .u32 a0_3]) (t := 45) ?hr ?_; (case hd => rfl); (case hg => rfl); (case hr => first | (go_simp; done) | (go_simp; rfl)); intro gb105 hg w5 hbox hb; have n0_ := Aside0.mk (below_step (by repeat (first | (with_reducible first | exact HB.out | apply below_alloc | apply pw_below_drewN | apply below_drew1) | exact HB.out)) hb); have n1_ := Aside0.mk (hbox); have n2_ := Aside0.mk ((by rw [hg]; exact (below_size (by repeat (first | (with_reducible first | exact HB.out | apply below_alloc | apply pw_below_drewN | apply below_drew1) | exact HB.out))) : w.heap.size ≤ gb105)); have n3_ := Aside0.mk ((by rw [hg]; exact (below_size (by repeat (first | (with_reducible first | exact HB.out | apply below_alloc | apply pw_below_drewN | apply below_drew1) | exact HB.out))) : w.heap.size ≤ gb105)); clear HB; have HB := n0_; have BK105 := n1_; have GW105 := n2_; have GE105 := n3_; clear n0_ n1_ n2_ n3_; clear hb hbox hg; have hcz6_0 : w5.cell? ⟨gb105, 0, none⟩ = some (.int .u16 a0_0) := (blk_cell BK105.out 0).trans rfl; have hcz6_1 : w5.cell? ⟨gb105, 1, none⟩ = some (.int .u8 a0_1) := (blk_cell BK105.out 1).trans rfl; have hcz6_2 : w5.cell? ⟨gb105, 2, none⟩ = some (.int .u8 a0_2) := (blk_cell BK105.out 2).trans rfl; have hcz6_3 : w5.cell? ⟨gb105, 3, none⟩ = some (.int .u32 a0_3) := (blk_cell BK105.out 3).trans rfl; have hfz6_0 := blk_frozen BK105.out 0; have hfz6_1 := blk_frozen BK105.out 1; have hfz6_2 := blk_frozen BK105.out 2; have hfz6_3 := blk_frozen BK105.out 3) | ((with_reducible refine gate_callee (f := 81) rfl ?_); refine goesL_ (some 6) rfl rfl Try.func81 (by kernel_rfl) rfl #[.int .u16 a0_0] rfl (by (try simp only [List.map_toArray, List.map_cons, List.map_nil]); first | done | rfl | (simp only [List.length_drop, List.length_take]; rfl)) ?_; (with_reducible refine (riddleref2_Known.calls k a0_0 true _ A2.out).mono ?_); rintro e w' ⟨rfl, ⟨nd, rfl⟩⟩; refine ⟨_, rfl, ?_⟩))
    (try simp only [Act.put, List.setIfInBounds_toArray, List.set_cons_zero, List.set_cons_succ])
    go_cut [8] (fun v8 wc => ∃ (kq : Nat) (x8_3 : Bool), v8 = .bool x8_3 ∧ Aside0 (riddleref4_Fault.j0 kq x8_3 a0_0 a0_1 a0_2 a0_3 = some r) ∧ Aside0 (kq ≤ k) ∧ Aside0 (wc.heap[gb105]? = some (.cells #[.int .u16 a0_0, .int .u8 a0_1, .int .u8 a0_2, .int .u32 a0_3] 45 (0, 0))) ∧ Aside0 (Below w.heap.size w wc))
    case first =>
      have H := HC4.out
      clear HC4
      by_cases c7 : a0_0 = 2
      · rw [if_pos c7] at H
        have c7b0 : (a0_0 == 2) = true := beq_iff_eq.mpr c7
        have c7b1 : (a0_0 != 2) = false := bne_eq_false_iff_eq.mpr c7
        clear c7
        (first | rw [c7b0] | (simp only [i64_w, i32_w]; rw [c7b0]) | skip)
        have H' := Aside0.mk H
        clear H
        have hcz8_0 : w5.cell? ⟨gb105, 0, none⟩ = some (.int .u16 a0_0) := (blk_cell BK105.out 0).trans rfl
        have hcz8_1 : w5.cell? ⟨gb105, 1, none⟩ = some (.int .u8 a0_1) := (blk_cell BK105.out 1).trans rfl
        have hcz8_2 : w5.cell? ⟨gb105, 2, none⟩ = some (.int .u8 a0_2) := (blk_cell BK105.out 2).trans rfl
        have hcz8_3 : w5.cell? ⟨gb105, 3, none⟩ = some (.int .u32 a0_3) := (blk_cell BK105.out 3).trans rfl
        have hfz8_0 := blk_frozen BK105.out 0
        have hfz8_1 := blk_frozen BK105.out 1
        have hfz8_2 := blk_frozen BK105.out 2
        have hfz8_3 := blk_frozen BK105.out 3
        go_wp2
        go_meet
        case rel => exact ⟨_, (decide (a0_3 ≥ 16)), (by first | rfl | (simp; done) | (simp [*]; done)), H', ⟨by first | omega | exact Nat.le_refl _⟩, ⟨by (with_reducible repeat (first | refine blk_drewN ?_ _ | refine blk_drew ?_ | refine blk_alloc ?_ _)); exact BK105.out⟩, ⟨by repeat (first | (with_reducible first | exact HB.out | apply below_alloc | apply pw_below_drewN | apply below_drew1 | refine below_set ?_ GE105.out) | exact HB.out)⟩⟩
      · rw [if_neg c7] at H
        have c7b0 : (a0_0 == 2) = false := beq_eq_false_iff_ne.mpr c7
        have c7b1 : (a0_0 != 2) = true := bne_iff_ne.mpr c7
        (first | rw [c7b0] | (simp only [i64_w, i32_w]; rw [c7b0]) | skip)
        by_cases c9 : a0_0 = 3
        · rw [if_pos c9] at H
          have c9b0 : (a0_0 == 3) = true := beq_iff_eq.mpr c9
          have c9b1 : (a0_0 != 3) = false := bne_eq_false_iff_eq.mpr c9
          clear c9
          have H' := Aside0.mk H
          clear H
          have hcz10_0 : w5.cell? ⟨gb105, 0, none⟩ = some (.int .u16 a0_0) := (blk_cell BK105.out 0).trans rfl
          have hcz10_1 : w5.cell? ⟨gb105, 1, none⟩ = some (.int .u8 a0_1) := (blk_cell BK105.out 1).trans rfl
          have hcz10_2 : w5.cell? ⟨gb105, 2, none⟩ = some (.int .u8 a0_2) := (blk_cell BK105.out 2).trans rfl
          have hcz10_3 : w5.cell? ⟨gb105, 3, none⟩ = some (.int .u32 a0_3) := (blk_cell BK105.out 3).trans rfl
          have hfz10_0 := blk_frozen BK105.out 0
          have hfz10_1 := blk_frozen BK105.out 1
          have hfz10_2 := blk_frozen BK105.out 2
          have hfz10_3 := blk_frozen BK105.out 3
          go_wp2
          go_meet
          case rel => exact ⟨_, (decide (a0_3 ≥ 16)), (by first | rfl | (simp; done) | (simp [*]; done)), H', ⟨by first | omega | exact Nat.le_refl _⟩, ⟨by (with_reducible repeat (first | refine blk_drewN ?_ _ | refine blk_drew ?_ | refine blk_alloc ?_ _)); exact BK105.out⟩, ⟨by repeat (first | (with_reducible first | exact HB.out | apply below_alloc | apply pw_below_drewN | apply below_drew1 | refine below_set ?_ GE105.out) | exact HB.out)⟩⟩
        · rw [if_neg c9] at H
          have c9b0 : (a0_0 == 3) = false := beq_eq_false_iff_ne.mpr c9
          have c9b1 : (a0_0 != 3) = true := bne_iff_ne.mpr c9
          by_cases c11 : a0_0 = 96
          · rw [if_pos c11] at H
            have c11b0 : (a0_0 == 96) = true := beq_iff_eq.mpr c11
            have c11b1 : (a0_0 != 96) = false := bne_eq_false_iff_eq.mpr c11
            clear c11
            have H' := Aside0.mk H
            clear H
            have hcz12_0 : w5.cell? ⟨gb105, 0, none⟩ = some (.int .u16 a0_0) := (blk_cell BK105.out 0).trans rfl
            have hcz12_1 : w5.cell? ⟨gb105, 1, none⟩ = some (.int .u8 a0_1) := (blk_cell BK105.out 1).trans rfl
            have hcz12_2 : w5.cell? ⟨gb105, 2, none⟩ = some (.int .u8 a0_2) := (blk_cell BK105.out 2).trans rfl
            have hcz12_3 : w5.cell? ⟨gb105, 3, none⟩ = some (.int .u32 a0_3) := (blk_cell BK105.out 3).trans rfl
            have hfz12_0 := blk_frozen BK105.out 0
            have hfz12_1 := blk_frozen BK105.out 1
            have hfz12_2 := blk_frozen BK105.out 2
            have hfz12_3 := blk_frozen BK105.out 3
            go_wp2
            go_meet
            case rel => exact ⟨_, (decide (a0_3 ≥ 16)), (by first | rfl | (simp; done) | (simp [*]; done)), H', ⟨by first | omega | exact Nat.le_refl _⟩, ⟨by (with_reducible repeat (first | refine blk_drewN ?_ _ | refine blk_drew ?_ | refine blk_alloc ?_ _)); exact BK105.out⟩, ⟨by repeat (first | (with_reducible first | exact HB.out | apply below_alloc | apply pw_below_drewN | apply below_drew1 | refine below_set ?_ GE105.out) | exact HB.out)⟩⟩
          · rw [if_neg c11] at H
            have c11b0 : (a0_0 == 96) = false := beq_eq_false_iff_ne.mpr c11
            have c11b1 : (a0_0 != 96) = true := bne_iff_ne.mpr c11
            by_cases c13 : a0_0 = 97
            · rw [if_pos c13] at H
              have c13b0 : (a0_0 == 97) = true := beq_iff_eq.mpr c13
              have c13b1 : (a0_0 != 97) = false := bne_eq_false_iff_eq.mpr c13
              clear c13
              have H' := Aside0.mk H
              clear H
              have hcz14_0 : w5.cell? ⟨gb105, 0, none⟩ = some (.int .u16 a0_0) := (blk_cell BK105.out 0).trans rfl
              have hcz14_1 : w5.cell? ⟨gb105, 1, none⟩ = some (.int .u8 a0_1) := (blk_cell BK105.out 1).trans rfl
              have hcz14_2 : w5.cell? ⟨gb105, 2, none⟩ = some (.int .u8 a0_2) := (blk_cell BK105.out 2).trans rfl
              have hcz14_3 : w5.cell? ⟨gb105, 3, none⟩ = some (.int .u32 a0_3) := (blk_cell BK105.out 3).trans rfl
              have hfz14_0 := blk_frozen BK105.out 0
              have hfz14_1 := blk_frozen BK105.out 1
              have hfz14_2 := blk_frozen BK105.out 2
              have hfz14_3 := blk_frozen BK105.out 3
              go_wp2
              go_meet
              case rel => exact ⟨_, (decide (a0_3 ≥ 16)), (by first | rfl | (simp; done) | (simp [*]; done)), H', ⟨by first | omega | exact Nat.le_refl _⟩, ⟨by (with_reducible repeat (first | refine blk_drewN ?_ _ | refine blk_drew ?_ | refine blk_alloc ?_ _)); exact BK105.out⟩, ⟨by repeat (first | (with_reducible first | exact HB.out | apply below_alloc | apply pw_below_drewN | apply below_drew1 | refine below_set ?_ GE105.out) | exact HB.out)⟩⟩
            · rw [if_neg c13] at H
              have c13b0 : (a0_0 == 97) = false := beq_eq_false_iff_ne.mpr c13
              have c13b1 : (a0_0 != 97) = true := bne_iff_ne.mpr c13
              have H' := Aside0.mk H
              clear H
              have hcz15_0 : w5.cell? ⟨gb105, 0, none⟩ = some (.int .u16 a0_0) := (blk_cell BK105.out 0).trans rfl
              have hcz15_1 : w5.cell? ⟨gb105, 1, none⟩ = some (.int .u8 a0_1) := (blk_cell BK105.out 1).trans rfl
              have hcz15_2 : w5.cell? ⟨gb105, 2, none⟩ = some (.int .u8 a0_2) := (blk_cell BK105.out 2).trans rfl
              have hcz15_3 : w5.cell? ⟨gb105, 3, none⟩ = some (.int .u32 a0_3) := (blk_cell BK105.out 3).trans rfl
              have hfz15_0 := blk_frozen BK105.out 0
              have hfz15_1 := blk_frozen BK105.out 1
              have hfz15_2 := blk_frozen BK105.out 2
              have hfz15_3 := blk_frozen BK105.out 3
              go_wp2
              go_meet
              case rel => exact ⟨_, (false), (by first | rfl | (simp; done) | (simp [*]; done)), H', ⟨by first | omega | exact Nat.le_refl _⟩, ⟨by (with_reducible repeat (first | refine blk_drewN ?_ _ | refine blk_drew ?_ | refine blk_alloc ?_ _)); exact BK105.out⟩, ⟨by repeat (first | (with_reducible first | exact HB.out | apply below_alloc | apply pw_below_drewN | apply below_drew1 | refine below_set ?_ GE105.out) | exact HB.out)⟩⟩
    case rest =>
      clear HC4
      try clear c1
      try clear p2
      try clear c3
      try clear c4
      try clear c7
      try clear c7b0
      try clear c7b1
      try clear c8
      try clear c9
      try clear c9b0
      try clear c9b1
      try clear c11
      try clear c11b0
      try clear c11b1
      try clear c13
      try clear c13b0
      try clear c13b1
      try clear hcz10_0
      try clear hcz10_1
      try clear hcz10_2
      try clear hcz10_3
      try clear hcz12_0
      try clear hcz12_1
      try clear hcz12_2
      try clear hcz12_3
      try clear hcz14_0
      try clear hcz14_1
      try clear hcz14_2
      try clear hcz14_3
      try clear hcz15_0
      try clear hcz15_1
      try clear hcz15_2
      try clear hcz15_3
      try clear hcz6_0
      try clear hcz6_1
      try clear hcz6_2
      try clear hcz6_3
      try clear hcz8_0
      try clear hcz8_1
      try clear hcz8_2
      try clear hcz8_3
      try clear hfz10_0
      try clear hfz10_1
      try clear hfz10_2
      try clear hfz10_3
      try clear hfz12_0
      try clear hfz12_1
      try clear hfz12_2
      try clear hfz12_3
      try clear hfz14_0
      try clear hfz14_1
      try clear hfz14_2
      try clear hfz14_3
      try clear hfz15_0
      try clear hfz15_1
      try clear hfz15_2
      try clear hfz15_3
      try clear hfz6_0
      try clear hfz6_1
      try clear hfz6_2
      try clear hfz6_3
      try clear hfz8_0
      try clear hfz8_1
      try clear hfz8_2
      try clear hfz8_3
      obtain ⟨kq, x8_3, rfl, HA, HJ3, BK105, HB⟩ := hcut
      cases kq with
      | zero => exact absurd HA.out (by simp [riddleref4_Fault.j0])
      | succ kj3 =>
        have H := HA.out
        clear HA
        simp only [riddleref4_Fault.j0] at H
        by_cases c16 : x8_3 = true
        · subst c16
          have H1 : (some 43) = some r := by rw [if_pos rfl] at H; exact H
          clear H
          have H := H1
          clear H1
          obtain rfl := Option.some.inj H
          go_wp2
          go_ret
          exact ⟨by first | rfl | (simp [errW_none, errW_some] <;> rfl) | (simp [*, errW_none, errW_some] <;> rfl), by repeat (first | (with_reducible first | exact HB.out | apply below_alloc | apply pw_below_drewN | apply below_drew1 | refine below_set ?_ GE105.out) | exact HB.out)⟩
        · replace c16 := Bool.eq_false_iff.mpr c16
          subst c16
          have H1 : (if a0_0 = 52 then (riddleref4_Fault.j1 kj3 (a0_3 == 0) a0_0 a0_1 a0_2 a0_3) else (if a0_0 = 148 then (riddleref4_Fault.j1 kj3 (a0_3 == 0) a0_0 a0_1 a0_2 a0_3) else (riddleref4_Fault.j1 kj3 false a0_0 a0_1 a0_2 a0_3))) = some r := by rw [if_neg (show ¬ (false = true) by decide)] at H; exact H
          clear H
          have H := H1
          clear H1
          have HC17 := Aside0.mk H
          clear H
          go_upto_region 5 with (fail)
          go_cut [32] (fun v32 wc => ∃ (kq : Nat) (x32_16 : Bool), v32 = .bool x32_16 ∧ Aside0 (riddleref4_Fault.j1 kq x32_16 a0_0 a0_1 a0_2 a0_3 = some r) ∧ Aside0 (kq ≤ kj3) ∧ Aside0 (wc.heap[gb105]? = some (.cells #[.int .u16 a0_0, .int .u8 a0_1, .int .u8 a0_2, .int .u32 a0_3] 45 (0, 0))) ∧ Aside0 (Below w.heap.size w wc))
          case first =>
            have H := HC17.out
            clear HC17
            by_cases c18 : a0_0 = 52
            · rw [if_pos c18] at H
              have c18b0 : (a0_0 == 52) = true := beq_iff_eq.mpr c18
              have c18b1 : (a0_0 != 52) = false := bne_eq_false_iff_eq.mpr c18
              clear c18
              (first | rw [c18b0] | (simp only [i64_w, i32_w]; rw [c18b0]) | skip)
              have H' := Aside0.mk H
              clear H
              have hcz19_0 : wc.cell? ⟨gb105, 0, none⟩ = some (.int .u16 a0_0) := (blk_cell BK105.out 0).trans rfl
              have hcz19_1 : wc.cell? ⟨gb105, 1, none⟩ = some (.int .u8 a0_1) := (blk_cell BK105.out 1).trans rfl
              have hcz19_2 : wc.cell? ⟨gb105, 2, none⟩ = some (.int .u8 a0_2) := (blk_cell BK105.out 2).trans rfl
              have hcz19_3 : wc.cell? ⟨gb105, 3, none⟩ = some (.int .u32 a0_3) := (blk_cell BK105.out 3).trans rfl
              have hfz19_0 := blk_frozen BK105.out 0
              have hfz19_1 := blk_frozen BK105.out 1
              have hfz19_2 := blk_frozen BK105.out 2
              have hfz19_3 := blk_frozen BK105.out 3
              go_wp2
              go_meet
              case rel => exact ⟨_, ((a0_3 == 0)), (by first | rfl | (simp; done) | (simp [*]; done)), H', ⟨by have := HJ3.out; first | omega | exact Nat.le_refl _⟩, ⟨by (with_reducible repeat (first | refine blk_drewN ?_ _ | refine blk_drew ?_ | refine blk_alloc ?_ _)); exact BK105.out⟩, ⟨by repeat (first | (with_reducible first | exact HB.out | apply below_alloc | apply pw_below_drewN | apply below_drew1 | refine below_set ?_ GE105.out) | exact HB.out)⟩⟩
            · rw [if_neg c18] at H
              have c18b0 : (a0_0 == 52) = false := beq_eq_false_iff_ne.mpr c18
              have c18b1 : (a0_0 != 52) = true := bne_iff_ne.mpr c18
              (first | rw [c18b0] | (simp only [i64_w, i32_w]; rw [c18b0]) | skip)
              by_cases c20 : a0_0 = 148
              · rw [if_pos c20] at H
                have c20b0 : (a0_0 == 148) = true := beq_iff_eq.mpr c20
                have c20b1 : (a0_0 != 148) = false := bne_eq_false_iff_eq.mpr c20
                clear c20
                have H' := Aside0.mk H
                clear H
                have hcz21_0 : wc.cell? ⟨gb105, 0, none⟩ = some (.int .u16 a0_0) := (blk_cell BK105.out 0).trans rfl
                have hcz21_1 : wc.cell? ⟨gb105, 1, none⟩ = some (.int .u8 a0_1) := (blk_cell BK105.out 1).trans rfl
                have hcz21_2 : wc.cell? ⟨gb105, 2, none⟩ = some (.int .u8 a0_2) := (blk_cell BK105.out 2).trans rfl
                have hcz21_3 : wc.cell? ⟨gb105, 3, none⟩ = some (.int .u32 a0_3) := (blk_cell BK105.out 3).trans rfl
                have hfz21_0 := blk_frozen BK105.out 0
                have hfz21_1 := blk_frozen BK105.out 1
                have hfz21_2 := blk_frozen BK105.out 2
                have hfz21_3 := blk_frozen BK105.out 3
                go_wp2
                go_meet
                case rel => exact ⟨_, ((a0_3 == 0)), (by first | rfl | (simp; done) | (simp [*]; done)), H', ⟨by have := HJ3.out; first | omega | exact Nat.le_refl _⟩, ⟨by (with_reducible repeat (first | refine blk_drewN ?_ _ | refine blk_drew ?_ | refine blk_alloc ?_ _)); exact BK105.out⟩, ⟨by repeat (first | (with_reducible first | exact HB.out | apply below_alloc | apply pw_below_drewN | apply below_drew1 | refine below_set ?_ GE105.out) | exact HB.out)⟩⟩
              · rw [if_neg c20] at H
                have c20b0 : (a0_0 == 148) = false := beq_eq_false_iff_ne.mpr c20
                have c20b1 : (a0_0 != 148) = true := bne_iff_ne.mpr c20
                have H' := Aside0.mk H
                clear H
                have hcz22_0 : wc.cell? ⟨gb105, 0, none⟩ = some (.int .u16 a0_0) := (blk_cell BK105.out 0).trans rfl
                have hcz22_1 : wc.cell? ⟨gb105, 1, none⟩ = some (.int .u8 a0_1) := (blk_cell BK105.out 1).trans rfl
                have hcz22_2 : wc.cell? ⟨gb105, 2, none⟩ = some (.int .u8 a0_2) := (blk_cell BK105.out 2).trans rfl
                have hcz22_3 : wc.cell? ⟨gb105, 3, none⟩ = some (.int .u32 a0_3) := (blk_cell BK105.out 3).trans rfl
                have hfz22_0 := blk_frozen BK105.out 0
                have hfz22_1 := blk_frozen BK105.out 1
                have hfz22_2 := blk_frozen BK105.out 2
                have hfz22_3 := blk_frozen BK105.out 3
                go_wp2
                go_meet
                case rel => exact ⟨_, (false), (by first | rfl | (simp; done) | (simp [*]; done)), H', ⟨by have := HJ3.out; first | omega | exact Nat.le_refl _⟩, ⟨by (with_reducible repeat (first | refine blk_drewN ?_ _ | refine blk_drew ?_ | refine blk_alloc ?_ _)); exact BK105.out⟩, ⟨by repeat (first | (with_reducible first | exact HB.out | apply below_alloc | apply pw_below_drewN | apply below_drew1 | refine below_set ?_ GE105.out) | exact HB.out)⟩⟩
          case rest =>
            clear HC17
            try clear c1
            try clear c2
            try clear p2
            try clear c3
            try clear c4
            try clear c7
            try clear c7b0
            try clear c7b1
            try clear c8
            try clear c9
            try clear c9b0
            try clear c9b1
            try clear c11
            try clear c11b0
            try clear c11b1
            try clear c13
            try clear c13b0
            try clear c13b1
            try clear c16
            try clear c18
            try clear c18b0
            try clear c18b1
            try clear c20
            try clear c20b0
            try clear c20b1
            try clear hcz10_0
            try clear hcz10_1
            try clear hcz10_2
            try clear hcz10_3
            try clear hcz12_0
            try clear hcz12_1
            try clear hcz12_2
            try clear hcz12_3
            try clear hcz14_0
            try clear hcz14_1
            try clear hcz14_2
            try clear hcz14_3
            try clear hcz15_0
            try clear hcz15_1
            try clear hcz15_2
            try clear hcz15_3
            try clear hcz19_0
            try clear hcz19_1
            try clear hcz19_2
            try clear hcz19_3
            try clear hcz21_0
            try clear hcz21_1
            try clear hcz21_2
            try clear hcz21_3
            try clear hcz22_0
            try clear hcz22_1
            try clear hcz22_2
            try clear hcz22_3
            try clear hcz6_0
            try clear hcz6_1
            try clear hcz6_2
            try clear hcz6_3
            try clear hcz8_0
            try clear hcz8_1
            try clear hcz8_2
            try clear hcz8_3
            try clear hfz10_0
            try clear hfz10_1
            try clear hfz10_2
            try clear hfz10_3
            try clear hfz12_0
            try clear hfz12_1
            try clear hfz12_2
            try clear hfz12_3
            try clear hfz14_0
            try clear hfz14_1
            try clear hfz14_2
            try clear hfz14_3
            try clear hfz15_0
            try clear hfz15_1
            try clear hfz15_2
            try clear hfz15_3
            try clear hfz19_0
            try clear hfz19_1
            try clear hfz19_2
            try clear hfz19_3
            try clear hfz21_0
            try clear hfz21_1
            try clear hfz21_2
            try clear hfz21_3
            try clear hfz22_0
            try clear hfz22_1
            try clear hfz22_2
            try clear hfz22_3
            try clear hfz6_0
            try clear hfz6_1
            try clear hfz6_2
            try clear hfz6_3
            try clear hfz8_0
            try clear hfz8_1
            try clear hfz8_2
            try clear hfz8_3
            try clear p2
            obtain ⟨kq, x32_16, rfl, HA, HJ16, BK105, HB⟩ := hcut
            cases kq with
            | zero => exact absurd HA.out (by simp [riddleref4_Fault.j1])
            | succ kj16 =>
              have H := HA.out
              clear HA
              simp only [riddleref4_Fault.j1] at H
              by_cases c23 : x32_16 = true
              · subst c23
                have H1 : (some 44) = some r := by rw [if_pos rfl] at H; exact H
                clear H
                have H := H1
                clear H1
                obtain rfl := Option.some.inj H
                go_wp2
                go_ret
                exact ⟨by first | rfl | (simp [errW_none, errW_some] <;> rfl) | (simp [*, errW_none, errW_some] <;> rfl), by repeat (first | (with_reducible first | exact HB.out | apply below_alloc | apply pw_below_drewN | apply below_drew1 | refine below_set ?_ GE105.out) | exact HB.out)⟩
              · replace c23 := Bool.eq_false_iff.mpr c23
                subst c23
                have H1 : (if a0_0 = 100 then (if a0_3 > 31 then (some 45) else (some 0)) else (if a0_0 = 116 then (if a0_3 > 31 then (some 45) else (some 0)) else (some 0))) = some r := by rw [if_neg (show ¬ (false = true) by decide)] at H; exact H
                clear H
                have H := H1
                clear H1
                by_cases c24 : a0_0 = 100
                · rw [if_pos c24] at H
                  have c24b0 : (a0_0 == 100) = true := beq_iff_eq.mpr c24
                  have c24b1 : (a0_0 != 100) = false := bne_eq_false_iff_eq.mpr c24
                  clear c24
                  by_cases c25 : a0_3 > 31
                  · rw [if_pos c25] at H
                    have c25b0 : decide (31 < a0_3) = true := decide_eq_true c25
                    clear c25
                    obtain rfl := Option.some.inj H
                    have hcz26_0 : wc.cell? ⟨gb105, 0, none⟩ = some (.int .u16 a0_0) := (blk_cell BK105.out 0).trans rfl
                    have hcz26_1 : wc.cell? ⟨gb105, 1, none⟩ = some (.int .u8 a0_1) := (blk_cell BK105.out 1).trans rfl
                    have hcz26_2 : wc.cell? ⟨gb105, 2, none⟩ = some (.int .u8 a0_2) := (blk_cell BK105.out 2).trans rfl
                    have hcz26_3 : wc.cell? ⟨gb105, 3, none⟩ = some (.int .u32 a0_3) := (blk_cell BK105.out 3).trans rfl
                    have hfz26_0 := blk_frozen BK105.out 0
                    have hfz26_1 := blk_frozen BK105.out 1
                    have hfz26_2 := blk_frozen BK105.out 2
                    have hfz26_3 := blk_frozen BK105.out 3
                    go_wp2
                    go_ret
                    exact ⟨by first | rfl | (simp [errW_none, errW_some] <;> rfl) | (simp [*, errW_none, errW_some] <;> rfl), by repeat (first | (with_reducible first | exact HB.out | apply below_alloc | apply pw_below_drewN | apply below_drew1 | refine below_set ?_ GE105.out) | exact HB.out)⟩
                  · rw [if_neg c25] at H
                    have c25b0 : decide (31 < a0_3) = false := decide_eq_false c25
                    clear c25
                    obtain rfl := Option.some.inj H
                    have hcz27_0 : wc.cell? ⟨gb105, 0, none⟩ = some (.int .u16 a0_0) := (blk_cell BK105.out 0).trans rfl
                    have hcz27_1 : wc.cell? ⟨gb105, 1, none⟩ = some (.int .u8 a0_1) := (blk_cell BK105.out 1).trans rfl
                    have hcz27_2 : wc.cell? ⟨gb105, 2, none⟩ = some (.int .u8 a0_2) := (blk_cell BK105.out 2).trans rfl
                    have hcz27_3 : wc.cell? ⟨gb105, 3, none⟩ = some (.int .u32 a0_3) := (blk_cell BK105.out 3).trans rfl
                    have hfz27_0 := blk_frozen BK105.out 0
                    have hfz27_1 := blk_frozen BK105.out 1
                    have hfz27_2 := blk_frozen BK105.out 2
                    have hfz27_3 := blk_frozen BK105.out 3
                    go_wp2
                    go_ret
                    exact ⟨by first | rfl | (simp [errW_none, errW_some] <;> rfl) | (simp [*, errW_none, errW_some] <;> rfl), by repeat (first | (with_reducible first | exact HB.out | apply below_alloc | apply pw_below_drewN | apply below_drew1 | refine below_set ?_ GE105.out) | exact HB.out)⟩
                · rw [if_neg c24] at H
                  have c24b0 : (a0_0 == 100) = false := beq_eq_false_iff_ne.mpr c24
                  have c24b1 : (a0_0 != 100) = true := bne_iff_ne.mpr c24
                  by_cases c28 : a0_0 = 116
                  · rw [if_pos c28] at H
                    have c28b0 : (a0_0 == 116) = true := beq_iff_eq.mpr c28
                    have c28b1 : (a0_0 != 116) = false := bne_eq_false_iff_eq.mpr c28
                    clear c28
                    by_cases c29 : a0_3 > 31
                    · rw [if_pos c29] at H
                      have c29b0 : decide (31 < a0_3) = true := decide_eq_true c29
                      clear c29
                      obtain rfl := Option.some.inj H
                      have hcz30_0 : wc.cell? ⟨gb105, 0, none⟩ = some (.int .u16 a0_0) := (blk_cell BK105.out 0).trans rfl
                      have hcz30_1 : wc.cell? ⟨gb105, 1, none⟩ = some (.int .u8 a0_1) := (blk_cell BK105.out 1).trans rfl
                      have hcz30_2 : wc.cell? ⟨gb105, 2, none⟩ = some (.int .u8 a0_2) := (blk_cell BK105.out 2).trans rfl
                      have hcz30_3 : wc.cell? ⟨gb105, 3, none⟩ = some (.int .u32 a0_3) := (blk_cell BK105.out 3).trans rfl
                      have hfz30_0 := blk_frozen BK105.out 0
                      have hfz30_1 := blk_frozen BK105.out 1
                      have hfz30_2 := blk_frozen BK105.out 2
                      have hfz30_3 := blk_frozen BK105.out 3
                      go_wp2
                      go_ret
                      exact ⟨by first | rfl | (simp [errW_none, errW_some] <;> rfl) | (simp [*, errW_none, errW_some] <;> rfl), by repeat (first | (with_reducible first | exact HB.out | apply below_alloc | apply pw_below_drewN | apply below_drew1 | refine below_set ?_ GE105.out) | exact HB.out)⟩
                    · rw [if_neg c29] at H
                      have c29b0 : decide (31 < a0_3) = false := decide_eq_false c29
                      clear c29
                      obtain rfl := Option.some.inj H
                      have hcz31_0 : wc.cell? ⟨gb105, 0, none⟩ = some (.int .u16 a0_0) := (blk_cell BK105.out 0).trans rfl
                      have hcz31_1 : wc.cell? ⟨gb105, 1, none⟩ = some (.int .u8 a0_1) := (blk_cell BK105.out 1).trans rfl
                      have hcz31_2 : wc.cell? ⟨gb105, 2, none⟩ = some (.int .u8 a0_2) := (blk_cell BK105.out 2).trans rfl
                      have hcz31_3 : wc.cell? ⟨gb105, 3, none⟩ = some (.int .u32 a0_3) := (blk_cell BK105.out 3).trans rfl
                      have hfz31_0 := blk_frozen BK105.out 0
                      have hfz31_1 := blk_frozen BK105.out 1
                      have hfz31_2 := blk_frozen BK105.out 2
                      have hfz31_3 := blk_frozen BK105.out 3
                      go_wp2
                      go_ret
                      exact ⟨by first | rfl | (simp [errW_none, errW_some] <;> rfl) | (simp [*, errW_none, errW_some] <;> rfl), by repeat (first | (with_reducible first | exact HB.out | apply below_alloc | apply pw_below_drewN | apply below_drew1 | refine below_set ?_ GE105.out) | exact HB.out)⟩
                  · rw [if_neg c28] at H
                    have c28b0 : (a0_0 == 116) = false := beq_eq_false_iff_ne.mpr c28
                    have c28b1 : (a0_0 != 116) = true := bne_iff_ne.mpr c28
                    obtain rfl := Option.some.inj H
                    have hcz32_0 : wc.cell? ⟨gb105, 0, none⟩ = some (.int .u16 a0_0) := (blk_cell BK105.out 0).trans rfl
                    have hcz32_1 : wc.cell? ⟨gb105, 1, none⟩ = some (.int .u8 a0_1) := (blk_cell BK105.out 1).trans rfl
                    have hcz32_2 : wc.cell? ⟨gb105, 2, none⟩ = some (.int .u8 a0_2) := (blk_cell BK105.out 2).trans rfl
                    have hcz32_3 : wc.cell? ⟨gb105, 3, none⟩ = some (.int .u32 a0_3) := (blk_cell BK105.out 3).trans rfl
                    have hfz32_0 := blk_frozen BK105.out 0
                    have hfz32_1 := blk_frozen BK105.out 1
                    have hfz32_2 := blk_frozen BK105.out 2
                    have hfz32_3 := blk_frozen BK105.out 3
                    go_wp2
                    go_ret
                    exact ⟨by first | rfl | (simp [errW_none, errW_some] <;> rfl) | (simp [*, errW_none, errW_some] <;> rfl), by repeat (first | (with_reducible first | exact HB.out | apply below_alloc | apply pw_below_drewN | apply below_drew1 | refine below_set ?_ GE105.out) | exact HB.out)⟩
  · replace c3 := Bool.eq_false_iff.mpr c3
    subst c3
    have H1 : (some 42) = some r := by rw [if_neg (show ¬ (false = true) by decide)] at H; exact H
    clear H
    have H := H1
    clear H1
    obtain rfl := Option.some.inj H
    go_enter Try.func49, Try.ntmps49
    go_wp2_with (first | ((with_reducible refine gate_dst (N := 1) rfl ?_); refine box_event ?hg (N := 1) ?hd (cs := #[.int .u16 a0_0, .int .u8 a0_1, .int .u8 a0_2, .int .u32 a0_3]) (t := 45) ?hr ?_; (case hd => rfl); (case hg => rfl); (case hr => first | (go_simp; done) | (go_simp; rfl)); intro gb105 hg w33 hbox hb; have n0_ := Aside0.mk (below_step (by repeat (first | (with_reducible first | exact HB.out | apply below_alloc | apply pw_below_drewN | apply below_drew1) | exact HB.out)) hb); have n1_ := Aside0.mk (hbox); have n2_ := Aside0.mk ((by rw [hg]; exact (below_size (by repeat (first | (with_reducible first | exact HB.out | apply below_alloc | apply pw_below_drewN | apply below_drew1) | exact HB.out))) : w.heap.size ≤ gb105)); have n3_ := Aside0.mk ((by rw [hg]; exact (below_size (by repeat (first | (with_reducible first | exact HB.out | apply below_alloc | apply pw_below_drewN | apply below_drew1) | exact HB.out))) : w.heap.size ≤ gb105)); clear HB; have HB := n0_; have BK105 := n1_; have GW105 := n2_; have GE105 := n3_; clear n0_ n1_ n2_ n3_; clear hb hbox hg; have hcz34_0 : w33.cell? ⟨gb105, 0, none⟩ = some (.int .u16 a0_0) := (blk_cell BK105.out 0).trans rfl; have hcz34_1 : w33.cell? ⟨gb105, 1, none⟩ = some (.int .u8 a0_1) := (blk_cell BK105.out 1).trans rfl; have hcz34_2 : w33.cell? ⟨gb105, 2, none⟩ = some (.int .u8 a0_2) := (blk_cell BK105.out 2).trans rfl; have hcz34_3 : w33.cell? ⟨gb105, 3, none⟩ = some (.int .u32 a0_3) := (blk_cell BK105.out 3).trans rfl; have hfz34_0 := blk_frozen BK105.out 0; have hfz34_1 := blk_frozen BK105.out 1; have hfz34_2 := blk_frozen BK105.out 2; have hfz34_3 := blk_frozen BK105.out 3) | ((with_reducible refine gate_callee (f := 81) rfl ?_); refine goesL_ (some 6) rfl rfl Try.func81 (by kernel_rfl) rfl #[.int .u16 a0_0] rfl (by (try simp only [List.map_toArray, List.map_cons, List.map_nil]); first | done | rfl | (simp only [List.length_drop, List.length_take]; rfl)) ?_; (with_reducible refine (riddleref2_Known.calls k a0_0 false _ A2.out).mono ?_); rintro e w' ⟨rfl, ⟨nd, rfl⟩⟩; refine ⟨_, rfl, ?_⟩))
    go_ret
    exact ⟨by first | rfl | (simp [errW_none, errW_some] <;> rfl) | (simp [*, errW_none, errW_some] <;> rfl), by repeat (first | (with_reducible first | exact HB.out | apply below_alloc | apply pw_below_drewN | apply below_drew1 | refine below_set ?_ GE105.out) | exact HB.out)⟩
def riddleref2_Class.f (k : Nat) (a0 : Int) : Option (Int) := (riddleref2_Known.f k a0).bind fun t107 => (if t107 = true then (some (wrap64 (Go.bits .and .u16 a0 7))) else (some (-1)))
theorem riddleref2_Class.mono : ∀ a0 k, LeO (riddleref2_Class.f k a0) (riddleref2_Class.f (k + 1) a0) := by
  intro a0 k
  unfold riddleref2_Class.f
  repeat' first
      | (with_reducible exact riddleref2_Known.mono _ _)
      | (with_reducible exact LeO.refl _)
      | (with_reducible exact LeO.none _)
      | (with_reducible refine LeO.ite ?_ ?_)
      | (with_reducible refine LeO.bind ?_ (fun _ => ?_))
      | exact riddleref2_Known.mono _ _
      | exact LeO.none _
      | refine LeO.ite ?_ ?_
      | refine LeO.bind ?_ (fun _ => ?_)
set_option maxHeartbeats 8000000 in
set_option maxRecDepth 100000 in
theorem riddleref2_Class.calls (k : Nat) (a0 : Int) (r : Int) (w : World) (h : riddleref2_Class.f k a0 = some r) :
    Calls Try.prog 61 #[.int .u16 a0] w fun e w' => e = .returned (.int .i64 r) ∧ Drawn0 w w' := by
  have H : ((riddleref2_Known.f k a0).bind fun t107 => (if t107 = true then (some (wrap64 (Go.bits .and .u16 a0 7))) else (some (-1)))) = some r := h
  clear h
  replace H := Option.bind_eq_some_iff.mp H
  obtain ⟨t107, A20, H⟩ := H
  replace H : (if t107 = true then (some (wrap64 (Go.bits .and .u16 a0 7))) else (some (-1))) = some r := H
  have A2 := Aside0.mk A20
  clear A20
  by_cases c3 : t107 = true
  · subst c3
    have H1 : (some (wrap64 (Go.bits .and .u16 a0 7))) = some r := by rw [if_pos rfl] at H; exact H
    clear H
    have H := H1
    clear H1
    obtain rfl := Option.some.inj H
    go_enter Try.func61, Try.ntmps61
    go_wp2_with (first | ((with_reducible refine gate_callee (f := 81) rfl ?_); refine goesL_ (some 4) rfl rfl Try.func81 (by kernel_rfl) rfl #[.int .u16 a0] rfl (by (try simp only [List.map_toArray, List.map_cons, List.map_nil]); first | done | rfl | (simp only [List.length_drop, List.length_take]; rfl)) ?_; (with_reducible refine (riddleref2_Known.calls k a0 true _ A2.out).mono ?_); rintro e w' ⟨rfl, ⟨nd, rfl⟩⟩; refine ⟨_, rfl, ?_⟩))
    go_ret
    exact ⟨by first | rfl | (simp; done) | (simp [*]; done), by repeat (first | exact Drawn0.refl _ | apply Drawn0.step)⟩
  · replace c3 := Bool.eq_false_iff.mpr c3
    subst c3
    have H1 : (some (-1)) = some r := by rw [if_neg (show ¬ (false = true) by decide)] at H; exact H
    clear H
    have H := H1
    clear H1
    obtain rfl := Option.some.inj H
    go_enter Try.func61, Try.ntmps61
    go_wp2_with (first | ((with_reducible refine gate_callee (f := 81) rfl ?_); refine goesL_ (some 4) rfl rfl Try.func81 (by kernel_rfl) rfl #[.int .u16 a0] rfl (by (try simp only [List.map_toArray, List.map_cons, List.map_nil]); first | done | rfl | (simp only [List.length_drop, List.length_take]; rfl)) ?_; (with_reducible refine (riddleref2_Known.calls k a0 false _ A2.out).mono ?_); rintro e w' ⟨rfl, ⟨nd, rfl⟩⟩; refine ⟨_, rfl, ?_⟩))
    go_ret
    exact ⟨by first | rfl | (simp; done) | (simp [*]; done), by repeat (first | exact Drawn0.refl _ | apply Drawn0.step)⟩
def riddleref15_code.l0 : Nat → List (S45) → Int → Option (Bool)
  | 0, _, _ => none
  | k + 1, x0, x3 => if x3 < (x0.length : Int) then (if 0 ≤ x3 then ((riddleref2_Class.f k ((rd_T45 x0 x3).f0)).bind fun t109 => (if t109 < 0 then (some false) else (if t109 = 5 then (some false) else (if t109 = 6 then (some false) else ((riddleref4_Fault.f k ((rd_T45 x0 x3).f0) ((rd_T45 x0 x3).f1) ((rd_T45 x0 x3).f2) ((rd_T45 x0 x3).f3)).bind fun t111 => (if t111 = 0 then (riddleref15_code.l0 k x0 (wrap64 (x3 + 1))) else (some false))))))) else (none)) else (some true)
def riddleref15_code.f (k : Nat) (l0 : List (S45)) : Option (Bool) := riddleref15_code.l0 k l0 0
theorem riddleref15_code.mono_l : ∀ k, (∀ y0 y1, LeO (riddleref15_code.l0 k y0 y1) (riddleref15_code.l0 (k + 1) y0 y1))
  | 0 => fun _ _ r h => by simp [riddleref15_code.l0] at h
  | k + 1 => by
    have ih0 := riddleref15_code.mono_l k
    · intro y0 y1
      unfold riddleref15_code.l0
      repeat' first
      | (with_reducible exact ih0 _ _)
      | (with_reducible exact riddleref2_Class.mono _ _)
      | (with_reducible exact riddleref4_Fault.mono _ _ _ _ _)
      | (with_reducible exact LeO.refl _)
      | (with_reducible exact LeO.none _)
      | (with_reducible refine LeO.ite ?_ ?_)
      | (with_reducible refine LeO.bind ?_ (fun _ => ?_))
      | exact ih0 _ _
      | exact riddleref2_Class.mono _ _
      | exact riddleref4_Fault.mono _ _ _ _ _
      | exact LeO.none _
      | refine LeO.ite ?_ ?_
      | refine LeO.bind ?_ (fun _ => ?_)
theorem riddleref15_code.mono : ∀ a0 k, LeO (riddleref15_code.f k a0) (riddleref15_code.f (k + 1) a0) := by
  intro a0 k
  have ih0 := riddleref15_code.mono_l k
  unfold riddleref15_code.f
  repeat' first
      | (with_reducible exact ih0 _ _)
      | (with_reducible exact riddleref2_Class.mono _ _)
      | (with_reducible exact riddleref4_Fault.mono _ _ _ _ _)
      | (with_reducible exact LeO.refl _)
      | (with_reducible exact LeO.none _)
      | (with_reducible refine LeO.ite ?_ ?_)
      | (with_reducible refine LeO.bind ?_ (fun _ => ?_))
      | exact ih0 _ _
      | exact riddleref2_Class.mono _ _
      | exact riddleref4_Fault.mono _ _ _ _ _
      | exact LeO.none _
      | refine LeO.ite ?_ ?_
      | refine LeO.bind ?_ (fun _ => ?_)
set_option maxHeartbeats 8000000 in
set_option maxRecDepth 100000 in
theorem riddleref15_code.calls (k : Nat) (A0 : Option Addr) (c0 : Nat) (l0 : List (S45)) (r : Bool) (w : World) (hr0 : Kd.C k45 w A0 l0.length l0) (hc0 : l0.length ≤ c0) (h : riddleref15_code.f k l0 = some r) :
    Calls Try.prog 89 #[.slice A0 l0.length c0] w fun e w' => e = .returned (.bool r) ∧ Below w.heap.size w w' := by
  have hu45 := Try.underlying45
  have HR0 := Aside0.mk hr0
  have HC0 := Aside0.mk hc0
  clear hr0 hc0
  have HB := Aside0.mk (Below.refl w.heap.size w)
  have H : (riddleref15_code.l0 k l0 0) = some r := h
  clear h
  have H' := Aside0.mk H
  clear H
  go_enter Try.func89, Try.ntmps89
  go_wp2
  go_loopg [3] k (fun kq v3 w' => ∃ (x3_1 : Int), v3 = .int .i64 x3_1 ∧ Aside0 (riddleref15_code.l0 kq l0 x3_1 = some r) ∧ Aside0 (kq ≤ k) ∧ Aside0 (Below w.heap.size w w'))
  case atStart => exact ⟨(0), (by first | rfl | (simp; done) | (simp [*]; done)), H', ⟨Nat.le_refl _⟩, ⟨by repeat (first | (with_reducible first | exact HB.out | apply below_alloc | apply pw_below_drewN | apply below_drew1) | exact HB.out)⟩⟩
  case round =>
    clear H'
    obtain ⟨x3_1, rfl, HA, HK1, HB⟩ := hrel
    cases gk with
    | zero => exact absurd HA.out (by simp [riddleref15_code.l0])
    | succ k1 =>
      have H := HA.out
      clear HA
      simp only [riddleref15_code.l0] at H
      by_cases c2 : x3_1 < (l0.length : Int)
      · rw [if_pos c2] at H
        have c2b0 : decide (x3_1 < (l0.length : Int)) = true := decide_eq_true c2
        clear c2
        by_cases c3 : 0 ≤ x3_1
        · rw [if_pos c3] at H
          have c3b0 : decide (0 ≤ x3_1) = true := decide_eq_true c3
          clear c3
          replace H := Option.bind_eq_some_iff.mp H
          obtain ⟨t109, A40, H⟩ := H
          replace H : (if t109 < 0 then (some false) else (if t109 = 5 then (some false) else (if t109 = 6 then (some false) else ((riddleref4_Fault.f k1 ((rd_T45 l0 x3_1).f0) ((rd_T45 l0 x3_1).f1) ((rd_T45 l0 x3_1).f2) ((rd_T45 l0 x3_1).f3)).bind fun t111 => (if t111 = 0 then (riddleref15_code.l0 k1 l0 (wrap64 (x3_1 + 1))) else (some false)))))) = some r := H
          have A4 := Aside0.mk A40
          clear A40
          by_cases c5 : t109 < 0
          · rw [if_pos c5] at H
            have c5b0 : decide (t109 < 0) = true := decide_eq_true c5
            clear c5
            obtain rfl := Option.some.inj H
            have p108 : 0 ≤ (x3_1 : Int) := of_decide_eq_true (by first | (with_reducible assumption) | assumption)
            have q108 : x3_1 < (l0.length : Int) := of_decide_eq_true (by first | (with_reducible assumption) | assumption)
            obtain ⟨ad108, e108, hx108_0, hx108_1, hx108_2, hx108_3⟩ := at_T45 HR0.out x3_1 p108 q108
            cases e108
            replace hx108_0 := (HB.out.cell (World.block_lt_of_cell? w _ hx108_0)).trans hx108_0
            replace hx108_1 := (HB.out.cell (World.block_lt_of_cell? w _ hx108_1)).trans hx108_1
            replace hx108_2 := (HB.out.cell (World.block_lt_of_cell? w _ hx108_2)).trans hx108_2
            replace hx108_3 := (HB.out.cell (World.block_lt_of_cell? w _ hx108_3)).trans hx108_3
            replace p108 := eq_true p108
            replace q108 := eq_true q108
            go_wp2_with (first | ((with_reducible refine gate_callee (f := 61) rfl ?_); refine goesL_ (some 16) rfl rfl Try.func61 (by kernel_rfl) rfl #[.int .u16 ((rd_T45 l0 x3_1).f0)] rfl (by (try simp only [List.map_toArray, List.map_cons, List.map_nil]); first | done | rfl | (simp only [List.length_drop, List.length_take]; rfl)) ?_; (with_reducible refine (riddleref2_Class.calls k1 ((rd_T45 l0 x3_1).f0) t109 _ A4.out).mono ?_); rintro e w' ⟨rfl, ⟨nd, rfl⟩⟩; refine ⟨_, rfl, ?_⟩))
            go_ret
            exact ⟨by first | rfl | (simp [errW_none, errW_some] <;> rfl) | (simp [*, errW_none, errW_some] <;> rfl), by repeat (first | (with_reducible first | exact HB.out | apply below_alloc | apply pw_below_drewN | apply below_drew1) | exact HB.out)⟩
          · rw [if_neg c5] at H
            have c5b0 : decide (t109 < 0) = false := decide_eq_false c5
            clear c5
            by_cases c6 : t109 = 5
            · rw [if_pos c6] at H
              have c6b0 : (t109 == 5) = true := beq_iff_eq.mpr c6
              have c6b1 : (t109 != 5) = false := bne_eq_false_iff_eq.mpr c6
              clear c6
              obtain rfl := Option.some.inj H
              have p108 : 0 ≤ (x3_1 : Int) := of_decide_eq_true (by first | (with_reducible assumption) | assumption)
              have q108 : x3_1 < (l0.length : Int) := of_decide_eq_true (by first | (with_reducible assumption) | assumption)
              obtain ⟨ad108, e108, hx108_0, hx108_1, hx108_2, hx108_3⟩ := at_T45 HR0.out x3_1 p108 q108
              cases e108
              replace hx108_0 := (HB.out.cell (World.block_lt_of_cell? w _ hx108_0)).trans hx108_0
              replace hx108_1 := (HB.out.cell (World.block_lt_of_cell? w _ hx108_1)).trans hx108_1
              replace hx108_2 := (HB.out.cell (World.block_lt_of_cell? w _ hx108_2)).trans hx108_2
              replace hx108_3 := (HB.out.cell (World.block_lt_of_cell? w _ hx108_3)).trans hx108_3
              replace p108 := eq_true p108
              replace q108 := eq_true q108
              go_wp2_with (first | ((with_reducible refine gate_callee (f := 61) rfl ?_); refine goesL_ (some 16) rfl rfl Try.func61 (by kernel_rfl) rfl #[.int .u16 ((rd_T45 l0 x3_1).f0)] rfl (by (try simp only [List.map_toArray, List.map_cons, List.map_nil]); first | done | rfl | (simp only [List.length_drop, List.length_take]; rfl)) ?_; (with_reducible refine (riddleref2_Class.calls k1 ((rd_T45 l0 x3_1).f0) t109 _ A4.out).mono ?_); rintro e w' ⟨rfl, ⟨nd, rfl⟩⟩; refine ⟨_, rfl, ?_⟩))
              go_ret
              exact ⟨by first | rfl | (simp [errW_none, errW_some] <;> rfl) | (simp [*, errW_none, errW_some] <;> rfl), by repeat (first | (with_reducible first | exact HB.out | apply below_alloc | apply pw_below_drewN | apply below_drew1) | exact HB.out)⟩
            · rw [if_neg c6] at H
              have c6b0 : (t109 == 5) = false := beq_eq_false_iff_ne.mpr c6
              have c6b1 : (t109 != 5) = true := bne_iff_ne.mpr c6
              by_cases c7 : t109 = 6
              · rw [if_pos c7] at H
                have c7b0 : (t109 == 6) = true := beq_iff_eq.mpr c7
                have c7b1 : (t109 != 6) = false := bne_eq_false_iff_eq.mpr c7
                clear c7
                obtain rfl := Option.some.inj H
                have p108 : 0 ≤ (x3_1 : Int) := of_decide_eq_true (by first | (with_reducible assumption) | assumption)
                have q108 : x3_1 < (l0.length : Int) := of_decide_eq_true (by first | (with_reducible assumption) | assumption)
                obtain ⟨ad108, e108, hx108_0, hx108_1, hx108_2, hx108_3⟩ := at_T45 HR0.out x3_1 p108 q108
                cases e108
                replace hx108_0 := (HB.out.cell (World.block_lt_of_cell? w _ hx108_0)).trans hx108_0
                replace hx108_1 := (HB.out.cell (World.block_lt_of_cell? w _ hx108_1)).trans hx108_1
                replace hx108_2 := (HB.out.cell (World.block_lt_of_cell? w _ hx108_2)).trans hx108_2
                replace hx108_3 := (HB.out.cell (World.block_lt_of_cell? w _ hx108_3)).trans hx108_3
                replace p108 := eq_true p108
                replace q108 := eq_true q108
                go_wp2_with (first | ((with_reducible refine gate_callee (f := 61) rfl ?_); refine goesL_ (some 16) rfl rfl Try.func61 (by kernel_rfl) rfl #[.int .u16 ((rd_T45 l0 x3_1).f0)] rfl (by (try simp only [List.map_toArray, List.map_cons, List.map_nil]); first | done | rfl | (simp only [List.length_drop, List.length_take]; rfl)) ?_; (with_reducible refine (riddleref2_Class.calls k1 ((rd_T45 l0 x3_1).f0) t109 _ A4.out).mono ?_); rintro e w' ⟨rfl, ⟨nd, rfl⟩⟩; refine ⟨_, rfl, ?_⟩))
                go_ret
                exact ⟨by first | rfl | (simp [errW_none, errW_some] <;> rfl) | (simp [*, errW_none, errW_some] <;> rfl), by repeat (first | (with_reducible first | exact HB.out | apply below_alloc | apply pw_below_drewN | apply below_drew1) | exact HB.out)⟩
              · rw [if_neg c7] at H
                have c7b0 : (t109 == 6) = false := beq_eq_false_iff_ne.mpr c7
                have c7b1 : (t109 != 6) = true := bne_iff_ne.mpr c7
                replace H := Option.bind_eq_some_iff.mp H
                obtain ⟨t111, A80, H⟩ := H
                replace H : (if t111 = 0 then (riddleref15_code.l0 k1 l0 (wrap64 (x3_1 + 1))) else (some false)) = some r := H
                have A8 := Aside0.mk A80
                clear A80
                by_cases c9 : t111 = 0
                · rw [if_pos c9] at H
                  have c9b0 : (t111 == 0) = true := beq_iff_eq.mpr c9
                  have c9b1 : (t111 != 0) = false := bne_eq_false_iff_eq.mpr c9
                  clear c9
                  have H' := Aside0.mk H
                  clear H
                  have p108 : 0 ≤ (x3_1 : Int) := of_decide_eq_true (by first | (with_reducible assumption) | assumption)
                  have q108 : x3_1 < (l0.length : Int) := of_decide_eq_true (by first | (with_reducible assumption) | assumption)
                  obtain ⟨ad108, e108, hx108_0, hx108_1, hx108_2, hx108_3⟩ := at_T45 HR0.out x3_1 p108 q108
                  cases e108
                  replace hx108_0 := (HB.out.cell (World.block_lt_of_cell? w _ hx108_0)).trans hx108_0
                  replace hx108_1 := (HB.out.cell (World.block_lt_of_cell? w _ hx108_1)).trans hx108_1
                  replace hx108_2 := (HB.out.cell (World.block_lt_of_cell? w _ hx108_2)).trans hx108_2
                  replace hx108_3 := (HB.out.cell (World.block_lt_of_cell? w _ hx108_3)).trans hx108_3
                  replace p108 := eq_true p108
                  replace q108 := eq_true q108
                  go_wp2_with (first | ((with_reducible refine gate_callee (f := 61) rfl ?_); refine goesL_ (some 16) rfl rfl Try.func61 (by kernel_rfl) rfl #[.int .u16 ((rd_T45 l0 x3_1).f0)] rfl (by (try simp only [List.map_toArray, List.map_cons, List.map_nil]); first | done | rfl | (simp only [List.length_drop, List.length_take]; rfl)) ?_; (with_reducible refine (riddleref2_Class.calls k1 ((rd_T45 l0 x3_1).f0) t109 _ A4.out).mono ?_); rintro e w' ⟨rfl, ⟨nd, rfl⟩⟩; refine ⟨_, rfl, ?_⟩; have p110 : 0 ≤ (x3_1 : Int) := of_decide_eq_true (by first | (with_reducible assumption) | assumption); have q110 : x3_1 < (l0.length : Int) := of_decide_eq_true (by first | (with_reducible assumption) | assumption); obtain ⟨ad110, e110, hx110_0, hx110_1, hx110_2, hx110_3⟩ := at_T45 HR0.out x3_1 p110 q110; obtain rfl : ad108 = ad110 := (by injection e110); replace hx110_0 := (HB.out.cell (World.block_lt_of_cell? w _ hx110_0)).trans hx110_0; replace hx110_1 := (HB.out.cell (World.block_lt_of_cell? w _ hx110_1)).trans hx110_1; replace hx110_2 := (HB.out.cell (World.block_lt_of_cell? w _ hx110_2)).trans hx110_2; replace hx110_3 := (HB.out.cell (World.block_lt_of_cell? w _ hx110_3)).trans hx110_3; replace p110 := eq_true p110; replace q110 := eq_true q110) | (go_at_call 49; (with_reducible refine (riddleref4_Fault.calls k1 ((rd_T45 l0 x3_1).f0) ((rd_T45 l0 x3_1).f1) ((rd_T45 l0 x3_1).f2) ((rd_T45 l0 x3_1).f3) t111 _ A8.out).mono ?_); rintro e w10 ⟨rfl, hb⟩; have n0_ := Aside0.mk (below_step (by repeat (first | (with_reducible first | exact HB.out | apply below_alloc | apply pw_below_drewN | apply below_drew1) | exact HB.out)) hb); clear HB; have HB := n0_; clear n0_; (try clear hb); (try clear hb2); (try clear hk); (try clear hi)))
                  go_roundg k1
                  case measure => have := HK1.out; omega
                  case rel => exact ⟨(wrap64 (x3_1 + 1)), (by first | rfl | (simp; done) | (simp [*]; done)), H', ⟨by have := HK1.out; omega⟩, ⟨by repeat (first | (with_reducible first | exact HB.out | apply below_alloc | apply pw_below_drewN | apply below_drew1) | exact HB.out)⟩⟩
                · rw [if_neg c9] at H
                  have c9b0 : (t111 == 0) = false := beq_eq_false_iff_ne.mpr c9
                  have c9b1 : (t111 != 0) = true := bne_iff_ne.mpr c9
                  obtain rfl := Option.some.inj H
                  have p108 : 0 ≤ (x3_1 : Int) := of_decide_eq_true (by first | (with_reducible assumption) | assumption)
                  have q108 : x3_1 < (l0.length : Int) := of_decide_eq_true (by first | (with_reducible assumption) | assumption)
                  obtain ⟨ad108, e108, hx108_0, hx108_1, hx108_2, hx108_3⟩ := at_T45 HR0.out x3_1 p108 q108
                  cases e108
                  replace hx108_0 := (HB.out.cell (World.block_lt_of_cell? w _ hx108_0)).trans hx108_0
                  replace hx108_1 := (HB.out.cell (World.block_lt_of_cell? w _ hx108_1)).trans hx108_1
                  replace hx108_2 := (HB.out.cell (World.block_lt_of_cell? w _ hx108_2)).trans hx108_2
                  replace hx108_3 := (HB.out.cell (World.block_lt_of_cell? w _ hx108_3)).trans hx108_3
                  replace p108 := eq_true p108
                  replace q108 := eq_true q108
                  go_wp2_with (first | ((with_reducible refine gate_callee (f := 61) rfl ?_); refine goesL_ (some 16) rfl rfl Try.func61 (by kernel_rfl) rfl #[.int .u16 ((rd_T45 l0 x3_1).f0)] rfl (by (try simp only [List.map_toArray, List.map_cons, List.map_nil]); first | done | rfl | (simp only [List.length_drop, List.length_take]; rfl)) ?_; (with_reducible refine (riddleref2_Class.calls k1 ((rd_T45 l0 x3_1).f0) t109 _ A4.out).mono ?_); rintro e w' ⟨rfl, ⟨nd, rfl⟩⟩; refine ⟨_, rfl, ?_⟩; have p110 : 0 ≤ (x3_1 : Int) := of_decide_eq_true (by first | (with_reducible assumption) | assumption); have q110 : x3_1 < (l0.length : Int) := of_decide_eq_true (by first | (with_reducible assumption) | assumption); obtain ⟨ad110, e110, hx110_0, hx110_1, hx110_2, hx110_3⟩ := at_T45 HR0.out x3_1 p110 q110; obtain rfl : ad108 = ad110 := (by injection e110); replace hx110_0 := (HB.out.cell (World.block_lt_of_cell? w _ hx110_0)).trans hx110_0; replace hx110_1 := (HB.out.cell (World.block_lt_of_cell? w _ hx110_1)).trans hx110_1; replace hx110_2 := (HB.out.cell (World.block_lt_of_cell? w _ hx110_2)).trans hx110_2; replace hx110_3 := (HB.out.cell (World.block_lt_of_cell? w _ hx110_3)).trans hx110_3; replace p110 := eq_true p110; replace q110 := eq_true q110) | (go_at_call 49; (with_reducible refine (riddleref4_Fault.calls k1 ((rd_T45 l0 x3_1).f0) ((rd_T45 l0 x3_1).f1) ((rd_T45 l0 x3_1).f2) ((rd_T45 l0 x3_1).f3) t111 _ A8.out).mono ?_); rintro e w11 ⟨rfl, hb⟩; have n0_ := Aside0.mk (below_step (by repeat (first | (with_reducible first | exact HB.out | apply below_alloc | apply pw_below_drewN | apply below_drew1) | exact HB.out)) hb); clear HB; have HB := n0_; clear n0_; (try clear hb); (try clear hb2); (try clear hk); (try clear hi)))
                  go_ret
                  exact ⟨by first | rfl | (simp [errW_none, errW_some] <;> rfl) | (simp [*, errW_none, errW_some] <;> rfl), by repeat (first | (with_reducible first | exact HB.out | apply below_alloc | apply pw_below_drewN | apply below_drew1) | exact HB.out)⟩
        · rw [if_neg c3] at H
          exact absurd H (by simp)
      · rw [if_neg c2] at H
        have c2b0 : decide (x3_1 < (l0.length : Int)) = false := decide_eq_false c2
        clear c2
        obtain rfl := Option.some.inj H
        go_wp2
        go_ret
        exact ⟨by first | rfl | (simp [errW_none, errW_some] <;> rfl) | (simp [*, errW_none, errW_some] <;> rfl), by repeat (first | (with_reducible first | exact HB.out | apply below_alloc | apply pw_below_drewN | apply below_drew1) | exact HB.out)⟩
def riddleref2_Return.f (a0 : Int) : Option (Bool) := if a0 = 6 then (some true) else (some (a0 == 22))
set_option maxHeartbeats 8000000 in
set_option maxRecDepth 100000 in
theorem riddleref2_Return.calls (a0 : Int) (r : Bool) (w : World) (h : riddleref2_Return.f a0 = some r) :
    Calls Try.prog 51 #[.int .u16 a0] w fun e w' => e = .returned (.bool r) ∧ Drawn0 w w' := by
  have H : (if a0 = 6 then (some true) else (some (a0 == 22))) = some r := h
  clear h
  by_cases c2 : a0 = 6
  · rw [if_pos c2] at H
    have c2b0 : (a0 == 6) = true := beq_iff_eq.mpr c2
    have c2b1 : (a0 != 6) = false := bne_eq_false_iff_eq.mpr c2
    clear c2
    obtain rfl := Option.some.inj H
    go_enter Try.func51, Try.ntmps51
    go_wp2
    go_ret
    exact ⟨by first | rfl | (simp; done) | (simp [*]; done), by repeat (first | exact Drawn0.refl _ | apply Drawn0.step)⟩
  · rw [if_neg c2] at H
    have c2b0 : (a0 == 6) = false := beq_eq_false_iff_ne.mpr c2
    have c2b1 : (a0 != 6) = true := bne_iff_ne.mpr c2
    obtain rfl := Option.some.inj H
    go_enter Try.func51, Try.ntmps51
    go_wp2
    go_ret
    exact ⟨by first | rfl | (simp; done) | (simp [*]; done), by repeat (first | exact Drawn0.refl _ | apply Drawn0.step)⟩
end Go.Proofs.Ytdkalnkplgfgoaa.PA
