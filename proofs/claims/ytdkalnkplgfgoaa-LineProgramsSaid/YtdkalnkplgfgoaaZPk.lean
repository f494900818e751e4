/- Lemmas and walks for the statements of the texts ZPZ..: the declarations that they need, taken together by a program of this session. Conditions: as each says. -/
import Derived.ArgAppend
import Derived.Test.YtdkalnkplgfgoaaZPb
import Derived.Test.YtdkalnkplgfgoaaZPd
import Derived.Test.YtdkalnkplgfgoaaZPg
import Derived.Test.YtdkalnkplgfgoaaZPi
import Derived.Test.YtdkalnkplgfgoaaZPj
namespace Go.Proofs.Ytdkalnkplgfgoaa.Ln
open Go.RowKit Go.Proofs.YtdkalnkplgfgoaaW.PrintWords Go.Proofs.YtdkalnkplgfgoaaW.PrintLast Go.Proofs.YtdkalnkplgfgoaaW.PrintMore Go.Proofs.Ytdkalnkplgfgoaa.PA
set_option linter.unusedVariables false
set_option linter.unusedSimpArgs false
theorem rck_l (g : List S47) (hg : g.length ≤ 4096) (hF : Fit g) : ∀ (d j : Nat), g.length - j = d → j ≤ g.length → ∀ left : Int, 0 ≤ left → left ≤ 4096 → ∀ k, d + 5000 ≤ k →
    ∃ r : Int × Int, riddleref15_Check.l0 k g left (j : Int) = some r ∧ (r.2 = 0 ↔ tkL g.length (g.drop j) (j : Int) left = true) := by
  intro d
  induction d with
  | zero =>
    intro j hd hj left h0 h1 k hk
    obtain ⟨k, rfl⟩ : ∃ m, k = m + 1 := ⟨k - 1, by omega⟩
    rw [riddleref15_Check.l0, if_neg (by omega), List.drop_of_length_le (by omega)]
    exact ⟨_, rfl, by simp [tkL]⟩
  | succ d ih =>
    intro j hd hj left h0 h1 k hk
    obtain ⟨k, rfl⟩ : ∃ m, k = m + 9 := ⟨k - 9, by omega⟩
    have hlt : j < g.length := by omega
    have hf := hF (g[j]) (List.getElem_mem hlt)
    rw [riddleref15_Check.l0, if_pos (by omega), if_pos (by omega), rdB_at hlt, List.drop_eq_getElem_cons hlt, tkL]
    by_cases a : ((g[j]).f0.length : Int) > left
    · rw [if_pos a, decide_eq_false (by omega : ¬ ((g[j]).f0.length : Int) ≤ left)]
      exact ⟨_, rfl, by simp⟩
    rw [if_neg a, decide_eq_true (by omega : ((g[j]).f0.length : Int) ≤ left), code_f _ hf (k + 8) (by omega), Option.bind_some]
    cases hc : codeB (g[j]).f0
    · rw [if_neg (by decide)]; exact ⟨_, rfl, by simp⟩
    rw [if_pos rfl, end_f, Option.bind_some]
    cases he : endB (g[j])
    · rw [if_neg (by decide)]; exact ⟨_, rfl, by simp⟩
    rw [if_pos rfl, goals_f, Option.bind_some]
    cases hgo : goalB (g[j]) (j : Int) (g.length : Int)
    · rw [if_neg (by decide)]; exact ⟨_, rfl, by simp⟩
    rw [if_pos rfl, w64 (n := (j : Int) + 1) (by omega) (by omega), w64 (n := left - ((g[j]).f0.length : Int)) (by omega) (by omega)]
    obtain ⟨r, e, h⟩ := ih (j + 1) (by omega) (by omega) (left - ((g[j]).f0.length : Int)) (by omega) (by omega) (k + 8) (by omega)
    rw [show ((j + 1 : Nat) : Int) = (j : Int) + 1 by omega] at e h
    exact ⟨r, e, by simpa using h⟩
theorem rtakes (g : List S47) (hF : Fit g) (k : Nat) (hk : 10000 ≤ k) : riddleref15_Takes.f k g = some (TkB g) := by
  unfold riddleref15_Takes.f riddleref15_Check.f TkB
  by_cases a : (g.length : Int) = 0
  · rw [if_pos a, decide_eq_false (by omega : ¬ 0 < g.length)]; rfl
  rw [if_neg a, decide_eq_true (by omega : 0 < g.length)]
  by_cases b : (g.length : Int) > 4096
  · rw [if_pos b, decide_eq_false (by omega : ¬ g.length ≤ 4096)]; rfl
  rw [if_neg b, decide_eq_true (by omega : g.length ≤ 4096)]
  obtain ⟨r, e, h⟩ := rck_l g (by omega) hF g.length 0 rfl (by omega) 4096 (by omega) (by omega) k (by omega)
  rw [show ((0 : Nat) : Int) = 0 from rfl] at e h
  rw [e, Option.bind_some]
  congr 1
  rw [Bool.eq_iff_iff, beq_iff_eq, h]
  simp
theorem bare_f (i : S45) (k : Nat) : graph_bare.f (k + 8) i.f0 i.f1 i.f2 i.f3 = some (bareB i) := by
  obtain ⟨u2, u3, e⟩ := (uses_f i.f0 k).1
  unfold graph_bare.f bareB
  rw [e, Option.bind_some]
  by_cases q1 : i.f1 = 0 <;> by_cases q2 : i.f2 = 0 <;> cases u : usK i.f0 <;> by_cases q3 : i.f3 = 0 <;> simp [q1, q2, q3]
theorem ended_f (b : S47) (k : Nat) : graph_ended.f (k + 8) b.f0 b.f1 b.f2.f0 b.f2.f1 b.f2.f2 b.f2.f3 b.f3 b.f4 = some (endB b) := by
  unfold graph_ended.f endB
  rw [(class_f _ k).1, bare_f]
  simp only [Option.bind_some]
  by_cases e1 : b.f1 = 1
  · rw [if_pos e1, if_pos e1]
    cases r : reB b.f2.f0
    · rw [if_neg (fun h => by have := (cls_ret _).1 h; rw [r] at this; cases this)]; rfl
    · rw [if_pos ((cls_ret _).2 r)]
      cases bareB b.f2
      · rfl
      · rw [if_pos rfl]
        by_cases e3 : b.f3 = 0
        · rw [if_pos e3]; simp [e3]; exact rfl
        · rw [if_neg e3]; simp [e3]
  rw [if_neg e1, if_neg e1]
  by_cases e2 : b.f1 = 2
  · rw [if_pos e2, if_pos e2]
    by_cases q : b.f2.f0 = 0 ∧ b.f2.f1 = 0 ∧ b.f2.f2 = 0 ∧ b.f2.f3 = 0
    · rw [if_pos (by simp [q]), decide_eq_true q]; simp; exact rfl
    · rw [if_neg (by simpa using q), decide_eq_false q]; rfl
  rw [if_neg e2, if_neg e2]
  by_cases e3 : b.f1 = 3
  · rw [if_pos e3, if_pos e3]
    by_cases c5 : b.f2.f0 = 5
    · rw [if_pos ((cls_jmp _).2 (.inl c5)), if_pos c5, c5]; rfl
    cases j : jmB b.f2.f0
    · rw [if_neg (fun h => by rcases (cls_jmp _).1 h with h | h; exact c5 h; rw [j] at h; cases h)]; rfl
    · rw [if_pos ((cls_jmp _).2 (.inr j)), if_neg c5]; rfl
  · rw [if_neg e3, if_neg e3]
theorem gone_l1a (i n : Int) (gs : List Int) (hl : gs.length ≤ 4) : ∀ (d j : Nat), gs.length - j = d → j ≤ gs.length → ∀ k, d + 1 ≤ k → graph_one.l1 k i n gs (gs.length : Int) (j : Int) = some (if (gs.drop j).all (fun x => decide (i < x ∧ x < n)) then 0 else 154) := by
  intro d
  induction d with
  | zero =>
    intro j hd hj k hk
    obtain ⟨k, rfl⟩ : ∃ m, k = m + 1 := ⟨k - 1, by omega⟩
    rw [graph_one.l1, if_neg (by omega), List.drop_of_length_le (by omega)]
    rfl
  | succ d ih =>
    intro j hd hj k hk
    obtain ⟨k, rfl⟩ : ∃ m, k = m + 1 := ⟨k - 1, by omega⟩
    have hlt : j < gs.length := by omega
    have hrd : rd gs (j : Int) = gs[j] := by
      unfold rd
      rw [Int.toNat_natCast, List.getD_eq_getElem?_getD, List.getElem?_eq_getElem hlt]
      rfl
    rw [graph_one.l1, if_pos (by omega), if_pos (by omega), if_pos (by omega), hrd, w64 (n := (j : Int) + 1) (by omega) (by omega), List.drop_eq_getElem_cons hlt, List.all_cons]
    by_cases a : gs[j] ≤ i
    · rw [if_pos a, decide_eq_false (by omega : ¬ (i < gs[j] ∧ gs[j] < n))]; rfl
    rw [if_neg a]
    by_cases c : gs[j] ≥ n
    · rw [if_pos c, decide_eq_false (by omega : ¬ (i < gs[j] ∧ gs[j] < n))]; rfl
    rw [if_neg c, decide_eq_true (by omega : i < gs[j] ∧ gs[j] < n), Bool.true_and]
    have := ih (j + 1) (by omega) (by omega) k (by omega)
    rw [show ((j + 1 : Nat) : Int) = (j : Int) + 1 by omega] at this
    exact this
theorem gone_l1 (b : S47) (i n : Int) (h : endB b = true) (k : Nat) (gs : List Int) (hgs : graph_goals.f b.f0 b.f1 b.f2.f0 b.f2.f1 b.f2.f2 b.f2.f3 b.f3 b.f4 = some gs) : graph_one.l1 (k + 4) i n gs (gs.length : Int) 0 = some (if goalB b i n then 0 else 154) := by
  have H : gs.length ≤ 2 ∧ (gs.all (fun x => decide (i < x ∧ x < n))) = goalB b i n := by
    unfold graph_goals.f at hgs
    unfold goalB
    by_cases e1 : b.f1 = 1
    · rw [if_neg (by omega), if_neg (by omega)] at hgs
      obtain rfl : [] = gs := by simpa using hgs
      simp [e1]
    by_cases e2 : b.f1 = 2
    · rw [if_pos e2] at hgs
      obtain rfl : [b.f3] = gs := by simpa using hgs
      simp [e1, e2]
    by_cases e3 : b.f1 = 3
    · rw [if_neg e2, if_pos e3] at hgs
      obtain rfl : [b.f3, b.f4] = gs := by simpa using hgs
      simp [e1, e3]
    · unfold endB at h
      rw [if_neg e1, if_neg e2, if_neg e3] at h
      cases h
  have := gone_l1a i n gs (by omega) gs.length 0 rfl (by omega) (k + 4) (by omega)
  rw [List.drop_zero, H.2] at this
  exact this
theorem gone_l (b : S47) (hl : (b.f0.length : Int) ≤ 140737488351232) (i n : Int) : ∀ (d j : Nat), b.f0.length - j = d → j ≤ b.f0.length → ∀ k, d + 9 ≤ k →
    ∃ e : Int, graph_one.l0 k i n b.f0 (b.f0.length : Int) (j : Int) b.f0 b.f1 b.f2.f0 b.f2.f1 b.f2.f2 b.f2.f3 b.f3 b.f4 = some e ∧ (e = 0 ↔ ((b.f0.drop j).all (fun i => stB i.f0 i.f3) && endB b && goalB b i n) = true) := by
  intro d
  induction d with
  | zero =>
    intro j hd hj k hk
    obtain ⟨k, rfl⟩ : ∃ m, k = m + 9 := ⟨k - 9, by omega⟩
    rw [graph_one.l0, if_neg (by omega), ended_f, Option.bind_some, List.drop_of_length_le (by omega)]
    cases he : endB b
    · rw [if_neg (by decide)]; exact ⟨_, rfl, by simp⟩
    · rw [if_pos rfl]
      obtain ⟨gs, hgs⟩ : ∃ gs, graph_goals.f b.f0 b.f1 b.f2.f0 b.f2.f1 b.f2.f2 b.f2.f3 b.f3 b.f4 = some gs := by
        unfold graph_goals.f
        split
        · exact ⟨_, rfl⟩
        · split <;> exact ⟨_, rfl⟩
      rw [hgs, Option.bind_some, gone_l1 b i n he (k + 4) gs hgs]
      refine ⟨_, rfl, ?_⟩
      cases goalB b i n <;> simp
  | succ d ih =>
    intro j hd hj k hk
    obtain ⟨k, rfl⟩ : ∃ m, k = m + 9 := ⟨k - 9, by omega⟩
    have hlt : j < b.f0.length := by omega
    rw [graph_one.l0, if_pos (by omega), if_pos (by omega), if_pos (by omega), rdI_at hlt, straight_f, Option.bind_some, List.drop_eq_getElem_cons hlt, List.all_cons]
    cases hs : stB (b.f0[j]).f0 (b.f0[j]).f3
    · rw [if_neg (by decide)]; exact ⟨_, rfl, by simp⟩
    · rw [if_pos rfl, w64 (n := (j : Int) + 1) (by omega) (by omega)]
      obtain ⟨e, h1, h2⟩ := ih (j + 1) (by omega) (by omega) (k + 8) (by omega)
      rw [show ((j + 1 : Nat) : Int) = (j : Int) + 1 by omega] at h1
      exact ⟨e, h1, by simpa using h2⟩
theorem gck_l (g : List S47) (hg : g.length ≤ 4096) (hF : Fit g) : ∀ (d j : Nat), g.length - j = d → j ≤ g.length → ∀ left : Int, 0 ≤ left → left ≤ 4096 → ∀ k, d + 5000 ≤ k →
    ∃ r : Int × Int, graph_Check.l0 k g (4096 - left) g (g.length : Int) (j : Int) = some r ∧ (r.2 = 0 ↔ tkL g.length (g.drop j) (j : Int) left = true) := by
  intro d
  induction d with
  | zero =>
    intro j hd hj left h0 h1 k hk
    obtain ⟨k, rfl⟩ : ∃ m, k = m + 1 := ⟨k - 1, by omega⟩
    rw [graph_Check.l0, if_neg (by omega), List.drop_of_length_le (by omega)]
    exact ⟨_, rfl, by simp [tkL]⟩
  | succ d ih =>
    intro j hd hj left h0 h1 k hk
    obtain ⟨k, rfl⟩ : ∃ m, k = m + 9 := ⟨k - 9, by omega⟩
    have hlt : j < g.length := by omega
    have hf := hF (g[j]) (List.getElem_mem hlt)
    rw [graph_Check.l0, if_pos (by omega), if_pos (by omega), if_pos (by omega), rdB_at hlt, List.drop_eq_getElem_cons hlt, tkL, w64 (n := 4096 - left + ((g[j]).f0.length : Int)) (by omega) (by omega)]
    unfold graph_one.f
    by_cases a : ((g[j]).f0.length : Int) > left
    · rw [if_pos (by omega), decide_eq_false (by omega : ¬ ((g[j]).f0.length : Int) ≤ left), Option.bind_some, if_neg (by decide)]
      exact ⟨_, rfl, by simp⟩
    obtain ⟨e, h2, h3⟩ := gone_l (g[j]) hf (j : Int) (g.length : Int) _ 0 rfl (by omega) (k + 8) (by omega)
    rw [show ((0 : Nat) : Int) = 0 from rfl] at h2
    rw [if_neg (by omega), decide_eq_true (by omega : ((g[j]).f0.length : Int) ≤ left), h2, Option.bind_some]
    rw [List.drop_zero] at h3
    by_cases e0 : e = 0
    · rw [if_pos e0]
      have h4 := h3.1 e0
      simp only [Bool.and_eq_true] at h4
      obtain ⟨r, e1, h5⟩ := ih (j + 1) (by omega) (by omega) (left - ((g[j]).f0.length : Int)) (by omega) (by omega) (k + 8) (by omega)
      rw [show ((j + 1 : Nat) : Int) = (j : Int) + 1 by omega] at e1 h5
      rw [w64 (n := (j : Int) + 1) (by omega) (by omega), show 4096 - left + ((g[j]).f0.length : Int) = 4096 - (left - ((g[j]).f0.length : Int)) by omega]
      refine ⟨r, e1, h5.trans ?_⟩
      rw [show codeB (g[j]).f0 = true from h4.1.1, h4.1.2, h4.2]
      simp
    · rw [if_neg e0]
      refine ⟨_, rfl, ?_⟩
      constructor
      · intro h; exact absurd h e0
      · intro h
        simp only [Bool.and_eq_true] at h
        exact absurd (h3.2 (by rw [show (g[j]).f0.all (fun i => stB i.f0 i.f3) = true from h.1.1.1.2, h.1.1.2, h.1.2]; rfl)) e0
theorem gtaken (g : List S47) (hF : Fit g) (k : Nat) (hk : 10000 ≤ k) : graph_taken.f k g = some (if TkB g then 0 else 155) := by
  unfold graph_taken.f graph_Check.f TkB
  by_cases a : (g.length : Int) = 0
  · rw [if_pos a, decide_eq_false (by omega : ¬ 0 < g.length)]; rfl
  rw [if_neg a, decide_eq_true (by omega : 0 < g.length)]
  by_cases b : (g.length : Int) > 4096
  · rw [if_pos b, decide_eq_false (by omega : ¬ g.length ≤ 4096)]; rfl
  rw [if_neg b, decide_eq_true (by omega : g.length ≤ 4096)]
  obtain ⟨r, e, h⟩ := gck_l g (by omega) hF g.length 0 rfl (by omega) 4096 (by omega) (by omega) k (by omega)
  rw [show ((0 : Nat) : Int) = 0 from rfl] at e h
  rw [show (4096 : Int) - 4096 = 0 from rfl] at e
  rw [e, Option.bind_some]
  rw [List.drop_zero] at h
  simp only [Bool.true_and]
  by_cases e0 : r.2 = 0
  · rw [if_pos e0, if_pos (h.1 e0)]
  · rw [if_neg e0, if_neg (fun x => e0 (h.2 x))]
/-- A block that stands at place j of what is taken. -/
theorem tkL_at (n : Int) : ∀ (g : List S47) (i left : Int), tkL n g i left = true → 0 ≤ left → ∀ (j : Nat) (h : j < g.length), (g[j].f0.length : Int) ≤ left ∧ codeB g[j].f0 = true ∧ endB g[j] = true ∧ goalB g[j] (i + j) n = true
  | [], i, left, h, hl, j, hj => absurd hj (Nat.not_lt_zero _)
  | b :: r, i, left, h, hl, 0, hj => by
    simp only [tkL, Bool.and_eq_true, decide_eq_true_eq] at h
    refine ⟨h.1.1.1.1, h.1.1.1.2, h.1.1.2, ?_⟩
    rw [show i + ((0 : Nat) : Int) = i by omega]
    exact h.1.2
  | b :: r, i, left, h, hl, j + 1, hj => by
    simp only [tkL, Bool.and_eq_true, decide_eq_true_eq] at h
    have := tkL_at n r (i + 1) _ h.2 (by omega) j (by simpa using hj)
    rw [show i + 1 + (j : Int) = i + ((j + 1 : Nat) : Int) by omega] at this
    exact ⟨by have := this.1; rw [List.getElem_cons_succ]; omega, this.2⟩
theorem end_kind {b : S47} (h : endB b = true) : b.f1 = 1 ∨ b.f1 = 2 ∨ b.f1 = 3 := by
  unfold endB at h
  by_cases e1 : b.f1 = 1
  · exact .inl e1
  by_cases e2 : b.f1 = 2
  · exact .inr (.inl e2)
  by_cases e3 : b.f1 = 3
  · exact .inr (.inr e3)
  rw [if_neg e1, if_neg e2, if_neg e3] at h
  cases h
theorem msL_le (n : Int) : ∀ (g : List S47) (i left : Int), tkL n g i left = true → 0 ≤ left → 0 ≤ msL g ∧ msL g ≤ left + 3 * g.length
  | [], i, left, h, hl => by simp [msL]; omega
  | b :: r, i, left, h, hl => by
    simp only [tkL, Bool.and_eq_true, decide_eq_true_eq] at h
    have := msL_le n r (i + 1) _ h.2 (by omega)
    unfold msL
    rw [List.length_cons]
    split <;> omega
theorem rms_l (g : List S47) (hn : g.length ≤ 4096) (hm : 0 ≤ msL g) (hM : msL g ≤ 100000) : ∀ (d j : Nat), g.length - j = d → j ≤ g.length → ∀ acc : Int, acc + msL (g.drop j) = msL g → 0 ≤ acc → ∀ k, d + 2 ≤ k → riddleref15_Measure.l0 k g acc (j : Int) = some (msL g) := by
  have hnn : ∀ l : List S47, 0 ≤ msL l := by
    intro l
    induction l with
    | nil => exact Int.le_refl _
    | cons b r ih => unfold msL; split <;> omega
  intro d
  induction d with
  | zero =>
    intro j hd hj acc ha h0 k hk
    obtain ⟨k, rfl⟩ : ∃ m, k = m + 1 := ⟨k - 1, by omega⟩
    rw [riddleref15_Measure.l0, if_neg (by omega)]
    rw [List.drop_of_length_le (by omega)] at ha
    simp only [msL] at ha
    rw [show acc = msL g by omega]
  | succ d ih =>
    intro j hd hj acc ha h0 k hk
    obtain ⟨k, rfl⟩ : ∃ m, k = m + 1 := ⟨k - 1, by omega⟩
    have hlt : j < g.length := by omega
    rw [List.drop_eq_getElem_cons hlt, msL] at ha
    have hd2 := hnn (g.drop (j + 1))
    rw [riddleref15_Measure.l0, if_pos (by omega), if_pos (by omega), rdB_at hlt, w64 (n := (j : Int) + 1) (by omega) (by omega)]
    have hl0 : (0 : Int) ≤ ((g[j]).f0.length : Int) := by omega
    by_cases e3 : (g[j]).f1 = 3
    · rw [if_pos e3] at ha
      rw [if_pos e3, w64 (n := acc + ((g[j]).f0.length : Int)) (by omega) (by omega), w64 (n := acc + ((g[j]).f0.length : Int) + 1) (by omega) (by omega), w64 (n := acc + ((g[j]).f0.length : Int) + 1 + 2) (by omega) (by omega)]
      have := ih (j + 1) (by omega) (by omega) (acc + ((g[j]).f0.length : Int) + 1 + 2) (by omega) (by omega) k (by omega)
      rw [show ((j + 1 : Nat) : Int) = (j : Int) + 1 by omega] at this
      exact this
    · rw [if_neg e3] at ha
      rw [if_neg e3, w64 (n := acc + ((g[j]).f0.length : Int)) (by omega) (by omega), w64 (n := acc + ((g[j]).f0.length : Int) + 1) (by omega) (by omega)]
      have := ih (j + 1) (by omega) (by omega) (acc + ((g[j]).f0.length : Int) + 1) (by omega) (by omega) k (by omega)
      rw [show ((j + 1 : Nat) : Int) = (j : Int) + 1 by omega] at this
      exact this
theorem gms_l (g : List S47) (hn : g.length ≤ 4096) (hk3 : ∀ b ∈ g, b.f1 = 1 ∨ b.f1 = 2 ∨ b.f1 = 3) (hm : 0 ≤ msL g) (hM : msL g ≤ 100000) : ∀ (d j : Nat), g.length - j = d → j ≤ g.length → ∀ acc : Int, acc + msL (g.drop j) = msL g → 0 ≤ acc → ∀ k, d + 2 ≤ k → graph_weighed.l0 k 1 1 3 acc g (g.length : Int) (j : Int) = some (msL g, 0) := by
  have hnn : ∀ l : List S47, 0 ≤ msL l := by
    intro l
    induction l with
    | nil => exact Int.le_refl _
    | cons b r ih => unfold msL; split <;> omega
  intro d
  induction d with
  | zero =>
    intro j hd hj acc ha h0 k hk
    obtain ⟨k, rfl⟩ : ∃ m, k = m + 1 := ⟨k - 1, by omega⟩
    rw [graph_weighed.l0, if_neg (by omega)]
    rw [List.drop_of_length_le (by omega)] at ha
    simp only [msL] at ha
    rw [show acc = msL g by omega]
  | succ d ih =>
    intro j hd hj acc ha h0 k hk
    obtain ⟨k, rfl⟩ : ∃ m, k = m + 1 := ⟨k - 1, by omega⟩
    have hlt : j < g.length := by omega
    rw [List.drop_eq_getElem_cons hlt, msL] at ha
    have hd2 := hnn (g.drop (j + 1))
    have hkk := hk3 (g[j]) (List.getElem_mem hlt)
    rw [graph_weighed.l0, if_pos (by omega), if_pos (by omega), if_pos (by omega), rdB_at hlt, w64 (n := (j : Int) + 1) (by omega) (by omega)]
    have hl0 : (0 : Int) ≤ ((g[j]).f0.length : Int) := by omega
    by_cases e1 : (g[j]).f1 = 1
    · rw [if_neg (by omega)] at ha
      rw [if_pos e1, w64 (n := acc + ((g[j]).f0.length : Int)) (by omega) (by omega), w64 (n := acc + ((g[j]).f0.length : Int) + 1) (by omega) (by omega)]
      have := ih (j + 1) (by omega) (by omega) (acc + ((g[j]).f0.length : Int) + 1) (by omega) (by omega) k (by omega)
      rw [show ((j + 1 : Nat) : Int) = (j : Int) + 1 by omega] at this
      exact this
    rw [if_neg e1]
    by_cases e2 : (g[j]).f1 = 2
    · rw [if_neg (by omega)] at ha
      rw [if_pos e2, w64 (n := acc + ((g[j]).f0.length : Int)) (by omega) (by omega), w64 (n := acc + ((g[j]).f0.length : Int) + 1) (by omega) (by omega)]
      have := ih (j + 1) (by omega) (by omega) (acc + ((g[j]).f0.length : Int) + 1) (by omega) (by omega) k (by omega)
      rw [show ((j + 1 : Nat) : Int) = (j : Int) + 1 by omega] at this
      exact this
    rw [if_neg e2]
    have e3 : (g[j]).f1 = 3 := by omega
    rw [if_pos e3] at ha
    rw [w64 (n := acc + ((g[j]).f0.length : Int)) (by omega) (by omega), w64 (n := acc + ((g[j]).f0.length : Int) + 3) (by omega) (by omega)]
    have := ih (j + 1) (by omega) (by omega) (acc + ((g[j]).f0.length : Int) + 3) (by omega) (by omega) k (by omega)
    rw [show ((j + 1 : Nat) : Int) = (j : Int) + 1 by omega] at this
    exact this
/-- What is taken, told out. -/
theorem tk_out {g : List S47} (h : TkB g = true) : 0 < g.length ∧ g.length ≤ 4096 ∧ tkL g.length g 0 4096 = true := by
  unfold TkB at h
  simp only [Bool.and_eq_true, decide_eq_true_eq] at h
  exact ⟨h.1.1, h.1.2, h.2⟩
theorem tk_mem {g : List S47} (h : TkB g = true) {b : S47} (hb : b ∈ g) : (b.f0.length : Int) ≤ 4096 ∧ codeB b.f0 = true ∧ endB b = true := by
  obtain ⟨j, hj, rfl⟩ := List.getElem_of_mem hb
  have := tkL_at _ g 0 4096 (tk_out h).2.2 (by omega) j hj
  exact ⟨this.1, this.2.1, this.2.2.1⟩
theorem tk_ms {g : List S47} (h : TkB g = true) : 0 ≤ msL g ∧ msL g ≤ 100000 := by
  have := msL_le _ g 0 4096 (tk_out h).2.2 (by omega)
  have h2 := (tk_out h).2.1
  omega
theorem rmeasure {g : List S47} (h : TkB g = true) (k : Nat) (hk : 10000 ≤ k) : riddleref15_Measure.f k g = some (msL g) := by
  have := rms_l g (tk_out h).2.1 (tk_ms h).1 (tk_ms h).2 g.length 0 rfl (by omega) 0 (by rw [List.drop_zero]; omega) (by omega) k (by have := (tk_out h).2.1; omega)
  rw [show ((0 : Nat) : Int) = 0 from rfl] at this
  exact this
theorem gmeasure {g : List S47} (hF : Fit g) (h : TkB g = true) (k : Nat) (hk : 10000 ≤ k) : graph_Measure.f k g = some (msL g, 0) := by
  have := gms_l g (tk_out h).2.1 (fun b hb => end_kind (tk_mem h hb).2.2) (tk_ms h).1 (tk_ms h).2 g.length 0 rfl (by omega) 0 (by rw [List.drop_zero]; omega) (by omega) k (by have := (tk_out h).2.1; omega)
  rw [show ((0 : Nat) : Int) = 0 from rfl] at this
  unfold graph_Measure.f graph_weighed.f
  rw [gtaken g hF k hk, h, Option.bind_some, if_pos rfl]
  rw [if_pos rfl, this, Option.bind_some]
theorem gmeasure_no {g : List S47} (hF : Fit g) (h : TkB g = false) (k : Nat) (hk : 10000 ≤ k) : graph_Measure.f k g = some (0, 155) := by
  unfold graph_Measure.f graph_weighed.f
  rw [gtaken g hF k hk, h, Option.bind_some, if_neg (by decide), if_neg (by decide), Option.bind_some]
theorem lcode {g : List S47} (hF : Fit g) (k : Nat) (hk : 10000 ≤ k) : riddlelaw18_code.f k g = some (if TkB g then (if msL g > 4096 then 181 else 0) else 180) := by
  unfold riddlelaw18_code.f
  rw [rtakes g hF k hk, Option.bind_some]
  cases h : TkB g
  · rw [if_neg (by decide), if_neg (by decide)]
  · rw [if_pos rfl, if_pos rfl, rmeasure h k hk, Option.bind_some]
    split <;> rfl
end Go.Proofs.Ytdkalnkplgfgoaa.Ln
namespace Go.Proofs.Ytdkalnkplgfgoaa.Ln
open Go.RowKit Go.Maps Go.Proofs.YtdkalnkplgfgoaaW.PrintWords Go.Proofs.YtdkalnkplgfgoaaW.PrintLast Go.Proofs.YtdkalnkplgfgoaaW.PrintMore Go.Proofs.Ytdkalnkplgfgoaa.PA
set_option linter.unusedVariables false
set_option linter.unusedSimpArgs false
def sumS (s : Int → Int) : List Int → Int
  | [] => 0
  | i :: r => s i + sumS s r
theorem sumS_nn {s : Int → Int} : ∀ {l : List Int}, (∀ i ∈ l, 0 ≤ s i) → 0 ≤ sumS s l
  | [], _ => Int.le_refl _
  | i :: r, h => by
    have := sumS_nn (s := s) (l := r) (fun x hx => h x (List.mem_cons_of_mem _ hx))
    have := h i List.mem_cons_self
    unfold sumS; omega
theorem sumS_append {s : Int → Int} : ∀ (l r : List Int), sumS s (l ++ r) = sumS s l + sumS s r
  | [], r => by simp [sumS]
  | i :: l, r => by rw [List.cons_append, sumS, sumS, sumS_append l r]; omega
theorem sumS_take {s : Int → Int} {l : List Int} {m : Nat} (h : m < l.length) : sumS s (l.take (m + 1)) = sumS s (l.take m) + s l[m] := by
  rw [List.take_succ_eq_append_getElem h, sumS_append]; simp [sumS]
theorem sumS_split {s : Int → Int} (l : List Int) (m : Nat) : sumS s l = sumS s (l.take m) + sumS s (l.drop m) := by
  rw [← sumS_append, List.take_append_drop]
theorem sumS_take_mono {s : Int → Int} {l : List Int} (h : ∀ i ∈ l, 0 ≤ s i) {a b : Nat} (hab : a ≤ b) : sumS s (l.take a) ≤ sumS s (l.take b) := by
  have e : l.take a = (l.take b).take a := by rw [List.take_take, Nat.min_eq_left hab]
  have := sumS_split (s := s) (l.take b) a
  rw [← e] at this
  have h2 : 0 ≤ sumS s ((l.take b).drop a) := sumS_nn (fun i hi => h i (List.mem_of_mem_take (List.mem_of_mem_drop hi)))
  omega
/-- How many instructions a block takes. -/
def szF (g : List S47) (after : Int → Int) (f : Int → Bool × Bool) (i : Int) : Int := ((rd_T47 g i).f0.length : Int) + tailF (rd_T47 g i) (after i) (f i)
theorem tailF_b (b : S47) (a : Int) (f : Bool × Bool) : 0 ≤ tailF b a f ∧ tailF b a f ≤ 1 + (if b.f1 = 3 then 2 else 0) := by
  unfold tailF
  obtain ⟨y, n⟩ := f
  cases y <;> cases n <;> repeat' split
  all_goals simp_all
theorem szF_nn (g : List S47) (after : Int → Int) (f : Int → Bool × Bool) (i : Int) : 0 ≤ szF g after f i := by
  have := (tailF_b (rd_T47 g i) (after i) (f i)).1
  unfold szF; omega
theorem plGo_not (g : List S47) (after : Int → Int) (f : Int → Bool × Bool) (x : Int) : ∀ (O : List Int) (n : Int) (p : Int → Int), x ∉ O → plGo g after f O n p x = p x
  | [], n, p, h => rfl
  | i :: r, n, p, h => by
    unfold plGo
    rw [plGo_not g after f x r _ _ (fun hx => h (List.mem_cons_of_mem _ hx))]
    have hne : x ≠ i := fun e => h (by rw [e]; exact List.mem_cons_self)
    unfold upd
    rw [if_neg hne]
theorem plGo_at (g : List S47) (after : Int → Int) (f : Int → Bool × Bool) : ∀ (O : List Int) (n : Int) (p : Int → Int), O.Pairwise (· < ·) → 0 ≤ n → n + sumS (szF g after f) O ≤ 1000000000 →
    ∀ (m : Nat) (h : m < O.length), plGo g after f O n p O[m] = n + sumS (szF g after f) (O.take m)
  | [], n, p, hp, h0, hs, m, h => absurd h (Nat.not_lt_zero _)
  | i :: r, n, p, hp, h0, hs, m, h => by
    have hr : 0 ≤ sumS (szF g after f) r := sumS_nn (fun x _ => szF_nn g after f x)
    have hz := szF_nn g after f i
    have ht := tailF_b (rd_T47 g i) (after i) (f i)
    unfold sumS at hs
    have hw : wrap64 (n + wrap64 (((rd_T47 g i).f0.length : Int) + tailF (rd_T47 g i) (after i) (f i))) = n + szF g after f i := by
      have hd : szF g after f i = ((rd_T47 g i).f0.length : Int) + tailF (rd_T47 g i) (after i) (f i) := rfl
      rw [hd] at hz hs ⊢
      rw [w64 (n := ((rd_T47 g i).f0.length : Int) + tailF (rd_T47 g i) (after i) (f i)) (by omega) (by omega), w64 (by omega) (by omega)]
    have hp1 := List.pairwise_cons.1 hp
    unfold plGo
    rw [hw]
    cases m with
    | zero =>
      rw [List.getElem_cons_zero, plGo_not g after f i r _ _ (fun hx => by have := hp1.1 i hx; omega)]
      unfold upd
      rw [if_pos rfl]
      simp [sumS]
    | succ m =>
      rw [List.getElem_cons_succ, plGo_at g after f r (n + szF g after f i) _ hp1.2 (by omega) (by omega) m (by simpa using h)]
      rw [List.take_succ_cons, sumS]
      omega
/-- The code of one block, that begins at pos. -/
def bcF (b : S47) (a : Int) (PL : Int → Int) (f : Bool × Bool) (pos : Int) : List S45 :=
  b.f0 ++ (if b.f1 = 1 then [b.f2] else if b.f1 = 2 then (if b.f3 = a then [] else [jaI (PL b.f3) (pos + b.f0.length)])
    else testI b PL f (pos + b.f0.length + 1) :: ((if f.1 then [jaI (PL b.f3) (pos + b.f0.length + 1)] else []) ++ (if f.2 then [jaI (PL b.f4) (pos + b.f0.length + 1 + (if f.1 then 1 else 0))] else [])))
theorem writeC_eq (b : S47) (a : Int) (PL : Int → Int) (f : Bool × Bool) (c : List S45) : writeC b a PL f c = c ++ bcF b a PL f (c.length : Int) := by
  unfold writeC bcF
  by_cases e1 : b.f1 = 1
  · rw [if_pos e1, if_pos e1, List.append_assoc]
  rw [if_neg e1, if_neg e1]
  by_cases e2 : b.f1 = 2
  · rw [if_pos e2, if_pos e2]
    by_cases e3 : b.f3 = a
    · rw [if_pos e3, if_pos e3, List.append_nil]
    · rw [if_neg e3, if_neg e3, List.append_assoc, List.length_append, Int.natCast_add]
  rw [if_neg e2, if_neg e2]
  unfold testC jas
  obtain ⟨y, n⟩ := f
  cases y <;> cases n <;> simp only [if_true, if_false, Bool.false_eq_true, List.length_append, List.length_singleton, List.append_assoc, List.nil_append, List.append_nil, List.cons_append, Int.natCast_add, Int.add_zero] <;> rfl
theorem bcF_len (b : S47) (a : Int) (PL : Int → Int) (f : Bool × Bool) (pos : Int) (h : b.f1 = 1 ∨ b.f1 = 2 ∨ b.f1 = 3) : ((bcF b a PL f pos).length : Int) = (b.f0.length : Int) + tailF b a f := by
  unfold bcF tailF
  by_cases e1 : b.f1 = 1
  · rw [if_pos e1, if_neg (by omega), if_neg (by omega), List.length_append, List.length_singleton]; omega
  rw [if_neg e1]
  by_cases e2 : b.f1 = 2
  · rw [if_pos e2]
    by_cases e3 : b.f3 = a
    · rw [if_pos e3, if_pos ⟨e2, e3⟩, List.append_nil]; omega
    · rw [if_neg e3, if_neg (fun q => e3 q.2), if_neg (by omega), List.length_append, List.length_singleton]; omega
  rw [if_neg e2, if_neg (show ¬ (b.f1 = 2 ∧ b.f3 = a) from fun q => e2 q.1), if_pos (show b.f1 = 3 by omega)]
  obtain ⟨y, n⟩ := f
  cases y <;> cases n <;> simp <;> omega
/-- The code of the blocks, one behind the other. -/
theorem wrGo_at (g : List S47) (after PL : Int → Int) (f : Int → Bool × Bool) : ∀ (O : List Int) (c : List S45), (∀ i ∈ O, (rd_T47 g i).f1 = 1 ∨ (rd_T47 g i).f1 = 2 ∨ (rd_T47 g i).f1 = 3) →
    (∃ B, wrGo g after PL f O c = c ++ B) ∧ ((wrGo g after PL f O c).length : Int) = c.length + sumS (szF g after f) O ∧
    ∀ (m : Nat) (h : m < O.length), ∃ A B, wrGo g after PL f O c = A ++ bcF (rd_T47 g O[m]) (after O[m]) PL (f O[m]) (A.length : Int) ++ B ∧ (A.length : Int) = c.length + sumS (szF g after f) (O.take m)
  | [], c, hk => ⟨⟨[], by simp [wrGo]⟩, by simp [wrGo, sumS], fun m h => absurd h (Nat.not_lt_zero _)⟩
  | i :: r, c, hk => by
    obtain ⟨⟨B, h1⟩, h2, h3⟩ := wrGo_at g after PL f r (writeC (rd_T47 g i) (after i) PL (f i) c) (fun x hx => hk x (List.mem_cons_of_mem _ hx))
    have hl : ((writeC (rd_T47 g i) (after i) PL (f i) c).length : Int) = c.length + szF g after f i := by
      rw [writeC_eq, List.length_append, Int.natCast_add, bcF_len _ _ _ _ _ (hk i List.mem_cons_self)]
      unfold szF; omega
    unfold wrGo
    refine ⟨⟨bcF (rd_T47 g i) (after i) PL (f i) (c.length : Int) ++ B, ?_⟩, ?_, ?_⟩
    · rw [h1, writeC_eq, List.append_assoc]
    · rw [h2, hl, sumS]; omega
    · intro m h
      cases m with
      | zero =>
        refine ⟨c, B, ?_, by simp [sumS]⟩
        rw [List.getElem_cons_zero, h1, writeC_eq]
      | succ m =>
        obtain ⟨A, B, e, l⟩ := h3 m (by simpa using h)
        refine ⟨A, B, ?_, ?_⟩
        · rw [List.getElem_cons_succ]; exact e
        · rw [l, hl, List.take_succ_cons, sumS]; omega
/-- The order: the numbers that R bears, and behind each the next one. -/
theorem stepO_ord (R : List Bool) : ∀ k : Nat, (stepO R k).1.Pairwise (· < ·) ∧ (∀ i : Int, i ∈ (stepO R k).1 ↔ 0 ≤ i ∧ i < (k : Int) ∧ rdOf false R i = true) ∧ (∀ x : Int, (k : Int) ≤ x → (stepO R k).2 x = 0) ∧
    (∀ (m : Nat) (h : m < (stepO R k).1.length), (stepO R k).2 (stepO R k).1[m] = if h2 : m + 1 < (stepO R k).1.length then (stepO R k).1[m + 1] else 0)
  | 0 => ⟨List.Pairwise.nil, fun i => ⟨fun h => by simp [stepO] at h, fun h => by omega⟩, fun _ _ => rfl, fun m h => absurd h (Nat.not_lt_zero _)⟩
  | k + 1 => by
    obtain ⟨h1, h2, h3, h4⟩ := stepO_ord R k
    have hu : stepO R (k + 1) = if rdOf false R (k : Int) then ((stepO R k).1 ++ [(k : Int)], if (stepO R k).1.length = 0 then (stepO R k).2 else upd (stepO R k).2 (rd (stepO R k).1 ((stepO R k).1.length - 1)) (k : Int)) else stepO R k := rfl
    rw [hu]
    by_cases hb : rdOf false R (k : Int) = true
    · rw [if_pos hb]
      generalize hO : (stepO R k).1 = O at *
      generalize ha : (stepO R k).2 = a at *
      clear hu hO ha
      refine ⟨?_, ?_, ?_, ?_⟩
      · refine List.pairwise_append.2 ⟨h1, List.pairwise_singleton _ _, ?_⟩
        intro x hx y hy
        rw [List.mem_singleton.1 hy]
        exact ((h2 x).1 hx).2.1
      · intro i
        rw [List.mem_append, List.mem_singleton, h2]
        constructor
        · rintro (h | h)
          · exact ⟨h.1, by omega, h.2.2⟩
          · rw [h]; exact ⟨by omega, by omega, hb⟩
        · rintro ⟨p, q, r⟩
          by_cases e : i = (k : Int)
          · exact .inr e
          · exact .inl ⟨p, by omega, r⟩
      · intro x hx
        show (if O.length = 0 then a else upd a (rd O (O.length - 1)) (k : Int)) x = 0
        by_cases e : O.length = 0
        · rw [if_pos e]; exact h3 x (by omega)
        · rw [if_neg e]
          have := rd_mem_last e
          have := ((h2 _).1 this).2.1
          unfold upd
          rw [if_neg (by omega)]
          exact h3 x (by omega)
      · intro m h
        show (if O.length = 0 then a else upd a (rd O (O.length - 1)) (k : Int)) (O ++ [(k : Int)])[m] = if h2 : m + 1 < (O ++ [(k : Int)]).length then (O ++ [(k : Int)])[m + 1] else 0
        have hl : (O ++ [(k : Int)]).length = O.length + 1 := by simp
        have h' : m < O.length + 1 := by have := h; simp at this; omega
        by_cases hm : m < O.length
        · have hz : O.length ≠ 0 := by omega
          have hlast : rd O ((O.length : Int) - 1) = O[O.length - 1]'(by omega) := by
            unfold rd
            rw [List.getD_eq_getElem?_getD, show ((O.length : Int) - 1).toNat = O.length - 1 by omega, List.getElem?_eq_getElem (by omega)]
            rfl
          rw [if_neg hz, List.getElem_append_left hm, dif_pos (by omega), hlast]
          unfold upd
          by_cases e : m = O.length - 1
          · subst e
            rw [if_pos rfl, List.getElem_append_right (by omega)]
            simp
          · have hne : O[m] ≠ O[O.length - 1]'(by omega) := by
              have := List.pairwise_iff_getElem.1 h1 m (O.length - 1) hm (by omega) (by omega)
              omega
            rw [if_neg hne, h4 m hm, dif_pos (by omega), List.getElem_append_left (by omega)]
        · have e : m = O.length := by omega
          subst e
          rw [dif_neg (by omega), List.getElem_append_right (by omega)]
          simp only [Nat.sub_self, List.getElem_cons_zero]
          by_cases e : O.length = 0
          · rw [if_pos e]; exact h3 _ (Int.le_refl _)
          · rw [if_neg e]
            have := ((h2 _).1 (rd_mem_last e)).2.1
            unfold upd
            rw [if_neg (by omega)]
            exact h3 _ (Int.le_refl _)
    · rw [if_neg hb]
      refine ⟨h1, ?_, fun x hx => h3 x (by omega), h4⟩
      intro i
      rw [h2]
      constructor
      · rintro ⟨p, q, r⟩; exact ⟨p, by omega, r⟩
      · rintro ⟨p, q, r⟩
        have : i ≠ (k : Int) := fun e => hb (e ▸ r)
        exact ⟨p, by omega, r⟩
/-- The rounds come to an end. -/
def wtB (p : Bool × Bool) : Nat := (if p.1 then 0 else 1) + (if p.2 then 0 else 1)
def cntW (f : Int → Bool × Bool) : List Int → Nat
  | [] => 0
  | i :: r => wtB (f i) + cntW f r
theorem frOf_w (b : S47) (pl : Int → Int) (i : Int) (f : Bool × Bool) : wtB (frOf b pl i f) ≤ wtB f ∧ (frOf b pl i f ≠ f → wtB (frOf b pl i f) < wtB f) := by
  unfold frOf
  generalize decide (wrap64 (wrap64 (pl b.f3 - wrap64 (pl i + (b.f0.length : Int))) - 1) > 255) = u
  generalize decide (wrap64 (wrap64 (pl b.f4 - wrap64 (pl i + (b.f0.length : Int))) - 1) > 255) = v
  obtain ⟨y, n⟩ := f
  cases y <;> cases n <;> cases u <;> cases v <;> decide
theorem frGo_w (g : List S47) (pl : Int → Int) : ∀ (O : List Int) (f : Int → Bool × Bool) (b : Bool), (∀ x, wtB ((frGo g pl O f b).1 x) ≤ wtB (f x)) ∧ ((frGo g pl O f b).2 = true → b = true ∨ ∃ i ∈ O, wtB ((frGo g pl O f b).1 i) < wtB (f i))
  | [], f, b => ⟨fun _ => Nat.le_refl _, fun h => .inl h⟩
  | i :: r, f, b => by
    unfold frGo
    by_cases e3 : (rd_T47 g i).f1 = 3
    · rw [if_pos e3]
      by_cases e : frOf (rd_T47 g i) pl i (f i) = f i
      · rw [if_pos e]
        obtain ⟨h1, h2⟩ := frGo_w g pl r f b
        exact ⟨h1, fun h => (h2 h).imp id (fun ⟨j, hj, w⟩ => ⟨j, List.mem_cons_of_mem _ hj, w⟩)⟩
      · rw [if_neg e]
        obtain ⟨h1, h2⟩ := frGo_w g pl r (upd f i (frOf (rd_T47 g i) pl i (f i))) true
        have hw := frOf_w (rd_T47 g i) pl i (f i)
        have hu : ∀ x, wtB (upd f i (frOf (rd_T47 g i) pl i (f i)) x) ≤ wtB (f x) := by
          intro x
          unfold upd
          by_cases q : x = i
          · rw [if_pos q, q]; exact hw.1
          · rw [if_neg q]; exact Nat.le_refl _
        refine ⟨fun x => Nat.le_trans (h1 x) (hu x), fun _ => .inr ⟨i, List.mem_cons_self, ?_⟩⟩
        have := h1 i
        have h3 : upd f i (frOf (rd_T47 g i) pl i (f i)) i = frOf (rd_T47 g i) pl i (f i) := by unfold upd; rw [if_pos rfl]
        rw [h3] at this
        exact Nat.lt_of_le_of_lt this (hw.2 e)
    · rw [if_neg e3]
      obtain ⟨h1, h2⟩ := frGo_w g pl r f b
      exact ⟨h1, fun h => (h2 h).imp id (fun ⟨j, hj, w⟩ => ⟨j, List.mem_cons_of_mem _ hj, w⟩)⟩
theorem cntW_le {f f' : Int → Bool × Bool} (h : ∀ x, wtB (f' x) ≤ wtB (f x)) : ∀ O : List Int, cntW f' O ≤ cntW f O
  | [] => Nat.le_refl _
  | i :: r => by have := cntW_le h r; have := h i; unfold cntW; omega
theorem cntW_lt {f f' : Int → Bool × Bool} (h : ∀ x, wtB (f' x) ≤ wtB (f x)) : ∀ O : List Int, (∃ i ∈ O, wtB (f' i) < wtB (f i)) → cntW f' O < cntW f O
  | [], hx => by obtain ⟨i, hi, _⟩ := hx; cases hi
  | j :: r, hx => by
    obtain ⟨i, hi, hw⟩ := hx
    have h1 := cntW_le h r
    have h2 := h j
    unfold cntW
    rcases List.mem_cons.1 hi with rfl | hi
    · omega
    · have := cntW_lt h r ⟨i, hi, hw⟩
      omega
theorem cntW_two (f : Int → Bool × Bool) : ∀ O : List Int, cntW f O ≤ 2 * O.length
  | [] => Nat.le_refl _
  | i :: r => by
    have := cntW_two f r
    have : wtB (f i) ≤ 2 := by unfold wtB; split <;> split <;> omega
    unfold cntW
    rw [List.length_cons]
    omega
theorem plIt_ends (g : List S47) (after : Int → Int) (O : List Int) : ∀ (k : Nat) (f : Int → Bool × Bool), cntW f O < k → (plIt g after O k f).isSome = true
  | 0, f, h => absurd h (Nat.not_lt_zero _)
  | k + 1, f, h => by
    unfold plIt
    obtain ⟨h1, h2⟩ := frGo_w g (plGo g after f O 0 (fun _ => 0)) O f false
    by_cases e : (frGo g (plGo g after f O 0 (fun _ => 0)) O f false).2 = true
    · rw [if_pos e]
      have := (h2 e).resolve_left (by decide)
      have := cntW_lt h1 O this
      exact plIt_ends g after O k _ (by omega)
    · rw [if_neg e]; rfl
theorem frGo_true (g : List S47) (pl : Int → Int) : ∀ (O : List Int) (f : Int → Bool × Bool), (frGo g pl O f true).2 = true
  | [], f => rfl
  | i :: r, f => by
    unfold frGo
    split
    · split
      · exact frGo_true g pl r f
      · exact frGo_true g pl r _
    · exact frGo_true g pl r f
theorem frGo_false (g : List S47) (pl : Int → Int) : ∀ (O : List Int) (f : Int → Bool × Bool), (frGo g pl O f false).2 = false → (frGo g pl O f false).1 = f ∧ ∀ i ∈ O, (rd_T47 g i).f1 = 3 → frOf (rd_T47 g i) pl i (f i) = f i
  | [], f, h => ⟨rfl, fun i hi => by cases hi⟩
  | i :: r, f, h => by
    unfold frGo at h ⊢
    by_cases e3 : (rd_T47 g i).f1 = 3
    · rw [if_pos e3] at h ⊢
      by_cases e : frOf (rd_T47 g i) pl i (f i) = f i
      · rw [if_pos e] at h ⊢
        obtain ⟨h1, h2⟩ := frGo_false g pl r f h
        refine ⟨h1, fun j hj => ?_⟩
        rcases List.mem_cons.1 hj with rfl | hj
        · exact fun _ => e
        · exact h2 j hj
      · rw [if_neg e, frGo_true] at h
        cases h
    · rw [if_neg e3] at h ⊢
      obtain ⟨h1, h2⟩ := frGo_false g pl r f h
      refine ⟨h1, fun j hj => ?_⟩
      rcases List.mem_cons.1 hj with rfl | hj
      · exact fun q => absurd q e3
      · exact h2 j hj
theorem plIt_out (g : List S47) (after : Int → Int) (O : List Int) (PL : Int → Int) (F : Int → Bool × Bool) : ∀ (k : Nat) (f : Int → Bool × Bool), plIt g after O k f = some (PL, F) →
    PL = plGo g after F O 0 (fun _ => 0) ∧ ∀ i ∈ O, (rd_T47 g i).f1 = 3 → frOf (rd_T47 g i) PL i (F i) = F i
  | 0, f, h => by cases h
  | k + 1, f, h => by
    unfold plIt at h
    by_cases e : (frGo g (plGo g after f O 0 (fun _ => 0)) O f false).2 = true
    · rw [if_pos e] at h
      exact plIt_out g after O PL F k _ h
    · rw [if_neg e] at h
      have e2 := frGo_false g _ O f (by simpa using e)
      injection h with h
      injection h with h1 h2
      rw [e2.1] at h2
      subst h2
      subst h1
      exact ⟨rfl, e2.2⟩
end Go.Proofs.Ytdkalnkplgfgoaa.Ln
namespace Go.Proofs.Ytdkalnkplgfgoaa.Ln
open Go.RowKit Go.Maps Go.Proofs.YtdkalnkplgfgoaaW.PrintWords Go.Proofs.YtdkalnkplgfgoaaW.PrintLast Go.Proofs.YtdkalnkplgfgoaaW.PrintMore Go.Proofs.Ytdkalnkplgfgoaa.PA
set_option linter.unusedVariables false
set_option linter.unusedSimpArgs false
/-- A graph, laid out: O the blocks, PL where they begin, f which goals are far, p the program. -/
structure Lay (g : List S47) (O : List Int) (after PL : Int → Int) (f : Int → Bool × Bool) (p : List S45) : Prop where
  tk : TkB g = true
  zero : (0 : Int) ∈ O
  pl0 : PL 0 = 0
  dom : ∀ i ∈ O, 0 ≤ i ∧ i < (g.length : Int)
  closed : ∀ i ∈ O, ∀ x ∈ goalsL (rd_T47 g i), x ∈ O
  place : ∀ i ∈ O, ∃ A B, p = A ++ bcF (rd_T47 g i) (after i) PL (f i) (PL i) ++ B ∧ (A.length : Int) = PL i
  fwd : ∀ i ∈ O, ∀ x ∈ goalsL (rd_T47 g i), PL i + szF g after f i ≤ PL x
  fall : ∀ i ∈ O, (rd_T47 g i).f1 = 2 → (rd_T47 g i).f3 = after i → PL (after i) = PL i + ((rd_T47 g i).f0.length : Int)
  long : p.length ≤ 4096
  inn : ∀ i ∈ O, PL i < p.length
  near : ∀ i ∈ O, (rd_T47 g i).f1 = 3 → ((f i).1 = false → PL (rd_T47 g i).f3 - (PL i + ((rd_T47 g i).f0.length : Int)) - 1 ≤ 255) ∧ ((f i).2 = false → PL (rd_T47 g i).f4 - (PL i + ((rd_T47 g i).f0.length : Int)) - 1 ≤ 255)
  cover : ∀ t : Nat, t < p.length → ∃ i ∈ O, ∃ j : Nat, j < (bcF (rd_T47 g i) (after i) PL (f i) (PL i)).length ∧ (t : Int) = PL i + j
  last : ∃ i ∈ O, (rd_T47 g i).f1 = 1 ∧ (p.length : Int) = PL i + ((rd_T47 g i).f0.length : Int) + 1
theorem rdI_mid {A c B : List S45} {j : Nat} (h : j < c.length) : rd_T45 (A ++ c ++ B) ((A.length : Int) + j) = c[j] := by
  unfold rd_T45
  rw [show ((A.length : Int) + (j : Int)).toNat = A.length + j by omega, List.getD_eq_getElem?_getD, List.append_assoc, List.getElem?_append_right (by omega), Nat.add_sub_cancel_left, List.getElem?_append_left h, List.getElem?_eq_getElem h]
  rfl
theorem jmP_eq (c : Int) : jmP c = jmB c := by unfold jmP; rw [jump_f]; rfl
theorem hoP_eq (c j1 j2 i1 i2 K a x : Int) : hoP ⟨c, j1, j2, K⟩ a x = hoP ⟨c, i1, i2, K⟩ a x := by
  unfold hoP
  have h : ∀ b, riddleref5_Holds.j0 10 a b c j1 j2 K = riddleref5_Holds.j0 10 a b c i1 i2 K := fun b => rfl
  have : riddleref5_Holds.f 10 c j1 j2 K a x = riddleref5_Holds.f 10 c i1 i2 K a x := by
    unfold riddleref5_Holds.f
    simp only [h]
  exact congrArg (fun o => o.getD false) this
/-- A straight instruction. -/
theorem vm_straight {p : List S45} {pk : List Int} {at_ : Int} {M : Mach} {T : List Int} {i : S45} (h0 : 0 ≤ at_) (h1 : at_ < p.length) (hp : p.length ≤ 4096) (hi : rd_T45 p at_ = i) (hs : stB i.f0 i.f3 = true) (m : Nat) :
    vmGo p pk (m + 1) at_ M T = if (stepF i pk M).2 = 0 then vmGo p pk m (at_ + 1) (stepF i pk M).1 (T ++ [at_]) else some (0, (stepF i pk M).2, T ++ [at_]) := by
  obtain ⟨n6, n22, n5, nj, _⟩ := stB_not hs
  rw [vmGo, if_pos ⟨h0, h1⟩]
  simp only [hi]
  rw [if_neg n6, if_neg n22, if_neg n5, jmP_eq, nj, if_neg (by decide), w64 (n := at_ + 1) (by omega) (by omega)]
theorem ins_sim (p : List S45) (pk : List Int) (hp : p.length ≤ 4096) (B : List S45) : ∀ (c A : List S45), p = A ++ c ++ B → (∀ i ∈ c, stB i.f0 i.f3 = true) → ∀ (M : Mach) (s : Int) (T : List Int), 0 ≤ s → s ≤ A.length →
    ((insGo pk c M s).2.2 = 0 ∧ (insGo pk c M s).2.1 = s + c.length ∧ ∃ T' : List Int, T'.length = T.length + c.length ∧ ∀ m, vmGo p pk (m + c.length) A.length M T = vmGo p pk m ((A.length : Int) + c.length) (insGo pk c M s).1 T') ∨
    ((insGo pk c M s).2.2 ≠ 0 ∧ s < (insGo pk c M s).2.1 ∧ (insGo pk c M s).2.1 ≤ s + c.length ∧ ∃ T' : List Int, (T'.length : Int) - T.length = (insGo pk c M s).2.1 - s ∧ ∀ m, c.length ≤ m → vmGo p pk m A.length M T = some (0, (insGo pk c M s).2.2, T'))
  | [], A, e, hs, M, s, T, h0, h1 => by
    refine .inl ⟨rfl, ?_, T, rfl, ?_⟩
    · show s = s + (([] : List S45).length : Int)
      rw [List.length_nil]; omega
    · intro m
      show vmGo p pk m A.length M T = vmGo p pk m ((A.length : Int) + (([] : List S45).length : Int)) M T
      rw [List.length_nil, show (A.length : Int) + ((0 : Nat) : Int) = A.length by omega]
  | i :: r, A, e, hs, M, s, T, h0, h1 => by
    have hl : p.length = A.length + (r.length + 1) + B.length := by rw [e]; simp; omega
    have hi : rd_T45 p (A.length : Int) = i := by
      have := rdI_mid (A := A) (c := i :: r) (B := B) (j := 0) (by simp)
      rw [show (A.length : Int) + ((0 : Nat) : Int) = A.length by omega] at this
      rw [e, this]
      rfl
    have hv := fun m => vm_straight (p := p) (pk := pk) (at_ := (A.length : Int)) (M := M) (T := T) (by omega) (by omega) hp hi (hs i List.mem_cons_self) m
    unfold insGo
    by_cases q : (stepF i pk M).2 = 0
    · rw [if_pos q, w64 (n := s + 1) (by omega) (by omega)]
      have hs2 : s + 1 ≤ ((A ++ [i]).length : Int) := by rw [List.length_append, List.length_singleton]; omega
      · rcases ins_sim p pk hp B r (A ++ [i]) (by rw [e]; simp) (fun x hx => hs x (List.mem_cons_of_mem _ hx)) (stepF i pk M).1 (s + 1) (T ++ [(A.length : Int)]) (by omega) hs2 with ⟨a, b, T', l, v⟩ | ⟨a, b, b', T', l, v⟩
        · refine .inl ⟨a, ?_, T', ?_, ?_⟩
          · rw [b, List.length_cons]; omega
          · rw [l, List.length_cons, List.length_append, List.length_singleton]; omega
          · intro m
            have := v m
            rw [List.length_append, List.length_singleton] at this
            rw [List.length_cons, ← Nat.add_assoc, hv, if_pos q, show (A.length : Int) + 1 = ((A.length + 1 : Nat) : Int) by omega, this, show ((A.length + 1 : Nat) : Int) + (r.length : Int) = (A.length : Int) + ((r.length + 1 : Nat) : Int) by omega]
        · refine .inr ⟨a, by omega, ?_, T', ?_, ?_⟩
          · rw [List.length_cons]; omega
          · rw [List.length_append, List.length_singleton] at l; omega
          · intro m hm
            rw [List.length_cons] at hm
            obtain ⟨m, rfl⟩ : ∃ q, m = q + 1 := ⟨m - 1, by omega⟩
            have := v m (by omega)
            rw [List.length_append, List.length_singleton] at this
            rw [hv, if_pos q, show (A.length : Int) + 1 = ((A.length + 1 : Nat) : Int) by omega, this]
    · rw [if_neg q, w64 (n := s + 1) (by omega) (by omega)]
      refine .inr ⟨q, by show s < s + 1; omega, by show s + 1 ≤ s + ((i :: r).length : Int); rw [List.length_cons]; omega, T ++ [(A.length : Int)], ?_, ?_⟩
      · show ((T ++ [(A.length : Int)]).length : Int) - T.length = s + 1 - s
        rw [List.length_append, List.length_singleton]; omega
      · intro m hm
        rw [List.length_cons] at hm
        obtain ⟨m, rfl⟩ : ∃ q, m = q + 1 := ⟨m - 1, by omega⟩
        rw [hv, if_neg q]
theorem jaI_to {tt here : Int} (h0 : 0 ≤ here) (h1 : here + 1 ≤ tt) (h2 : tt ≤ 4096) : (jaI tt here).f3 = tt - here - 1 := by
  unfold jaI
  simp only
  rw [w64 (n := tt - here) (by omega) (by omega), w64 (n := tt - here - 1) (by omega) (by omega), IntKind.wrap_u32]
  omega
theorem vm_ja {p : List S45} {pk : List Int} {at_ tt : Int} {M : Mach} {T : List Int} (h0 : 0 ≤ at_) (h1 : at_ < p.length) (hp : p.length ≤ 4096) (hi : rd_T45 p at_ = jaI tt at_) (h2 : at_ + 1 ≤ tt) (h3 : tt ≤ 4096) (m : Nat) :
    vmGo p pk (m + 1) at_ M T = vmGo p pk m tt M (T ++ [at_]) := by
  rw [vmGo, if_pos ⟨h0, h1⟩]
  simp only [hi]
  rw [jaI_to h0 h2 h3, if_neg (show ¬ (jaI tt at_).f0 = 6 from (by decide : ¬ (5 : Int) = 6)), if_neg (show ¬ (jaI tt at_).f0 = 22 from (by decide : ¬ (5 : Int) = 22)), if_pos (show (jaI tt at_).f0 = 5 from rfl)]
  rw [w64 (n := at_ + 1) (by omega) (by omega), w64 (n := tt - at_ - 1) (by omega) (by omega), w64 (n := at_ + 1 + (tt - at_ - 1)) (by omega) (by omega), show at_ + 1 + (tt - at_ - 1) = tt by omega]
theorem vm_test {p : List S45} {pk : List Int} {at_ : Int} {M : Mach} {T : List Int} {i : S45} (h0 : 0 ≤ at_) (h1 : at_ < p.length) (hp : p.length ≤ 4096) (hi : rd_T45 p at_ = i) (hj : jmB i.f0 = true) (j1 : 0 ≤ i.f1 ∧ i.f1 < 256) (j2 : 0 ≤ i.f2 ∧ i.f2 < 256) (m : Nat) :
    vmGo p pk (m + 1) at_ M T = if hoP i M.a M.x = true then vmGo p pk m (at_ + 1 + i.f1) M (T ++ [at_]) else vmGo p pk m (at_ + 1 + i.f2) M (T ++ [at_]) := by
  obtain ⟨n6, n22, n5⟩ := jm_not hj
  rw [vmGo, if_pos ⟨h0, h1⟩]
  simp only [hi]
  rw [if_neg n6, if_neg n22, if_neg n5, jmP_eq, if_pos hj, w64 (n := at_ + 1) (by omega) (by omega), w64 (n := i.f1) (by omega) (by omega), w64 (n := i.f2) (by omega) (by omega), w64 (n := at_ + 1 + i.f1) (by omega) (by omega), w64 (n := at_ + 1 + i.f2) (by omega) (by omega)]
theorem u8_id {n : Int} (h0 : 0 ≤ n) (h1 : n ≤ 255) : IntKind.u8.wrap (wrap64 n) = n := by
  rw [w64 (by omega) (by omega), IntKind.wrap_u8]; omega
end Go.Proofs.Ytdkalnkplgfgoaa.Ln
namespace Go.Proofs.Ytdkalnkplgfgoaa.Ln
open Go.RowKit Go.Maps Go.Proofs.YtdkalnkplgfgoaaW.PrintWords Go.Proofs.YtdkalnkplgfgoaaW.PrintLast Go.Proofs.YtdkalnkplgfgoaaW.PrintMore Go.Proofs.Ytdkalnkplgfgoaa.PA
set_option linter.unusedVariables false
set_option linter.unusedSimpArgs false
theorem tk_goal {g : List S47} (h : TkB g = true) {i : Int} (h0 : 0 ≤ i) (h1 : i < g.length) : ∀ x ∈ goalsL (rd_T47 g i), i < x ∧ x < (g.length : Int) := by
  obtain ⟨j, rfl⟩ := Int.eq_ofNat_of_zero_le h0
  have hj : j < g.length := by omega
  have := tkL_at _ g 0 4096 (tk_out h).2.2 (by omega) j hj
  rw [rdB_at hj]
  have hg := this.2.2.2
  rw [show (0 : Int) + (j : Int) = j by omega] at hg
  unfold goalB at hg
  simp only [Bool.and_eq_true, Bool.or_eq_true, Bool.not_eq_true', decide_eq_true_eq, decide_eq_false_iff_not] at hg
  intro x hx
  unfold goalsL at hx
  split at hx
  · rw [List.mem_singleton.1 hx]
    rcases hg.1 with q | q
    · omega
    · exact q
  · split at hx
    · rename_i e2 e3
      have h3 : (j : Int) < (g[j]).f3 ∧ (g[j]).f3 < (g.length : Int) := by
        rcases hg.1 with q | q
        · omega
        · exact q
      have h4 : (j : Int) < (g[j]).f4 ∧ (g[j]).f4 < (g.length : Int) := by
        rcases hg.2 with q | q
        · exact absurd e3 q
        · exact q
      rcases List.mem_cons.1 hx with q | q
      · rw [q]; exact h3
      · rw [List.mem_singleton.1 q]; exact h4
    · cases hx
section
variable {g : List S47} {O : List Int} {after PL : Int → Int} {f : Int → Bool × Bool} {p : List S45}
theorem Lay.pos (L : Lay g O after PL f p) {i : Int} (hi : i ∈ O) : 0 ≤ PL i := by
  obtain ⟨A, B, _, h⟩ := L.place i hi
  omega
/-- What stands behind a test, by the way it goes: at once there, or by way of a ja. -/
theorem Lay.goTo (L : Lay g O after PL f p) (pk : List Int) {q : Int} {x : Int} (hx : x ∈ O) (h0 : 0 ≤ q) (h1 : q + 1 ≤ PL x) (M : Mach) (T : List Int) (t : Int)
    (h : t = PL x ∨ (q + 1 ≤ t ∧ t < PL x ∧ rd_T45 p t = jaI (PL x) t)) :
    ∃ T' : List Int, T.length ≤ T'.length ∧ ∀ m : Nat, (p.length : Int) - (q + 1) ≤ m → ∃ m' : Nat, (p.length : Int) - PL x ≤ m' ∧ vmGo p pk m t M T = vmGo p pk m' (PL x) M T' := by
  have hl := L.long
  have hn := L.inn x hx
  rcases h with rfl | ⟨h2, h3, h4⟩
  · exact ⟨T, Nat.le_refl _, fun m hm => ⟨m, by omega, rfl⟩⟩
  · refine ⟨T ++ [t], by rw [List.length_append]; omega, fun m hm => ?_⟩
    obtain ⟨m, rfl⟩ : ∃ r, m = r + 1 := ⟨m - 1, by omega⟩
    exact ⟨m, by omega, vm_ja (by omega) (by omega) hl h4 (by omega) (by omega) m⟩
set_option maxHeartbeats 1000000 in
theorem Lay.sim (L : Lay g O after PL f p) (pk : List Int) : ∀ (d : Nat) (i : Int), i ∈ O → (g.length : Int) - i ≤ d → ∀ (M : Mach) (s : Int) (T : List Int), 0 ≤ s → s ≤ PL i →
    ∃ v fl s', (∀ k, d ≤ k → gRun g pk k i M s = some (v, fl, s')) ∧ s ≤ s' ∧ ∃ T' : List Int, s' - s ≤ (T'.length : Int) - T.length ∧ ∀ m : Nat, (p.length : Int) - PL i ≤ m → vmGo p pk m (PL i) M T = some (v, fl, T') := by
  intro d
  induction d with
  | zero => intro i hi hd; have := (L.dom i hi).2; omega
  | succ d ih =>
    intro i hi hd M s T hs0 hs1
    have hdom := L.dom i hi
    have hlong := L.long
    have hin := L.inn i hi
    obtain ⟨hlen, hcode, hend⟩ := tk_mem L.tk (rd_T47_mem hdom.1 hdom.2)
    have hgo := tk_goal L.tk hdom.1 hdom.2
    have hcl := L.closed i hi
    have hfw := L.fwd i hi
    have hfa := L.fall i hi
    have hne := L.near i hi
    obtain ⟨A, B, hp, hA⟩ := L.place i hi
    have hg : ∀ k, gRun g pk (k + 1) i M s = (let b := rd_T47 g i
      let q := insGo pk b.f0 M s
      if q.2.2 = 0 then
        (if b.f1 = 1 then (if b.f2.f0 = 6 then some (b.f2.f3, 0, wrap64 (q.2.1 + 1)) else some (q.1.a, 0, wrap64 (q.2.1 + 1)))
        else if b.f1 = 2 then gRun g pk k b.f3 q.1 q.2.1
        else if hoP b.f2 q.1.a q.1.x = true then gRun g pk k b.f3 q.1 (wrap64 (q.2.1 + 1))
        else gRun g pk k b.f4 q.1 (wrap64 (q.2.1 + 1)))
      else some (0, q.2.2, q.2.1)) := by
      intro k
      rw [gRun, if_pos hdom]
    have hsz : szF g after f i = ((rd_T47 g i).f0.length : Int) + tailF (rd_T47 g i) (after i) (f i) := rfl
    have htl := tailF_b (rd_T47 g i) (after i) (f i)
    rw [hsz] at hfw
    clear hsz
    generalize rd_T47 g i = b at *
    dsimp only at hg
    generalize hrest : (if b.f1 = 1 then [b.f2] else if b.f1 = 2 then (if b.f3 = after i then [] else [jaI (PL b.f3) (PL i + b.f0.length)])
      else testI b PL (f i) (PL i + b.f0.length + 1) :: ((if (f i).1 then [jaI (PL b.f3) (PL i + b.f0.length + 1)] else []) ++ (if (f i).2 then [jaI (PL b.f4) (PL i + b.f0.length + 1 + (if (f i).1 then 1 else 0))] else []))) = rest
    have hbc : bcF b (after i) PL (f i) (PL i) = b.f0 ++ rest := by rw [← hrest]; rfl
    rw [hbc] at hp
    have hp2 : p = A ++ b.f0 ++ (rest ++ B) := by rw [hp]; simp
    have hpl : p.length = A.length + b.f0.length + rest.length + B.length := by rw [hp]; simp; omega
    have hrd : ∀ (j : Nat) (h : j < rest.length), rd_T45 p (PL i + b.f0.length + j) = rest[j] := by
      intro j h
      have := rdI_mid (A := A ++ b.f0) (c := rest) (B := B) (j := j) h
      rw [List.length_append] at this
      rw [hp, show PL i + (b.f0.length : Int) + (j : Int) = ((A.length + b.f0.length : Nat) : Int) + j by omega, ← this]
      simp only [List.append_assoc]
    have hst : ∀ x ∈ b.f0, stB x.f0 x.f3 = true := by
      intro x hx
      exact (List.all_eq_true.1 hcode) x hx
    have hsim := ins_sim p pk hlong (rest ++ B) b.f0 A hp2 hst M s T hs0 (by omega)
    generalize insGo pk b.f0 M s = Q at *
    obtain ⟨M1, s1, fl⟩ := Q
    dsimp only at hg hsim
    rw [hA] at hsim
    rcases hsim with ⟨rfl, hs1e, T1, hT1, hv⟩ | ⟨hfl, hlo, hhi, T1, hT1, hv⟩
    · -- no fault
      simp only [if_true] at hg
      have hq : ∀ m : Nat, (p.length : Int) - PL i ≤ m → ∃ m' : Nat, (p.length : Int) - (PL i + b.f0.length) ≤ m' ∧ vmGo p pk m (PL i) M T = vmGo p pk m' (PL i + b.f0.length) M1 T1 := by
        intro m hm
        refine ⟨m - b.f0.length, by omega, ?_⟩
        rw [← hv (m - b.f0.length), show m - b.f0.length + b.f0.length = m by omega]
      by_cases e1 : b.f1 = 1
      · -- a return
        have hre : reB b.f2.f0 = true := by
          unfold endB at hend
          rw [if_pos e1] at hend
          simp only [Bool.and_eq_true] at hend
          exact hend.1.1.1
        rw [if_pos e1] at hrest
        subst hrest
        have hi0 := hrd 0 (by simp)
        simp only [List.getElem_cons_zero] at hi0
        rw [show PL i + (b.f0.length : Int) + ((0 : Nat) : Int) = PL i + b.f0.length by omega] at hi0
        have hpl2 : p.length = A.length + b.f0.length + 1 + B.length := by simpa using hpl
        have hrc : b.f2.f0 = 6 ∨ b.f2.f0 = 22 := of_decide_eq_true hre
        by_cases c6 : b.f2.f0 = 6
        · refine ⟨b.f2.f3, 0, s1 + 1, ?_, by omega, T1 ++ [PL i + b.f0.length], ?_, ?_⟩
          · intro k hk
            obtain ⟨k, rfl⟩ : ∃ r, k = r + 1 := ⟨k - 1, by omega⟩
            rw [hg, if_pos e1, if_pos c6, w64 (by omega) (by omega)]
          · rw [List.length_append, List.length_singleton]; omega
          · intro m hm
            obtain ⟨m', hm', e⟩ := hq m hm
            obtain ⟨m', rfl⟩ : ∃ r, m' = r + 1 := ⟨m' - 1, by omega⟩
            rw [e, vmGo, if_pos ⟨by omega, by omega⟩]
            simp only [hi0]
            rw [if_pos c6]
        · have c22 : b.f2.f0 = 22 := by omega
          refine ⟨M1.a, 0, s1 + 1, ?_, by omega, T1 ++ [PL i + b.f0.length], ?_, ?_⟩
          · intro k hk
            obtain ⟨k, rfl⟩ : ∃ r, k = r + 1 := ⟨k - 1, by omega⟩
            rw [hg, if_pos e1, if_neg c6, w64 (by omega) (by omega)]
          · rw [List.length_append, List.length_singleton]; omega
          · intro m hm
            obtain ⟨m', hm', e⟩ := hq m hm
            obtain ⟨m', rfl⟩ : ∃ r, m' = r + 1 := ⟨m' - 1, by omega⟩
            rw [e, vmGo, if_pos ⟨by omega, by omega⟩]
            simp only [hi0]
            rw [if_neg c6, if_pos c22]
      by_cases e2 : b.f1 = 2
      · -- a go
        have hgl : goalsL b = [b.f3] := by unfold goalsL; rw [if_pos e2]
        rw [hgl] at hgo hcl hfw
        have hx := hcl b.f3 List.mem_cons_self
        have hxi := (hgo b.f3 List.mem_cons_self).1
        have hxp := hfw b.f3 List.mem_cons_self
        have hxl := L.inn b.f3 hx
        have hj : PL b.f3 = PL i + b.f0.length ∨ (PL i + b.f0.length ≤ PL i + b.f0.length ∧ PL i + b.f0.length < PL b.f3 ∧ rd_T45 p (PL i + b.f0.length) = jaI (PL b.f3) (PL i + b.f0.length)) := by
          rw [if_neg e1, if_pos e2] at hrest
          by_cases ea : b.f3 = after i
          · left
            rw [ea]; exact hfa e2 ea
          · rw [if_neg ea] at hrest
            subst hrest
            have ht : tailF b (after i) (f i) = 1 := by
              unfold tailF
              rw [if_neg (fun q => ea q.2), if_neg (by omega)]
            have := hrd 0 (by simp)
            rw [show PL i + (b.f0.length : Int) + ((0 : Nat) : Int) = PL i + b.f0.length by omega] at this
            exact .inr ⟨Int.le_refl _, by omega, this⟩
        have hcont : ∃ T2 : List Int, T1.length ≤ T2.length ∧ ∀ m : Nat, (p.length : Int) - (PL i + b.f0.length) ≤ m → ∃ m' : Nat, (p.length : Int) - PL b.f3 ≤ m' ∧ vmGo p pk m (PL i + b.f0.length) M1 T1 = vmGo p pk m' (PL b.f3) M1 T2 := by
          rcases hj with e | ⟨_, h2, h3⟩
          · exact ⟨T1, Nat.le_refl _, fun m hm => ⟨m, by omega, by rw [e]⟩⟩
          · refine ⟨T1 ++ [PL i + b.f0.length], by rw [List.length_append]; omega, fun m hm => ?_⟩
            obtain ⟨m, rfl⟩ : ∃ r, m = r + 1 := ⟨m - 1, by omega⟩
            exact ⟨m, by omega, vm_ja (by omega) (by omega) hlong h3 (by omega) (by omega) m⟩
        obtain ⟨T2, hT2, hc⟩ := hcont
        obtain ⟨v, fl, s', h1, h2, T3, h3, h4⟩ := ih b.f3 hx (by omega) M1 s1 T2 (by omega) (by omega)
        refine ⟨v, fl, s', ?_, by omega, T3, by omega, ?_⟩
        · intro k hk
          obtain ⟨k, rfl⟩ : ∃ r, k = r + 1 := ⟨k - 1, by omega⟩
          rw [hg, if_neg e1, if_pos e2]
          exact h1 k (by omega)
        · intro m hm
          obtain ⟨m', hm', e⟩ := hq m hm
          obtain ⟨m2, hm2, e2⟩ := hc m' hm'
          rw [e, e2]
          exact h4 m2 hm2
      · -- a test
        have e3 : b.f1 = 3 := by have := end_kind hend; omega
        have hjm : jmB b.f2.f0 = true := by
          unfold endB at hend
          rw [if_neg e1, if_neg e2, if_pos e3] at hend
          simp only [Bool.and_eq_true] at hend
          exact hend.1
        have hgl : goalsL b = [b.f3, b.f4] := by unfold goalsL; rw [if_neg e2, if_pos e3]
        rw [hgl] at hgo hcl hfw
        have hy := hcl b.f3 List.mem_cons_self
        have hn := hcl b.f4 (List.mem_cons_of_mem _ List.mem_cons_self)
        have hyi := (hgo b.f3 List.mem_cons_self).1
        have hni := (hgo b.f4 (List.mem_cons_of_mem _ List.mem_cons_self)).1
        have hyp := hfw b.f3 List.mem_cons_self
        have hnp := hfw b.f4 (List.mem_cons_of_mem _ List.mem_cons_self)
        have hyl := L.inn b.f3 hy
        have hnl := L.inn b.f4 hn
        have hnear := hne e3
        rw [if_neg e1, if_neg e2] at hrest
        have ht : tailF b (after i) (f i) = 1 + (if (f i).1 then 1 else 0) + (if (f i).2 then 1 else 0) := by
          unfold tailF
          rw [if_neg (fun q => e2 q.1), if_pos e3]
        rw [ht] at hyp hnp
        generalize f i = ff at *
        obtain ⟨fy, fn⟩ := ff
        dsimp only at hrest hyp hnp hnear
        have hrl : 0 < rest.length := by rw [← hrest]; simp
        have hpq : PL i + (b.f0.length : Int) < p.length := by omega
        have hi0 : rd_T45 p (PL i + b.f0.length) = testI b PL (fy, fn) (PL i + b.f0.length + 1) := by
          have := hrd 0 hrl
          rw [show PL i + (b.f0.length : Int) + ((0 : Nat) : Int) = PL i + b.f0.length by omega] at this
          rw [this]
          simp only [← hrest, List.getElem_cons_zero]
        have hf0 : (testI b PL (fy, fn) (PL i + b.f0.length + 1)).f0 = b.f2.f0 := rfl
        have hho : hoP (testI b PL (fy, fn) (PL i + b.f0.length + 1)) M1.a M1.x = hoP b.f2 M1.a M1.x := by
          have e := hoP_eq b.f2.f0 (testI b PL (fy, fn) (PL i + b.f0.length + 1)).f1 (testI b PL (fy, fn) (PL i + b.f0.length + 1)).f2 b.f2.f1 b.f2.f2 b.f2.f3 M1.a M1.x
          exact e
        -- where the two ways lead
        have hY : 0 ≤ (testI b PL (fy, fn) (PL i + b.f0.length + 1)).f1 ∧ (testI b PL (fy, fn) (PL i + b.f0.length + 1)).f1 < 256 ∧ (PL i + (b.f0.length : Int) + 1 + (testI b PL (fy, fn) (PL i + b.f0.length + 1)).f1 = PL b.f3 ∨ (PL i + (b.f0.length : Int) + 1 ≤ PL i + (b.f0.length : Int) + 1 + (testI b PL (fy, fn) (PL i + b.f0.length + 1)).f1 ∧ PL i + (b.f0.length : Int) + 1 + (testI b PL (fy, fn) (PL i + b.f0.length + 1)).f1 < PL b.f3 ∧ rd_T45 p (PL i + (b.f0.length : Int) + 1 + (testI b PL (fy, fn) (PL i + b.f0.length + 1)).f1) = jaI (PL b.f3) (PL i + (b.f0.length : Int) + 1 + (testI b PL (fy, fn) (PL i + b.f0.length + 1)).f1))) := by
          unfold testI
          dsimp only
          cases fy
          · simp only [Bool.false_eq_true, if_false] at hyp hnear ⊢
            have h5 := hnear.1 trivial
            have h6 : 0 ≤ (if fn = true then (1 : Int) else 0) := by split <;> omega
            rw [u8_id (by omega) (by omega)]
            exact ⟨by omega, by omega, .inl (by omega)⟩
          · simp only [if_true] at hyp hrest ⊢
            have h6 : 0 ≤ (if fn = true then (1 : Int) else 0) := by split <;> omega
            refine ⟨by omega, by omega, .inr ⟨by omega, by omega, ?_⟩⟩
            have h7 : 1 < rest.length := by rw [← hrest]; simp
            have := hrd 1 h7
            rw [show PL i + (b.f0.length : Int) + 1 + 0 = PL i + b.f0.length + ((1 : Nat) : Int) by omega, this]
            simp only [← hrest]
            rfl
        have hN : 0 ≤ (testI b PL (fy, fn) (PL i + b.f0.length + 1)).f2 ∧ (testI b PL (fy, fn) (PL i + b.f0.length + 1)).f2 < 256 ∧ (PL i + (b.f0.length : Int) + 1 + (testI b PL (fy, fn) (PL i + b.f0.length + 1)).f2 = PL b.f4 ∨ (PL i + (b.f0.length : Int) + 1 ≤ PL i + (b.f0.length : Int) + 1 + (testI b PL (fy, fn) (PL i + b.f0.length + 1)).f2 ∧ PL i + (b.f0.length : Int) + 1 + (testI b PL (fy, fn) (PL i + b.f0.length + 1)).f2 < PL b.f4 ∧ rd_T45 p (PL i + (b.f0.length : Int) + 1 + (testI b PL (fy, fn) (PL i + b.f0.length + 1)).f2) = jaI (PL b.f4) (PL i + (b.f0.length : Int) + 1 + (testI b PL (fy, fn) (PL i + b.f0.length + 1)).f2))) := by
          unfold testI
          dsimp only
          cases fn
          · simp only [Bool.false_eq_true, if_false] at hnp hnear ⊢
            have h5 := hnear.2 trivial
            have h6 : 0 ≤ (if fy = true then (1 : Int) else 0) := by split <;> omega
            rw [u8_id (by omega) (by omega)]
            exact ⟨by omega, by omega, .inl (by omega)⟩
          · simp only [if_true] at hnp hrest ⊢
            cases fy
            · simp only [Bool.false_eq_true, if_false] at hnp hrest ⊢
              refine ⟨by omega, by omega, .inr ⟨by omega, by omega, ?_⟩⟩
              have h7 : 1 < rest.length := by rw [← hrest]; simp
              have := hrd 1 h7
              rw [show PL i + (b.f0.length : Int) + 1 + 0 = PL i + b.f0.length + ((1 : Nat) : Int) by omega, this]
              simp only [← hrest, List.nil_append, List.getElem_cons_succ, List.getElem_cons_zero]
              rw [show PL i + (b.f0.length : Int) + 1 + 0 = PL i + b.f0.length + ((1 : Nat) : Int) by omega]
            · simp only [if_true] at hnp hrest ⊢
              refine ⟨by omega, by omega, .inr ⟨by omega, by omega, ?_⟩⟩
              have h7 : 2 < rest.length := by rw [← hrest]; simp
              have := hrd 2 h7
              rw [show PL i + (b.f0.length : Int) + 1 + 1 = PL i + b.f0.length + ((2 : Nat) : Int) by omega, this]
              simp only [← hrest, List.getElem_cons_succ, List.cons_append, List.nil_append, List.getElem_cons_zero]
              rw [show PL i + (b.f0.length : Int) + 1 + 1 = PL i + b.f0.length + ((2 : Nat) : Int) by omega]
        have hvt := fun m => vm_test (p := p) (pk := pk) (at_ := PL i + b.f0.length) (M := M1) (T := T1) (by omega) hpq hlong hi0 (by rw [hf0]; exact hjm) ⟨hY.1, hY.2.1⟩ ⟨hN.1, hN.2.1⟩ m
        rw [hho] at hvt
        have h6 : 0 ≤ (if fy = true then (1 : Int) else 0) := by split <;> omega
        have h7 : 0 ≤ (if fn = true then (1 : Int) else 0) := by split <;> omega
        by_cases hh : hoP b.f2 M1.a M1.x = true
        · obtain ⟨T2, hT2, hc⟩ := L.goTo pk hy (q := PL i + b.f0.length) (by omega) (by omega) M1 (T1 ++ [PL i + b.f0.length]) _ hY.2.2
          obtain ⟨v, fl, s', h1, h2, T3, h3, h4⟩ := ih b.f3 hy (by omega) M1 (s1 + 1) T2 (by omega) (by omega)
          rw [List.length_append, List.length_singleton] at hT2
          refine ⟨v, fl, s', ?_, by omega, T3, by omega, ?_⟩
          · intro k hk
            obtain ⟨k, rfl⟩ : ∃ r, k = r + 1 := ⟨k - 1, by omega⟩
            rw [hg, if_neg e1, if_neg e2, if_pos hh, w64 (by omega) (by omega)]
            exact h1 k (by omega)
          · intro m hm
            obtain ⟨m', hm', e⟩ := hq m hm
            obtain ⟨m', rfl⟩ : ∃ r, m' = r + 1 := ⟨m' - 1, by omega⟩
            obtain ⟨m2, hm2, e2⟩ := hc m' (by omega)
            rw [e, hvt, if_pos hh, e2]
            exact h4 m2 hm2
        · obtain ⟨T2, hT2, hc⟩ := L.goTo pk hn (q := PL i + b.f0.length) (by omega) (by omega) M1 (T1 ++ [PL i + b.f0.length]) _ hN.2.2
          obtain ⟨v, fl, s', h1, h2, T3, h3, h4⟩ := ih b.f4 hn (by omega) M1 (s1 + 1) T2 (by omega) (by omega)
          rw [List.length_append, List.length_singleton] at hT2
          refine ⟨v, fl, s', ?_, by omega, T3, by omega, ?_⟩
          · intro k hk
            obtain ⟨k, rfl⟩ : ∃ r, k = r + 1 := ⟨k - 1, by omega⟩
            rw [hg, if_neg e1, if_neg e2, if_neg hh, w64 (by omega) (by omega)]
            exact h1 k (by omega)
          · intro m hm
            obtain ⟨m', hm', e⟩ := hq m hm
            obtain ⟨m', rfl⟩ : ∃ r, m' = r + 1 := ⟨m' - 1, by omega⟩
            obtain ⟨m2, hm2, e2⟩ := hc m' (by omega)
            rw [e, hvt, if_neg hh, e2]
            exact h4 m2 hm2
    · -- a fault
      refine ⟨0, fl, s1, ?_, by omega, T1, by omega, ?_⟩
      · intro k hk
        obtain ⟨k, rfl⟩ : ∃ r, k = r + 1 := ⟨k - 1, by omega⟩
        rw [hg, if_neg hfl]
      · intro m hm
        exact hv m (by omega)
end
end Go.Proofs.Ytdkalnkplgfgoaa.Ln
namespace Go.Proofs.Ytdkalnkplgfgoaa.Ln
open Go.RowKit Go.Maps Go.Proofs.YtdkalnkplgfgoaaW.PrintWords Go.Proofs.YtdkalnkplgfgoaaW.PrintLast Go.Proofs.YtdkalnkplgfgoaaW.PrintMore Go.Proofs.Ytdkalnkplgfgoaa.PA
set_option linter.unusedVariables false
set_option linter.unusedSimpArgs false
theorem rch_in {g : List S47} (h : TkB g = true) {i : Int} (hr : Rch g i) : 0 ≤ i ∧ i < (g.length : Int) := by
  induction hr with
  | zero => have := (tk_out h).1; omega
  | step h1 h0 hl hx ih => have := tk_goal h h0 hl _ hx; omega
/-- The Measure of the blocks of an order that grows. -/
def mkF (g : List S47) (i : Int) : Int := ((rd_T47 g i).f0.length : Int) + 1 + (if (rd_T47 g i).f1 = 3 then 2 else 0)
theorem mkF_nn (g : List S47) (i : Int) : 1 ≤ mkF g i := by unfold mkF; split <;> omega
theorem msL_take (g : List S47) {j : Nat} (h : j < g.length) : msL (g.take (j + 1)) = msL (g.take j) + mkF g (j : Int) := by
  have happ : ∀ (l : List S47) (b : S47), msL (l ++ [b]) = msL l + ((b.f0.length : Int) + 1 + (if b.f1 = 3 then 2 else 0)) := by
    intro l b
    induction l with
    | nil => simp [msL]
    | cons c l ih => rw [List.cons_append, msL, msL, ih]; omega
  rw [List.take_succ_eq_append_getElem h, happ]
  unfold mkF
  rw [rdB_at h]
theorem ord_ms (g : List S47) : ∀ (d : Nat) (O : List Int), O.Pairwise (· < ·) → (∀ i ∈ O, 0 ≤ i ∧ i < (d : Int)) → d ≤ g.length → sumS (mkF g) O ≤ msL (g.take d)
  | 0, O, hp, hO, hd => by
    cases O with
    | nil => simp [sumS, msL]
    | cons i r => have := hO i List.mem_cons_self; omega
  | d + 1, O, hp, hO, hd => by
    rw [msL_take g (by omega)]
    have hm := mkF_nn g (d : Int)
    by_cases hz : O = []
    · subst hz
      have := ord_ms g d [] List.Pairwise.nil (by simp) (by omega)
      simp only [sumS] at this ⊢
      omega
    · obtain ⟨O', x, rfl⟩ : ∃ O' x, O = O' ++ [x] := ⟨O.dropLast, O.getLast hz, (List.dropLast_concat_getLast hz).symm⟩
      have hp2 := List.pairwise_append.1 hp
      rw [sumS_append]
      have hx := hO x (by simp)
      have hlt : ∀ i ∈ O', i < x := fun i hi => hp2.2.2 i hi x (List.mem_singleton.2 rfl)
      by_cases e : x = (d : Int)
      · have := ord_ms g d O' hp2.1 (fun i hi => ⟨(hO i (List.mem_append_left _ hi)).1, by have := hlt i hi; omega⟩) (by omega)
        rw [e]
        simp only [sumS]
        omega
      · have := ord_ms g d (O' ++ [x]) hp (fun i hi => by
          refine ⟨(hO i hi).1, ?_⟩
          rcases List.mem_append.1 hi with h | h
          · have := hlt i h; omega
          · rw [List.mem_singleton.1 h]; omega) (by omega)
        rw [sumS_append] at this
        omega
theorem sumS_le {s t : Int → Int} (h : ∀ i, s i ≤ t i) : ∀ l : List Int, sumS s l ≤ sumS t l
  | [] => Int.le_refl _
  | i :: r => by have := sumS_le h r; have := h i; unfold sumS; omega
/-- What Linear leaves is a layout. -/
theorem lay_of {g : List S47} (htk : TkB g = true) (hms : msL g ≤ 4096) {R : List Bool} (hR : R.length = g.length) (hrch : ∀ i : Int, 0 ≤ i → i < g.length → (rdOf false R i = true ↔ Rch g i))
    {k : Nat} {PL : Int → Int} {f : Int → Bool × Bool} (hp : plIt g (stepO R g.length).2 (stepO R g.length).1 k (fun _ => (false, false)) = some (PL, f)) :
    Lay g (stepO R g.length).1 (stepO R g.length).2 PL f (wrGo g (stepO R g.length).2 PL f (stepO R g.length).1 []) ∧ ((wrGo g (stepO R g.length).2 PL f (stepO R g.length).1 []).length : Int) ≤ msL g := by
  obtain ⟨hsort, hmem, hbig, haft⟩ := stepO_ord R g.length
  obtain ⟨hPL, hfr⟩ := plIt_out g _ _ PL f k _ hp
  clear hp
  generalize (stepO R g.length).1 = O at *
  generalize (stepO R g.length).2 = after at *
  have hdom : ∀ i ∈ O, 0 ≤ i ∧ i < (g.length : Int) := fun i hi => ⟨((hmem i).1 hi).1, ((hmem i).1 hi).2.1⟩
  have hO : ∀ i : Int, Rch g i → i ∈ O := by
    intro i hi
    have := rch_in htk hi
    exact (hmem i).2 ⟨this.1, this.2, (hrch i this.1 this.2).2 hi⟩
  have hRch : ∀ i ∈ O, Rch g i := fun i hi => (hrch i (hdom i hi).1 (hdom i hi).2).1 ((hmem i).1 hi).2.2
  have hkind : ∀ i ∈ O, (rd_T47 g i).f1 = 1 ∨ (rd_T47 g i).f1 = 2 ∨ (rd_T47 g i).f1 = 3 := fun i hi => end_kind (tk_mem htk (rd_T47_mem (hdom i hi).1 (hdom i hi).2)).2.2
  have hsum : sumS (szF g after f) O ≤ msL g := by
    refine Int.le_trans (sumS_le (t := mkF g) (fun i => ?_) O) ?_
    · have := (tailF_b (rd_T47 g i) (after i) (f i)).2
      unfold szF mkF; omega
    · have := ord_ms g g.length O hsort hdom (Nat.le_refl _)
      rwa [List.take_length] at this
  have hnn := szF_nn g after f
  have hplace : ∀ (m : Nat) (h : m < O.length), PL O[m] = sumS (szF g after f) (O.take m) := by
    intro m h
    have := plGo_at g after f O 0 (fun _ => 0) hsort (Int.le_refl _) (by omega) m h
    rw [← hPL] at this
    omega
  have hidx : ∀ i ∈ O, ∃ (m : Nat) (h : m < O.length), O[m] = i := fun i hi => List.getElem_of_mem hi
  have hinc : ∀ i ∈ O, ∀ x ∈ O, i < x → PL i + szF g after f i ≤ PL x := by
    intro i hi x hx hix
    obtain ⟨m, hm, rfl⟩ := hidx i hi
    obtain ⟨m2, hm2, rfl⟩ := hidx x hx
    have hmm : m < m2 := by
      rcases Nat.lt_trichotomy m m2 with h | h | h
      · exact h
      · subst h; omega
      · have := List.pairwise_iff_getElem.1 hsort m2 m hm2 hm h; omega
    rw [hplace m hm, hplace m2 hm2, ← sumS_take hm]
    exact sumS_take_mono (fun i _ => hnn i) hmm
  obtain ⟨_, hlen, hblk⟩ := wrGo_at g after PL f O [] hkind
  rw [List.length_nil] at hlen
  have h0O : (0 : Int) ∈ O := hO 0 .zero
  have hOl : 0 < O.length := List.length_pos_of_mem h0O
  have hgo : ∀ i ∈ O, ∀ x ∈ goalsL (rd_T47 g i), i < x ∧ x ∈ O := fun i hi x hx =>
    ⟨(tk_goal htk (hdom i hi).1 (hdom i hi).2 x hx).1, hO x (.step (hRch i hi) (hdom i hi).1 (hdom i hi).2 hx)⟩
  -- the last one returns
  have hlast1 : (rd_T47 g (O[O.length - 1]'(by omega))).f1 = 1 := by
    have hmem1 : O[O.length - 1]'(by omega) ∈ O := List.getElem_mem _
    have hmax : ∀ x ∈ O, x ≤ O[O.length - 1]'(by omega) := by
      intro x hx
      obtain ⟨m, hm, rfl⟩ := hidx x hx
      by_cases e : m = O.length - 1
      · subst e; exact Int.le_refl _
      · have := List.pairwise_iff_getElem.1 hsort m (O.length - 1) hm (by omega) (by omega); omega
    rcases hkind _ hmem1 with h | h | h
    · exact h
    · have := hgo _ hmem1 (rd_T47 g (O[O.length - 1]'(by omega))).f3 (by unfold goalsL; rw [if_pos h]; exact List.mem_cons_self)
      have := hmax _ this.2; omega
    · have := hgo _ hmem1 (rd_T47 g (O[O.length - 1]'(by omega))).f3 (by unfold goalsL; rw [if_neg (by omega), if_pos h]; exact List.mem_cons_self)
      have := hmax _ this.2; omega
  have htake : sumS (szF g after f) O = PL (O[O.length - 1]'(by omega)) + szF g after f (O[O.length - 1]'(by omega)) := by
    rw [hplace _ (by omega), ← sumS_take (by omega), show O.length - 1 + 1 = O.length by omega, List.take_length]
  have hszl : szF g after f (O[O.length - 1]'(by omega)) = ((rd_T47 g (O[O.length - 1]'(by omega))).f0.length : Int) + 1 := by
    unfold szF tailF
    rw [if_neg (fun q => by have := q.1; omega), if_neg (by omega)]
  have hfirst : PL 0 = 0 := by
    obtain ⟨m, hm, e⟩ := hidx 0 h0O
    have hm0 : m = 0 := by
      by_cases h : m = 0
      · exact h
      · have := List.pairwise_iff_getElem.1 hsort 0 m (by omega) hm (by omega)
        have := hdom O[0] (List.getElem_mem _)
        omega
    subst hm0
    have h9 := hplace 0 hm
    rw [e] at h9
    exact h9
  refine ⟨⟨htk, h0O, hfirst, hdom, fun i hi x hx => (hgo i hi x hx).2, ?_, fun i hi x hx => hinc i hi x (hgo i hi x hx).2 (hgo i hi x hx).1, ?_, by omega, ?_, ?_, ?_, ?_⟩, by omega⟩
  · intro i hi
    obtain ⟨m, hm, rfl⟩ := hidx i hi
    obtain ⟨A, B, e, l⟩ := hblk m hm
    have hA : (A.length : Int) = PL O[m] := by rw [hplace m hm, l, List.length_nil]; omega
    rw [hA] at e
    exact ⟨A, B, e, hA⟩
  · intro i hi h2 h3
    obtain ⟨m, hm, rfl⟩ := hidx i hi
    have hg := hgo _ hi (rd_T47 g O[m]).f3 (by unfold goalsL; rw [if_pos h2]; exact List.mem_cons_self)
    have ha := haft m hm
    have hd0 := (hdom _ hi).1
    by_cases hm1 : m + 1 < O.length
    · rw [dif_pos hm1] at ha
      rw [ha, hplace (m + 1) hm1, sumS_take hm, ← hplace m hm]
      unfold szF tailF
      rw [if_pos ⟨h2, h3⟩]
      omega
    · rw [dif_neg hm1] at ha
      omega
  · intro i hi
    obtain ⟨m, hm, rfl⟩ := hidx i hi
    rw [hplace m hm, hlen]
    have h1 : sumS (szF g after f) (O.take m) ≤ sumS (szF g after f) (O.take (O.length - 1)) := sumS_take_mono (fun i _ => hnn i) (by omega)
    rw [← hplace (O.length - 1) (by omega)] at h1
    omega
  · intro i hi h3
    have e := hfr i hi h3
    have hgl : goalsL (rd_T47 g i) = [(rd_T47 g i).f3, (rd_T47 g i).f4] := by unfold goalsL; rw [if_neg (by omega), if_pos h3]
    have hy := hgo i hi _ (by rw [hgl]; exact List.mem_cons_self)
    have hn := hgo i hi _ (by rw [hgl]; exact List.mem_cons_of_mem _ List.mem_cons_self)
    have hpos : ∀ x ∈ O, 0 ≤ PL x ∧ PL x ≤ 4096 := by
      intro x hx
      obtain ⟨m, hm, rfl⟩ := hidx x hx
      rw [hplace m hm]
      have a := sumS_nn (s := szF g after f) (l := O.take m) (fun i _ => hnn i)
      have b := sumS_take_mono (s := szF g after f) (l := O) (fun i _ => hnn i) (show m ≤ O.length by omega)
      rw [List.take_length] at b
      omega
    have h1 := hpos i hi
    have h2 := hpos _ hy.2
    have h4 := hpos _ hn.2
    have h5 := (tk_mem htk (rd_T47_mem (hdom i hi).1 (hdom i hi).2)).1
    unfold frOf at e
    rw [w64 (n := PL i + ((rd_T47 g i).f0.length : Int)) (by omega) (by omega), w64 (n := PL (rd_T47 g i).f3 - (PL i + ((rd_T47 g i).f0.length : Int))) (by omega) (by omega), w64 (n := PL (rd_T47 g i).f4 - (PL i + ((rd_T47 g i).f0.length : Int))) (by omega) (by omega), w64 (n := PL (rd_T47 g i).f3 - (PL i + ((rd_T47 g i).f0.length : Int)) - 1) (by omega) (by omega), w64 (n := PL (rd_T47 g i).f4 - (PL i + ((rd_T47 g i).f0.length : Int)) - 1) (by omega) (by omega)] at e
    constructor
    · intro q
      have e1 := congrArg Prod.fst e
      simp only at e1
      rw [q, Bool.false_or] at e1
      have := of_decide_eq_false e1
      omega
    · intro q
      have e1 := congrArg Prod.snd e
      simp only at e1
      rw [q, Bool.false_or] at e1
      have := of_decide_eq_false e1
      omega
  · intro t ht
    -- the block in which the place t lies
    have hcov : ∀ m : Nat, m ≤ O.length → (t : Int) < sumS (szF g after f) (O.take m) → ∃ (q : Nat) (h : q < O.length), sumS (szF g after f) (O.take q) ≤ t ∧ (t : Int) < sumS (szF g after f) (O.take (q + 1)) := by
      intro m
      induction m with
      | zero => intro _ h; simp [sumS] at h; omega
      | succ m ih =>
        intro hm h
        by_cases h2 : (t : Int) < sumS (szF g after f) (O.take m)
        · exact ih (by omega) h2
        · exact ⟨m, by omega, by omega, h⟩
    obtain ⟨q, hq, h1, h2⟩ := hcov O.length (Nat.le_refl _) (by rw [List.take_length]; omega)
    rw [sumS_take hq, ← hplace q hq] at h2
    rw [← hplace q hq] at h1
    refine ⟨O[q], List.getElem_mem _, ((t : Int) - PL O[q]).toNat, ?_, by omega⟩
    have := bcF_len (rd_T47 g O[q]) (after O[q]) PL (f O[q]) (PL O[q]) (hkind _ (List.getElem_mem _))
    unfold szF at h2
    omega
  · exact ⟨O[O.length - 1]'(by omega), List.getElem_mem _, hlast1, by omega⟩
theorem app_split {α : Type} (l r : List α) (j : Nat) (h : j < (l ++ r).length) : (∃ h1 : j < l.length, (l ++ r)[j] = l[j]) ∨ ∃ (q : Nat) (hq : q < r.length), j = l.length + q ∧ (l ++ r)[j] = r[q] := by
  by_cases h1 : j < l.length
  · exact .inl ⟨h1, List.getElem_append_left h1⟩
  · rw [List.length_append] at h
    exact .inr ⟨j - l.length, by omega, by omega, List.getElem_append_right (by omega)⟩
/-- What is looked at in each instruction. -/
def okI (p : List S45) (t : Nat) (i : S45) : Prop :=
  flF i.f0 i.f3 = 0 ∧ (i.f0 = 5 → 0 ≤ i.f3 ∧ i.f3 < (p.length : Int) - 1 - t) ∧ (jmB i.f0 = true → 0 ≤ i.f1 ∧ i.f1 < (p.length : Int) - 1 - t ∧ 0 ≤ i.f2 ∧ i.f2 < (p.length : Int) - 1 - t)
theorem check_l (p : List S45) (hp : p.length ≤ 4096) (h0 : 0 < p.length) (hI : ∀ (t : Nat) (h : t < p.length), okI p t p[t]) (hr : reB (p[p.length - 1]'(by omega)).f0 = true) : ∀ (d t : Nat), p.length - t = d → t ≤ p.length → ∀ k, d + 10 ≤ k → riddleref4_Check.l0 k p (p.length : Int) (t : Int) = some (0, 0) := by
  intro d
  induction d with
  | zero =>
    intro t hd ht k hk
    obtain ⟨k, rfl⟩ : ∃ m, k = m + 1 := ⟨k - 1, by omega⟩
    have hl : rd_T45 p ((p.length : Int) - 1) = p[p.length - 1]'(by omega) := by
      have := rdI_at (c := p) (j := p.length - 1) (by omega)
      rw [show ((p.length - 1 : Nat) : Int) = (p.length : Int) - 1 by omega] at this
      exact this
    rw [riddleref4_Check.l0, if_neg (by omega), w64 (n := (p.length : Int) - 1) (by omega) (by omega), if_pos (by omega), if_pos (by omega), hl, return_f, hr]
    rfl
  | succ d ih =>
    intro t hd ht k hk
    obtain ⟨k, rfl⟩ : ∃ m, k = m + 9 := ⟨k - 9, by omega⟩
    have hlt : t < p.length := by omega
    obtain ⟨o1, o2, o3⟩ := hI t hlt
    have hnext := ih (t + 1) (by omega) (by omega) (k + 8) (by omega)
    rw [show ((t + 1 : Nat) : Int) = (t : Int) + 1 by omega] at hnext
    rw [riddleref4_Check.l0, if_pos (by omega), if_pos (by omega), if_pos (by omega), rdI_at hlt, fault_f, Option.bind_some, if_pos o1, jump_f, Option.bind_some, w64 (n := (p.length : Int) - 1) (by omega) (by omega), w64 (n := (p.length : Int) - 1 - t) (by omega) (by omega), w64 (n := (t : Int) + 1) (by omega) (by omega), hnext]
    by_cases c5 : (p[t]).f0 = 5
    · have := o2 c5
      rw [if_pos c5, if_neg (by omega)]
      have hj : jmB (p[t]).f0 = false := by rw [c5]; rfl
      rw [hj, if_neg (by decide)]
    · rw [if_neg c5]
      cases hj : jmB (p[t]).f0
      · rw [if_neg (by decide)]
      · have := o3 hj
        rw [if_pos rfl, w64 (n := (p[t]).f1) (by omega) (by omega), w64 (n := (p[t]).f2) (by omega) (by omega), if_neg (by omega), if_neg (by omega)]
theorem check_ok (p : List S45) (hp : p.length ≤ 4096) (h0 : 0 < p.length) (hI : ∀ (t : Nat) (h : t < p.length), okI p t p[t]) (hr : reB (p[p.length - 1]'(by omega)).f0 = true) (k : Nat) (hk : 10000 ≤ k) : riddleref4_Check.f k p = some (0, 0) := by
  unfold riddleref4_Check.f
  rw [if_neg (by omega), if_neg (by omega)]
  exact check_l p hp h0 hI hr p.length 0 rfl (by omega) k (by omega)
section
variable {g : List S47} {O : List Int} {after PL : Int → Int} {f : Int → Bool × Bool} {p : List S45}
theorem Lay.each (L : Lay g O after PL f p) (hk : ∀ b ∈ g, (∀ i ∈ b.f0, 0 ≤ i.f3) ∧ 0 ≤ b.f2.f3) (t : Nat) (h : t < p.length) : okI p t p[t] ∧ 0 ≤ (p[t]).f3 := by
  obtain ⟨i, hi, j, hj, htj⟩ := L.cover t h
  obtain ⟨A, B, hp, hA⟩ := L.place i hi
  have hdom := L.dom i hi
  have hlong := L.long
  have hgt : p[t] = (bcF (rd_T47 g i) (after i) PL (f i) (PL i))[j] := by
    have e1 := rdI_at h
    have e2 := rdI_mid (A := A) (c := bcF (rd_T47 g i) (after i) PL (f i) (PL i)) (B := B) hj
    rw [← hp, hA, ← htj, e1] at e2
    exact e2
  have hmem := rd_T47_mem hdom.1 hdom.2
  obtain ⟨hlen, hcode, hend⟩ := tk_mem L.tk hmem
  have hkb := hk _ hmem
  have hcl := L.closed i hi
  have hfw := L.fwd i hi
  have hne := L.near i hi
  have hpl := L.pos hi
  have hbl := bcF_len (rd_T47 g i) (after i) PL (f i) (PL i) (end_kind hend)
  have hszf : szF g after f i = ((rd_T47 g i).f0.length : Int) + tailF (rd_T47 g i) (after i) (f i) := rfl
  rw [hszf, ← hbl] at hfw
  have hbp : ((bcF (rd_T47 g i) (after i) PL (f i) (PL i)).length : Int) + PL i ≤ p.length := by rw [hp]; simp; omega
  rw [hgt]
  clear hgt hp hszf hmem
  have hinn := L.inn
  generalize rd_T47 g i = b at *
  generalize hff : f i = ff at *
  obtain ⟨fy, fn⟩ := ff
  rcases app_split b.f0 _ j hj with ⟨hjl, e⟩ | ⟨r, hr, hjr, e⟩
  · have e' : (bcF b (after i) PL (fy, fn) (PL i))[j] = b.f0[j] := e
    rw [e']
    have hs := (List.all_eq_true.1 hcode) _ (List.getElem_mem hjl)
    obtain ⟨n6, n22, n5, nj, nf⟩ := stB_not hs
    exact ⟨⟨nf, fun q => absurd q n5, fun q => by rw [nj] at q; cases q⟩, hkb.1 _ (List.getElem_mem hjl)⟩
  dsimp only at hr e
  have e' : (bcF b (after i) PL (fy, fn) (PL i))[j] = _ := e
  rw [e']
  clear e e'
  have hja : ∀ (x : Int), x ∈ goalsL b → ∀ at_ : Int, at_ = t → okI p t (jaI (PL x) at_) ∧ 0 ≤ (jaI (PL x) at_).f3 := by
    intro x hx at_ ha
    have h1 := hfw x hx
    have h2 := hinn x (hcl x hx)
    have h3 := jaI_to (tt := PL x) (here := at_) (by omega) (by omega) (by omega)
    rw [h3]
    refine ⟨⟨rfl, fun _ => by rw [h3]; omega, fun q => by rw [show (jaI (PL x) at_).f0 = 5 from rfl] at q; exact absurd q (by decide)⟩, by omega⟩
  by_cases e1 : b.f1 = 1
  · simp only [if_pos e1] at hr ⊢
    obtain rfl : r = 0 := by simpa using hr
    have hre : reB b.f2.f0 = true := by
      unfold endB at hend
      rw [if_pos e1] at hend
      simp only [Bool.and_eq_true] at hend
      exact hend.1.1.1
    have hn := re_not hre
    exact ⟨⟨fl_re _ hre, fun q => absurd q hn.2, fun q => by rw [List.getElem_cons_zero, hn.1] at q; cases q⟩, hkb.2⟩
  by_cases e2 : b.f1 = 2
  · simp only [if_neg e1, if_pos e2] at hr ⊢
    by_cases ea : b.f3 = after i
    · simp only [if_pos ea, List.length_nil] at hr
      omega
    · simp only [if_neg ea] at hr ⊢
      obtain rfl : r = 0 := by simpa using hr
      exact hja b.f3 (by unfold goalsL; rw [if_pos e2]; exact List.mem_cons_self) _ (by omega)
  · have e3 : b.f1 = 3 := by have := end_kind hend; omega
    have hjm : jmB b.f2.f0 = true := by
      unfold endB at hend
      rw [if_neg e1, if_neg e2, if_pos e3] at hend
      simp only [Bool.and_eq_true] at hend
      exact hend.1
    have hgl : goalsL b = [b.f3, b.f4] := by unfold goalsL; rw [if_neg e2, if_pos e3]
    have hy : b.f3 ∈ goalsL b := by rw [hgl]; exact List.mem_cons_self
    have hn : b.f4 ∈ goalsL b := by rw [hgl]; exact List.mem_cons_of_mem _ List.mem_cons_self
    have hyp := hfw _ hy
    have hnp := hfw _ hn
    have hyi := hinn _ (hcl _ hy)
    have hni := hinn _ (hcl _ hn)
    have hnear := hne e3
    have hbl2 : ((bcF b (after i) PL (fy, fn) (PL i)).length : Int) = (b.f0.length : Int) + 1 + (if fy then 1 else 0) + (if fn then 1 else 0) := by
      rw [hbl]; unfold tailF; rw [if_neg (fun q => e2 q.1), if_pos e3]; dsimp only; omega
    rw [hbl2] at hyp hnp hbp
    simp only [if_neg e1, if_neg e2] at hr ⊢
    have h6 : 0 ≤ (if fy = true then (1 : Int) else 0) := by split <;> omega
    have h7 : 0 ≤ (if fn = true then (1 : Int) else 0) := by split <;> omega
    cases r with
    | zero =>
      rw [List.getElem_cons_zero]
      refine ⟨⟨fl_jm _ hjm, fun q => absurd q (jm_ne5 hjm), fun _ => ?_⟩, hkb.2⟩
      unfold testI
      dsimp only
      cases fy <;> cases fn <;> simp only [Bool.false_eq_true, if_false, if_true] at hyp hnp hbp hnear ⊢
      · have a := hnear.1 trivial
        have b := hnear.2 trivial
        rw [u8_id (by omega) (by omega), u8_id (by omega) (by omega)]
        omega
      · have a := hnear.1 trivial
        rw [u8_id (by omega) (by omega)]
        omega
      · have b := hnear.2 trivial
        rw [u8_id (by omega) (by omega)]
        omega
      · omega
    | succ r =>
      simp only [List.getElem_cons_succ]
      rw [List.length_cons] at hr
      cases fy <;> cases fn <;> simp only [Bool.false_eq_true, if_false, if_true, List.nil_append, List.append_nil, List.cons_append, List.length_cons, List.length_nil, Int.add_zero] at hr ⊢
      · omega
      · obtain rfl : r = 0 := by omega
        exact hja b.f4 hn _ (by omega)
      · obtain rfl : r = 0 := by omega
        exact hja b.f3 hy _ (by omega)
      · cases r with
        | zero => exact hja b.f3 hy _ (by omega)
        | succ r =>
          obtain rfl : r = 0 := by omega
          exact hja b.f4 hn _ (by omega)
theorem Lay.ends (L : Lay g O after PL f p) : ∃ h : 0 < p.length, reB (p[p.length - 1]'(by omega)).f0 = true := by
  obtain ⟨i, hi, h1, hl⟩ := L.last
  obtain ⟨A, B, hp, hA⟩ := L.place i hi
  have hpos := L.pos hi
  have hdom := L.dom i hi
  refine ⟨by omega, ?_⟩
  have hbc : (bcF (rd_T47 g i) (after i) PL (f i) (PL i)) = (rd_T47 g i).f0 ++ [(rd_T47 g i).f2] := by unfold bcF; rw [if_pos h1]
  have e1 := rdI_at (c := p) (j := p.length - 1) (by omega)
  have e2 := rdI_mid (A := A) (c := bcF (rd_T47 g i) (after i) PL (f i) (PL i)) (B := B) (j := (rd_T47 g i).f0.length) (by rw [hbc]; simp)
  rw [← hp, hA, show PL i + ((rd_T47 g i).f0.length : Int) = ((p.length - 1 : Nat) : Int) by omega, e1] at e2
  rw [e2]
  simp only [hbc, List.getElem_append_right (Nat.le_refl _), Nat.sub_self, List.getElem_cons_zero]
  obtain ⟨_, _, hend⟩ := tk_mem L.tk (rd_T47_mem hdom.1 hdom.2)
  unfold endB at hend
  rw [if_pos h1] at hend
  simp only [Bool.and_eq_true] at hend
  exact hend.1.1.1
theorem Lay.check (L : Lay g O after PL f p) (hk : ∀ b ∈ g, (∀ i ∈ b.f0, 0 ≤ i.f3) ∧ 0 ≤ b.f2.f3) (k : Nat) (hk2 : 10000 ≤ k) : riddleref4_Check.f k p = some (0, 0) := by
  obtain ⟨h0, hr⟩ := L.ends
  exact check_ok p L.long h0 (fun t h => (L.each hk t h).1) hr k hk2
theorem Lay.code (L : Lay g O after PL f p) (hk : ∀ b ∈ g, (∀ i ∈ b.f0, 0 ≤ i.f3) ∧ 0 ≤ b.f2.f3) (pk : List Int) (hpk : pk.length ≤ 65536) (k : Nat) (hk2 : 10000 ≤ k) : riddleref5_Code.f k p pk = some 0 := by
  unfold riddleref5_Code.f
  rw [L.check hk k hk2, Option.bind_some, if_pos rfl, if_neg (by omega)]
theorem Lay.k0 (L : Lay g O after PL f p) (hk : ∀ b ∈ g, (∀ i ∈ b.f0, 0 ≤ i.f3) ∧ 0 ≤ b.f2.f3) : ∀ i ∈ p, 0 ≤ i.f3 := by
  intro i hi
  obtain ⟨t, h, rfl⟩ := List.getElem_of_mem hi
  exact (L.each hk t h).2
/-- The runs: of the graph, and of the program. -/
theorem Lay.runs (L : Lay g O after PL f p) (pk : List Int) : ∃ v fl s, gRun g pk 5000 0 z16 0 = some (v, fl, s) ∧ ∃ T : List Int, s ≤ (T.length : Int) ∧ vmGo p pk 5000 0 z16 [] = some (v, fl, T) := by
  have h2 := (tk_out L.tk).2.1
  obtain ⟨v, fl, s, h1, _, T, h3, h4⟩ := L.sim pk g.length 0 L.zero (by omega) z16 0 [] (Int.le_refl _) (by rw [L.pl0]; omega)
  refine ⟨v, fl, s, h1 5000 (by omega), T, by rw [List.length_nil] at h3; omega, ?_⟩
  have := h4 5000 (by rw [L.pl0]; have := L.long; omega)
  rwa [L.pl0] at this
end
end Go.Proofs.Ytdkalnkplgfgoaa.Ln
namespace Go.Proofs.Ytdkalnkplgfgoaa.Ln
open Go.RowKit Go.Maps Go.Proofs.YtdkalnkplgfgoaaW.PrintWords Go.Proofs.YtdkalnkplgfgoaaW.PrintLast Go.Proofs.YtdkalnkplgfgoaaW.PrintMore Go.Proofs.Ytdkalnkplgfgoaa.PA
set_option linter.unusedVariables false
set_option linter.unusedSimpArgs false
theorem sumL_eq (g : List S47) : ∀ O : List Int, (sumL g O : Int) ≤ 3 * sumS (mkF g) O
  | [] => Int.le_refl _
  | i :: r => by
    have := sumL_eq g r
    have h : (0 : Int) ≤ (if (rd_T47 g i).f1 = 3 then 2 else 0) := by split <;> omega
    have hm : mkF g i = ((rd_T47 g i).f0.length : Int) + 1 + (if (rd_T47 g i).f1 = 3 then 2 else 0) := rfl
    rw [sumL, sumS]
    omega
theorem ord_len (g : List S47) : ∀ O : List Int, (O.length : Int) ≤ sumS (mkF g) O
  | [] => Int.le_refl _
  | i :: r => by
    have := ord_len g r
    have := mkF_nn g i
    unfold sumS
    rw [List.length_cons]
    omega
theorem wf_i64 {n : Int} (h0 : -9223372036854775808 ≤ n) (h1 : n ≤ 9223372036854775807) : (Lit.int .i64 n).wf = true := WalkArith.wf_i64 (by omega)
theorem tk_wf {g : List S47} (h : TkB g = true) {i : Int} (h0 : 0 ≤ i) (h1 : i < g.length) : (0 ≤ (rd_T47 g i).f3 ∧ (rd_T47 g i).f3 ≤ 4096) ∧ (0 ≤ (rd_T47 g i).f4 ∧ (rd_T47 g i).f4 ≤ 4096) := by
  obtain ⟨_, _, he⟩ := tk_mem h (rd_T47_mem h0 h1)
  have hg := tk_goal h h0 h1
  have hn := (tk_out h).2.1
  generalize rd_T47 g i = b at *
  unfold goalsL at hg
  unfold endB at he
  by_cases e1 : b.f1 = 1
  · rw [if_pos e1] at he
    simp only [Bool.and_eq_true, decide_eq_true_eq] at he
    omega
  rw [if_neg e1] at he
  by_cases e2 : b.f1 = 2
  · rw [if_pos e2] at he hg
    simp only [Bool.and_eq_true, decide_eq_true_eq] at he
    have := hg _ List.mem_cons_self
    omega
  rw [if_neg e2] at he hg
  by_cases e3 : b.f1 = 3
  · rw [if_pos e3] at hg
    have a := hg _ List.mem_cons_self
    have b := hg _ (List.mem_cons_of_mem _ List.mem_cons_self)
    omega
  · rw [if_neg e3] at he
    cases he
theorem linear_calls (w : World) (g : List S47) (A : Option Addr) (c : Nat) (HG : Kd.C k47 w A g.length g) (hc : g.length ≤ c) (hF : Fit g) (htk : TkB g = true) (hms : msL g ≤ 4096) :
    Calls Try.prog 16 #[.slice A g.length c] w fun e w' => ∃ (p : List S45) (v : Value) (O : List Int) (after PL : Int → Int) (f : Int → Bool × Bool), e = .returned (.tuple #[v, .int .i64 0]) ∧ Lay g O after PL f p ∧ (p.length : Int) ≤ msL g ∧ k45.R 45 w' w.heap.size (fun _ => True) v p ∧ Below w.heap.size w w' := by
  have ho : ∀ R : List Bool, sumS (mkF g) (stepO R g.length).1 ≤ 4096 := by
    intro R
    obtain ⟨h1, h2, _, _⟩ := stepO_ord R g.length
    have := ord_ms g g.length _ h1 (fun i hi => ⟨((h2 i).1 hi).1, ((h2 i).1 hi).2.1⟩) (Nat.le_refl _)
    rw [List.take_length] at this
    omega
  refine (linear_ok 10000 10000 w g A c HG hc (msL g) (gmeasure hF htk 10000 (Nat.le_refl _)) hms (by rw [gtaken g hF 10000 (Nat.le_refl _), htk]; rfl) (tk_out htk).1 (tk_out htk).2.1 ?_ ?_ ?_ (Nat.le_refl _) ?_ ?_).mono ?_
  · intro i h0 h1 x hx
    have := tk_goal htk h0 h1 x hx
    omega
  · intro i h0 h1
    exact end_kind (tk_mem htk (rd_T47_mem h0 h1)).2.2
  · intro i h0 h1
    have := tk_wf htk h0 h1
    exact ⟨wf_i64 (by omega) (by omega), wf_i64 (by omega) (by omega)⟩
  · intro R _ _
    refine plIt_ends g _ _ 10000 _ ?_
    have h1 := cntW_two (fun _ => (false, false)) (stepO R g.length).1
    have h2 := ord_len g (stepO R g.length).1
    have h3 := ho R
    omega
  · intro R
    have h1 := sumL_eq g (stepO R g.length).1
    have h3 := ho R
    omega
  · rintro e w' ⟨R, PL, f, v, rfl, hR, hrch, hp, hr, hb⟩
    obtain ⟨L, hl⟩ := lay_of htk hms hR hrch hp
    exact ⟨_, v, _, _, PL, f, rfl, L, hl, hr, hb⟩
/-- Of what is not taken, or too long. -/
theorem linear_no (w : World) (g : List S47) (A : Option Addr) (c : Nat) (HG : Kd.C k47 w A g.length g) (hc : g.length ≤ c) (hF : Fit g) (h : TkB g = false) :
    Calls Try.prog 16 #[.slice A g.length c] w fun e w' => e = .returned (.tuple #[.slice none 0 0, .int .i64 180]) ∧ Below w.heap.size w w' :=
  linear_err 10000 w g A c HG hc 0 155 (gmeasure_no hF h 10000 (Nat.le_refl _)) (by decide)
theorem linear_much (w : World) (g : List S47) (A : Option Addr) (c : Nat) (HG : Kd.C k47 w A g.length g) (hc : g.length ≤ c) (hF : Fit g) (h : TkB g = true) (hm : 4096 < msL g) :
    Calls Try.prog 16 #[.slice A g.length c] w fun e w' => e = .returned (.tuple #[.slice none 0 0, .int .i64 181]) ∧ Below w.heap.size w w' :=
  linear_long 10000 w g A c HG hc (msL g) (gmeasure hF h 10000 (Nat.le_refl _)) hm
end Go.Proofs.Ytdkalnkplgfgoaa.Ln
namespace Go.Proofs.Ytdkalnkplgfgoaa.Ln
open Go.RowKit Go.Maps Go.Proofs.YtdkalnkplgfgoaaW.PrintWords Go.Proofs.YtdkalnkplgfgoaaW.PrintLast Go.Proofs.YtdkalnkplgfgoaaW.PrintMore Go.Proofs.Ytdkalnkplgfgoaa.PA
set_option linter.unusedVariables false
set_option linter.unusedSimpArgs false
def gAw : List S47 := [⟨[], 1, ⟨6, 0, 0, 7⟩, 0, 0⟩]
theorem aw_tk : TkB gAw = true := by decide +kernel
theorem aw_ms : msL gAw = 1 := by decide +kernel
theorem aw_fit : Fit gAw := by
  intro b hb
  obtain rfl : b = ⟨[], 1, ⟨6, 0, 0, 7⟩, 0, 0⟩ := by simpa [gAw] using hb
  decide
theorem aw_k : ∀ b ∈ gAw, (∀ i ∈ b.f0, 0 ≤ i.f3) ∧ 0 ≤ b.f2.f3 := by
  intro b hb
  obtain rfl : b = ⟨[], 1, ⟨6, 0, 0, 7⟩, 0, 0⟩ := by simpa [gAw] using hb
  exact ⟨fun i hi => (by cases hi), by decide⟩
theorem aw_run : gRun gAw [] 5000 0 z16 0 = some (7, 0, 1) := by kernel_rfl
/-- A row that was just made. -/
theorem R_made {α : Type} (d : Kd α) (W : World) (e : Nat) (xs : List α) (inner : List Value) (hrep : Reps (d.M W W.heap.size (fun _ => True)) d.sz xs inner) (hm : xs.length ≤ 9223372036854775807) :
    d.R e (W.alloc (.cells inner.toArray e)) W.heap.size (fun _ => True) (.slice (some ⟨W.heap.size, 0, none⟩) xs.length xs.length) xs := by
  refine ⟨fun _ _ => trivial, inner, ?_, ?_⟩
  · have h2 := World.ownsRow_lit (base := W.heap.size) (e := e) (size := d.sz) W inner.toArray xs.length (Nat.le_refl _) (by simpa [maxLen] using hm) (by simpa using hrep.1)
    simpa using h2
  · refine hrep.imp_ (fun p c hp => d.M_mono (fun k hk => ⟨trivial, fun he => ?_⟩) (d.M_below (d.M_bound hp) (below_alloc (Below.refl _ _) _)))
    have h3 : k = W.heap.size := by simpa [Value.ownBlock] using he
    have := hk.2.2.1
    omega
theorem Reps.one {α : Type} {R : α → List Value → Prop} {size : Nat} {p : α} {c : List Value} (h : R p c) (hl : c.length = size) : Reps R size [p] c := by
  have := Reps.snoc (Reps.none R size) h hl
  simpa using this
set_option maxHeartbeats 4000000 in
set_option maxRecDepth 100000 in
theorem awake_calls (w : World) : Calls Try.prog 20 #[] w fun e w' => e = .returned (.bool true) ∧ Below w.heap.size w w' := by
  have HG0 := Aside0.mk (Kd.R_reads (R_made k47 w 47 gAw [.slice none 0 0, .int .i64 1, .int .u16 6, .int .u8 0, .int .u8 0, .int .u32 7, .int .i64 0, .int .i64 0] (Reps.one (k47_mkM w _ _ ⟨[], 1, ⟨6, 0, 0, 7⟩, 0, 0⟩ (Kd.R_nil _ _ _ _ _)) rfl) (by decide)))
  have HG1 : Aside0 (Kd.C k47 (w.alloc (.cells #[.slice none 0 0, .int .i64 1, .int .u16 6, .int .u8 0, .int .u8 0, .int .u32 7, .int .i64 0, .int .i64 0] 47)) (some ⟨w.heap.size, 0, none⟩) 1 gAw) := by
    obtain ⟨A, c, he, hl, hc⟩ := HG0.out
    injection he with h1 h2 h3
    subst h1
    exact ⟨hc⟩
  clear HG0
  go_enter Try.func20, Try.ntmps20
  go_wp2_with fail
  refine (linear_calls _ gAw _ 1 HG1.out (by decide) aw_fit aw_tk (by rw [aw_ms]; decide)).mono ?_
  rintro e w1 ⟨p, v, O, after, PL, f, rfl, L, hlen, hr, hb⟩
  obtain ⟨Ap, cp, rfl⟩ := Kd.R_slice hr
  have HL := Aside0.mk L
  have HR := Aside0.mk (Kd.R_reads' hr)
  have HB1 := Aside0.mk (below_step (below_alloc (Below.refl _ w) _) hb)
  clear L hlen hr hb HG1
  go_wp2_with fail
  refine (linear_no _ [] none 0 (Kd.C_nil _ _) (Nat.le_refl _) (fun b hb => by cases hb) rfl).mono ?_
  rintro e w2 ⟨rfl, hb⟩
  have HB2 := Aside0.mk hb
  clear hb
  obtain ⟨v, fl, s, hg, T, hle, hv⟩ := HL.out.runs []
  rw [aw_run] at hg
  obtain ⟨rfl, rfl, rfl⟩ : (7 : Int) = v ∧ (0 : Int) = fl ∧ (1 : Int) = s := by simpa using hg
  have HV := Aside0.mk hv
  clear hv hg hle
  go_wp2_with fail
  refine (vm_calls 10000 5000 _ p Ap cp [] none 0 (Kd.C_below HR.out.2.2 HB2.out) HR.out.2.1 (Kd.C_nil _ _) (Nat.le_refl _) (by decide) (HL.out.code aw_k [] (by decide) 10000 (Nat.le_refl _)) (HL.out.k0 aw_k) (by decide) 7 0 T HV.out).mono ?_
  rintro e w3 ⟨vt, rfl, hb⟩
  have HB3 := Aside0.mk hb
  clear hb
  go_wp2
  go_ret
  exact ⟨rfl, below_alloc (below_step (below_step HB1.out HB2.out) HB3.out) _⟩
end Go.Proofs.Ytdkalnkplgfgoaa.Ln
namespace Go.Proofs.Ytdkalnkplgfgoaa.Ln
open Go.RowKit Go.Maps Go.Proofs.YtdkalnkplgfgoaaW.PrintWords Go.Proofs.YtdkalnkplgfgoaaW.PrintLast Go.Proofs.YtdkalnkplgfgoaaW.PrintMore Go.Proofs.Ytdkalnkplgfgoaa.PA
set_option linter.unusedVariables false
set_option linter.unusedSimpArgs false
theorem cpi (c : List S45) (h : c.length < 17592186044416) : riddlelaw0_CopyInsns.f c = some c := by
  unfold riddlelaw0_CopyInsns.f
  rw [Option.bind_some, if_pos (by simpa using h)]
  rfl
end Go.Proofs.Ytdkalnkplgfgoaa.Ln
namespace Go.Proofs.Ytdkalnkplgfgoaa.Ln
open Go.RowKit Go.Maps Go.Proofs.YtdkalnkplgfgoaaW.PrintWords Go.Proofs.YtdkalnkplgfgoaaW.PrintLast Go.Proofs.YtdkalnkplgfgoaaW.PrintMore Go.Proofs.Ytdkalnkplgfgoaa.PA
set_option linter.unusedVariables false
set_option linter.unusedSimpArgs false
/-- Block g holds at least z cells of type T, and may be written. -/
def Blk (w : World) (g T z : Nat) : Prop := ∃ cells : Array Value, w.heap[g]? = some (.cells cells T (0, 0)) ∧ z ≤ cells.size
theorem Blk.cell {w : World} {g T z : Nat} (h : Blk w g T z) (j : Nat) (hj : j < z) : (∃ u, w.cell? ⟨g, j, none⟩ = some u) ∧ w.frozen? ⟨g, j, none⟩ = false := by
  obtain ⟨cells, hh, hz⟩ := h
  refine ⟨⟨cells[j]'(by omega), ?_⟩, blk_frozen hh j⟩
  have := blk_cell hh j
  rw [this]
  exact Array.getElem?_eq_getElem (by omega)
theorem Blk.set {w : World} {g T z : Nat} (h : Blk w g T z) (b j : Nat) (u : Value) : Blk (w.setCell ⟨b, j, none⟩ u) g T z := by
  obtain ⟨cells, hh, hz⟩ := h
  by_cases e : g = b
  · subst e
    exact ⟨_, blk_put hh j u rfl, by rw [Array.size_setIfInBounds]; exact hz⟩
  · exact ⟨cells, (Below.heap_setCell w ⟨b, j, none⟩ u g e).trans hh, hz⟩
theorem Blk.lt {w : World} {g T z : Nat} (h : Blk w g T z) : g < w.heap.size := by
  obtain ⟨cells, hh, _⟩ := h
  exact blk_lt hh
theorem Blk.kp {S : Nat → Prop} {w w1 : World} {g T z : Nat} (h : Blk w g T z) (k : Kp S w w1) (hS : ¬ S g) : Blk w1 g T z := by
  obtain ⟨cells, hh, hz⟩ := h
  exact ⟨cells, (k.block g (blk_lt hh) hS).trans hh, hz⟩
theorem Blk.below {w w1 : World} {g T z : Nat} (h : Blk w g T z) (hb : Below w.heap.size w w1) : Blk w1 g T z := by
  obtain ⟨cells, hh, hz⟩ := h
  exact ⟨cells, blk_below hh hb, hz⟩
theorem Blk.mono {w : World} {g T z z' : Nat} (h : Blk w g T z) (hz : z' ≤ z) : Blk w g T z' := by
  obtain ⟨cells, hh, hz1⟩ := h
  exact ⟨cells, hh, by omega⟩
/-- A row of one's own: where it lies. -/
theorem R_blk {α : Type} {d : Kd α} {e base : Nat} {ok : Nat → Prop} {w : World} {g n c : Nat} {xs : List α} (h : d.R e w base ok (.slice (some ⟨g, 0, none⟩) n c) xs) : Blk w g e (c * d.sz) ∧ base ≤ g ∧ n ≤ c ∧ c ≤ maxLen := by
  obtain ⟨_, inner, ho, _⟩ := h
  rcases ho.2 with ⟨he, _⟩ | ⟨g', cap, cur, he, hb, hh, hnc, hcm, hcs, ht⟩
  · cases he
  · injection he with h1 h2 h3
    injection h1 with h1
    injection h1 with h1
    subst h1 h3
    exact ⟨⟨cur, hh, by omega⟩, hb, by omega, hcm⟩
theorem own_blk' {w : World} {base e size n : Nat} {v : Value} {xs : List Value} (h : w.ownsRow base e size v n xs) (hn : 0 < n) : ∃ g c, v = .slice (some ⟨g, 0, none⟩) n c ∧ Blk w g e (c * size) ∧ base ≤ g ∧ n ≤ c := by
  rcases h.2 with ⟨he, h0, _⟩ | ⟨g', cap, cur, he, hb, hh, hnc, hcm, hcs, ht⟩
  · omega
  · exact ⟨g', cap, he, ⟨cur, hh, by omega⟩, hb, by omega⟩
theorem Blk.setCells {g T z : Nat} : ∀ (vs : List Value) (w : World) (b o : Nat), Blk w g T z → Blk (w.setCells b o vs) g T z
  | [], w, b, o, h => h
  | v :: vs, w, b, o, h => Blk.setCells vs _ b (o + 1) (h.set b o v)
theorem Kp.setCells {S : Nat → Prop} {w0 : World} : ∀ (vs : List Value) (w : World) (b o : Nat), Kp S w0 w → (S b ∨ w0.heap.size ≤ b) → Kp S w0 (w.setCells b o vs)
  | [], w, b, o, h, hs => h
  | v :: vs, w, b, o, h, hs => Kp.setCells vs _ b (o + 1) (h.set hs o v) hs
def OkB (w : World) (g gF : Nat) : Prop := gF = g ∨ w.heap.size ≤ gF
theorem forgetL {P : Program} {ops : Array Oper} {rest : List Oper} {Q : Exit → Act → World → Prop} {a : Act} {W : World} (F : World → Prop) (h : F W) (k : ∀ W', F W' → wpList P ops Q rest a W') : wpList P ops Q rest a W := k W h
theorem olds_of {w : World} {g T z n : Nat} (h : Blk w g T z) (hn : n ≤ z) : ∃ olds : List Value, olds.length = n ∧ ∀ j u, olds[j]? = some u → w.cell? ⟨g, 0 + j, none⟩ = some u := by
  obtain ⟨cells, hh, hz⟩ := h
  refine ⟨cells.toList.take n, by rw [List.length_take, Array.length_toList]; omega, fun j u hu => ?_⟩
  rw [List.getElem?_take] at hu
  split at hu
  · rw [Nat.zero_add, blk_cell hh j, ← Array.getElem?_toList, hu]
  · cases hu
set_option maxHeartbeats 4000000 in
set_option maxRecDepth 100000 in
theorem spoil_calls (w : World) (g n c : Nat) (hB : Blk w g 45 (c * 4)) (hn : n ≤ c) (hb : (n + 1) * 8 ≤ 140737488355328) :
    Calls Try.prog 23 #[.slice (some ⟨g, 0, none⟩) n c] w fun e w' => e = .returned (.tuple #[]) ∧ Kp (fun k => k = g) w w' := by
  obtain ⟨i0, hi, hzz⟩ := Option.map_eq_some_iff.1 info45
  simp only [Prod.mk.injEq] at hzz
  obtain ⟨hz0, hz1, hz2⟩ := hzz
  have HI := Aside0.mk (And.intro hi (And.intro hz0 (And.intro hz1 hz2)))
  clear hi hz0 hz1 hz2
  have hlt := hB.lt
  have HB := Aside0.mk (hB.below (below_alloc (Below.refl _ _) (.cells #[.int .u16 7, .int .u8 0, .int .u8 0, .int .u32 77] 45)))
  have HK := Aside0.mk (Kp.below (Kp.refl (fun k => k = g) w) (below_alloc (Below.refl _ _) (.cells #[.int .u16 7, .int .u8 0, .int .u8 0, .int .u32 77] 45)))
  obtain ⟨olds, ho1, ho2⟩ := olds_of HB.out (show n * 4 ≤ c * 4 by omega)
  have HO := Aside0.mk (And.intro ho1 ho2)
  have HNC := Aside0.mk (show ∀ j u, [Value.int .u16 7, .int .u8 0, .int .u8 0, .int .u32 77][j]? = some u → (w.alloc (.cells #[.int .u16 7, .int .u8 0, .int .u8 0, .int .u32 77] 45)).cell? ((⟨w.heap.size, 0, none⟩ : Addr).add j) = some u by
    intro j u hu
    rw [Go.WideShapes.add_plain, Nat.zero_add]
    have := blk_cell (blk_new w (.cells #[.int .u16 7, .int .u8 0, .int .u8 0, .int .u32 77] 45)) j
    rw [this, List.getElem?_toArray, hu])
  have HN1 := Aside0.mk (show ∀ u ∈ [Value.int .u16 7, .int .u8 0, .int .u8 0, .int .u32 77], u.oneCell' = true by
    intro u hu
    simp only [List.mem_cons, List.not_mem_nil, or_false] at hu
    rcases hu with rfl | rfl | rfl | rfl <;> rfl)
  clear hB ho1 ho2
  go_enter Try.func23, Try.ntmps23
  by_cases hroom : n + 1 ≤ c
  · have HSp := Aside0.mk (show n + 1 ≤ c → ∀ j, j < [Value.int .u16 7, .int .u8 0, .int .u8 0, .int .u32 77].length → ((w.alloc (.cells #[.int .u16 7, .int .u8 0, .int .u8 0, .int .u32 77] 45)).cell? ⟨g, 0 + n * 4 + j, none⟩).isSome = true ∧ (w.alloc (.cells #[.int .u16 7, .int .u8 0, .int .u8 0, .int .u32 77] 45)).frozen? ⟨g, 0 + n * 4 + j, none⟩ = false by
      intro _ j hj
      obtain ⟨⟨u, hu⟩, hf⟩ := HB.out.cell (0 + n * 4 + j) (by simp at hj; omega)
      exact ⟨by rw [hu]; rfl, hf⟩)
    have HG5 : Aside0 (OkB w g g) := ⟨.inl rfl⟩
    go_wp2_with (at_builtin; go_loud (refine wpList_append_arg (w.alloc (.cells #[.int .u16 7, .int .u8 0, .int .u8 0, .int .u32 77] 45)) rfl (.tmp 5) (.tmp 7) 26 rfl 45 i0 _ 4 8 Try.underlying26 HI.out.1 HI.out.2.1 HI.out.2.2.1 HI.out.2.2.2 rfl (by decide) g 0 n c olds rfl HO.out.1 HO.out.2 ⟨w.heap.size, 0, none⟩ 1 1 [.int .u16 7, .int .u8 0, .int .u8 0, .int .u32 77] rfl rfl HNC.out HN1.out HSp.out (by unfold maxLen; omega) hb (fun _ => forgetL (fun W => Kp (fun k => k = g) w W ∧ Blk W g 45 (c * 4)) ⟨Kp.setCells _ _ _ _ HK.out (.inl rfl), Blk.setCells _ _ _ _ HB.out⟩ ?_) (fun h => absurd h (by omega))); rintro W ⟨k1, k2⟩; have HS := Aside0.mk (And.intro k1 (And.intro k2 k2)); clear k1 k2)
    go_loopw [3] (fun v3 wr => ∃ i : Nat, i ≤ n + 1 ∧ v3 = .int .i64 i ∧ Aside0 (Kp (fun k => k = g) w wr ∧ Blk wr g 45 (c * 4) ∧ Blk wr g 45 (c * 4))) (fun v3 _ => n + 1 - (intOf v3).toNat)
    case atStart => exact ⟨0, Nat.zero_le _, rfl, HS⟩
    case round =>
      clear HS
      obtain ⟨i, hi, rfl, HS⟩ := hrel
      by_cases hlt : i < n + 1
      · have hlt2 : (i : Int) < (n : Int) + 1 := by omega
        obtain ⟨⟨u0, x0⟩, f0⟩ := HS.out.2.2.cell (i * 4) (by omega)
        obtain ⟨⟨u1, x1⟩, f1⟩ := HS.out.2.2.cell (i * 4 + 1) (by omega)
        obtain ⟨⟨u2, x2⟩, f2⟩ := HS.out.2.2.cell (i * 4 + 2) (by omega)
        obtain ⟨⟨u3, x3⟩, f3⟩ := HS.out.2.2.cell (i * 4 + 3) (by omega)
        go_wp2
        go_roundw
        case rel => exact ⟨i + 1, by omega, by go_num, ⟨(((HS.out.1.set HG5.out _ _).set HG5.out _ _).set HG5.out _ _).set HG5.out _ _, (((HS.out.2.1.set _ _ _).set _ _ _).set _ _ _).set _ _ _, (((HS.out.2.2.set _ _ _).set _ _ _).set _ _ _).set _ _ _⟩⟩
        case measure => simp [intOf]; omega
      · have hlt2 : ¬ (i : Int) < (n : Int) + 1 := by omega
        have HS2 := Aside0.mk (And.intro HS.out.1 HS.out.2.1)
        clear HS hlt hi
        obtain ⟨wo, rfl⟩ : ∃ wo : World, wo = wr := ⟨_, rfl⟩
        go_wp2
        go_loopw [4] (fun v4 wr => ∃ i : Nat, i ≤ n ∧ v4 = .int .i64 i ∧ Aside0 (Kp (fun k => k = g) w wr ∧ Blk wr g 45 (c * 4))) (fun v4 _ => n - (intOf v4).toNat)
        case atStart => exact ⟨0, Nat.zero_le _, rfl, HS2⟩
        case round =>
          clear HS2 hlt2
          obtain ⟨j, hj, rfl, HS⟩ := hrel
          by_cases hlt : j < n
          · have hltb : decide (j < n) = true := decide_eq_true hlt
            obtain ⟨⟨u0, x0⟩, f0⟩ := HS.out.2.cell (j * 4) (by omega)
            obtain ⟨⟨u1, x1⟩, f1⟩ := HS.out.2.cell (j * 4 + 1) (by omega)
            obtain ⟨⟨u2, x2⟩, f2⟩ := HS.out.2.cell (j * 4 + 2) (by omega)
            obtain ⟨⟨u3, x3⟩, f3⟩ := HS.out.2.cell (j * 4 + 3) (by omega)
            go_wp2
            go_roundw
            case rel => exact ⟨j + 1, by omega, by go_num, ⟨(((HS.out.1.set (.inl rfl) _ _).set (.inl rfl) _ _).set (.inl rfl) _ _).set (.inl rfl) _ _, (((HS.out.2.set _ _ _).set _ _ _).set _ _ _).set _ _ _⟩⟩
            case measure => simp [intOf]; omega
          · have hltb : decide (j < n) = false := decide_eq_false hlt
            go_wp2
            go_end0
            exact ⟨rfl, HS.out.1⟩
  · have HSp := Aside0.mk (show n + 1 ≤ c → ∀ j, j < [Value.int .u16 7, .int .u8 0, .int .u8 0, .int .u32 77].length → ((w.alloc (.cells #[.int .u16 7, .int .u8 0, .int .u8 0, .int .u32 77] 45)).cell? ⟨g, 0 + n * 4 + j, none⟩).isSome = true ∧ (w.alloc (.cells #[.int .u16 7, .int .u8 0, .int .u8 0, .int .u32 77] 45)).frozen? ⟨g, 0 + n * 4 + j, none⟩ = false from fun h => absurd h (by omega))
    go_wp2_with (at_builtin; go_loud (refine wpList_append_arg (w.alloc (.cells #[.int .u16 7, .int .u8 0, .int .u8 0, .int .u32 77] 45)) rfl (.tmp 5) (.tmp 7) 26 rfl 45 i0 _ 4 8 Try.underlying26 HI.out.1 HI.out.2.1 HI.out.2.2.1 HI.out.2.2.2 rfl (by decide) g 0 n c olds rfl HO.out.1 HO.out.2 ⟨w.heap.size, 0, none⟩ 1 1 [.int .u16 7, .int .u8 0, .int .u8 0, .int .u32 77] rfl rfl HNC.out HN1.out HSp.out (by unfold maxLen; omega) hb (fun h => absurd h (by omega)) (fun _ => ?_)); intro v1 W ho hg; obtain ⟨gF, cF, e1, k3, k5, k4⟩ := own_blk' ho (by omega); subst e1; have HG5 : Aside0 (OkB w g gF) := ⟨.inr (by rw [World.size_alloc] at k5; omega)⟩; have HS := Aside0.mk (And.intro (HK.out.grown hg (fun b hb => by cases hb)) (And.intro (HB.out.kp ((Kp.refl (fun _ => False) _).grown hg (fun b hb => by cases hb)) id) k3)); clear ho hg k3 k5)
    go_loopw [3] (fun v3 wr => ∃ i : Nat, i ≤ n + 1 ∧ v3 = .int .i64 i ∧ Aside0 (Kp (fun k => k = g) w wr ∧ Blk wr g 45 (c * 4) ∧ Blk wr gF 45 (cF * 4))) (fun v3 _ => n + 1 - (intOf v3).toNat)
    case atStart => exact ⟨0, Nat.zero_le _, rfl, HS⟩
    case round =>
      clear HS
      obtain ⟨i, hi, rfl, HS⟩ := hrel
      by_cases hlt : i < n + 1
      · have hlt2 : (i : Int) < (n : Int) + 1 := by omega
        obtain ⟨⟨u0, x0⟩, f0⟩ := HS.out.2.2.cell (i * 4) (by omega)
        obtain ⟨⟨u1, x1⟩, f1⟩ := HS.out.2.2.cell (i * 4 + 1) (by omega)
        obtain ⟨⟨u2, x2⟩, f2⟩ := HS.out.2.2.cell (i * 4 + 2) (by omega)
        obtain ⟨⟨u3, x3⟩, f3⟩ := HS.out.2.2.cell (i * 4 + 3) (by omega)
        go_wp2
        go_roundw
        case rel => exact ⟨i + 1, by omega, by go_num, ⟨(((HS.out.1.set HG5.out _ _).set HG5.out _ _).set HG5.out _ _).set HG5.out _ _, (((HS.out.2.1.set _ _ _).set _ _ _).set _ _ _).set _ _ _, (((HS.out.2.2.set _ _ _).set _ _ _).set _ _ _).set _ _ _⟩⟩
        case measure => simp [intOf]; omega
      · have hlt2 : ¬ (i : Int) < (n : Int) + 1 := by omega
        have HS2 := Aside0.mk (And.intro HS.out.1 HS.out.2.1)
        clear HS hlt hi
        obtain ⟨wo, rfl⟩ : ∃ wo : World, wo = wr := ⟨_, rfl⟩
        go_wp2
        go_loopw [4] (fun v4 wr => ∃ i : Nat, i ≤ n ∧ v4 = .int .i64 i ∧ Aside0 (Kp (fun k => k = g) w wr ∧ Blk wr g 45 (c * 4))) (fun v4 _ => n - (intOf v4).toNat)
        case atStart => exact ⟨0, Nat.zero_le _, rfl, HS2⟩
        case round =>
          clear HS2 hlt2
          obtain ⟨j, hj, rfl, HS⟩ := hrel
          by_cases hlt : j < n
          · have hltb : decide (j < n) = true := decide_eq_true hlt
            obtain ⟨⟨u0, x0⟩, f0⟩ := HS.out.2.cell (j * 4) (by omega)
            obtain ⟨⟨u1, x1⟩, f1⟩ := HS.out.2.cell (j * 4 + 1) (by omega)
            obtain ⟨⟨u2, x2⟩, f2⟩ := HS.out.2.cell (j * 4 + 2) (by omega)
            obtain ⟨⟨u3, x3⟩, f3⟩ := HS.out.2.cell (j * 4 + 3) (by omega)
            go_wp2
            go_roundw
            case rel => exact ⟨j + 1, by omega, by go_num, ⟨(((HS.out.1.set (.inl rfl) _ _).set (.inl rfl) _ _).set (.inl rfl) _ _).set (.inl rfl) _ _, (((HS.out.2.set _ _ _).set _ _ _).set _ _ _).set _ _ _⟩⟩
            case measure => simp [intOf]; omega
          · have hltb : decide (j < n) = false := decide_eq_false hlt
            go_wp2
            go_end0
            exact ⟨rfl, HS.out.1⟩
end Go.Proofs.Ytdkalnkplgfgoaa.Ln
namespace Go.Proofs.Ytdkalnkplgfgoaa.Ln
open Go.RowKit Go.Maps Go.Proofs.YtdkalnkplgfgoaaW.PrintWords Go.Proofs.YtdkalnkplgfgoaaW.PrintLast Go.Proofs.YtdkalnkplgfgoaaW.PrintMore Go.Proofs.Ytdkalnkplgfgoaa.PA
set_option linter.unusedVariables false
set_option linter.unusedSimpArgs false
def marks : List S45 := [⟨7, 0, 0, 77⟩, ⟨7, 0, 0, 77⟩, ⟨7, 0, 0, 77⟩]
theorem samei_l (l : List S45) (hl : l.length ≤ 100000000000000) : ∀ (d j : Nat), l.length - j = d → j ≤ l.length → ∀ k, d + 1 ≤ k → riddlelaw0_SameInsns.l0 k l l (j : Int) = some true := by
  intro d
  induction d with
  | zero =>
    intro j hd hj k hk
    obtain ⟨k, rfl⟩ : ∃ m, k = m + 1 := ⟨k - 1, by omega⟩
    rw [riddlelaw0_SameInsns.l0, if_neg (by omega)]
  | succ d ih =>
    intro j hd hj k hk
    obtain ⟨k, rfl⟩ : ∃ m, k = m + 1 := ⟨k - 1, by omega⟩
    have := ih (j + 1) (by omega) (by omega) k (by omega)
    rw [show ((j + 1 : Nat) : Int) = (j : Int) + 1 by omega] at this
    rw [riddlelaw0_SameInsns.l0, if_pos (by omega), if_pos (by omega), if_pos (by omega), if_neg (by simp), w64 (n := (j : Int) + 1) (by omega) (by omega), this]
theorem samei (l : List S45) (hl : l.length ≤ 100000000000000) : riddlelaw0_SameInsns.f (l.length + 1) l l = some true := by
  have := samei_l l hl l.length 0 rfl (by omega) (l.length + 1) (by omega)
  unfold riddlelaw0_SameInsns.f
  rw [if_pos rfl]
  exact this
theorem cpi' (c : List S45) (h : c.length < 17592186044416) : riddlelaw0_CopyInsns.f c = some c := by
  unfold riddlelaw0_CopyInsns.f
  rw [Option.bind_some, if_pos (by simpa using h)]
  rfl
/-- Instructions that are lent: block g holds them, and the marks behind them. -/
def Inner (w : World) (g : Nat) (code : List S45) (c : Nat) : Prop := k45.R 45 w 0 (fun k => k = g) (.slice (some ⟨g, 0, none⟩) (code.length + 3) c) (code ++ marks)
theorem inner_of {w : World} {base g c : Nat} {ok : Nat → Prop} {code : List S45} (h : k45.R 45 w base ok (.slice (some ⟨g, 0, none⟩) (code.length + 3) c) (code ++ marks)) : Inner w g code c :=
  Kd.R_lower (Kd.R_mono (Kd.R_tight rfl h) (fun k hk => by injection hk)) (Nat.zero_le _)
theorem Inner.move {w w1 : World} {g c : Nat} {code : List S45} (h : Inner w g code c) (hm : w1.heap[g]? = w.heap[g]?) : Inner w1 g code c := Kd.R_move h (fun k hk => by rw [hk]; exact hm)
theorem Inner.lt {w : World} {g c : Nat} {code : List S45} (h : Inner w g code c) : g < w.heap.size := Kd.R_lt h g rfl
theorem Inner.read {w : World} {g c : Nat} {code : List S45} (h : Inner w g code c) : Kd.C k45 w (some ⟨g, 0, none⟩) code.length code ∧ code.length + 3 ≤ c ∧ c ≤ maxLen ∧ Blk w g 45 (c * 4) ∧ Kd.C k45 w (some ⟨g, code.length * 4, none⟩) 3 marks := by
  have h1 := Kd.R_reads' h
  have h2 := R_blk h
  have h3 := Kd.C_take h1.2.2 (m := code.length) (by simp)
  have h4 := Kd.C_drop h1.2.2 (m := code.length) (c := c) (by simp) (by rw [← h1.1]; exact h2.2.2.1)
  rw [List.take_left] at h3
  rw [List.drop_left, if_neg (by omega)] at h4
  refine ⟨h3, h2.2.2.1, h2.2.2.2, h2.1, ?_⟩
  have e : (some (⟨g, 0, none⟩ : Addr)).map (·.add (code.length * k45.sz)) = some ⟨g, code.length * 4, none⟩ := by
    show some ((⟨g, 0, none⟩ : Addr).add (code.length * 4)) = _
    rw [Go.WideShapes.add_plain, Nat.zero_add]
  rw [e] at h4
  exact h4
theorem marks_made (W : World) : Kd.C k45 (W.alloc (.cells #[.int .u16 7, .int .u8 0, .int .u8 0, .int .u32 77, .int .u16 7, .int .u8 0, .int .u8 0, .int .u32 77, .int .u16 7, .int .u8 0, .int .u8 0, .int .u32 77] 45)) (some ⟨W.heap.size, 0, none⟩) 3 marks := by
  refine ⟨rfl, by decide, fun _ => ⟨_, rfl, fun j p hj => ?_⟩⟩
  refine ⟨[.int .u16 7, .int .u8 0, .int .u8 0, .int .u32 77], rfl, ?_, fun i u hu => ?_⟩
  · have hp : p = ⟨7, 0, 0, 77⟩ := by
      match j, hj with
      | 0, hj => simpa [marks] using hj.symm
      | 1, hj => simpa [marks] using hj.symm
      | 2, hj => simpa [marks] using hj.symm
    rw [hp]
    exact k45_mk _ ⟨7, 0, 0, 77⟩
  · have hj3 : j < 3 := (List.getElem?_eq_some_iff.1 hj).1
    have hi4 : i < 4 := (List.getElem?_eq_some_iff.1 hu).1
    rw [Go.WideShapes.add_plain, Nat.zero_add]
    have := blk_cell (blk_new W (.cells #[.int .u16 7, .int .u8 0, .int .u8 0, .int .u32 77, .int .u16 7, .int .u8 0, .int .u8 0, .int .u32 77, .int .u16 7, .int .u8 0, .int .u8 0, .int .u32 77] 45)) (j * k45.sz + i)
    rw [this, ← hu]
    match j, i, hj3, hi4 with
    | 0, 0, _, _ => rfl
    | 0, 1, _, _ => rfl
    | 0, 2, _, _ => rfl
    | 0, 3, _, _ => rfl
    | 1, 0, _, _ => rfl
    | 1, 1, _, _ => rfl
    | 1, 2, _, _ => rfl
    | 1, 3, _, _ => rfl
    | 2, 0, _, _ => rfl
    | 2, 1, _, _ => rfl
    | 2, 2, _, _ => rfl
    | 2, 3, _, _ => rfl
set_option maxHeartbeats 4000000 in
set_option maxRecDepth 100000 in
theorem keepi_calls (w : World) (g c : Nat) (code : List S45) (A : Option Addr) (cA : Nat) (HL : Inner w g code c) (HC : Kd.C k45 w A code.length code) (hcA : code.length ≤ cA) (hb : (code.length + 4) * 8 ≤ 140737488355328) :
    Calls Try.prog 47 #[.slice (some ⟨g, 0, none⟩) code.length c, .slice A code.length cA] w fun e w' => e = .returned (.bool true) ∧ Kp (fun k => k = g) w w' := by
  obtain ⟨r1, r2, r3, r4, r5⟩ := HL.read
  have hl : code.length ≤ 100000000000000 := by omega
  have H1 := Aside0.mk r1
  have H4 := Aside0.mk r4
  have H5 := Aside0.mk r5
  have HA := Aside0.mk HC
  have HCA := Aside0.mk hcA
  have HS := Aside0.mk (samei code hl)
  clear HL r1 r4 r5 HC hcA
  unfold maxLen at r3
  have b1 : (code.length : Int) + 3 ≤ (c : Int) := by omega
  have b2 : (0 : Int) ≤ (code.length : Int) + 3 := by omega
  go_enter Try.func47, Try.ntmps47
  go_wp2_with fail
  refine (riddlelaw0_SameInsns.calls _ _ c code A cA code true _ H1.out (by omega) HA.out HCA.out HS.out).mono ?_
  rintro e w1 ⟨rfl, ⟨nd, rfl⟩⟩
  have HM : Aside0 (Kd.C k45 ((w.drewN nd).alloc (.cells #[.int .u16 7, .int .u8 0, .int .u8 0, .int .u32 77, .int .u16 7, .int .u8 0, .int .u8 0, .int .u32 77, .int .u16 7, .int .u8 0, .int .u8 0, .int .u32 77] 45)) (some ⟨w.heap.size, 0, none⟩) 3 marks) := ⟨marks_made (w.drewN nd)⟩
  go_wp2_with fail
  refine (riddlelaw0_SameInsns.calls (marks.length + 1) (some ⟨g, code.length * 4, none⟩) (c - code.length) marks (some ⟨w.heap.size, 0, none⟩) 3 marks true _ (Kd.C_alloc (Kd.C_drewN H5.out _) _) (by show 3 ≤ _; omega) HM.out (Nat.le_refl _) (samei marks (by decide))).mono ?_
  rintro e w2 ⟨rfl, ⟨nd2, rfl⟩⟩
  go_wp2_with fail
  refine (spoil_calls _ g (code.length + 3) c (H4.out.below (pw_below_drewN (below_alloc (pw_below_drewN (Below.refl _ _) _) _) _)) r2 hb).mono ?_
  rintro e w3 ⟨rfl, hk⟩
  have HK := Aside0.mk (Kp.trans (Kp.below (Kp.refl (fun k => k = g) w) (pw_below_drewN (below_alloc (pw_below_drewN (Below.refl _ _) nd) _) nd2)) hk)
  clear hk
  go_wp2
  go_ret
  exact ⟨rfl, HK.out⟩
set_option maxHeartbeats 4000000 in
set_option maxRecDepth 100000 in
theorem lendi_calls (w : World) (code : List S45) (A : Option Addr) (cA : Nat) (HC : Kd.C k45 w A code.length code) (hcA : code.length ≤ cA) (hb : (code.length + 4) * 8 ≤ 140737488355328) :
    Calls Try.prog 43 #[.slice A code.length cA] w fun e w' => ∃ g c, e = .returned (.slice (some ⟨g, 0, none⟩) code.length c) ∧ Inner w' g code c ∧ w.heap.size ≤ g ∧ Below w.heap.size w w' := by
  have hui := Try.underlying26
  have HA := Aside0.mk HC
  have HCA := Aside0.mk hcA
  have HCP := Aside0.mk (cpi' code (by omega))
  clear HC hcA
  go_enter Try.func43, Try.ntmps43
  go_wp2_with fail
  refine (riddlelaw0_CopyInsns.calls A cA code code _ HA.out HCA.out HCP.out).mono ?_
  rintro e w1 ⟨v, rfl, hr, hb1⟩
  have HR := Aside0.mk hr
  have HB := Aside0.mk hb1
  have HM := Aside0.mk (marks_made w1)
  clear hr hb1
  go_wp2_with (at_builtin; go_loud ((refine Kd.R_append_rows k45 (w0 := w) w.heap.size rfl (.tmp 5) (.tmp 9) 26 45 (.agg #[.int .u16 0, .int .u8 0, .int .u8 0, .int .u32 0]) 8 rfl hui info45 rfl (by decide) (by decide) _ _ marks _ 3 3 (fun _ => True) (fun _ => False) rfl rfl (Kd.R_alloc HR.out _) HM.out (fun x cs h => by obtain rfl := k45_open h; exact k45_mkM _ _ _ x) (fun _ h => h.elim) (fun _ _ => trivial) (below_alloc HB.out _) (below_alloc HB.out _).size (by omega) ?_); intro v1 w4 ho hb hg hat; obtain ⟨g1, c1, e1, hge, _, _⟩ := Kd.R_form ho (by simp [marks]); rw [show (code ++ marks).length = code.length + 3 by simp [marks]] at e1; subst e1; have hcb := (R_blk ho).2.2.1; have hcb2 : (code.length : Int) ≤ (c1 : Int) := (by omega); have HO := Aside0.mk (inner_of ho); have HB4 := Aside0.mk hb; clear ho hb hg hat))
  go_wp2
  go_ret
  exact ⟨g1, c1, rfl, HO.out, hge, HB4.out⟩
end Go.Proofs.Ytdkalnkplgfgoaa.Ln
namespace Go.Proofs.Ytdkalnkplgfgoaa.Ln
open Go.RowKit Go.Maps Go.Proofs.YtdkalnkplgfgoaaW.PrintWords Go.Proofs.YtdkalnkplgfgoaaW.PrintLast Go.Proofs.YtdkalnkplgfgoaaW.PrintMore Go.Proofs.Ytdkalnkplgfgoaa.PA
set_option linter.unusedVariables false
set_option linter.unusedSimpArgs false
theorem rdB_mem {p : List S47} {i : Int} (h0 : 0 ≤ i) (h1 : i < p.length) : rd_T47 p i ∈ p := by
  unfold rd_T47
  rw [List.getD_eq_getElem?_getD, List.getElem?_eq_getElem (by omega)]
  exact List.getElem_mem _
set_option maxHeartbeats 4000000 in
set_option maxRecDepth 100000 in
theorem sameb_calls (w : World) (g : List S47) (A A' : Option Addr) (c c' : Nat) (H1 : Kd.C k47 w A g.length g) (hc1 : g.length ≤ c) (H2 : Kd.C k47 w A' g.length g) (hc2 : g.length ≤ c') (hF : ∀ b ∈ g, b.f0.length ≤ 100000000000000) (hg : g.length ≤ 100000000000000) :
    Calls Try.prog 30 #[.slice A g.length c, .slice A' g.length c'] w fun e w' => e = .returned (.bool true) ∧ Drawn0 w w' := by
  have HA := Aside0.mk H1
  have HB := Aside0.mk H2
  have HF := Aside0.mk hF
  clear H1 H2 hF
  go_enter Try.func30, Try.ntmps30
  go_wp2
  go_loopw [5] (fun v5 wr => ∃ j : Nat, j ≤ g.length ∧ v5 = .int .i64 j ∧ Aside0 (Drawn0 w wr)) (fun v5 _ => g.length - (intOf v5).toNat)
  case atStart => exact ⟨0, Nat.zero_le _, rfl, ⟨Drawn0.refl _⟩⟩
  case round =>
    obtain ⟨j, hj, rfl, HD⟩ := hrel
    by_cases hlt : j < g.length
    · have hltb : decide (j < g.length) = true := decide_eq_true hlt
      obtain ⟨a1, A1, c1, rfl, x0, x1, x2, x3, x4, x5, x6, x7, hl1, hi1⟩ := at_T47 HA.out (j : Int) (by omega) (by omega)
      obtain ⟨a2, A2, c2, rfl, y0, y1, y2, y3, y4, y5, y6, y7, hl2, hi2⟩ := at_T47 HB.out (j : Int) (by omega) (by omega)
      have hbl := HD.out.below
      replace x0 := pw_cell_below hbl x0
      replace x1 := pw_cell_below hbl x1
      replace x2 := pw_cell_below hbl x2
      replace x3 := pw_cell_below hbl x3
      replace x4 := pw_cell_below hbl x4
      replace x5 := pw_cell_below hbl x5
      replace x6 := pw_cell_below hbl x6
      replace x7 := pw_cell_below hbl x7
      replace y0 := pw_cell_below hbl y0
      replace y1 := pw_cell_below hbl y1
      replace y2 := pw_cell_below hbl y2
      replace y3 := pw_cell_below hbl y3
      replace y4 := pw_cell_below hbl y4
      replace y5 := pw_cell_below hbl y5
      replace y6 := pw_cell_below hbl y6
      replace y7 := pw_cell_below hbl y7
      rw [Int.toNat_natCast] at x0 x1 x2 x3 x4 x5 x6 x7 y0 y1 y2 y3 y4 y5 y6 y7
      have hfl := HF.out _ (rdB_mem (i := (j : Int)) (by omega) (by omega))
      generalize rd_T47 g (j : Int) = b at *
      have HI := Aside0.mk (And.intro (Kd.C_below hi1 hbl) (And.intro hl1 (And.intro (Kd.C_below hi2 hbl) hl2)))
      have HS := Aside0.mk (samei b.f0 hfl)
      clear hi1 hl1 hi2 hl2 hfl hbl
      have p0 : (0 : Int) ≤ (j : Int) := by omega
      have p1 : (j : Int) < (g.length : Int) := by omega
      go_wp2
      go_quiet ((go_at_call 19; exact Calls.quiet_of ((riddlelaw0_SameInsns.calls _ _ _ b.f0 _ _ b.f0 true _ (Kd.C_drewN HI.out.1 _) HI.out.2.1 (Kd.C_drewN HI.out.2.2.1 _) HI.out.2.2.2 HS.out).mono fun _ _ ⟨he, ⟨m, hm⟩⟩ => ⟨he, m, hm⟩)))
      go_wp2
      go_roundw
      case rel => exact ⟨j + 1, by omega, by go_num, ⟨HD.out.step _⟩⟩
      case measure => simp [intOf]; omega
    · have hltb : decide (j < g.length) = false := decide_eq_false hlt
      go_wp2
      go_ret
      exact ⟨rfl, HD.out⟩
end Go.Proofs.Ytdkalnkplgfgoaa.Ln
