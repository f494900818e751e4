/- Lemmas and walks for the statements of the texts ZPZ..: the declarations that they need, taken together by a program of this session. Conditions: as each says. -/
import Derived.Test.YtdkalnkplgfgoaaZPa
import Derived.Test.YtdkalnkplgfgoaaZPb
import Derived.Test.YtdkalnkplgfgoaaZPc
import Derived.Test.YtdkalnkplgfgoaaZPd
import Derived.Test.YtdkalnkplgfgoaaZPh
namespace Go.Proofs.Ytdkalnkplgfgoaa.Ln
open Go.RowKit Go.Maps Go.Proofs.YtdkalnkplgfgoaaW.PrintWords Go.Proofs.YtdkalnkplgfgoaaW.PrintLast Go.Proofs.YtdkalnkplgfgoaaW.PrintMore Go.Proofs.Ytdkalnkplgfgoaa.PA
set_option linter.unusedVariables false
set_option linter.unusedSimpArgs false
theorem and15 (k : Int) : 0 ≤ bits BinOp.and IntKind.u32 k 15 ∧ bits BinOp.and IntKind.u32 k 15 < 16 := by
  have h : bits BinOp.and IntKind.u32 k 15 = IntKind.u32.wrap ((BitVec.ofInt 32 k &&& BitVec.ofInt 32 15).toNat : Int) := rfl
  have h1 : (BitVec.ofInt 32 k &&& BitVec.ofInt 32 15).toNat ≤ 15 := by
    rw [BitVec.toNat_and]
    exact Nat.le_trans Nat.and_le_right (by decide)
  rw [h, IntKind.wrap_u32]
  omega
theorem size_some (q : Int) : ∃ s, riddleref5_size.f 10 q = some s ∧ (s = 1 ∨ s = 2 ∨ s = 4) := by
  have h : ∀ x b, ∃ s, riddleref5_size.j0 (9 + 1) x b = some s ∧ (s = 1 ∨ s = 2 ∨ s = 4) := by
    intro x b
    simp only [riddleref5_size.j0]
    split
    · exact ⟨4, rfl, .inr (.inr rfl)⟩
    · split
      · exact ⟨2, rfl, .inr (.inl rfl)⟩
      · split
        · exact ⟨2, rfl, .inr (.inl rfl)⟩
        · exact ⟨1, rfl, .inl rfl⟩
  unfold riddleref5_size.f
  split
  · exact h _ _
  · exact h _ _
theorem jump_some (q : Int) : ∃ b, riddleref2_Jump.f q = some b := by
  unfold riddleref2_Jump.f
  repeat' split
  all_goals exact ⟨_, rfl⟩
theorem opn_j (x : Int) (b : Bool) : ∃ r, riddleref2_Operation.j0 10 x b = some r := by
  show ∃ r, riddleref2_Operation.j0 (9 + 1) x b = some r
  simp only [riddleref2_Operation.j0]
  repeat' split
  all_goals exact ⟨_, rfl⟩
theorem opn_some (q : Int) : ∃ b, riddleref2_Operation.f 10 q = some b := by
  unfold riddleref2_Operation.f
  repeat' split
  all_goals exact opn_j _ _
theorem byx_some (q : Int) : ∃ b, riddleref2_ByX.f 10 q = some b := by
  unfold riddleref2_ByX.f
  obtain ⟨b, e⟩ := jump_some q
  obtain ⟨b1, e1⟩ := opn_some q
  rw [e, e1]
  simp only [Option.bind_some]
  repeat' split
  all_goals exact ⟨_, rfl⟩
theorem shift_some (a b : Int) (l : Bool) (h : 0 ≤ b) : ∃ r, riddleref5_Shift.f a b l = some r := by
  unfold riddleref5_Shift.f
  rw [if_pos h, if_pos h]
  repeat' split
  all_goals exact ⟨_, rfl⟩
theorem oper_some (q a b : Int) (h : 0 ≤ b) : ∃ v f, riddleref5_Operate.f q a b = some (v, f) := by
  obtain ⟨s1, e1⟩ := shift_some a b true h
  obtain ⟨s2, e2⟩ := shift_some a b false h
  unfold riddleref5_Operate.f
  rw [e1, e2]
  simp only [Option.bind_some]
  repeat' split
  all_goals exact ⟨_, _, rfl⟩
theorem in_spec (n a s : Int) : ∃ b, riddleref1_In.f n a s = some b ∧ (b = true → 0 ≤ a ∧ 0 ≤ s ∧ s ≤ n ∧ a ≤ wrap64 (n - s)) := by
  unfold riddleref1_In.f
  split
  · split
    · split
      · exact ⟨_, rfl, fun h => ⟨by omega, by omega, by omega, of_decide_eq_true h⟩⟩
      · exact ⟨_, rfl, fun h => by cases h⟩
    · exact ⟨_, rfl, fun h => by cases h⟩
  · exact ⟨_, rfl, fun h => by cases h⟩
theorem wrap64_id {n : Int} (h0 : -9223372036854775808 ≤ n) (h1 : n < 9223372036854775808) : wrap64 n = n := by
  unfold wrap64; omega
theorem get_l (p : List Int) (a s : Int) (h0 : 0 ≤ a) (hs : s ≤ 4) (h1 : a + s ≤ p.length) (hl : p.length < 2 ^ 62) : ∀ (n k : Nat) (x i : Int), 0 ≤ i → s ≤ i + n → n < k → ∃ r, riddleref1_Get.l0 k p a s x i = some r := by
  intro n
  induction n with
  | zero =>
    intro k x i hi hn hk
    cases k with
    | zero => omega
    | succ k =>
      unfold riddleref1_Get.l0
      rw [if_neg (by omega)]
      exact ⟨_, rfl⟩
  | succ n ih =>
    intro k x i hi hn hk
    cases k with
    | zero => omega
    | succ k =>
      unfold riddleref1_Get.l0
      by_cases hlt : i < s
      · rw [if_pos hlt]
        have e1 : wrap64 (a + i) = a + i := wrap64_id (by omega) (by omega)
        have e2 : wrap64 (i + 1) = i + 1 := wrap64_id (by omega) (by omega)
        rw [e1, e2, if_pos (by omega), if_pos (by omega)]
        exact ih k _ (i + 1) (by omega) (by omega) (by omega)
      · rw [if_neg hlt]; exact ⟨_, rfl⟩
theorem read_some (p : List Int) (a s : Int) (hs : s = 1 ∨ s = 2 ∨ s = 4) (hl : p.length < 2 ^ 62) : ∃ v f, riddleref5_read.f 10 p a s = some (v, f) := by
  have hj : ∀ t, riddleref1_In.f (p.length : Int) (wrap64 a) s = some t → ∃ r, riddleref1_Get.j0 10 p (wrap64 a) s (!t) = some r := by
    intro t ht
    obtain ⟨b, e, h⟩ := in_spec (p.length : Int) (wrap64 a) s
    rw [ht] at e
    obtain rfl := Option.some.inj e
    show ∃ r, riddleref1_Get.j0 (9 + 1) p (wrap64 a) s (!t) = some r
    simp only [riddleref1_Get.j0]
    cases t with
    | false => exact ⟨_, rfl⟩
    | true =>
      obtain ⟨h1, h2, h3, h4⟩ := h rfl
      have h5 := wrap64_id (n := (p.length : Int) - s) (by omega) (by omega)
      rw [h5] at h4
      exact get_l p (wrap64 a) s h1 (by omega) (by omega) hl 4 9 0 0 (by omega) (by omega) (by omega)
  have hg : ∃ r, riddleref1_Get.f 10 p (wrap64 a) s = some r := by
    unfold riddleref1_Get.f
    obtain ⟨t, e, _⟩ := in_spec (p.length : Int) (wrap64 a) s
    rcases hs with rfl | rfl | rfl
    · rw [if_pos rfl, e]; exact hj t e
    · rw [if_neg (by decide), if_pos rfl, e]; exact hj t e
    · rw [if_neg (by decide), if_neg (by decide), if_pos rfl, e]; exact hj t e
  obtain ⟨⟨r1, r2⟩, e⟩ := hg
  unfold riddleref5_read.f
  rw [e]
  simp only [Option.bind_some]
  repeat' split
  all_goals exact ⟨_, _, rfl⟩
/-- What an instruction must be for Step to be asked (f0 no jump, no return; the quiet callees answer). -/
theorem step_calls (w : World) (gm : Nat) (M : Mach) (i : S45) (p : List Int) (A : Option Addr) (c : Nat) (hM : w.heap[gm]? = some (.cells (mcells M) 97 (0, 0))) (hl : M.m.length = 16)
        (hp : Kd.C (Kd.int .u8) w A p.length p) (hc : p.length ≤ c) (hpl : p.length < 2 ^ 62) (hx : 0 ≤ M.x) (hk : 0 ≤ i.f3) :
    Calls Try.prog 63 #[.pointer (some ⟨gm, 0, none⟩), .agg #[.int .u16 i.f0, .int .u8 i.f1, .int .u8 i.f2, .int .u32 i.f3], .slice A p.length c] w fun e w' => e = .returned (.int .i64 (stepF i p M).2) ∧ w'.heap[gm]? = some (.cells (mcells (stepF i p M).1) 97 (0, 0)) ∧ Kp (fun k => k = gm) w w' := by
  obtain ⟨cc, i1, i2, k⟩ := i
  have hk0 := (and15 k).1
  have hk1 := (and15 k).2
  simp only at hk
  simp only
  unfold stepF
  simp only
  by_cases n0 : cc = 0
  · subst n0; exact step_0 w gm M i1 i2 k p A c hM hl
  rw [if_neg n0]
  by_cases n1 : cc = 32 ∨ cc = 40 ∨ cc = 48
  · rw [if_pos n1]
    obtain ⟨s, es, hs3⟩ := size_some cc
    obtain ⟨v, f, er⟩ := read_some p (IntKind.u64.wrap k) s hs3 hpl
    have e1 : szP cc = s := by unfold szP; rw [es]; rfl
    have e2 : rdP p (IntKind.u64.wrap k) s = (v, f) := by unfold rdP; rw [er]; rfl
    rw [e1, e2]
    rcases n1 with rfl | rfl | rfl
    · exact step_32 w gm M v f s i1 i2 k p A c hM hl hp hc es er
    · exact step_40 w gm M v f s i1 i2 k p A c hM hl hp hc es er
    · exact step_48 w gm M v f s i1 i2 k p A c hM hl hp hc es er
  rw [if_neg n1]
  by_cases n2 : cc = 64 ∨ cc = 72 ∨ cc = 80
  · rw [if_pos n2]
    obtain ⟨s, es, hs3⟩ := size_some cc
    obtain ⟨v, f, er⟩ := read_some p (IntKind.u64.wrap (IntKind.u64.wrap k + IntKind.u64.wrap M.x)) s hs3 hpl
    have e1 : szP cc = s := by unfold szP; rw [es]; rfl
    have e2 : rdP p (IntKind.u64.wrap (IntKind.u64.wrap k + IntKind.u64.wrap M.x)) s = (v, f) := by unfold rdP; rw [er]; rfl
    rw [e1, e2]
    rcases n2 with rfl | rfl | rfl
    · exact step_64 w gm M v f s i1 i2 k p A c hM hl hp hc es er
    · exact step_72 w gm M v f s i1 i2 k p A c hM hl hp hc es er
    · exact step_80 w gm M v f s i1 i2 k p A c hM hl hp hc es er
  rw [if_neg n2]
  by_cases n3 : cc = 96
  · subst n3; exact step_96 w gm M i1 i2 k p A c hM hl _ rfl hk0 hk1
  rw [if_neg n3]
  by_cases n4 : cc = 128
  · subst n4; exact step_128 w gm M i1 i2 k p A c hM hl
  rw [if_neg n4]
  by_cases n5 : cc = 1
  · subst n5; exact step_1 w gm M i1 i2 k p A c hM hl
  rw [if_neg n5]
  by_cases n6 : cc = 97
  · subst n6; exact step_97 w gm M i1 i2 k p A c hM hl _ rfl hk0 hk1
  rw [if_neg n6]
  by_cases n7 : cc = 129
  · subst n7; exact step_129 w gm M i1 i2 k p A c hM hl
  rw [if_neg n7]
  by_cases n8 : cc = 177
  · subst n8
    obtain ⟨v, f, er⟩ := read_some p (IntKind.u64.wrap k) 1 (.inl rfl) hpl
    have e2 : rdP p (IntKind.u64.wrap k) 1 = (v, f) := by unfold rdP; rw [er]; rfl
    rw [if_pos rfl, e2]
    exact step_177 w gm M v f i1 i2 k p A c hM hl hp hc er
  rw [if_neg n8]
  by_cases n9 : cc = 2
  · subst n9; exact step_2 w gm M i1 i2 k p A c hM hl _ rfl hk0 hk1
  rw [if_neg n9]
  by_cases n10 : cc = 3
  · subst n10; exact step_3 w gm M i1 i2 k p A c hM hl _ rfl hk0 hk1
  rw [if_neg n10]
  by_cases n11 : cc = 132
  · subst n11; exact step_132 w gm M i1 i2 k p A c hM hl
  rw [if_neg n11]
  by_cases n12 : cc = 7
  · subst n12; exact step_7 w gm M i1 i2 k p A c hM hl
  rw [if_neg n12]
  by_cases n13 : cc = 135
  · subst n13; exact step_135 w gm M i1 i2 k p A c hM hl
  rw [if_neg n13]
  simp only [not_or] at n1 n2
  obtain ⟨b, eb⟩ := byx_some cc
  have e3 : byX cc = b := by unfold byX; rw [eb]; rfl
  have N : ∀ z : Int, ¬ cc = z → (cc == z) = false := fun z h => beq_eq_false_iff_ne.mpr h
  obtain ⟨v, f, er⟩ := oper_some cc M.a (if b = true then M.x else k) (by cases b; exact hk; exact hx)
  have e4 : opP cc M.a (if b = true then M.x else k) = (v, f) := by unfold opP; rw [er]; rfl
  rw [e3, e4]
  cases b
  · exact step_cck w gm M cc v f i1 i2 k p A c hM hl hp hc (N _ n0) (N _ n1.1) (N _ n1.2.1) (N _ n1.2.2) (N _ n2.1) (N _ n2.2.1) (N _ n2.2.2) (N _ n3) (N _ n4) (N _ n5) (N _ n6) (N _ n7) (N _ n8) (N _ n9) (N _ n10) (N _ n11) (N _ n12) (N _ n13) eb er
  · exact step_ccx w gm M cc v f i1 i2 k p A c hM hl hp hc (N _ n0) (N _ n1.1) (N _ n1.2.1) (N _ n1.2.2) (N _ n2.1) (N _ n2.2.1) (N _ n2.2.2) (N _ n3) (N _ n4) (N _ n5) (N _ n6) (N _ n7) (N _ n8) (N _ n9) (N _ n10) (N _ n11) (N _ n12) (N _ n13) eb er
end Go.Proofs.Ytdkalnkplgfgoaa.Ln
namespace Go.Proofs.Ytdkalnkplgfgoaa.Ln
open Go.RowKit Go.Maps Go.Proofs.YtdkalnkplgfgoaaW.PrintWords Go.Proofs.YtdkalnkplgfgoaaW.PrintLast Go.Proofs.YtdkalnkplgfgoaaW.PrintMore Go.Proofs.Ytdkalnkplgfgoaa.PA
set_option linter.unusedVariables false
set_option linter.unusedSimpArgs false
def MW (M : Mach) : Prop := 0 ≤ M.a ∧ 0 ≤ M.x ∧ ∀ j, 0 ≤ M.m.getD j 0
theorem ite_p {α : Type} {P : α → Prop} {c : Prop} [Decidable c] {a b : α} (h1 : c → P a) (h2 : ¬ c → P b) : P (if c then a else b) := by
  by_cases h : c
  · rw [if_pos h]; exact h1 h
  · rw [if_neg h]; exact h2 h
theorem stepF_len (i : S45) (pk : List Int) (M : Mach) : (stepF i pk M).1.m.length = M.m.length := by
  show (fun s : Mach × Int => s.1.m.length = M.m.length) (stepF i pk M)
  unfold stepF
  dsimp only
  repeat (refine ite_p (P := fun s : Mach × Int => s.1.m.length = M.m.length) (fun _ => by first | rfl | exact List.length_set) (fun _ => ?_))
  rfl
theorem wrap_nn (n : Int) : 0 ≤ IntKind.u32.wrap n := by rw [IntKind.wrap_u32]; omega
theorem bits_nn (op : BinOp) (x y : Int) : 0 ≤ bits op .u32 x y := wrap_nn _
theorem get_nn (p : List Int) (a s : Int) : ∀ (k : Nat) (x i : Int) (r : Int × Bool), 0 ≤ x → riddleref1_Get.l0 k p a s x i = some r → 0 ≤ r.1 := by
  intro k
  induction k with
  | zero => intro x i r _ h; simp [riddleref1_Get.l0] at h
  | succ k ih =>
    intro x i r hx h
    unfold riddleref1_Get.l0 at h
    split at h
    · split at h
      · split at h
        · exact ih _ _ r (bits_nn _ _ _) h
        · cases h
      · cases h
    · obtain rfl := Option.some.inj h; exact hx
theorem getf_nn (p : List Int) (a s : Int) (r : Int × Bool) (h : riddleref1_Get.f 10 p a s = some r) : 0 ≤ r.1 := by
  have hj : ∀ b r, riddleref1_Get.j0 (9 + 1) p a s b = some r → 0 ≤ r.1 := by
    intro b r h
    simp only [riddleref1_Get.j0] at h
    split at h
    · obtain rfl := Option.some.inj h; exact Int.le_refl 0
    · exact get_nn p a s 9 0 0 r (Int.le_refl 0) h
  have hb : ∀ (q : Option Bool) r, (q.bind fun t => riddleref1_Get.j0 10 p a s (!t)) = some r → 0 ≤ r.1 := by
    intro q r h
    obtain ⟨t, _, h⟩ := Option.bind_eq_some_iff.1 h
    exact hj _ _ h
  unfold riddleref1_Get.f at h
  split at h
  · exact hb _ _ h
  · split at h
    · exact hb _ _ h
    · split at h
      · exact hb _ _ h
      · exact hj _ _ h
theorem rdP_nn (p : List Int) (a s : Int) : 0 ≤ (rdP p a s).1 := by
  unfold rdP
  cases h : riddleref5_read.f 10 p a s with
  | none => exact Int.le_refl 0
  | some r =>
    unfold riddleref5_read.f at h
    split at h
    · obtain rfl := Option.some.inj h; exact Int.le_refl 0
    · obtain ⟨t, ht, h⟩ := Option.bind_eq_some_iff.1 h
      split at h
      · obtain rfl := Option.some.inj h; exact getf_nn _ _ _ _ ht
      · obtain rfl := Option.some.inj h; exact Int.le_refl 0
theorem shift_nn (a b : Int) (l : Bool) (r : Int) (ha : 0 ≤ a) (h : riddleref5_Shift.f a b l = some r) : 0 ≤ r := by
  unfold riddleref5_Shift.f at h
  split at h
  · obtain rfl := Option.some.inj h; exact Int.le_refl 0
  · split at h
    · split at h
      · obtain rfl := Option.some.inj h; exact wrap_nn _
      · cases h
    · split at h
      · obtain rfl := Option.some.inj h
        exact Int.ediv_nonneg ha (by have : (0 : Int) < 2 ^ min b.toNat (IntKind.u32.bits) := Int.pow_pos (by decide); omega)
      · cases h
set_option maxHeartbeats 2000000 in
theorem opP_nn (c a b : Int) (ha : 0 ≤ a) : 0 ≤ (opP c a b).1 := by
  unfold opP
  cases h : riddleref5_Operate.f c a b with
  | none => exact Int.le_refl 0
  | some r =>
    show 0 ≤ r.1
    unfold riddleref5_Operate.f at h
    have one : ∀ x : Int × Int, some x = some r → 0 ≤ x.1 → 0 ≤ r.1 := fun x e hx => by rw [← Option.some.inj e]; exact hx
    have sh : ∀ l, (riddleref5_Shift.f a b l).bind (fun t => some (t, (0 : Int))) = some r → 0 ≤ r.1 := by
      intro l h
      obtain ⟨t, ht, h⟩ := Option.bind_eq_some_iff.1 h
      exact one _ h (shift_nn a b l t ha ht)
    split at h
    · exact one _ h (by show 0 ≤ (a + b) % 4294967296; omega)
    split at h
    · exact one _ h (by show 0 ≤ (a - b) % 4294967296; omega)
    split at h
    · exact one _ h (Int.emod_nonneg _ (by decide))
    split at h
    · exact one _ h (show 0 ≤ (bits .or .u32 a b) from bits_nn .or a b)
    split at h
    · exact one _ h (show 0 ≤ (bits .and .u32 a b) from bits_nn .and a b)
    split at h
    · exact one _ h (show 0 ≤ (bits .xor .u32 a b) from bits_nn .xor a b)
    split at h
    · exact sh _ h
    split at h
    · exact sh _ h
    split at h
    · exact one _ h (Int.le_refl 0)
    split at h
    · exact one _ h (Int.emod_nonneg _ (by decide))
    · exact one _ h (Int.tmod_nonneg _ ha)
theorem set_nn (l : List Int) (h : ∀ j, 0 ≤ l.getD j 0) (n : Nat) (v : Int) (hv : 0 ≤ v) : ∀ j, 0 ≤ (l.set n v).getD j 0 := by
  intro j
  have := h j
  rw [List.getD_eq_getElem?_getD] at this ⊢
  rw [List.getElem?_set]
  split
  · split
    · exact hv
    · exact Int.le_refl 0
  · exact this
theorem stepF_wf (i : S45) (pk : List Int) (M : Mach) (h : MW M) (hk : 0 ≤ i.f3) : MW (stepF i pk M).1 := by
  obtain ⟨ha, hx, hm⟩ := h
  show (fun s : Mach × Int => MW s.1) (stepF i pk M)
  unfold stepF
  dsimp only
  refine ite_p (P := fun s : Mach × Int => MW s.1) (fun _ => ⟨hk, hx, hm⟩) (fun _ => ?_)
  refine ite_p (P := fun s : Mach × Int => MW s.1) (fun _ => ⟨rdP_nn _ _ _, hx, hm⟩) (fun _ => ?_)
  refine ite_p (P := fun s : Mach × Int => MW s.1) (fun _ => ⟨rdP_nn _ _ _, hx, hm⟩) (fun _ => ?_)
  refine ite_p (P := fun s : Mach × Int => MW s.1) (fun _ => ⟨hm _, hx, hm⟩) (fun _ => ?_)
  refine ite_p (P := fun s : Mach × Int => MW s.1) (fun _ => ⟨wrap_nn _, hx, hm⟩) (fun _ => ?_)
  refine ite_p (P := fun s : Mach × Int => MW s.1) (fun _ => ⟨ha, hk, hm⟩) (fun _ => ?_)
  refine ite_p (P := fun s : Mach × Int => MW s.1) (fun _ => ⟨ha, hm _, hm⟩) (fun _ => ?_)
  refine ite_p (P := fun s : Mach × Int => MW s.1) (fun _ => ⟨ha, wrap_nn _, hm⟩) (fun _ => ?_)
  refine ite_p (P := fun s : Mach × Int => MW s.1) (fun _ => ⟨ha, wrap_nn _, hm⟩) (fun _ => ?_)
  refine ite_p (P := fun s : Mach × Int => MW s.1) (fun _ => ⟨ha, hx, set_nn _ hm _ _ ha⟩) (fun _ => ?_)
  refine ite_p (P := fun s : Mach × Int => MW s.1) (fun _ => ⟨ha, hx, set_nn _ hm _ _ hx⟩) (fun _ => ?_)
  refine ite_p (P := fun s : Mach × Int => MW s.1) (fun _ => ⟨wrap_nn _, hx, hm⟩) (fun _ => ?_)
  refine ite_p (P := fun s : Mach × Int => MW s.1) (fun _ => ⟨ha, ha, hm⟩) (fun _ => ?_)
  refine ite_p (P := fun s : Mach × Int => MW s.1) (fun _ => ⟨hx, hx, hm⟩) (fun _ => ?_)
  exact ⟨opP_nn _ _ _ ha, hx, hm⟩
end Go.Proofs.Ytdkalnkplgfgoaa.Ln
namespace Go.Proofs.Ytdkalnkplgfgoaa.PA
open Go.RowKit Go.Proofs.YtdkalnkplgfgoaaW.PrintWords Go.Proofs.YtdkalnkplgfgoaaW.PrintLast Go.Proofs.YtdkalnkplgfgoaaW.PrintMore
attribute [local go_sem] max2_int min2_int max_two min_two max_three min_three max_four min_four   -- for this text's walks alone
set_option linter.unusedVariables false
set_option linter.unusedSimpArgs false
def riddleref4_Check.l0 : Nat → List (S45) → Int → Int → Option (Int × Int)
  | 0, _, _, _ => none
  | k + 1, x0, x4, x5 => if x5 < x4 then (if 0 ≤ x5 then (if x5 < (x0.length : Int) then ((riddleref4_Fault.f k ((rd_T45 x0 x5).f0) ((rd_T45 x0 x5).f1) ((rd_T45 x0 x5).f2) ((rd_T45 x0 x5).f3)).bind fun t288 => (if t288 = 0 then (if ((rd_T45 x0 x5).f0) = 5 then (if ((rd_T45 x0 x5).f3) ≥ ((wrap64 ((wrap64 (x4 - 1)) - x5)) % 4294967296) then (some (x5, 46)) else ((riddleref2_Jump.f ((rd_T45 x0 x5).f0)).bind fun t292 => (if t292 = true then (if (wrap64 ((rd_T45 x0 x5).f1)) ≥ (wrap64 ((wrap64 (x4 - 1)) - x5)) then (some (x5, 46)) else (if (wrap64 ((rd_T45 x0 x5).f2)) ≥ (wrap64 ((wrap64 (x4 - 1)) - x5)) then (some (x5, 46)) else (riddleref4_Check.l0 k x0 x4 (wrap64 (x5 + 1))))) else (riddleref4_Check.l0 k x0 x4 (wrap64 (x5 + 1)))))) else ((riddleref2_Jump.f ((rd_T45 x0 x5).f0)).bind fun t296 => (if t296 = true then (if (wrap64 ((rd_T45 x0 x5).f1)) ≥ (wrap64 ((wrap64 (x4 - 1)) - x5)) then (some (x5, 46)) else (if (wrap64 ((rd_T45 x0 x5).f2)) ≥ (wrap64 ((wrap64 (x4 - 1)) - x5)) then (some (x5, 46)) else (riddleref4_Check.l0 k x0 x4 (wrap64 (x5 + 1))))) else (riddleref4_Check.l0 k x0 x4 (wrap64 (x5 + 1)))))) else (some (x5, t288)))) else (none)) else (none)) else (if 0 ≤ (wrap64 (x4 - 1)) then (if (wrap64 (x4 - 1)) < (x0.length : Int) then ((riddleref2_Return.f ((rd_T45 x0 (wrap64 (x4 - 1))).f0)).bind fun t286 => (if t286 = true then (some (0, 0)) else (some (wrap64 (x4 - 1), 47)))) else (none)) else (none))
def riddleref4_Check.f (k : Nat) (l0 : List (S45)) : Option (Int × Int) := if (l0.length : Int) = 0 then (some (0, 40)) else (if (l0.length : Int) > 4096 then (some (4096, 41)) else (riddleref4_Check.l0 k l0 (l0.length : Int) 0))
set_option maxHeartbeats 8000000 in
set_option maxRecDepth 100000 in
theorem riddleref4_Check.calls (k : Nat) (A0 : Option Addr) (c0 : Nat) (l0 : List (S45)) (r1 : Int) (r2 : Int) (w : World) (hr0 : Kd.C k45 w A0 l0.length l0) (hc0 : l0.length ≤ c0) (h : riddleref4_Check.f k l0 = some (r1, r2)) :
    Calls Try.prog 21 #[.slice A0 l0.length c0] w fun e w' => e = .returned (.tuple #[.int .i64 r1, .int .i64 r2]) ∧ Below w.heap.size w w' := by
  have hu45 := Try.underlying45
  have HR0 := Aside0.mk hr0
  have HC0 := Aside0.mk hc0
  clear hr0 hc0
  have HB := Aside0.mk (Below.refl w.heap.size w)
  have H : (if (l0.length : Int) = 0 then (some (0, 40)) else (if (l0.length : Int) > 4096 then (some (4096, 41)) else (riddleref4_Check.l0 k l0 (l0.length : Int) 0))) = some (r1, r2) := h
  clear h
  by_cases c2 : (l0.length : Int) = 0
  · rw [if_pos c2] at H
    have c2b0 : ((l0.length : Int) == 0) = true := beq_iff_eq.mpr c2
    have c2b1 : ((l0.length : Int) != 0) = false := bne_eq_false_iff_eq.mpr c2
    clear c2
    simp only [Option.some.injEq, Prod.mk.injEq] at H
    obtain ⟨rfl, rfl⟩ := H
    go_enter Try.func21, Try.ntmps21
    go_wp2
    go_ret2
    exact ⟨by first | rfl | (simp [errW_none, errW_some] <;> rfl) | (simp [*, errW_none, errW_some] <;> rfl), by repeat (first | (with_reducible first | exact HB.out | apply below_alloc | apply pw_below_drewN | apply below_drew1) | exact HB.out)⟩
  · rw [if_neg c2] at H
    have c2b0 : ((l0.length : Int) == 0) = false := beq_eq_false_iff_ne.mpr c2
    have c2b1 : ((l0.length : Int) != 0) = true := bne_iff_ne.mpr c2
    have c2b2 : ¬ (l0 = []) := fun h_ => c2 (by rw [h_]; rfl)
    by_cases c3 : (l0.length : Int) > 4096
    · rw [if_pos c3] at H
      have c3b0 : decide (4096 < (l0.length : Int)) = true := decide_eq_true c3
      have c3b1 : decide (4096 < l0.length) = true := decide_eq_true (by omega)
      clear c3
      simp only [Option.some.injEq, Prod.mk.injEq] at H
      obtain ⟨rfl, rfl⟩ := H
      go_enter Try.func21, Try.ntmps21
      go_wp2
      go_ret2
      exact ⟨by first | rfl | (simp [errW_none, errW_some] <;> rfl) | (simp [*, errW_none, errW_some] <;> rfl), by repeat (first | (with_reducible first | exact HB.out | apply below_alloc | apply pw_below_drewN | apply below_drew1) | exact HB.out)⟩
    · rw [if_neg c3] at H
      have c3b0 : decide (4096 < (l0.length : Int)) = false := decide_eq_false c3
      have c3b1 : decide (4096 < l0.length) = false := decide_eq_false (by omega)
      clear c3
      have H' := Aside0.mk H
      clear H
      go_enter Try.func21, Try.ntmps21
      go_wp2
      go_loopg [5] k (fun kq v5 w' => ∃ (x5_1 : Int), v5 = .int .i64 x5_1 ∧ Aside0 (riddleref4_Check.l0 kq l0 (l0.length : Int) x5_1 = some (r1, r2)) ∧ Aside0 (kq ≤ k) ∧ Aside0 (Below w.heap.size w w'))
      case atStart => exact ⟨(0), (by first | rfl | (simp; done) | (simp [*]; done)), H', ⟨Nat.le_refl _⟩, ⟨by repeat (first | (with_reducible first | exact HB.out | apply below_alloc | apply pw_below_drewN | apply below_drew1) | exact HB.out)⟩⟩
      case round =>
        clear H'
        try clear c2
        try clear c2b0
        try clear c2b1
        try clear c2b2
        try clear p2
        try clear c3
        try clear c3b0
        try clear c3b1
        obtain ⟨x5_1, rfl, HA, HK1, HB⟩ := hrel
        cases gk with
        | zero => exact absurd HA.out (by simp [riddleref4_Check.l0])
        | succ k1 =>
          have H := HA.out
          clear HA
          simp only [riddleref4_Check.l0] at H
          by_cases c4 : x5_1 < (l0.length : Int)
          · rw [if_pos c4] at H
            have c4b0 : decide (x5_1 < (l0.length : Int)) = true := decide_eq_true c4
            clear c4
            by_cases c5 : 0 ≤ x5_1
            · rw [if_pos c5] at H
              have c5b0 : decide (0 ≤ x5_1) = true := decide_eq_true c5
              clear c5
              by_cases c6 : x5_1 < (l0.length : Int)
              · rw [if_pos c6] at H
                have c6b0 : decide (x5_1 < (l0.length : Int)) = true := decide_eq_true c6
                clear c6
                replace H := Option.bind_eq_some_iff.mp H
                obtain ⟨t288, A70, H⟩ := H
                replace H : (if t288 = 0 then (if ((rd_T45 l0 x5_1).f0) = 5 then (if ((rd_T45 l0 x5_1).f3) ≥ ((wrap64 ((wrap64 ((l0.length : Int) - 1)) - x5_1)) % 4294967296) then (some (x5_1, 46)) else ((riddleref2_Jump.f ((rd_T45 l0 x5_1).f0)).bind fun t292 => (if t292 = true then (if (wrap64 ((rd_T45 l0 x5_1).f1)) ≥ (wrap64 ((wrap64 ((l0.length : Int) - 1)) - x5_1)) then (some (x5_1, 46)) else (if (wrap64 ((rd_T45 l0 x5_1).f2)) ≥ (wrap64 ((wrap64 ((l0.length : Int) - 1)) - x5_1)) then (some (x5_1, 46)) else (riddleref4_Check.l0 k1 l0 (l0.length : Int) (wrap64 (x5_1 + 1))))) else (riddleref4_Check.l0 k1 l0 (l0.length : Int) (wrap64 (x5_1 + 1)))))) else ((riddleref2_Jump.f ((rd_T45 l0 x5_1).f0)).bind fun t296 => (if t296 = true then (if (wrap64 ((rd_T45 l0 x5_1).f1)) ≥ (wrap64 ((wrap64 ((l0.length : Int) - 1)) - x5_1)) then (some (x5_1, 46)) else (if (wrap64 ((rd_T45 l0 x5_1).f2)) ≥ (wrap64 ((wrap64 ((l0.length : Int) - 1)) - x5_1)) then (some (x5_1, 46)) else (riddleref4_Check.l0 k1 l0 (l0.length : Int) (wrap64 (x5_1 + 1))))) else (riddleref4_Check.l0 k1 l0 (l0.length : Int) (wrap64 (x5_1 + 1)))))) else (some (x5_1, t288))) = some (r1, r2) := H
                have A7 := Aside0.mk A70
                clear A70
                by_cases c8 : t288 = 0
                · rw [if_pos c8] at H
                  have c8b0 : (t288 == 0) = true := beq_iff_eq.mpr c8
                  have c8b1 : (t288 != 0) = false := bne_eq_false_iff_eq.mpr c8
                  clear c8
                  by_cases c9 : ((rd_T45 l0 x5_1).f0) = 5
                  · rw [if_pos c9] at H
                    have c9b0 : (((rd_T45 l0 x5_1).f0) == 5) = true := beq_iff_eq.mpr c9
                    have c9b1 : (((rd_T45 l0 x5_1).f0) != 5) = false := bne_eq_false_iff_eq.mpr c9
                    clear c9
                    by_cases c10 : ((rd_T45 l0 x5_1).f3) ≥ ((wrap64 ((wrap64 ((l0.length : Int) - 1)) - x5_1)) % 4294967296)
                    · rw [if_pos c10] at H
                      have c10b0 : decide (((wrap64 ((wrap64 ((l0.length : Int) - 1)) - x5_1)) % 4294967296) ≤ ((rd_T45 l0 x5_1).f3)) = true := decide_eq_true c10
                      clear c10
                      simp only [Option.some.injEq, Prod.mk.injEq] at H
                      obtain ⟨rfl, rfl⟩ := H
                      have p287 : 0 ≤ (x5_1 : Int) := of_decide_eq_true (by first | (with_reducible assumption) | assumption)
                      have q287 : x5_1 < (l0.length : Int) := of_decide_eq_true (by first | (with_reducible assumption) | assumption)
                      obtain ⟨ad287, e287, hx287_0, hx287_1, hx287_2, hx287_3⟩ := at_T45 HR0.out x5_1 p287 q287
                      cases e287
                      replace hx287_0 := (HB.out.cell (World.block_lt_of_cell? w _ hx287_0)).trans hx287_0
                      replace hx287_1 := (HB.out.cell (World.block_lt_of_cell? w _ hx287_1)).trans hx287_1
                      replace hx287_2 := (HB.out.cell (World.block_lt_of_cell? w _ hx287_2)).trans hx287_2
                      replace hx287_3 := (HB.out.cell (World.block_lt_of_cell? w _ hx287_3)).trans hx287_3
                      replace p287 := eq_true p287
                      replace q287 := eq_true q287
                      go_wp2_with (first | ((with_reducible refine gate_callee (f := 49) rfl ?_); refine goesL_ (some 23) rfl rfl Try.func49 (by kernel_rfl) rfl #[.agg #[.int .u16 ((rd_T45 l0 x5_1).f0), .int .u8 ((rd_T45 l0 x5_1).f1), .int .u8 ((rd_T45 l0 x5_1).f2), .int .u32 ((rd_T45 l0 x5_1).f3)]] rfl (by (try simp only [List.map_toArray, List.map_cons, List.map_nil]); first | done | rfl | (simp only [List.length_drop, List.length_take]; rfl)) ?_; (with_reducible refine (riddleref4_Fault.calls k1 ((rd_T45 l0 x5_1).f0) ((rd_T45 l0 x5_1).f1) ((rd_T45 l0 x5_1).f2) ((rd_T45 l0 x5_1).f3) t288 _ A7.out).mono ?_); rintro e w11 ⟨rfl, hb⟩; refine ⟨_, rfl, ?_⟩; have n0_ := Aside0.mk (below_step (by repeat (first | (with_reducible first | exact HB.out | apply below_alloc | apply pw_below_drewN | apply below_drew1) | exact HB.out)) hb); clear HB; have HB := n0_; clear n0_; (try clear hb); (try clear hb2); (try clear hk); (try clear hi); have p289 : 0 ≤ (x5_1 : Int) := of_decide_eq_true (by first | (with_reducible assumption) | assumption); have q289 : x5_1 < (l0.length : Int) := of_decide_eq_true (by first | (with_reducible assumption) | assumption); obtain ⟨ad289, e289, hx289_0, hx289_1, hx289_2, hx289_3⟩ := at_T45 HR0.out x5_1 p289 q289; obtain rfl : ad287 = ad289 := (by injection e289); replace hx289_0 := (HB.out.cell (World.block_lt_of_cell? w _ hx289_0)).trans hx289_0; replace hx289_1 := (HB.out.cell (World.block_lt_of_cell? w _ hx289_1)).trans hx289_1; replace hx289_2 := (HB.out.cell (World.block_lt_of_cell? w _ hx289_2)).trans hx289_2; replace hx289_3 := (HB.out.cell (World.block_lt_of_cell? w _ hx289_3)).trans hx289_3; replace p289 := eq_true p289; replace q289 := eq_true q289; have p290 : 0 ≤ (x5_1 : Int) := of_decide_eq_true (by first | (with_reducible assumption) | assumption); have q290 : x5_1 < (l0.length : Int) := of_decide_eq_true (by first | (with_reducible assumption) | assumption); obtain ⟨ad290, e290, hx290_0, hx290_1, hx290_2, hx290_3⟩ := at_T45 HR0.out x5_1 p290 q290; obtain rfl : ad287 = ad290 := (by injection e290); replace hx290_0 := (HB.out.cell (World.block_lt_of_cell? w _ hx290_0)).trans hx290_0; replace hx290_1 := (HB.out.cell (World.block_lt_of_cell? w _ hx290_1)).trans hx290_1; replace hx290_2 := (HB.out.cell (World.block_lt_of_cell? w _ hx290_2)).trans hx290_2; replace hx290_3 := (HB.out.cell (World.block_lt_of_cell? w _ hx290_3)).trans hx290_3; replace p290 := eq_true p290; replace q290 := eq_true q290))
                      go_ret2
                      exact ⟨by first | rfl | (simp [errW_none, errW_some] <;> rfl) | (simp [*, errW_none, errW_some] <;> rfl), by repeat (first | (with_reducible first | exact HB.out | apply below_alloc | apply pw_below_drewN | apply below_drew1) | exact HB.out)⟩
                    · rw [if_neg c10] at H
                      have c10b0 : decide (((wrap64 ((wrap64 ((l0.length : Int) - 1)) - x5_1)) % 4294967296) ≤ ((rd_T45 l0 x5_1).f3)) = false := decide_eq_false c10
                      clear c10
                      replace H := Option.bind_eq_some_iff.mp H
                      obtain ⟨t292, A120, H⟩ := H
                      replace H : (if t292 = true then (if (wrap64 ((rd_T45 l0 x5_1).f1)) ≥ (wrap64 ((wrap64 ((l0.length : Int) - 1)) - x5_1)) then (some (x5_1, 46)) else (if (wrap64 ((rd_T45 l0 x5_1).f2)) ≥ (wrap64 ((wrap64 ((l0.length : Int) - 1)) - x5_1)) then (some (x5_1, 46)) else (riddleref4_Check.l0 k1 l0 (l0.length : Int) (wrap64 (x5_1 + 1))))) else (riddleref4_Check.l0 k1 l0 (l0.length : Int) (wrap64 (x5_1 + 1)))) = some (r1, r2) := H
                      have A12 := Aside0.mk A120
                      clear A120
                      by_cases c13 : t292 = true
                      · subst c13
                        have H1 : (if (wrap64 ((rd_T45 l0 x5_1).f1)) ≥ (wrap64 ((wrap64 ((l0.length : Int) - 1)) - x5_1)) then (some (x5_1, 46)) else (if (wrap64 ((rd_T45 l0 x5_1).f2)) ≥ (wrap64 ((wrap64 ((l0.length : Int) - 1)) - x5_1)) then (some (x5_1, 46)) else (riddleref4_Check.l0 k1 l0 (l0.length : Int) (wrap64 (x5_1 + 1))))) = some (r1, r2) := by rw [if_pos rfl] at H; exact H
                        clear H
                        have H := H1
                        clear H1
                        by_cases c14 : (wrap64 ((rd_T45 l0 x5_1).f1)) ≥ (wrap64 ((wrap64 ((l0.length : Int) - 1)) - x5_1))
                        · rw [if_pos c14] at H
                          have c14b0 : decide ((wrap64 ((wrap64 ((l0.length : Int) - 1)) - x5_1)) ≤ (wrap64 ((rd_T45 l0 x5_1).f1))) = true := decide_eq_true c14
                          clear c14
                          simp only [Option.some.injEq, Prod.mk.injEq] at H
                          obtain ⟨rfl, rfl⟩ := H
                          have p287 : 0 ≤ (x5_1 : Int) := of_decide_eq_true (by first | (with_reducible assumption) | assumption)
                          have q287 : x5_1 < (l0.length : Int) := of_decide_eq_true (by first | (with_reducible assumption) | assumption)
                          obtain ⟨ad287, e287, hx287_0, hx287_1, hx287_2, hx287_3⟩ := at_T45 HR0.out x5_1 p287 q287
                          cases e287
                          replace hx287_0 := (HB.out.cell (World.block_lt_of_cell? w _ hx287_0)).trans hx287_0
                          replace hx287_1 := (HB.out.cell (World.block_lt_of_cell? w _ hx287_1)).trans hx287_1
                          replace hx287_2 := (HB.out.cell (World.block_lt_of_cell? w _ hx287_2)).trans hx287_2
                          replace hx287_3 := (HB.out.cell (World.block_lt_of_cell? w _ hx287_3)).trans hx287_3
                          replace p287 := eq_true p287
                          replace q287 := eq_true q287
                          go_wp2_with (first | ((with_reducible refine gate_callee (f := 49) rfl ?_); refine goesL_ (some 23) rfl rfl Try.func49 (by kernel_rfl) rfl #[.agg #[.int .u16 ((rd_T45 l0 x5_1).f0), .int .u8 ((rd_T45 l0 x5_1).f1), .int .u8 ((rd_T45 l0 x5_1).f2), .int .u32 ((rd_T45 l0 x5_1).f3)]] rfl (by (try simp only [List.map_toArray, List.map_cons, List.map_nil]); first | done | rfl | (simp only [List.length_drop, List.length_take]; rfl)) ?_; (with_reducible refine (riddleref4_Fault.calls k1 ((rd_T45 l0 x5_1).f0) ((rd_T45 l0 x5_1).f1) ((rd_T45 l0 x5_1).f2) ((rd_T45 l0 x5_1).f3) t288 _ A7.out).mono ?_); rintro e w15 ⟨rfl, hb⟩; refine ⟨_, rfl, ?_⟩; have n0_ := Aside0.mk (below_step (by repeat (first | (with_reducible first | exact HB.out | apply below_alloc | apply pw_below_drewN | apply below_drew1) | exact HB.out)) hb); clear HB; have HB := n0_; clear n0_; (try clear hb); (try clear hb2); (try clear hk); (try clear hi); have p289 : 0 ≤ (x5_1 : Int) := of_decide_eq_true (by first | (with_reducible assumption) | assumption); have q289 : x5_1 < (l0.length : Int) := of_decide_eq_true (by first | (with_reducible assumption) | assumption); obtain ⟨ad289, e289, hx289_0, hx289_1, hx289_2, hx289_3⟩ := at_T45 HR0.out x5_1 p289 q289; obtain rfl : ad287 = ad289 := (by injection e289); replace hx289_0 := (HB.out.cell (World.block_lt_of_cell? w _ hx289_0)).trans hx289_0; replace hx289_1 := (HB.out.cell (World.block_lt_of_cell? w _ hx289_1)).trans hx289_1; replace hx289_2 := (HB.out.cell (World.block_lt_of_cell? w _ hx289_2)).trans hx289_2; replace hx289_3 := (HB.out.cell (World.block_lt_of_cell? w _ hx289_3)).trans hx289_3; replace p289 := eq_true p289; replace q289 := eq_true q289; have p290 : 0 ≤ (x5_1 : Int) := of_decide_eq_true (by first | (with_reducible assumption) | assumption); have q290 : x5_1 < (l0.length : Int) := of_decide_eq_true (by first | (with_reducible assumption) | assumption); obtain ⟨ad290, e290, hx290_0, hx290_1, hx290_2, hx290_3⟩ := at_T45 HR0.out x5_1 p290 q290; obtain rfl : ad287 = ad290 := (by injection e290); replace hx290_0 := (HB.out.cell (World.block_lt_of_cell? w _ hx290_0)).trans hx290_0; replace hx290_1 := (HB.out.cell (World.block_lt_of_cell? w _ hx290_1)).trans hx290_1; replace hx290_2 := (HB.out.cell (World.block_lt_of_cell? w _ hx290_2)).trans hx290_2; replace hx290_3 := (HB.out.cell (World.block_lt_of_cell? w _ hx290_3)).trans hx290_3; replace p290 := eq_true p290; replace q290 := eq_true q290; have p291 : 0 ≤ (x5_1 : Int) := of_decide_eq_true (by first | (with_reducible assumption) | assumption); have q291 : x5_1 < (l0.length : Int) := of_decide_eq_true (by first | (with_reducible assumption) | assumption); obtain ⟨ad291, e291, hx291_0, hx291_1, hx291_2, hx291_3⟩ := at_T45 HR0.out x5_1 p291 q291; obtain rfl : ad287 = ad291 := (by injection e291); replace hx291_0 := (HB.out.cell (World.block_lt_of_cell? w _ hx291_0)).trans hx291_0; replace hx291_1 := (HB.out.cell (World.block_lt_of_cell? w _ hx291_1)).trans hx291_1; replace hx291_2 := (HB.out.cell (World.block_lt_of_cell? w _ hx291_2)).trans hx291_2; replace hx291_3 := (HB.out.cell (World.block_lt_of_cell? w _ hx291_3)).trans hx291_3; replace p291 := eq_true p291; replace q291 := eq_true q291) | (go_at_call 50; (with_reducible refine (riddleref2_Jump.calls ((rd_T45 l0 x5_1).f0) true _ A12.out).mono ?_); rintro e w' ⟨rfl, ⟨nd, rfl⟩⟩; have p293 : 0 ≤ (x5_1 : Int) := of_decide_eq_true (by first | (with_reducible assumption) | assumption); have q293 : x5_1 < (l0.length : Int) := of_decide_eq_true (by first | (with_reducible assumption) | assumption); obtain ⟨ad293, e293, hx293_0, hx293_1, hx293_2, hx293_3⟩ := at_T45 HR0.out x5_1 p293 q293; obtain rfl : ad287 = ad293 := (by injection e293); replace hx293_0 := (HB.out.cell (World.block_lt_of_cell? w _ hx293_0)).trans hx293_0; replace hx293_1 := (HB.out.cell (World.block_lt_of_cell? w _ hx293_1)).trans hx293_1; replace hx293_2 := (HB.out.cell (World.block_lt_of_cell? w _ hx293_2)).trans hx293_2; replace hx293_3 := (HB.out.cell (World.block_lt_of_cell? w _ hx293_3)).trans hx293_3; replace p293 := eq_true p293; replace q293 := eq_true q293))
                          go_ret2
                          exact ⟨by first | rfl | (simp [errW_none, errW_some] <;> rfl) | (simp [*, errW_none, errW_some] <;> rfl), by repeat (first | (with_reducible first | exact HB.out | apply below_alloc | apply pw_below_drewN | apply below_drew1) | exact HB.out)⟩
                        · rw [if_neg c14] at H
                          have c14b0 : decide ((wrap64 ((wrap64 ((l0.length : Int) - 1)) - x5_1)) ≤ (wrap64 ((rd_T45 l0 x5_1).f1))) = false := decide_eq_false c14
                          clear c14
                          by_cases c16 : (wrap64 ((rd_T45 l0 x5_1).f2)) ≥ (wrap64 ((wrap64 ((l0.length : Int) - 1)) - x5_1))
                          · rw [if_pos c16] at H
                            have c16b0 : decide ((wrap64 ((wrap64 ((l0.length : Int) - 1)) - x5_1)) ≤ (wrap64 ((rd_T45 l0 x5_1).f2))) = true := decide_eq_true c16
                            clear c16
                            simp only [Option.some.injEq, Prod.mk.injEq] at H
                            obtain ⟨rfl, rfl⟩ := H
                            have p287 : 0 ≤ (x5_1 : Int) := of_decide_eq_true (by first | (with_reducible assumption) | assumption)
                            have q287 : x5_1 < (l0.length : Int) := of_decide_eq_true (by first | (with_reducible assumption) | assumption)
                            obtain ⟨ad287, e287, hx287_0, hx287_1, hx287_2, hx287_3⟩ := at_T45 HR0.out x5_1 p287 q287
                            cases e287
                            replace hx287_0 := (HB.out.cell (World.block_lt_of_cell? w _ hx287_0)).trans hx287_0
                            replace hx287_1 := (HB.out.cell (World.block_lt_of_cell? w _ hx287_1)).trans hx287_1
                            replace hx287_2 := (HB.out.cell (World.block_lt_of_cell? w _ hx287_2)).trans hx287_2
                            replace hx287_3 := (HB.out.cell (World.block_lt_of_cell? w _ hx287_3)).trans hx287_3
                            replace p287 := eq_true p287
                            replace q287 := eq_true q287
                            go_wp2_with (first | ((with_reducible refine gate_callee (f := 49) rfl ?_); refine goesL_ (some 23) rfl rfl Try.func49 (by kernel_rfl) rfl #[.agg #[.int .u16 ((rd_T45 l0 x5_1).f0), .int .u8 ((rd_T45 l0 x5_1).f1), .int .u8 ((rd_T45 l0 x5_1).f2), .int .u32 ((rd_T45 l0 x5_1).f3)]] rfl (by (try simp only [List.map_toArray, List.map_cons, List.map_nil]); first | done | rfl | (simp only [List.length_drop, List.length_take]; rfl)) ?_; (with_reducible refine (riddleref4_Fault.calls k1 ((rd_T45 l0 x5_1).f0) ((rd_T45 l0 x5_1).f1) ((rd_T45 l0 x5_1).f2) ((rd_T45 l0 x5_1).f3) t288 _ A7.out).mono ?_); rintro e w17 ⟨rfl, hb⟩; refine ⟨_, rfl, ?_⟩; have n0_ := Aside0.mk (below_step (by repeat (first | (with_reducible first | exact HB.out | apply below_alloc | apply pw_below_drewN | apply below_drew1) | exact HB.out)) hb); clear HB; have HB := n0_; clear n0_; (try clear hb); (try clear hb2); (try clear hk); (try clear hi); have p289 : 0 ≤ (x5_1 : Int) := of_decide_eq_true (by first | (with_reducible assumption) | assumption); have q289 : x5_1 < (l0.length : Int) := of_decide_eq_true (by first | (with_reducible assumption) | assumption); obtain ⟨ad289, e289, hx289_0, hx289_1, hx289_2, hx289_3⟩ := at_T45 HR0.out x5_1 p289 q289; obtain rfl : ad287 = ad289 := (by injection e289); replace hx289_0 := (HB.out.cell (World.block_lt_of_cell? w _ hx289_0)).trans hx289_0; replace hx289_1 := (HB.out.cell (World.block_lt_of_cell? w _ hx289_1)).trans hx289_1; replace hx289_2 := (HB.out.cell (World.block_lt_of_cell? w _ hx289_2)).trans hx289_2; replace hx289_3 := (HB.out.cell (World.block_lt_of_cell? w _ hx289_3)).trans hx289_3; replace p289 := eq_true p289; replace q289 := eq_true q289; have p290 : 0 ≤ (x5_1 : Int) := of_decide_eq_true (by first | (with_reducible assumption) | assumption); have q290 : x5_1 < (l0.length : Int) := of_decide_eq_true (by first | (with_reducible assumption) | assumption); obtain ⟨ad290, e290, hx290_0, hx290_1, hx290_2, hx290_3⟩ := at_T45 HR0.out x5_1 p290 q290; obtain rfl : ad287 = ad290 := (by injection e290); replace hx290_0 := (HB.out.cell (World.block_lt_of_cell? w _ hx290_0)).trans hx290_0; replace hx290_1 := (HB.out.cell (World.block_lt_of_cell? w _ hx290_1)).trans hx290_1; replace hx290_2 := (HB.out.cell (World.block_lt_of_cell? w _ hx290_2)).trans hx290_2; replace hx290_3 := (HB.out.cell (World.block_lt_of_cell? w _ hx290_3)).trans hx290_3; replace p290 := eq_true p290; replace q290 := eq_true q290; have p291 : 0 ≤ (x5_1 : Int) := of_decide_eq_true (by first | (with_reducible assumption) | assumption); have q291 : x5_1 < (l0.length : Int) := of_decide_eq_true (by first | (with_reducible assumption) | assumption); obtain ⟨ad291, e291, hx291_0, hx291_1, hx291_2, hx291_3⟩ := at_T45 HR0.out x5_1 p291 q291; obtain rfl : ad287 = ad291 := (by injection e291); replace hx291_0 := (HB.out.cell (World.block_lt_of_cell? w _ hx291_0)).trans hx291_0; replace hx291_1 := (HB.out.cell (World.block_lt_of_cell? w _ hx291_1)).trans hx291_1; replace hx291_2 := (HB.out.cell (World.block_lt_of_cell? w _ hx291_2)).trans hx291_2; replace hx291_3 := (HB.out.cell (World.block_lt_of_cell? w _ hx291_3)).trans hx291_3; replace p291 := eq_true p291; replace q291 := eq_true q291) | (go_at_call 50; (with_reducible refine (riddleref2_Jump.calls ((rd_T45 l0 x5_1).f0) true _ A12.out).mono ?_); rintro e w' ⟨rfl, ⟨nd, rfl⟩⟩; have p293 : 0 ≤ (x5_1 : Int) := of_decide_eq_true (by first | (with_reducible assumption) | assumption); have q293 : x5_1 < (l0.length : Int) := of_decide_eq_true (by first | (with_reducible assumption) | assumption); obtain ⟨ad293, e293, hx293_0, hx293_1, hx293_2, hx293_3⟩ := at_T45 HR0.out x5_1 p293 q293; obtain rfl : ad287 = ad293 := (by injection e293); replace hx293_0 := (HB.out.cell (World.block_lt_of_cell? w _ hx293_0)).trans hx293_0; replace hx293_1 := (HB.out.cell (World.block_lt_of_cell? w _ hx293_1)).trans hx293_1; replace hx293_2 := (HB.out.cell (World.block_lt_of_cell? w _ hx293_2)).trans hx293_2; replace hx293_3 := (HB.out.cell (World.block_lt_of_cell? w _ hx293_3)).trans hx293_3; replace p293 := eq_true p293; replace q293 := eq_true q293; have p294 : 0 ≤ (x5_1 : Int) := of_decide_eq_true (by first | (with_reducible assumption) | assumption); have q294 : x5_1 < (l0.length : Int) := of_decide_eq_true (by first | (with_reducible assumption) | assumption); obtain ⟨ad294, e294, hx294_0, hx294_1, hx294_2, hx294_3⟩ := at_T45 HR0.out x5_1 p294 q294; obtain rfl : ad287 = ad294 := (by injection e294); replace hx294_0 := (HB.out.cell (World.block_lt_of_cell? w _ hx294_0)).trans hx294_0; replace hx294_1 := (HB.out.cell (World.block_lt_of_cell? w _ hx294_1)).trans hx294_1; replace hx294_2 := (HB.out.cell (World.block_lt_of_cell? w _ hx294_2)).trans hx294_2; replace hx294_3 := (HB.out.cell (World.block_lt_of_cell? w _ hx294_3)).trans hx294_3; replace p294 := eq_true p294; replace q294 := eq_true q294))
                            go_ret2
                            exact ⟨by first | rfl | (simp [errW_none, errW_some] <;> rfl) | (simp [*, errW_none, errW_some] <;> rfl), by repeat (first | (with_reducible first | exact HB.out | apply below_alloc | apply pw_below_drewN | apply below_drew1) | exact HB.out)⟩
                          · rw [if_neg c16] at H
                            have c16b0 : decide ((wrap64 ((wrap64 ((l0.length : Int) - 1)) - x5_1)) ≤ (wrap64 ((rd_T45 l0 x5_1).f2))) = false := decide_eq_false c16
                            clear c16
                            have H' := Aside0.mk H
                            clear H
                            have p287 : 0 ≤ (x5_1 : Int) := of_decide_eq_true (by first | (with_reducible assumption) | assumption)
                            have q287 : x5_1 < (l0.length : Int) := of_decide_eq_true (by first | (with_reducible assumption) | assumption)
                            obtain ⟨ad287, e287, hx287_0, hx287_1, hx287_2, hx287_3⟩ := at_T45 HR0.out x5_1 p287 q287
                            cases e287
                            replace hx287_0 := (HB.out.cell (World.block_lt_of_cell? w _ hx287_0)).trans hx287_0
                            replace hx287_1 := (HB.out.cell (World.block_lt_of_cell? w _ hx287_1)).trans hx287_1
                            replace hx287_2 := (HB.out.cell (World.block_lt_of_cell? w _ hx287_2)).trans hx287_2
                            replace hx287_3 := (HB.out.cell (World.block_lt_of_cell? w _ hx287_3)).trans hx287_3
                            replace p287 := eq_true p287
                            replace q287 := eq_true q287
                            go_wp2_with (first | ((with_reducible refine gate_callee (f := 49) rfl ?_); refine goesL_ (some 23) rfl rfl Try.func49 (by kernel_rfl) rfl #[.agg #[.int .u16 ((rd_T45 l0 x5_1).f0), .int .u8 ((rd_T45 l0 x5_1).f1), .int .u8 ((rd_T45 l0 x5_1).f2), .int .u32 ((rd_T45 l0 x5_1).f3)]] rfl (by (try simp only [List.map_toArray, List.map_cons, List.map_nil]); first | done | rfl | (simp only [List.length_drop, List.length_take]; rfl)) ?_; (with_reducible refine (riddleref4_Fault.calls k1 ((rd_T45 l0 x5_1).f0) ((rd_T45 l0 x5_1).f1) ((rd_T45 l0 x5_1).f2) ((rd_T45 l0 x5_1).f3) t288 _ A7.out).mono ?_); rintro e w18 ⟨rfl, hb⟩; refine ⟨_, rfl, ?_⟩; have n0_ := Aside0.mk (below_step (by repeat (first | (with_reducible first | exact HB.out | apply below_alloc | apply pw_below_drewN | apply below_drew1) | exact HB.out)) hb); clear HB; have HB := n0_; clear n0_; (try clear hb); (try clear hb2); (try clear hk); (try clear hi); have p289 : 0 ≤ (x5_1 : Int) := of_decide_eq_true (by first | (with_reducible assumption) | assumption); have q289 : x5_1 < (l0.length : Int) := of_decide_eq_true (by first | (with_reducible assumption) | assumption); obtain ⟨ad289, e289, hx289_0, hx289_1, hx289_2, hx289_3⟩ := at_T45 HR0.out x5_1 p289 q289; obtain rfl : ad287 = ad289 := (by injection e289); replace hx289_0 := (HB.out.cell (World.block_lt_of_cell? w _ hx289_0)).trans hx289_0; replace hx289_1 := (HB.out.cell (World.block_lt_of_cell? w _ hx289_1)).trans hx289_1; replace hx289_2 := (HB.out.cell (World.block_lt_of_cell? w _ hx289_2)).trans hx289_2; replace hx289_3 := (HB.out.cell (World.block_lt_of_cell? w _ hx289_3)).trans hx289_3; replace p289 := eq_true p289; replace q289 := eq_true q289; have p290 : 0 ≤ (x5_1 : Int) := of_decide_eq_true (by first | (with_reducible assumption) | assumption); have q290 : x5_1 < (l0.length : Int) := of_decide_eq_true (by first | (with_reducible assumption) | assumption); obtain ⟨ad290, e290, hx290_0, hx290_1, hx290_2, hx290_3⟩ := at_T45 HR0.out x5_1 p290 q290; obtain rfl : ad287 = ad290 := (by injection e290); replace hx290_0 := (HB.out.cell (World.block_lt_of_cell? w _ hx290_0)).trans hx290_0; replace hx290_1 := (HB.out.cell (World.block_lt_of_cell? w _ hx290_1)).trans hx290_1; replace hx290_2 := (HB.out.cell (World.block_lt_of_cell? w _ hx290_2)).trans hx290_2; replace hx290_3 := (HB.out.cell (World.block_lt_of_cell? w _ hx290_3)).trans hx290_3; replace p290 := eq_true p290; replace q290 := eq_true q290; have p291 : 0 ≤ (x5_1 : Int) := of_decide_eq_true (by first | (with_reducible assumption) | assumption); have q291 : x5_1 < (l0.length : Int) := of_decide_eq_true (by first | (with_reducible assumption) | assumption); obtain ⟨ad291, e291, hx291_0, hx291_1, hx291_2, hx291_3⟩ := at_T45 HR0.out x5_1 p291 q291; obtain rfl : ad287 = ad291 := (by injection e291); replace hx291_0 := (HB.out.cell (World.block_lt_of_cell? w _ hx291_0)).trans hx291_0; replace hx291_1 := (HB.out.cell (World.block_lt_of_cell? w _ hx291_1)).trans hx291_1; replace hx291_2 := (HB.out.cell (World.block_lt_of_cell? w _ hx291_2)).trans hx291_2; replace hx291_3 := (HB.out.cell (World.block_lt_of_cell? w _ hx291_3)).trans hx291_3; replace p291 := eq_true p291; replace q291 := eq_true q291) | (go_at_call 50; (with_reducible refine (riddleref2_Jump.calls ((rd_T45 l0 x5_1).f0) true _ A12.out).mono ?_); rintro e w' ⟨rfl, ⟨nd, rfl⟩⟩; have p293 : 0 ≤ (x5_1 : Int) := of_decide_eq_true (by first | (with_reducible assumption) | assumption); have q293 : x5_1 < (l0.length : Int) := of_decide_eq_true (by first | (with_reducible assumption) | assumption); obtain ⟨ad293, e293, hx293_0, hx293_1, hx293_2, hx293_3⟩ := at_T45 HR0.out x5_1 p293 q293; obtain rfl : ad287 = ad293 := (by injection e293); replace hx293_0 := (HB.out.cell (World.block_lt_of_cell? w _ hx293_0)).trans hx293_0; replace hx293_1 := (HB.out.cell (World.block_lt_of_cell? w _ hx293_1)).trans hx293_1; replace hx293_2 := (HB.out.cell (World.block_lt_of_cell? w _ hx293_2)).trans hx293_2; replace hx293_3 := (HB.out.cell (World.block_lt_of_cell? w _ hx293_3)).trans hx293_3; replace p293 := eq_true p293; replace q293 := eq_true q293; have p294 : 0 ≤ (x5_1 : Int) := of_decide_eq_true (by first | (with_reducible assumption) | assumption); have q294 : x5_1 < (l0.length : Int) := of_decide_eq_true (by first | (with_reducible assumption) | assumption); obtain ⟨ad294, e294, hx294_0, hx294_1, hx294_2, hx294_3⟩ := at_T45 HR0.out x5_1 p294 q294; obtain rfl : ad287 = ad294 := (by injection e294); replace hx294_0 := (HB.out.cell (World.block_lt_of_cell? w _ hx294_0)).trans hx294_0; replace hx294_1 := (HB.out.cell (World.block_lt_of_cell? w _ hx294_1)).trans hx294_1; replace hx294_2 := (HB.out.cell (World.block_lt_of_cell? w _ hx294_2)).trans hx294_2; replace hx294_3 := (HB.out.cell (World.block_lt_of_cell? w _ hx294_3)).trans hx294_3; replace p294 := eq_true p294; replace q294 := eq_true q294))
                            go_roundg k1
                            case measure => have := HK1.out; omega
                            case rel => exact ⟨(wrap64 (x5_1 + 1)), (by first | rfl | (simp; done) | (simp [*]; done)), H', ⟨by have := HK1.out; omega⟩, ⟨by repeat (first | (with_reducible first | exact HB.out | apply below_alloc | apply pw_below_drewN | apply below_drew1) | exact HB.out)⟩⟩
                      · replace c13 := Bool.eq_false_iff.mpr c13
                        subst c13
                        have H1 : (riddleref4_Check.l0 k1 l0 (l0.length : Int) (wrap64 (x5_1 + 1))) = some (r1, r2) := by rw [if_neg (show ¬ (false = true) by decide)] at H; exact H
                        clear H
                        have H := H1
                        clear H1
                        have H' := Aside0.mk H
                        clear H
                        have p287 : 0 ≤ (x5_1 : Int) := of_decide_eq_true (by first | (with_reducible assumption) | assumption)
                        have q287 : x5_1 < (l0.length : Int) := of_decide_eq_true (by first | (with_reducible assumption) | assumption)
                        obtain ⟨ad287, e287, hx287_0, hx287_1, hx287_2, hx287_3⟩ := at_T45 HR0.out x5_1 p287 q287
                        cases e287
                        replace hx287_0 := (HB.out.cell (World.block_lt_of_cell? w _ hx287_0)).trans hx287_0
                        replace hx287_1 := (HB.out.cell (World.block_lt_of_cell? w _ hx287_1)).trans hx287_1
                        replace hx287_2 := (HB.out.cell (World.block_lt_of_cell? w _ hx287_2)).trans hx287_2
                        replace hx287_3 := (HB.out.cell (World.block_lt_of_cell? w _ hx287_3)).trans hx287_3
                        replace p287 := eq_true p287
                        replace q287 := eq_true q287
                        go_wp2_with (first | ((with_reducible refine gate_callee (f := 49) rfl ?_); refine goesL_ (some 23) rfl rfl Try.func49 (by kernel_rfl) rfl #[.agg #[.int .u16 ((rd_T45 l0 x5_1).f0), .int .u8 ((rd_T45 l0 x5_1).f1), .int .u8 ((rd_T45 l0 x5_1).f2), .int .u32 ((rd_T45 l0 x5_1).f3)]] rfl (by (try simp only [List.map_toArray, List.map_cons, List.map_nil]); first | done | rfl | (simp only [List.length_drop, List.length_take]; rfl)) ?_; (with_reducible refine (riddleref4_Fault.calls k1 ((rd_T45 l0 x5_1).f0) ((rd_T45 l0 x5_1).f1) ((rd_T45 l0 x5_1).f2) ((rd_T45 l0 x5_1).f3) t288 _ A7.out).mono ?_); rintro e w19 ⟨rfl, hb⟩; refine ⟨_, rfl, ?_⟩; have n0_ := Aside0.mk (below_step (by repeat (first | (with_reducible first | exact HB.out | apply below_alloc | apply pw_below_drewN | apply below_drew1) | exact HB.out)) hb); clear HB; have HB := n0_; clear n0_; (try clear hb); (try clear hb2); (try clear hk); (try clear hi); have p289 : 0 ≤ (x5_1 : Int) := of_decide_eq_true (by first | (with_reducible assumption) | assumption); have q289 : x5_1 < (l0.length : Int) := of_decide_eq_true (by first | (with_reducible assumption) | assumption); obtain ⟨ad289, e289, hx289_0, hx289_1, hx289_2, hx289_3⟩ := at_T45 HR0.out x5_1 p289 q289; obtain rfl : ad287 = ad289 := (by injection e289); replace hx289_0 := (HB.out.cell (World.block_lt_of_cell? w _ hx289_0)).trans hx289_0; replace hx289_1 := (HB.out.cell (World.block_lt_of_cell? w _ hx289_1)).trans hx289_1; replace hx289_2 := (HB.out.cell (World.block_lt_of_cell? w _ hx289_2)).trans hx289_2; replace hx289_3 := (HB.out.cell (World.block_lt_of_cell? w _ hx289_3)).trans hx289_3; replace p289 := eq_true p289; replace q289 := eq_true q289; have p290 : 0 ≤ (x5_1 : Int) := of_decide_eq_true (by first | (with_reducible assumption) | assumption); have q290 : x5_1 < (l0.length : Int) := of_decide_eq_true (by first | (with_reducible assumption) | assumption); obtain ⟨ad290, e290, hx290_0, hx290_1, hx290_2, hx290_3⟩ := at_T45 HR0.out x5_1 p290 q290; obtain rfl : ad287 = ad290 := (by injection e290); replace hx290_0 := (HB.out.cell (World.block_lt_of_cell? w _ hx290_0)).trans hx290_0; replace hx290_1 := (HB.out.cell (World.block_lt_of_cell? w _ hx290_1)).trans hx290_1; replace hx290_2 := (HB.out.cell (World.block_lt_of_cell? w _ hx290_2)).trans hx290_2; replace hx290_3 := (HB.out.cell (World.block_lt_of_cell? w _ hx290_3)).trans hx290_3; replace p290 := eq_true p290; replace q290 := eq_true q290; have p291 : 0 ≤ (x5_1 : Int) := of_decide_eq_true (by first | (with_reducible assumption) | assumption); have q291 : x5_1 < (l0.length : Int) := of_decide_eq_true (by first | (with_reducible assumption) | assumption); obtain ⟨ad291, e291, hx291_0, hx291_1, hx291_2, hx291_3⟩ := at_T45 HR0.out x5_1 p291 q291; obtain rfl : ad287 = ad291 := (by injection e291); replace hx291_0 := (HB.out.cell (World.block_lt_of_cell? w _ hx291_0)).trans hx291_0; replace hx291_1 := (HB.out.cell (World.block_lt_of_cell? w _ hx291_1)).trans hx291_1; replace hx291_2 := (HB.out.cell (World.block_lt_of_cell? w _ hx291_2)).trans hx291_2; replace hx291_3 := (HB.out.cell (World.block_lt_of_cell? w _ hx291_3)).trans hx291_3; replace p291 := eq_true p291; replace q291 := eq_true q291) | (go_at_call 50; (with_reducible refine (riddleref2_Jump.calls ((rd_T45 l0 x5_1).f0) false _ A12.out).mono ?_); rintro e w' ⟨rfl, ⟨nd, rfl⟩⟩))
                        go_roundg k1
                        case measure => have := HK1.out; omega
                        case rel => exact ⟨(wrap64 (x5_1 + 1)), (by first | rfl | (simp; done) | (simp [*]; done)), H', ⟨by have := HK1.out; omega⟩, ⟨by repeat (first | (with_reducible first | exact HB.out | apply below_alloc | apply pw_below_drewN | apply below_drew1) | exact HB.out)⟩⟩
                  · rw [if_neg c9] at H
                    have c9b0 : (((rd_T45 l0 x5_1).f0) == 5) = false := beq_eq_false_iff_ne.mpr c9
                    have c9b1 : (((rd_T45 l0 x5_1).f0) != 5) = true := bne_iff_ne.mpr c9
                    replace H := Option.bind_eq_some_iff.mp H
                    obtain ⟨t296, A200, H⟩ := H
                    replace H : (if t296 = true then (if (wrap64 ((rd_T45 l0 x5_1).f1)) ≥ (wrap64 ((wrap64 ((l0.length : Int) - 1)) - x5_1)) then (some (x5_1, 46)) else (if (wrap64 ((rd_T45 l0 x5_1).f2)) ≥ (wrap64 ((wrap64 ((l0.length : Int) - 1)) - x5_1)) then (some (x5_1, 46)) else (riddleref4_Check.l0 k1 l0 (l0.length : Int) (wrap64 (x5_1 + 1))))) else (riddleref4_Check.l0 k1 l0 (l0.length : Int) (wrap64 (x5_1 + 1)))) = some (r1, r2) := H
                    have A20 := Aside0.mk A200
                    clear A200
                    by_cases c21 : t296 = true
                    · subst c21
                      have H1 : (if (wrap64 ((rd_T45 l0 x5_1).f1)) ≥ (wrap64 ((wrap64 ((l0.length : Int) - 1)) - x5_1)) then (some (x5_1, 46)) else (if (wrap64 ((rd_T45 l0 x5_1).f2)) ≥ (wrap64 ((wrap64 ((l0.length : Int) - 1)) - x5_1)) then (some (x5_1, 46)) else (riddleref4_Check.l0 k1 l0 (l0.length : Int) (wrap64 (x5_1 + 1))))) = some (r1, r2) := by rw [if_pos rfl] at H; exact H
                      clear H
                      have H := H1
                      clear H1
                      by_cases c22 : (wrap64 ((rd_T45 l0 x5_1).f1)) ≥ (wrap64 ((wrap64 ((l0.length : Int) - 1)) - x5_1))
                      · rw [if_pos c22] at H
                        have c22b0 : decide ((wrap64 ((wrap64 ((l0.length : Int) - 1)) - x5_1)) ≤ (wrap64 ((rd_T45 l0 x5_1).f1))) = true := decide_eq_true c22
                        clear c22
                        simp only [Option.some.injEq, Prod.mk.injEq] at H
                        obtain ⟨rfl, rfl⟩ := H
                        have p287 : 0 ≤ (x5_1 : Int) := of_decide_eq_true (by first | (with_reducible assumption) | assumption)
                        have q287 : x5_1 < (l0.length : Int) := of_decide_eq_true (by first | (with_reducible assumption) | assumption)
                        obtain ⟨ad287, e287, hx287_0, hx287_1, hx287_2, hx287_3⟩ := at_T45 HR0.out x5_1 p287 q287
                        cases e287
                        replace hx287_0 := (HB.out.cell (World.block_lt_of_cell? w _ hx287_0)).trans hx287_0
                        replace hx287_1 := (HB.out.cell (World.block_lt_of_cell? w _ hx287_1)).trans hx287_1
                        replace hx287_2 := (HB.out.cell (World.block_lt_of_cell? w _ hx287_2)).trans hx287_2
                        replace hx287_3 := (HB.out.cell (World.block_lt_of_cell? w _ hx287_3)).trans hx287_3
                        replace p287 := eq_true p287
                        replace q287 := eq_true q287
                        go_wp2_with (first | ((with_reducible refine gate_callee (f := 49) rfl ?_); refine goesL_ (some 23) rfl rfl Try.func49 (by kernel_rfl) rfl #[.agg #[.int .u16 ((rd_T45 l0 x5_1).f0), .int .u8 ((rd_T45 l0 x5_1).f1), .int .u8 ((rd_T45 l0 x5_1).f2), .int .u32 ((rd_T45 l0 x5_1).f3)]] rfl (by (try simp only [List.map_toArray, List.map_cons, List.map_nil]); first | done | rfl | (simp only [List.length_drop, List.length_take]; rfl)) ?_; (with_reducible refine (riddleref4_Fault.calls k1 ((rd_T45 l0 x5_1).f0) ((rd_T45 l0 x5_1).f1) ((rd_T45 l0 x5_1).f2) ((rd_T45 l0 x5_1).f3) t288 _ A7.out).mono ?_); rintro e w23 ⟨rfl, hb⟩; refine ⟨_, rfl, ?_⟩; have n0_ := Aside0.mk (below_step (by repeat (first | (with_reducible first | exact HB.out | apply below_alloc | apply pw_below_drewN | apply below_drew1) | exact HB.out)) hb); clear HB; have HB := n0_; clear n0_; (try clear hb); (try clear hb2); (try clear hk); (try clear hi); have p289 : 0 ≤ (x5_1 : Int) := of_decide_eq_true (by first | (with_reducible assumption) | assumption); have q289 : x5_1 < (l0.length : Int) := of_decide_eq_true (by first | (with_reducible assumption) | assumption); obtain ⟨ad289, e289, hx289_0, hx289_1, hx289_2, hx289_3⟩ := at_T45 HR0.out x5_1 p289 q289; obtain rfl : ad287 = ad289 := (by injection e289); replace hx289_0 := (HB.out.cell (World.block_lt_of_cell? w _ hx289_0)).trans hx289_0; replace hx289_1 := (HB.out.cell (World.block_lt_of_cell? w _ hx289_1)).trans hx289_1; replace hx289_2 := (HB.out.cell (World.block_lt_of_cell? w _ hx289_2)).trans hx289_2; replace hx289_3 := (HB.out.cell (World.block_lt_of_cell? w _ hx289_3)).trans hx289_3; replace p289 := eq_true p289; replace q289 := eq_true q289; have p295 : 0 ≤ (x5_1 : Int) := of_decide_eq_true (by first | (with_reducible assumption) | assumption); have q295 : x5_1 < (l0.length : Int) := of_decide_eq_true (by first | (with_reducible assumption) | assumption); obtain ⟨ad295, e295, hx295_0, hx295_1, hx295_2, hx295_3⟩ := at_T45 HR0.out x5_1 p295 q295; obtain rfl : ad287 = ad295 := (by injection e295); replace hx295_0 := (HB.out.cell (World.block_lt_of_cell? w _ hx295_0)).trans hx295_0; replace hx295_1 := (HB.out.cell (World.block_lt_of_cell? w _ hx295_1)).trans hx295_1; replace hx295_2 := (HB.out.cell (World.block_lt_of_cell? w _ hx295_2)).trans hx295_2; replace hx295_3 := (HB.out.cell (World.block_lt_of_cell? w _ hx295_3)).trans hx295_3; replace p295 := eq_true p295; replace q295 := eq_true q295) | (go_at_call 50; (with_reducible refine (riddleref2_Jump.calls ((rd_T45 l0 x5_1).f0) true _ A20.out).mono ?_); rintro e w' ⟨rfl, ⟨nd, rfl⟩⟩; have p297 : 0 ≤ (x5_1 : Int) := of_decide_eq_true (by first | (with_reducible assumption) | assumption); have q297 : x5_1 < (l0.length : Int) := of_decide_eq_true (by first | (with_reducible assumption) | assumption); obtain ⟨ad297, e297, hx297_0, hx297_1, hx297_2, hx297_3⟩ := at_T45 HR0.out x5_1 p297 q297; obtain rfl : ad287 = ad297 := (by injection e297); replace hx297_0 := (HB.out.cell (World.block_lt_of_cell? w _ hx297_0)).trans hx297_0; replace hx297_1 := (HB.out.cell (World.block_lt_of_cell? w _ hx297_1)).trans hx297_1; replace hx297_2 := (HB.out.cell (World.block_lt_of_cell? w _ hx297_2)).trans hx297_2; replace hx297_3 := (HB.out.cell (World.block_lt_of_cell? w _ hx297_3)).trans hx297_3; replace p297 := eq_true p297; replace q297 := eq_true q297))
                        go_ret2
                        exact ⟨by first | rfl | (simp [errW_none, errW_some] <;> rfl) | (simp [*, errW_none, errW_some] <;> rfl), by repeat (first | (with_reducible first | exact HB.out | apply below_alloc | apply pw_below_drewN | apply below_drew1) | exact HB.out)⟩
                      · rw [if_neg c22] at H
                        have c22b0 : decide ((wrap64 ((wrap64 ((l0.length : Int) - 1)) - x5_1)) ≤ (wrap64 ((rd_T45 l0 x5_1).f1))) = false := decide_eq_false c22
                        clear c22
                        by_cases c24 : (wrap64 ((rd_T45 l0 x5_1).f2)) ≥ (wrap64 ((wrap64 ((l0.length : Int) - 1)) - x5_1))
                        · rw [if_pos c24] at H
                          have c24b0 : decide ((wrap64 ((wrap64 ((l0.length : Int) - 1)) - x5_1)) ≤ (wrap64 ((rd_T45 l0 x5_1).f2))) = true := decide_eq_true c24
                          clear c24
                          simp only [Option.some.injEq, Prod.mk.injEq] at H
                          obtain ⟨rfl, rfl⟩ := H
                          have p287 : 0 ≤ (x5_1 : Int) := of_decide_eq_true (by first | (with_reducible assumption) | assumption)
                          have q287 : x5_1 < (l0.length : Int) := of_decide_eq_true (by first | (with_reducible assumption) | assumption)
                          obtain ⟨ad287, e287, hx287_0, hx287_1, hx287_2, hx287_3⟩ := at_T45 HR0.out x5_1 p287 q287
                          cases e287
                          replace hx287_0 := (HB.out.cell (World.block_lt_of_cell? w _ hx287_0)).trans hx287_0
                          replace hx287_1 := (HB.out.cell (World.block_lt_of_cell? w _ hx287_1)).trans hx287_1
                          replace hx287_2 := (HB.out.cell (World.block_lt_of_cell? w _ hx287_2)).trans hx287_2
                          replace hx287_3 := (HB.out.cell (World.block_lt_of_cell? w _ hx287_3)).trans hx287_3
                          replace p287 := eq_true p287
                          replace q287 := eq_true q287
                          go_wp2_with (first | ((with_reducible refine gate_callee (f := 49) rfl ?_); refine goesL_ (some 23) rfl rfl Try.func49 (by kernel_rfl) rfl #[.agg #[.int .u16 ((rd_T45 l0 x5_1).f0), .int .u8 ((rd_T45 l0 x5_1).f1), .int .u8 ((rd_T45 l0 x5_1).f2), .int .u32 ((rd_T45 l0 x5_1).f3)]] rfl (by (try simp only [List.map_toArray, List.map_cons, List.map_nil]); first | done | rfl | (simp only [List.length_drop, List.length_take]; rfl)) ?_; (with_reducible refine (riddleref4_Fault.calls k1 ((rd_T45 l0 x5_1).f0) ((rd_T45 l0 x5_1).f1) ((rd_T45 l0 x5_1).f2) ((rd_T45 l0 x5_1).f3) t288 _ A7.out).mono ?_); rintro e w25 ⟨rfl, hb⟩; refine ⟨_, rfl, ?_⟩; have n0_ := Aside0.mk (below_step (by repeat (first | (with_reducible first | exact HB.out | apply below_alloc | apply pw_below_drewN | apply below_drew1) | exact HB.out)) hb); clear HB; have HB := n0_; clear n0_; (try clear hb); (try clear hb2); (try clear hk); (try clear hi); have p289 : 0 ≤ (x5_1 : Int) := of_decide_eq_true (by first | (with_reducible assumption) | assumption); have q289 : x5_1 < (l0.length : Int) := of_decide_eq_true (by first | (with_reducible assumption) | assumption); obtain ⟨ad289, e289, hx289_0, hx289_1, hx289_2, hx289_3⟩ := at_T45 HR0.out x5_1 p289 q289; obtain rfl : ad287 = ad289 := (by injection e289); replace hx289_0 := (HB.out.cell (World.block_lt_of_cell? w _ hx289_0)).trans hx289_0; replace hx289_1 := (HB.out.cell (World.block_lt_of_cell? w _ hx289_1)).trans hx289_1; replace hx289_2 := (HB.out.cell (World.block_lt_of_cell? w _ hx289_2)).trans hx289_2; replace hx289_3 := (HB.out.cell (World.block_lt_of_cell? w _ hx289_3)).trans hx289_3; replace p289 := eq_true p289; replace q289 := eq_true q289; have p295 : 0 ≤ (x5_1 : Int) := of_decide_eq_true (by first | (with_reducible assumption) | assumption); have q295 : x5_1 < (l0.length : Int) := of_decide_eq_true (by first | (with_reducible assumption) | assumption); obtain ⟨ad295, e295, hx295_0, hx295_1, hx295_2, hx295_3⟩ := at_T45 HR0.out x5_1 p295 q295; obtain rfl : ad287 = ad295 := (by injection e295); replace hx295_0 := (HB.out.cell (World.block_lt_of_cell? w _ hx295_0)).trans hx295_0; replace hx295_1 := (HB.out.cell (World.block_lt_of_cell? w _ hx295_1)).trans hx295_1; replace hx295_2 := (HB.out.cell (World.block_lt_of_cell? w _ hx295_2)).trans hx295_2; replace hx295_3 := (HB.out.cell (World.block_lt_of_cell? w _ hx295_3)).trans hx295_3; replace p295 := eq_true p295; replace q295 := eq_true q295) | (go_at_call 50; (with_reducible refine (riddleref2_Jump.calls ((rd_T45 l0 x5_1).f0) true _ A20.out).mono ?_); rintro e w' ⟨rfl, ⟨nd, rfl⟩⟩; have p297 : 0 ≤ (x5_1 : Int) := of_decide_eq_true (by first | (with_reducible assumption) | assumption); have q297 : x5_1 < (l0.length : Int) := of_decide_eq_true (by first | (with_reducible assumption) | assumption); obtain ⟨ad297, e297, hx297_0, hx297_1, hx297_2, hx297_3⟩ := at_T45 HR0.out x5_1 p297 q297; obtain rfl : ad287 = ad297 := (by injection e297); replace hx297_0 := (HB.out.cell (World.block_lt_of_cell? w _ hx297_0)).trans hx297_0; replace hx297_1 := (HB.out.cell (World.block_lt_of_cell? w _ hx297_1)).trans hx297_1; replace hx297_2 := (HB.out.cell (World.block_lt_of_cell? w _ hx297_2)).trans hx297_2; replace hx297_3 := (HB.out.cell (World.block_lt_of_cell? w _ hx297_3)).trans hx297_3; replace p297 := eq_true p297; replace q297 := eq_true q297; have p298 : 0 ≤ (x5_1 : Int) := of_decide_eq_true (by first | (with_reducible assumption) | assumption); have q298 : x5_1 < (l0.length : Int) := of_decide_eq_true (by first | (with_reducible assumption) | assumption); obtain ⟨ad298, e298, hx298_0, hx298_1, hx298_2, hx298_3⟩ := at_T45 HR0.out x5_1 p298 q298; obtain rfl : ad287 = ad298 := (by injection e298); replace hx298_0 := (HB.out.cell (World.block_lt_of_cell? w _ hx298_0)).trans hx298_0; replace hx298_1 := (HB.out.cell (World.block_lt_of_cell? w _ hx298_1)).trans hx298_1; replace hx298_2 := (HB.out.cell (World.block_lt_of_cell? w _ hx298_2)).trans hx298_2; replace hx298_3 := (HB.out.cell (World.block_lt_of_cell? w _ hx298_3)).trans hx298_3; replace p298 := eq_true p298; replace q298 := eq_true q298))
                          go_ret2
                          exact ⟨by first | rfl | (simp [errW_none, errW_some] <;> rfl) | (simp [*, errW_none, errW_some] <;> rfl), by repeat (first | (with_reducible first | exact HB.out | apply below_alloc | apply pw_below_drewN | apply below_drew1) | exact HB.out)⟩
                        · rw [if_neg c24] at H
                          have c24b0 : decide ((wrap64 ((wrap64 ((l0.length : Int) - 1)) - x5_1)) ≤ (wrap64 ((rd_T45 l0 x5_1).f2))) = false := decide_eq_false c24
                          clear c24
                          have H' := Aside0.mk H
                          clear H
                          have p287 : 0 ≤ (x5_1 : Int) := of_decide_eq_true (by first | (with_reducible assumption) | assumption)
                          have q287 : x5_1 < (l0.length : Int) := of_decide_eq_true (by first | (with_reducible assumption) | assumption)
                          obtain ⟨ad287, e287, hx287_0, hx287_1, hx287_2, hx287_3⟩ := at_T45 HR0.out x5_1 p287 q287
                          cases e287
                          replace hx287_0 := (HB.out.cell (World.block_lt_of_cell? w _ hx287_0)).trans hx287_0
                          replace hx287_1 := (HB.out.cell (World.block_lt_of_cell? w _ hx287_1)).trans hx287_1
                          replace hx287_2 := (HB.out.cell (World.block_lt_of_cell? w _ hx287_2)).trans hx287_2
                          replace hx287_3 := (HB.out.cell (World.block_lt_of_cell? w _ hx287_3)).trans hx287_3
                          replace p287 := eq_true p287
                          replace q287 := eq_true q287
                          go_wp2_with (first | ((with_reducible refine gate_callee (f := 49) rfl ?_); refine goesL_ (some 23) rfl rfl Try.func49 (by kernel_rfl) rfl #[.agg #[.int .u16 ((rd_T45 l0 x5_1).f0), .int .u8 ((rd_T45 l0 x5_1).f1), .int .u8 ((rd_T45 l0 x5_1).f2), .int .u32 ((rd_T45 l0 x5_1).f3)]] rfl (by (try simp only [List.map_toArray, List.map_cons, List.map_nil]); first | done | rfl | (simp only [List.length_drop, List.length_take]; rfl)) ?_; (with_reducible refine (riddleref4_Fault.calls k1 ((rd_T45 l0 x5_1).f0) ((rd_T45 l0 x5_1).f1) ((rd_T45 l0 x5_1).f2) ((rd_T45 l0 x5_1).f3) t288 _ A7.out).mono ?_); rintro e w26 ⟨rfl, hb⟩; refine ⟨_, rfl, ?_⟩; have n0_ := Aside0.mk (below_step (by repeat (first | (with_reducible first | exact HB.out | apply below_alloc | apply pw_below_drewN | apply below_drew1) | exact HB.out)) hb); clear HB; have HB := n0_; clear n0_; (try clear hb); (try clear hb2); (try clear hk); (try clear hi); have p289 : 0 ≤ (x5_1 : Int) := of_decide_eq_true (by first | (with_reducible assumption) | assumption); have q289 : x5_1 < (l0.length : Int) := of_decide_eq_true (by first | (with_reducible assumption) | assumption); obtain ⟨ad289, e289, hx289_0, hx289_1, hx289_2, hx289_3⟩ := at_T45 HR0.out x5_1 p289 q289; obtain rfl : ad287 = ad289 := (by injection e289); replace hx289_0 := (HB.out.cell (World.block_lt_of_cell? w _ hx289_0)).trans hx289_0; replace hx289_1 := (HB.out.cell (World.block_lt_of_cell? w _ hx289_1)).trans hx289_1; replace hx289_2 := (HB.out.cell (World.block_lt_of_cell? w _ hx289_2)).trans hx289_2; replace hx289_3 := (HB.out.cell (World.block_lt_of_cell? w _ hx289_3)).trans hx289_3; replace p289 := eq_true p289; replace q289 := eq_true q289; have p295 : 0 ≤ (x5_1 : Int) := of_decide_eq_true (by first | (with_reducible assumption) | assumption); have q295 : x5_1 < (l0.length : Int) := of_decide_eq_true (by first | (with_reducible assumption) | assumption); obtain ⟨ad295, e295, hx295_0, hx295_1, hx295_2, hx295_3⟩ := at_T45 HR0.out x5_1 p295 q295; obtain rfl : ad287 = ad295 := (by injection e295); replace hx295_0 := (HB.out.cell (World.block_lt_of_cell? w _ hx295_0)).trans hx295_0; replace hx295_1 := (HB.out.cell (World.block_lt_of_cell? w _ hx295_1)).trans hx295_1; replace hx295_2 := (HB.out.cell (World.block_lt_of_cell? w _ hx295_2)).trans hx295_2; replace hx295_3 := (HB.out.cell (World.block_lt_of_cell? w _ hx295_3)).trans hx295_3; replace p295 := eq_true p295; replace q295 := eq_true q295) | (go_at_call 50; (with_reducible refine (riddleref2_Jump.calls ((rd_T45 l0 x5_1).f0) true _ A20.out).mono ?_); rintro e w' ⟨rfl, ⟨nd, rfl⟩⟩; have p297 : 0 ≤ (x5_1 : Int) := of_decide_eq_true (by first | (with_reducible assumption) | assumption); have q297 : x5_1 < (l0.length : Int) := of_decide_eq_true (by first | (with_reducible assumption) | assumption); obtain ⟨ad297, e297, hx297_0, hx297_1, hx297_2, hx297_3⟩ := at_T45 HR0.out x5_1 p297 q297; obtain rfl : ad287 = ad297 := (by injection e297); replace hx297_0 := (HB.out.cell (World.block_lt_of_cell? w _ hx297_0)).trans hx297_0; replace hx297_1 := (HB.out.cell (World.block_lt_of_cell? w _ hx297_1)).trans hx297_1; replace hx297_2 := (HB.out.cell (World.block_lt_of_cell? w _ hx297_2)).trans hx297_2; replace hx297_3 := (HB.out.cell (World.block_lt_of_cell? w _ hx297_3)).trans hx297_3; replace p297 := eq_true p297; replace q297 := eq_true q297; have p298 : 0 ≤ (x5_1 : Int) := of_decide_eq_true (by first | (with_reducible assumption) | assumption); have q298 : x5_1 < (l0.length : Int) := of_decide_eq_true (by first | (with_reducible assumption) | assumption); obtain ⟨ad298, e298, hx298_0, hx298_1, hx298_2, hx298_3⟩ := at_T45 HR0.out x5_1 p298 q298; obtain rfl : ad287 = ad298 := (by injection e298); replace hx298_0 := (HB.out.cell (World.block_lt_of_cell? w _ hx298_0)).trans hx298_0; replace hx298_1 := (HB.out.cell (World.block_lt_of_cell? w _ hx298_1)).trans hx298_1; replace hx298_2 := (HB.out.cell (World.block_lt_of_cell? w _ hx298_2)).trans hx298_2; replace hx298_3 := (HB.out.cell (World.block_lt_of_cell? w _ hx298_3)).trans hx298_3; replace p298 := eq_true p298; replace q298 := eq_true q298))
                          go_roundg k1
                          case measure => have := HK1.out; omega
                          case rel => exact ⟨(wrap64 (x5_1 + 1)), (by first | rfl | (simp; done) | (simp [*]; done)), H', ⟨by have := HK1.out; omega⟩, ⟨by repeat (first | (with_reducible first | exact HB.out | apply below_alloc | apply pw_below_drewN | apply below_drew1) | exact HB.out)⟩⟩
                    · replace c21 := Bool.eq_false_iff.mpr c21
                      subst c21
                      have H1 : (riddleref4_Check.l0 k1 l0 (l0.length : Int) (wrap64 (x5_1 + 1))) = some (r1, r2) := by rw [if_neg (show ¬ (false = true) by decide)] at H; exact H
                      clear H
                      have H := H1
                      clear H1
                      have H' := Aside0.mk H
                      clear H
                      have p287 : 0 ≤ (x5_1 : Int) := of_decide_eq_true (by first | (with_reducible assumption) | assumption)
                      have q287 : x5_1 < (l0.length : Int) := of_decide_eq_true (by first | (with_reducible assumption) | assumption)
                      obtain ⟨ad287, e287, hx287_0, hx287_1, hx287_2, hx287_3⟩ := at_T45 HR0.out x5_1 p287 q287
                      cases e287
                      replace hx287_0 := (HB.out.cell (World.block_lt_of_cell? w _ hx287_0)).trans hx287_0
                      replace hx287_1 := (HB.out.cell (World.block_lt_of_cell? w _ hx287_1)).trans hx287_1
                      replace hx287_2 := (HB.out.cell (World.block_lt_of_cell? w _ hx287_2)).trans hx287_2
                      replace hx287_3 := (HB.out.cell (World.block_lt_of_cell? w _ hx287_3)).trans hx287_3
                      replace p287 := eq_true p287
                      replace q287 := eq_true q287
                      go_wp2_with (first | ((with_reducible refine gate_callee (f := 49) rfl ?_); refine goesL_ (some 23) rfl rfl Try.func49 (by kernel_rfl) rfl #[.agg #[.int .u16 ((rd_T45 l0 x5_1).f0), .int .u8 ((rd_T45 l0 x5_1).f1), .int .u8 ((rd_T45 l0 x5_1).f2), .int .u32 ((rd_T45 l0 x5_1).f3)]] rfl (by (try simp only [List.map_toArray, List.map_cons, List.map_nil]); first | done | rfl | (simp only [List.length_drop, List.length_take]; rfl)) ?_; (with_reducible refine (riddleref4_Fault.calls k1 ((rd_T45 l0 x5_1).f0) ((rd_T45 l0 x5_1).f1) ((rd_T45 l0 x5_1).f2) ((rd_T45 l0 x5_1).f3) t288 _ A7.out).mono ?_); rintro e w27 ⟨rfl, hb⟩; refine ⟨_, rfl, ?_⟩; have n0_ := Aside0.mk (below_step (by repeat (first | (with_reducible first | exact HB.out | apply below_alloc | apply pw_below_drewN | apply below_drew1) | exact HB.out)) hb); clear HB; have HB := n0_; clear n0_; (try clear hb); (try clear hb2); (try clear hk); (try clear hi); have p289 : 0 ≤ (x5_1 : Int) := of_decide_eq_true (by first | (with_reducible assumption) | assumption); have q289 : x5_1 < (l0.length : Int) := of_decide_eq_true (by first | (with_reducible assumption) | assumption); obtain ⟨ad289, e289, hx289_0, hx289_1, hx289_2, hx289_3⟩ := at_T45 HR0.out x5_1 p289 q289; obtain rfl : ad287 = ad289 := (by injection e289); replace hx289_0 := (HB.out.cell (World.block_lt_of_cell? w _ hx289_0)).trans hx289_0; replace hx289_1 := (HB.out.cell (World.block_lt_of_cell? w _ hx289_1)).trans hx289_1; replace hx289_2 := (HB.out.cell (World.block_lt_of_cell? w _ hx289_2)).trans hx289_2; replace hx289_3 := (HB.out.cell (World.block_lt_of_cell? w _ hx289_3)).trans hx289_3; replace p289 := eq_true p289; replace q289 := eq_true q289; have p295 : 0 ≤ (x5_1 : Int) := of_decide_eq_true (by first | (with_reducible assumption) | assumption); have q295 : x5_1 < (l0.length : Int) := of_decide_eq_true (by first | (with_reducible assumption) | assumption); obtain ⟨ad295, e295, hx295_0, hx295_1, hx295_2, hx295_3⟩ := at_T45 HR0.out x5_1 p295 q295; obtain rfl : ad287 = ad295 := (by injection e295); replace hx295_0 := (HB.out.cell (World.block_lt_of_cell? w _ hx295_0)).trans hx295_0; replace hx295_1 := (HB.out.cell (World.block_lt_of_cell? w _ hx295_1)).trans hx295_1; replace hx295_2 := (HB.out.cell (World.block_lt_of_cell? w _ hx295_2)).trans hx295_2; replace hx295_3 := (HB.out.cell (World.block_lt_of_cell? w _ hx295_3)).trans hx295_3; replace p295 := eq_true p295; replace q295 := eq_true q295) | (go_at_call 50; (with_reducible refine (riddleref2_Jump.calls ((rd_T45 l0 x5_1).f0) false _ A20.out).mono ?_); rintro e w' ⟨rfl, ⟨nd, rfl⟩⟩))
                      go_roundg k1
                      case measure => have := HK1.out; omega
                      case rel => exact ⟨(wrap64 (x5_1 + 1)), (by first | rfl | (simp; done) | (simp [*]; done)), H', ⟨by have := HK1.out; omega⟩, ⟨by repeat (first | (with_reducible first | exact HB.out | apply below_alloc | apply pw_below_drewN | apply below_drew1) | exact HB.out)⟩⟩
                · rw [if_neg c8] at H
                  have c8b0 : (t288 == 0) = false := beq_eq_false_iff_ne.mpr c8
                  have c8b1 : (t288 != 0) = true := bne_iff_ne.mpr c8
                  simp only [Option.some.injEq, Prod.mk.injEq] at H
                  obtain ⟨rfl, rfl⟩ := H
                  have p287 : 0 ≤ (x5_1 : Int) := of_decide_eq_true (by first | (with_reducible assumption) | assumption)
                  have q287 : x5_1 < (l0.length : Int) := of_decide_eq_true (by first | (with_reducible assumption) | assumption)
                  obtain ⟨ad287, e287, hx287_0, hx287_1, hx287_2, hx287_3⟩ := at_T45 HR0.out x5_1 p287 q287
                  cases e287
                  replace hx287_0 := (HB.out.cell (World.block_lt_of_cell? w _ hx287_0)).trans hx287_0
                  replace hx287_1 := (HB.out.cell (World.block_lt_of_cell? w _ hx287_1)).trans hx287_1
                  replace hx287_2 := (HB.out.cell (World.block_lt_of_cell? w _ hx287_2)).trans hx287_2
                  replace hx287_3 := (HB.out.cell (World.block_lt_of_cell? w _ hx287_3)).trans hx287_3
                  replace p287 := eq_true p287
                  replace q287 := eq_true q287
                  go_wp2_with (first | ((with_reducible refine gate_callee (f := 49) rfl ?_); refine goesL_ (some 23) rfl rfl Try.func49 (by kernel_rfl) rfl #[.agg #[.int .u16 ((rd_T45 l0 x5_1).f0), .int .u8 ((rd_T45 l0 x5_1).f1), .int .u8 ((rd_T45 l0 x5_1).f2), .int .u32 ((rd_T45 l0 x5_1).f3)]] rfl (by (try simp only [List.map_toArray, List.map_cons, List.map_nil]); first | done | rfl | (simp only [List.length_drop, List.length_take]; rfl)) ?_; (with_reducible refine (riddleref4_Fault.calls k1 ((rd_T45 l0 x5_1).f0) ((rd_T45 l0 x5_1).f1) ((rd_T45 l0 x5_1).f2) ((rd_T45 l0 x5_1).f3) t288 _ A7.out).mono ?_); rintro e w28 ⟨rfl, hb⟩; refine ⟨_, rfl, ?_⟩; have n0_ := Aside0.mk (below_step (by repeat (first | (with_reducible first | exact HB.out | apply below_alloc | apply pw_below_drewN | apply below_drew1) | exact HB.out)) hb); clear HB; have HB := n0_; clear n0_; (try clear hb); (try clear hb2); (try clear hk); (try clear hi)))
                  go_ret2
                  exact ⟨by first | rfl | (simp [errW_none, errW_some] <;> rfl) | (simp [*, errW_none, errW_some] <;> rfl), by repeat (first | (with_reducible first | exact HB.out | apply below_alloc | apply pw_below_drewN | apply below_drew1) | exact HB.out)⟩
              · rw [if_neg c6] at H
                exact absurd H (by simp)
            · rw [if_neg c5] at H
              exact absurd H (by simp)
          · rw [if_neg c4] at H
            have c4b0 : decide (x5_1 < (l0.length : Int)) = false := decide_eq_false c4
            clear c4
            obtain ⟨ji29, hji29⟩ : ∃ j_ : Int, (wrap64 ((l0.length : Int) - 1)) = j_ := ⟨_, rfl⟩
            replace H : (if 0 ≤ (ji29) then (if (ji29) < (l0.length : Int) then ((riddleref2_Return.f ((rd_T45 l0 (ji29)).f0)).bind fun t286 => (if t286 = true then (some (0, 0)) else (some (ji29, 47)))) else (none)) else (none)) = some (r1, r2) := by first | (rw [hji29] at H; exact H) | (simp only [hji29] at H ⊢; exact H)
            have hji29w : (IntKind.i64.wrap ((l0.length : Int) - 1)) = ji29 := (i64_w _).trans hji29
            by_cases c30 : 0 ≤ (ji29)
            · rw [if_pos c30] at H
              have c30b0 : decide (0 ≤ (ji29)) = true := decide_eq_true c30
              clear c30
              by_cases c31 : (ji29) < (l0.length : Int)
              · rw [if_pos c31] at H
                have c31b0 : decide ((ji29) < (l0.length : Int)) = true := decide_eq_true c31
                clear c31
                replace H := Option.bind_eq_some_iff.mp H
                obtain ⟨t286, A320, H⟩ := H
                replace H : (if t286 = true then (some (0, 0)) else (some (ji29, 47))) = some (r1, r2) := H
                have A32 := Aside0.mk A320
                clear A320
                by_cases c33 : t286 = true
                · subst c33
                  have H1 : (some (0, 0)) = some (r1, r2) := by rw [if_pos rfl] at H; exact H
                  clear H
                  have H := H1
                  clear H1
                  simp only [Option.some.injEq, Prod.mk.injEq] at H
                  obtain ⟨rfl, rfl⟩ := H
                  have p285 : 0 ≤ ((ji29) : Int) := of_decide_eq_true (by first | (with_reducible assumption) | assumption)
                  have q285 : (ji29) < (l0.length : Int) := of_decide_eq_true (by first | (with_reducible assumption) | assumption)
                  obtain ⟨ad285, e285, hx285_0, hx285_1, hx285_2, hx285_3⟩ := at_T45 HR0.out (ji29) p285 q285
                  cases e285
                  replace hx285_0 := (HB.out.cell (World.block_lt_of_cell? w _ hx285_0)).trans hx285_0
                  replace hx285_1 := (HB.out.cell (World.block_lt_of_cell? w _ hx285_1)).trans hx285_1
                  replace hx285_2 := (HB.out.cell (World.block_lt_of_cell? w _ hx285_2)).trans hx285_2
                  replace hx285_3 := (HB.out.cell (World.block_lt_of_cell? w _ hx285_3)).trans hx285_3
                  replace p285 := eq_true p285
                  replace q285 := eq_true q285
                  go_wp2_with (first | ((with_reducible refine gate_callee (f := 51) rfl ?_); refine goesL_ (some 83) rfl rfl Try.func51 (by kernel_rfl) rfl #[.int .u16 ((rd_T45 l0 (ji29)).f0)] rfl (by (try simp only [List.map_toArray, List.map_cons, List.map_nil]); first | done | (simp only [hji29]; rfl) | rfl | (simp only [List.length_drop, List.length_take]; rfl)) ?_; (with_reducible refine (riddleref2_Return.calls ((rd_T45 l0 (ji29)).f0) true _ A32.out).mono ?_); rintro e w' ⟨rfl, ⟨nd, rfl⟩⟩; refine ⟨_, rfl, ?_⟩))
                  go_ret2
                  exact ⟨by first | rfl | (simp [errW_none, errW_some] <;> rfl) | (simp only [← hji29]; first | rfl | (simp [errW_none, errW_some] <;> rfl)) | (simp [*, errW_none, errW_some] <;> rfl), by repeat (first | (with_reducible first | exact HB.out | apply below_alloc | apply pw_below_drewN | apply below_drew1) | exact HB.out)⟩
                · replace c33 := Bool.eq_false_iff.mpr c33
                  subst c33
                  have H1 : (some (ji29, 47)) = some (r1, r2) := by rw [if_neg (show ¬ (false = true) by decide)] at H; exact H
                  clear H
                  have H := H1
                  clear H1
                  simp only [Option.some.injEq, Prod.mk.injEq] at H
                  obtain ⟨rfl, rfl⟩ := H
                  have p285 : 0 ≤ ((ji29) : Int) := of_decide_eq_true (by first | (with_reducible assumption) | assumption)
                  have q285 : (ji29) < (l0.length : Int) := of_decide_eq_true (by first | (with_reducible assumption) | assumption)
                  obtain ⟨ad285, e285, hx285_0, hx285_1, hx285_2, hx285_3⟩ := at_T45 HR0.out (ji29) p285 q285
                  cases e285
                  replace hx285_0 := (HB.out.cell (World.block_lt_of_cell? w _ hx285_0)).trans hx285_0
                  replace hx285_1 := (HB.out.cell (World.block_lt_of_cell? w _ hx285_1)).trans hx285_1
                  replace hx285_2 := (HB.out.cell (World.block_lt_of_cell? w _ hx285_2)).trans hx285_2
                  replace hx285_3 := (HB.out.cell (World.block_lt_of_cell? w _ hx285_3)).trans hx285_3
                  replace p285 := eq_true p285
                  replace q285 := eq_true q285
                  go_wp2_with (first | ((with_reducible refine gate_callee (f := 51) rfl ?_); refine goesL_ (some 83) rfl rfl Try.func51 (by kernel_rfl) rfl #[.int .u16 ((rd_T45 l0 (ji29)).f0)] rfl (by (try simp only [List.map_toArray, List.map_cons, List.map_nil]); first | done | (simp only [hji29]; rfl) | rfl | (simp only [List.length_drop, List.length_take]; rfl)) ?_; (with_reducible refine (riddleref2_Return.calls ((rd_T45 l0 (ji29)).f0) false _ A32.out).mono ?_); rintro e w' ⟨rfl, ⟨nd, rfl⟩⟩; refine ⟨_, rfl, ?_⟩))
                  go_ret2
                  exact ⟨by first | rfl | (simp [errW_none, errW_some] <;> rfl) | (simp only [← hji29]; first | rfl | (simp [errW_none, errW_some] <;> rfl)) | (simp [*, errW_none, errW_some] <;> rfl), by repeat (first | (with_reducible first | exact HB.out | apply below_alloc | apply pw_below_drewN | apply below_drew1) | exact HB.out)⟩
              · rw [if_neg c31] at H
                exact absurd H (by simp)
            · rw [if_neg c30] at H
              exact absurd H (by simp)
def riddleref5_Code.f (k : Nat) (l0 : List (S45)) (l1 : List Int) : Option (Int) := (riddleref4_Check.f k l0).bind fun bt299 => (if bt299.2 = 0 then (if (l1.length : Int) > 65536 then (some 51) else (some 0)) else (some 50))
set_option maxHeartbeats 8000000 in
set_option maxRecDepth 100000 in
theorem riddleref5_Code.calls (k : Nat) (A0 : Option Addr) (c0 : Nat) (l0 : List (S45)) (A1 : Option Addr) (c1 : Nat) (l1 : List Int) (r : Int) (w : World) (hr0 : Kd.C k45 w A0 l0.length l0) (hc0 : l0.length ≤ c0) (hr1 : Kd.C (Kd.int .u8) w A1 l1.length l1) (hc1 : l1.length ≤ c1) (h : riddleref5_Code.f k l0 l1 = some r) :
    Calls Try.prog 80 #[.slice A0 l0.length c0, .slice A1 l1.length c1] w fun e w' => e = .returned (.int .i64 r) ∧ Below w.heap.size w w' := by
  have HR0 := Aside0.mk hr0
  have HC0 := Aside0.mk hc0
  clear hr0 hc0
  have HR1 := Aside0.mk hr1
  have HC1 := Aside0.mk hc1
  clear hr1 hc1
  have HB := Aside0.mk (Below.refl w.heap.size w)
  have H : ((riddleref4_Check.f k l0).bind fun bt299 => (if bt299.2 = 0 then (if (l1.length : Int) > 65536 then (some 51) else (some 0)) else (some 50))) = some r := h
  clear h
  replace H := Option.bind_eq_some_iff.mp H
  obtain ⟨⟨t299, t300⟩, A30, H⟩ := H
  replace H : (if t300 = 0 then (if (l1.length : Int) > 65536 then (some 51) else (some 0)) else (some 50)) = some r := H
  have A3 := Aside0.mk A30
  clear A30
  by_cases c4 : t300 = 0
  · rw [if_pos c4] at H
    have c4b0 : (t300 == 0) = true := beq_iff_eq.mpr c4
    have c4b1 : (t300 != 0) = false := bne_eq_false_iff_eq.mpr c4
    clear c4
    by_cases c5 : (l1.length : Int) > 65536
    · rw [if_pos c5] at H
      have c5b0 : decide (65536 < (l1.length : Int)) = true := decide_eq_true c5
      have c5b1 : decide (65536 < l1.length) = true := decide_eq_true (by omega)
      clear c5
      obtain rfl := Option.some.inj H
      go_enter Try.func80, Try.ntmps80
      go_wp2_with (first | ((with_reducible refine gate_callee (f := 21) rfl ?_); refine goesL_ (some 9) rfl rfl Try.func21 (by kernel_rfl) rfl #[.slice A0 l0.length c0] rfl (by (try simp only [List.map_toArray, List.map_cons, List.map_nil]); first | done | rfl | (simp only [List.length_drop, List.length_take]; rfl)) ?_; (with_reducible refine (riddleref4_Check.calls k _ _ l0 t299 t300 _ ?side1 ?side2 A3.out).mono ?_); (case side1 => repeat (first | exact HR0.out | (with_reducible refine Kd.C_alloc ?_ _) | (with_reducible refine Kd.C_drewN ?_ _) | (with_reducible refine Kd.C_drew ?_))); (case side2 => exact HC0.out); rintro e w6 ⟨rfl, hb⟩; refine ⟨_, rfl, ?_⟩; have n0_ := Aside0.mk (below_step (by repeat (first | (with_reducible first | exact HB.out | apply below_alloc | apply pw_below_drewN | apply below_drew1) | exact HB.out)) hb); clear HB; have HB := n0_; clear n0_; (try clear hb); (try clear hb2); (try clear hk); (try clear hi)))
      go_ret
      exact ⟨by first | rfl | (simp [errW_none, errW_some] <;> rfl) | (simp [*, errW_none, errW_some] <;> rfl), by repeat (first | (with_reducible first | exact HB.out | apply below_alloc | apply pw_below_drewN | apply below_drew1) | exact HB.out)⟩
    · rw [if_neg c5] at H
      have c5b0 : decide (65536 < (l1.length : Int)) = false := decide_eq_false c5
      have c5b1 : decide (65536 < l1.length) = false := decide_eq_false (by omega)
      clear c5
      obtain rfl := Option.some.inj H
      go_enter Try.func80, Try.ntmps80
      go_wp2_with (first | ((with_reducible refine gate_callee (f := 21) rfl ?_); refine goesL_ (some 9) rfl rfl Try.func21 (by kernel_rfl) rfl #[.slice A0 l0.length c0] rfl (by (try simp only [List.map_toArray, List.map_cons, List.map_nil]); first | done | rfl | (simp only [List.length_drop, List.length_take]; rfl)) ?_; (with_reducible refine (riddleref4_Check.calls k _ _ l0 t299 t300 _ ?side1 ?side2 A3.out).mono ?_); (case side1 => repeat (first | exact HR0.out | (with_reducible refine Kd.C_alloc ?_ _) | (with_reducible refine Kd.C_drewN ?_ _) | (with_reducible refine Kd.C_drew ?_))); (case side2 => exact HC0.out); rintro e w7 ⟨rfl, hb⟩; refine ⟨_, rfl, ?_⟩; have n0_ := Aside0.mk (below_step (by repeat (first | (with_reducible first | exact HB.out | apply below_alloc | apply pw_below_drewN | apply below_drew1) | exact HB.out)) hb); clear HB; have HB := n0_; clear n0_; (try clear hb); (try clear hb2); (try clear hk); (try clear hi)))
      go_ret
      exact ⟨by first | rfl | (simp [errW_none, errW_some] <;> rfl) | (simp [*, errW_none, errW_some] <;> rfl), by repeat (first | (with_reducible first | exact HB.out | apply below_alloc | apply pw_below_drewN | apply below_drew1) | exact HB.out)⟩
  · rw [if_neg c4] at H
    have c4b0 : (t300 == 0) = false := beq_eq_false_iff_ne.mpr c4
    have c4b1 : (t300 != 0) = true := bne_iff_ne.mpr c4
    obtain rfl := Option.some.inj H
    go_enter Try.func80, Try.ntmps80
    go_wp2_with (first | ((with_reducible refine gate_callee (f := 21) rfl ?_); refine goesL_ (some 9) rfl rfl Try.func21 (by kernel_rfl) rfl #[.slice A0 l0.length c0] rfl (by (try simp only [List.map_toArray, List.map_cons, List.map_nil]); first | done | rfl | (simp only [List.length_drop, List.length_take]; rfl)) ?_; (with_reducible refine (riddleref4_Check.calls k _ _ l0 t299 t300 _ ?side1 ?side2 A3.out).mono ?_); (case side1 => repeat (first | exact HR0.out | (with_reducible refine Kd.C_alloc ?_ _) | (with_reducible refine Kd.C_drewN ?_ _) | (with_reducible refine Kd.C_drew ?_))); (case side2 => exact HC0.out); rintro e w8 ⟨rfl, hb⟩; refine ⟨_, rfl, ?_⟩; have n0_ := Aside0.mk (below_step (by repeat (first | (with_reducible first | exact HB.out | apply below_alloc | apply pw_below_drewN | apply below_drew1) | exact HB.out)) hb); clear HB; have HB := n0_; clear n0_; (try clear hb); (try clear hb2); (try clear hk); (try clear hi)))
    go_ret
    exact ⟨by first | rfl | (simp [errW_none, errW_some] <;> rfl) | (simp [*, errW_none, errW_some] <;> rfl), by repeat (first | (with_reducible first | exact HB.out | apply below_alloc | apply pw_below_drewN | apply below_drew1) | exact HB.out)⟩
end Go.Proofs.Ytdkalnkplgfgoaa.PA
namespace Go.Proofs.Ytdkalnkplgfgoaa.Ln
open Go.RowKit Go.Proofs.YtdkalnkplgfgoaaW.PrintWords Go.Proofs.YtdkalnkplgfgoaaW.PrintLast Go.Proofs.YtdkalnkplgfgoaaW.PrintMore
set_option linter.unusedVariables false
section
variable {P : Program} {ops : Array Oper} {o : Oper} {a : Act} {Q : Exit → Act → World → Prop} {Kc : Act → World → Prop} {α : Type}
/-- append(v, x) as a step of a region that draws, behind the variadic's box. -/
theorem R_append_drew (d : Kd α) {w0 W : World} (base : Nat) (s x : Operand) (t e : TypeId) (z : Value) (bytes : Nat) (hg : o.guard = none)
    (ho : o.op = .call { callee := .builtin .append, args := #[s, x], argTypes := #[t, t] })
    (ht : P.underlying t = some (.slice e)) (hinfo : (P.info? e).map (fun i => (i.zero, i.size, i.bytes)) = some (some z, d.sz, bytes)) (hz : z.cells.size = d.sz) (hs0 : 0 < d.sz) (hb0 : 0 < bytes)
    (v : Value) (xs : List α) (p : α) (cs : List Value) (hs : a.eval s = v) (hx : a.eval x = .slice (some ⟨W.heap.size, 0, none⟩) 1 1) (hp : d.M W base (fun _ => False) p cs)
    (HO : d.R e W base (fun _ => True) v xs) (HB : Below base w0 W) (hbase : base ≤ W.heap.size) (hl : (xs.length + 1) * bytes ≤ 140737488355328)
    (h : ∀ v1 w1, d.R e w1 base (fun _ => True) v1 (xs ++ [p]) → Below base w0 w1 → W.drew.grownBy w1 v.ownBlock → Kc (a.put o.dst v1) w1) :
    if Region.wanted o (yielded ops a.tmps) = true then Oper.wp P o a ((W.alloc (.cells cs.toArray e)).drew) Kc Q else Kc (a.put o.dst undef) ((W.alloc (.cells cs.toArray e)).drew) :=
  Kd.R_append_step (w0 := w0) (W := W.drew) d base (by simp [Region.wanted, hg]) s x t e z bytes ho ht hinfo hz hs0 hb0 v xs p cs (fun _ => True) (fun _ => False) hs hx (d.M_move (w := W) (w1 := W.drew) (fun _ _ => rfl) hp) (fun _ h => h.elim) (fun _ _ => trivial) (Kd.R_drew HO) (below_drew1 HB) hbase hl (fun v1 w1 r b g _ => h v1 w1 r b g)
end
end Go.Proofs.Ytdkalnkplgfgoaa.Ln
namespace Go.Proofs.Ytdkalnkplgfgoaa.Ln
open Go.RowKit Go.Maps Go.Proofs.YtdkalnkplgfgoaaW.PrintWords Go.Proofs.YtdkalnkplgfgoaaW.PrintLast Go.Proofs.YtdkalnkplgfgoaaW.PrintMore Go.Proofs.Ytdkalnkplgfgoaa.PA
set_option linter.unusedVariables false
set_option linter.unusedSimpArgs false
def jmP (c : Int) : Bool := (riddleref2_Jump.f c).getD false
def hoP (i : S45) (a x : Int) : Bool := (riddleref5_Holds.f 10 i.f0 i.f1 i.f2 i.f3 a x).getD false
theorem holds_some (a0 a1 a2 a3 a x : Int) : ∃ b, riddleref5_Holds.f 10 a0 a1 a2 a3 a x = some b := by
  have h : ∀ b c, ∃ r, riddleref5_Holds.j0 (9 + 1) a b a0 a1 a2 c = some r := by
    intro b c
    simp only [riddleref5_Holds.j0]
    repeat' split
    all_goals exact ⟨_, rfl⟩
  unfold riddleref5_Holds.f
  obtain ⟨b, e⟩ := byx_some a0
  rw [e]
  simp only [Option.bind_some]
  split
  · exact h _ _
  · exact h _ _
/-- The words behind an instruction that is no return: the place ahead of it (at), the words. -/
def z16 : Mach := ⟨0, 0, List.replicate 16 0⟩
/-- A run: value, fault, and all places that were come to. -/
def vmGo (p : List S45) (pk : List Int) : Nat → Int → Mach → List Int → Option (Int × Int × List Int)
  | 0, _, _, _ => none
  | n + 1, at_, M, T =>
    if 0 ≤ at_ ∧ at_ < (p.length : Int) then
      let i := rd_T45 p at_
      let T := T ++ [at_]
      let a1 := wrap64 (at_ + 1)
      if i.f0 = 6 then some (i.f3, 0, T)
      else if i.f0 = 22 then some (M.a, 0, T)
      else if i.f0 = 5 then vmGo p pk n (wrap64 (a1 + wrap64 i.f3)) M T
      else if jmP i.f0 = true then (if hoP i M.a M.x = true then vmGo p pk n (wrap64 (a1 + wrap64 i.f1)) M T else vmGo p pk n (wrap64 (a1 + wrap64 i.f2)) M T)
      else if (stepF i pk M).2 = 0 then vmGo p pk n a1 (stepF i pk M).1 T
      else some (0, (stepF i pk M).2, T)
    else none
theorem rd_T45_mem {p : List S45} {i : Int} (h0 : 0 ≤ i) (h1 : i < p.length) : rd_T45 p i ∈ p := by
  unfold rd_T45
  rw [List.getD_eq_getElem?_getD, List.getElem?_eq_getElem (by omega)]
  exact List.getElem_mem _
theorem MW_z : MW z16 := ⟨by decide, by decide, fun j => by
  show 0 ≤ (List.replicate 16 (0 : Int)).getD j 0
  rw [List.getD_eq_getElem?_getD, List.getElem?_replicate]
  split <;> decide⟩
/-- A run under way. -/
structure RS (w wr : World) (gv gm : Nat) (M : Mach) (vt : Value) (T : List Int) : Prop where
  below : Below w.heap.size w wr
  res : wr.heap[gv]? = some (.cells #[.int .u32 0, .int .i64 0, .int .i64 0] 59 (0, 0))
  mach : wr.heap[gm]? = some (.cells (mcells M) 97 (0, 0))
  len : M.m.length = 16
  tr : (Kd.int .i64).R 3 wr w.heap.size (fun _ => True) vt T
  hv : w.heap.size ≤ gv
  hm : w.heap.size ≤ gm
theorem RS.fin {w wr : World} {gv gm : Nat} {M : Mach} {vt : Value} {T : List Int} (h : RS w wr gv gm M vt T) (a b c : Value) :
    (((wr.setCell ⟨gv, 0, none⟩ a).setCell ⟨gv, 1, none⟩ b).setCell ⟨gv, 2, none⟩ c).heap[gv]? = some (.cells #[a, b, c] 59 (0, 0)) ∧ Below w.heap.size w (((wr.setCell ⟨gv, 0, none⟩ a).setCell ⟨gv, 1, none⟩ b).setCell ⟨gv, 2, none⟩ c) :=
  ⟨blk_put (blk_put (blk_put h.res 0 _ rfl) 1 _ rfl) 2 _ rfl, below_set (below_set (below_set h.below h.hv) h.hv) h.hv⟩
theorem RS.quiet {w wr w1 : World} {gv gm : Nat} {M : Mach} {vt : Value} {T : List Int} (h : RS w wr gv gm M vt T) (hb : Below wr.heap.size wr w1) : RS w w1 gv gm M vt T :=
  ⟨below_step h.below hb, blk_below h.res hb, blk_below h.mach hb, h.len, Kd.R_below h.tr hb, h.hv, h.hm⟩
theorem RS.step {w wr w1 : World} {gv gm : Nat} {M M1 : Mach} {vt : Value} {T : List Int} (h : RS w wr gv gm M vt T) (kp : Kp (fun k => k = gm) wr w1) (hM : w1.heap[gm]? = some (.cells (mcells M1) 97 (0, 0))) (hl : M1.m.length = 16) : RS w w1 gv gm M1 vt T :=
  ⟨kp.toBelow h.below h.below.size (fun k e => e ▸ h.hm), (kp.block gv (blk_lt h.res) (blk_ne h.res h.mach (by decide))).trans h.res, hM, hl, R_kp h.tr (fun k e => .inl ⟨_, _, _, e ▸ h.mach, by decide⟩) kp, h.hv, h.hm⟩
set_option maxHeartbeats 4000000 in
set_option maxRecDepth 100000 in
theorem vm_calls (k n : Nat) (w : World) (p : List S45) (A : Option Addr) (c : Nat) (pk : List Int) (Ap : Option Addr) (cp : Nat) (HG : Kd.C k45 w A p.length p) (hc : p.length ≤ c)
    (HP : Kd.C (Kd.int .u8) w Ap pk.length pk) (hcp : pk.length ≤ cp) (hpl : pk.length < 2 ^ 62) (hco : riddleref5_Code.f k p pk = some 0) (hk : ∀ i ∈ p, 0 ≤ i.f3) (hn : n ≤ 100000)
    (v f : Int) (T : List Int) (hr : vmGo p pk n 0 z16 [] = some (v, f, T)) :
    Calls Try.prog 48 #[.slice A p.length c, .slice Ap pk.length cp] w fun e w' => ∃ vt, e = .returned (.tuple #[.agg #[.int .u32 v, .int .i64 f, .int .i64 (T.length : Int)], vt, .int .i64 0]) ∧ Below w.heap.size w w' := by
  have HGA := Aside0.mk HG
  have HCA := Aside0.mk hc
  have HPA := Aside0.mk HP
  have HPC := Aside0.mk hcp
  have HCo := Aside0.mk hco
  have HK := Aside0.mk hk
  have HR := Aside0.mk hr
  clear HG hc HP hcp hco hk hr
  go_enter Try.func48, Try.ntmps48
  go_wp2_with (go_at_call 80; refine (riddleref5_Code.calls k _ _ _ _ _ _ _ _ (Kd.C_alloc HGA.out _) HCA.out (Kd.C_alloc HPA.out _) HPC.out HCo.out).mono ?_; rintro e w1 ⟨rfl, hb⟩)
  have HB1 := Aside0.mk hb
  clear hb
  have hg0 := blk_below (blk_new w (.cells #[.int .u32 0, .int .i64 0, .int .i64 0] 59)) HB1.out
  have hb2 := below_step (below_alloc (Below.refl _ w) (.cells #[.int .u32 0, .int .i64 0, .int .i64 0] 59)) HB1.out
  have HR0 := Aside0.mk (RS.mk (w := w) (wr := w1.alloc (.cells (mcells z16) 97)) (gv := w.heap.size) (gm := w1.heap.size) (M := z16) (vt := .slice none 0 0) (T := []) (below_alloc hb2 _) (blk_below hg0 (below_alloc (Below.refl _ _) _)) (blk_new _ _) rfl (Kd.R_nil _ _ _ _ _) (Nat.le_refl _) hb2.size)
  have HGB := Aside0.mk (show w.heap.size < w1.heap.size by have := HB1.out.size; rw [World.size_alloc] at this; omega)
  clear hg0 hb2 HB1
  generalize w1.heap.size = gm at *
  go_loopg [9, 10] n (fun kq v9 v10 wr => ∃ (M : Mach) (tv : Value) (T0 : List Int) (at_ : Int), v9 = tv ∧ v10 = .int .i64 at_ ∧ Aside0 (RS w wr w.heap.size gm M tv T0) ∧ Aside0 (vmGo p pk kq at_ M T0 = some (v, f, T)) ∧ Aside0 (MW M) ∧ Aside0 (T0.length + kq ≤ n))
  case atStart => exact ⟨z16, _, [], 0, rfl, rfl, HR0, HR, ⟨MW_z⟩, ⟨by simp⟩⟩
  case round =>
    clear HR0 HR
    obtain ⟨M, tv, T0, at_, rfl, rfl, HS, HR, HM, HN⟩ := hrel
    cases gk with
    | zero => exact absurd HR.out (by simp [vmGo])
    | succ kq =>
      have hR := HR.out
      unfold vmGo at hR
      by_cases hin : 0 ≤ at_ ∧ at_ < (p.length : Int)
      · rw [if_pos hin] at hR
        dsimp only at hR
        have hui := Try.underlying70
        have hxx : (T0.length + 1) * 8 ≤ 140737488355328 := by have := HN.out; omega
        obtain ⟨At, ct, rfl⟩ := Kd.R_slice HS.out.tr
        obtain ⟨ad, rfl, q0, q1, q2, q3⟩ := at_T45 (Kd.C_below HGA.out HS.out.below) at_ hin.1 hin.2
        have hkk := HK.out (rd_T45 p at_) (rd_T45_mem hin.1 hin.2)
        generalize rd_T45 p at_ = ins at *
        obtain ⟨i0, i1, i2, i3⟩ := ins
        dsimp only at hR q0 q1 q2 q3 hkk
        have HRr := Aside0.mk hR
        have HI := Aside0.mk (blk_new wr (.cells #[.int .u16 i0, .int .u8 i1, .int .u8 i2, .int .u32 i3] 45))
        have HX := Aside0.mk (Kd.R_alloc HS.out.tr (.cells #[.int .u16 i0, .int .u8 i1, .int .u8 i2, .int .u32 i3] 45))
        clear hR HR
        have HKK := Aside0.mk hkk
        clear hkk
        have h0 := hin.1
        have h1 := hin.2
        clear hin
        go_upto_region 13 with (at_builtin; go_loud (refine Kd.R_append (Kd.int .i64) (w0 := w) (W := wr.alloc (.cells #[.int .u16 i0, .int .u8 i1, .int .u8 i2, .int .u32 i3] 45)) w.heap.size rfl (.tmp 24) (.tmp 26) 70 3 (.int .i64 0) 8 rfl hui info3 rfl (by decide) (by decide) (.slice At T0.length ct) T0 at_ [.int .i64 at_] (fun _ => True) (fun _ => False) rfl (by rw [World.size_alloc]; rfl) rfl (fun _ h => h.elim) (fun _ _ => trivial) HX.out (below_alloc HS.out.below _) (below_alloc HS.out.below _).size hxx ?_); intro v1 w4 ho hb hg hat; obtain ⟨A1, cc1, rfl⟩ := Kd.R_slice ho; have HG := Aside0.mk hg; have HO := Aside0.mk ho; have HB4 := Aside0.mk hb; clear ho hb hg hat)
        rw [show T0.length + 1 = (T0 ++ [at_]).length by simp] at *
        have hI4 := blk_grown HI.out HG.out (Kd.R_ne HX.out HI.out (by decide))
        have hr0 := blk_below HS.out.res (below_alloc (Below.refl _ _) (.cells #[.int .u16 i0, .int .u8 i1, .int .u8 i2, .int .u32 i3] 45))
        have hm0 := blk_below HS.out.mach (below_alloc (Below.refl _ _) (.cells #[.int .u16 i0, .int .u8 i1, .int .u8 i2, .int .u32 i3] 45))
        have HS4 := Aside0.mk (RS.mk HB4.out (blk_grown hr0 HG.out (Kd.R_ne HX.out hr0 (by decide))) (blk_grown hm0 HG.out (Kd.R_ne HX.out hm0 (by decide))) HS.out.len HO.out HS.out.hv HS.out.hm)
        have hs5 := HS4.out
        rw [List.length_append, List.length_singleton] at hs5
        have HS5 := Aside0.mk hs5
        clear hs5
        have hlb := HS.out.below.size
        have HI4 := Aside0.mk hI4
        have z0 : w4.cell? ⟨wr.heap.size, 0, none⟩ = some (.int .u16 i0) := (blk_cell hI4 0).trans rfl
        have z1 : w4.cell? ⟨wr.heap.size, 1, none⟩ = some (.int .u8 i1) := (blk_cell hI4 1).trans rfl
        have z2 : w4.cell? ⟨wr.heap.size, 2, none⟩ = some (.int .u8 i2) := (blk_cell hI4 2).trans rfl
        have z3 : w4.cell? ⟨wr.heap.size, 3, none⟩ = some (.int .u32 i3) := (blk_cell hI4 3).trans rfl
        clear hI4 hr0 hm0 HX HG HO HI HB4 q0 q1 q2 q3 HS
        have ma : w4.cell? ⟨gm, 0, none⟩ = some (.int .u32 M.a) := (blk_cell HS4.out.mach 0).trans (mc_a M)
        have mx : w4.cell? ⟨gm, 1, none⟩ = some (.int .u32 M.x) := (blk_cell HS4.out.mach 1).trans (mc_x M)
        have r0 : w4.cell? ⟨w.heap.size, 0, none⟩ = some (.int .u32 0) := (blk_cell HS4.out.res 0).trans rfl
        have r1 : w4.cell? ⟨w.heap.size, 1, none⟩ = some (.int .i64 0) := (blk_cell HS4.out.res 1).trans rfl
        have r2 : w4.cell? ⟨w.heap.size, 2, none⟩ = some (.int .i64 0) := (blk_cell HS4.out.res 2).trans rfl
        have s0 := blk_frozen HS4.out.res 0
        have s1 := blk_frozen HS4.out.res 1
        have s2 := blk_frozen HS4.out.res 2
        generalize wr.heap.size = lb at *
        by_cases c6 : i0 = 6
        · have c6b : (i0 == 6) = true := beq_iff_eq.mpr c6
          have hfin := HRr.out
          rw [if_pos c6] at hfin
          obtain ⟨rfl, rfl, rfl⟩ : i3 = v ∧ (0 : Int) = f ∧ T0 ++ [at_] = T := by simpa using hfin
          go_wp2
          refine bodyPost_ret (results_ctt rfl _ _ w.heap.size 59 #[.int .u32 i3, .int .i64 0, .int .i64 ((T0.length : Int) + 1)] (0, 0) _ rfl (HS4.out.fin _ _ _).1 Try.underlying59 rfl (by kernel_rfl)) rfl ?_
          exact ⟨by simp, (HS4.out.fin _ _ _).2⟩
        have c6b : (i0 == 6) = false := beq_eq_false_iff_ne.mpr c6
        by_cases c22 : i0 = 22
        · have c22b : (i0 == 22) = true := beq_iff_eq.mpr c22
          have hfin := HRr.out
          rw [if_neg c6, if_pos c22] at hfin
          obtain ⟨rfl, rfl, rfl⟩ : M.a = v ∧ (0 : Int) = f ∧ T0 ++ [at_] = T := by simpa using hfin
          go_wp2
          refine bodyPost_ret (results_ctt rfl _ _ w.heap.size 59 #[.int .u32 M.a, .int .i64 0, .int .i64 ((T0.length : Int) + 1)] (0, 0) _ rfl (HS4.out.fin _ _ _).1 Try.underlying59 rfl (by kernel_rfl)) rfl ?_
          exact ⟨by simp, (HS4.out.fin _ _ _).2⟩
        have c22b : (i0 == 22) = false := beq_eq_false_iff_ne.mpr c22
        have hN := HN.out
        have hN1 : (T0 ++ [at_]).length + kq ≤ n := by rw [List.length_append, List.length_singleton]; omega
        have HN1 := Aside0.mk hN1
        clear hN hN1 HN
        by_cases c5 : i0 = 5
        · have c5b : (i0 == 5) = true := beq_iff_eq.mpr c5
          have HF := Aside0.mk HRr.out
          rw [if_neg c6, if_neg c22, if_pos c5] at HF
          go_wp2
          go_roundg kq
          case measure => omega
          case rel => exact ⟨M, _, _, _, rfl, rfl, HS4, HF, HM, HN1⟩
        have c5b : (i0 == 5) = false := beq_eq_false_iff_ne.mpr c5
        obtain ⟨bj, ej⟩ := jump_some i0
        obtain ⟨bh, eh⟩ := holds_some i0 i1 i2 i3 M.a M.x
        have HEJ := Aside0.mk ej
        have HEH := Aside0.mk eh
        have HF0 := HRr.out
        rw [if_neg c6, if_neg c22, if_neg c5, show jmP i0 = bj by unfold jmP; rw [ej]; rfl, show hoP ⟨i0, i1, i2, i3⟩ M.a M.x = bh by unfold hoP; rw [eh]; rfl] at HF0
        have HF := Aside0.mk HF0
        clear HF0 HRr ej eh
        cases bj with
        | true =>
          cases bh with
          | true =>
            have HF1 := HF.out
            rw [if_pos rfl, if_pos rfl] at HF1
            have HF2 := Aside0.mk HF1
            clear HF1 HF
            go_wp2_with (first | (go_at_call 50; refine (riddleref2_Jump.calls _ _ _ HEJ.out).mono ?_; rintro e w' ⟨rfl, ⟨nd, rfl⟩⟩) | (go_at_call 64; refine (riddleref5_Holds.calls 10 _ _ _ _ _ _ _ _ HEH.out).mono ?_; rintro e w5 ⟨rfl, hb5⟩; have HB5 := Aside0.mk (below_step (pw_below_drewN (Below.refl _ _) _) hb5); clear hb5; have HI5 := Aside0.mk (blk_below HI4.out HB5.out); have y0 : w5.cell? ⟨lb, 0, none⟩ = some (.int .u16 i0) := (blk_cell HI5.out 0).trans rfl; have y1 : w5.cell? ⟨lb, 1, none⟩ = some (.int .u8 i1) := (blk_cell HI5.out 1).trans rfl; have y2 : w5.cell? ⟨lb, 2, none⟩ = some (.int .u8 i2) := (blk_cell HI5.out 2).trans rfl))
            go_roundg kq
            case measure => omega
            case rel => exact ⟨M, _, _, _, rfl, rfl, ⟨HS5.out.quiet HB5.out⟩, HF2, HM, HN1⟩
          | false =>
            have HF1 := HF.out
            rw [if_pos rfl, if_neg (by decide)] at HF1
            have HF2 := Aside0.mk HF1
            clear HF1 HF
            go_wp2_with (first | (go_at_call 50; refine (riddleref2_Jump.calls _ _ _ HEJ.out).mono ?_; rintro e w' ⟨rfl, ⟨nd, rfl⟩⟩) | (go_at_call 64; refine (riddleref5_Holds.calls 10 _ _ _ _ _ _ _ _ HEH.out).mono ?_; rintro e w5 ⟨rfl, hb5⟩; have HB5 := Aside0.mk (below_step (pw_below_drewN (Below.refl _ _) _) hb5); clear hb5; have HI5 := Aside0.mk (blk_below HI4.out HB5.out); have y0 : w5.cell? ⟨lb, 0, none⟩ = some (.int .u16 i0) := (blk_cell HI5.out 0).trans rfl; have y1 : w5.cell? ⟨lb, 1, none⟩ = some (.int .u8 i1) := (blk_cell HI5.out 1).trans rfl; have y2 : w5.cell? ⟨lb, 2, none⟩ = some (.int .u8 i2) := (blk_cell HI5.out 2).trans rfl))
            go_roundg kq
            case measure => omega
            case rel => exact ⟨M, _, _, _, rfl, rfl, ⟨HS5.out.quiet (pw_below_drewN HB5.out _)⟩, HF2, HM, HN1⟩
        | false =>
          have HF1 := HF.out
          rw [if_neg (by decide)] at HF1
          obtain ⟨⟨M1, fv⟩, hst⟩ : ∃ s, stepF ⟨i0, i1, i2, i3⟩ pk M = s := ⟨_, rfl⟩
          have hsc := fun W (hb : Below w4.heap.size w4 W) => step_calls W gm M ⟨i0, i1, i2, i3⟩ pk Ap cp (HS4.out.quiet hb).mach HS4.out.len (Kd.C_below HPA.out (HS4.out.quiet hb).below) HPC.out hpl HM.out.2.1 HKK.out
          have hM1 := stepF_wf ⟨i0, i1, i2, i3⟩ pk M HM.out HKK.out
          have hl1 := stepF_len ⟨i0, i1, i2, i3⟩ pk M
          rw [hst] at HF1 hsc hM1 hl1
          dsimp only at HF1 hsc hM1 hl1
          rw [HS4.out.len] at hl1
          have HF2 := Aside0.mk HF1
          have HSC := Aside0.mk hsc
          have HM1 := Aside0.mk hM1
          have HL1 := Aside0.mk hl1
          clear HF1 HF hst hsc hM1 hl1
          by_cases cf : fv = 0
          · have cfb : (fv != 0) = false := bne_eq_false_iff_eq.mpr cf
            have HF1 := HF2.out
            rw [if_pos cf] at HF1
            have HF3 := Aside0.mk HF1
            clear HF1 HF2
            go_wp2_with (first | (go_at_call 50; refine (riddleref2_Jump.calls _ _ _ HEJ.out).mono ?_; rintro e w' ⟨rfl, ⟨nd, rfl⟩⟩) | (go_at_call 63; go_loud (refine (HSC.out _ (pw_below_drewN (Below.refl _ _) _)).mono ?_); rintro e w6 ⟨rfl, hM6, hk6⟩; have HS6 := Aside0.mk ((HS5.out.quiet (pw_below_drewN (Below.refl _ _) _)).step hk6 hM6 HL1.out); clear hM6 hk6))
            go_roundg kq
            case measure => omega
            case rel => exact ⟨M1, _, _, _, rfl, rfl, HS6, HF3, HM1, HN1⟩
          · have cfb : (fv != 0) = true := bne_iff_ne.mpr cf
            have hfin := HF2.out
            rw [if_neg cf] at hfin
            obtain ⟨rfl, rfl, rfl⟩ : (0 : Int) = v ∧ fv = f ∧ T0 ++ [at_] = T := by simpa using hfin
            clear hfin HF2
            go_wp2_with (first | (go_at_call 50; refine (riddleref2_Jump.calls _ _ _ HEJ.out).mono ?_; rintro e w' ⟨rfl, ⟨nd, rfl⟩⟩) | (go_at_call 63; go_loud (refine (HSC.out _ (pw_below_drewN (Below.refl _ _) _)).mono ?_); rintro e w6 ⟨rfl, hM6, hk6⟩; have HS6 := Aside0.mk ((HS5.out.quiet (pw_below_drewN (Below.refl _ _) _)).step hk6 hM6 HL1.out); clear hM6 hk6; have y0 : w6.cell? ⟨w.heap.size, 0, none⟩ = some (.int .u32 0) := (blk_cell HS6.out.res 0).trans rfl; have y1 : w6.cell? ⟨w.heap.size, 1, none⟩ = some (.int .i64 0) := (blk_cell HS6.out.res 1).trans rfl; have y2 : w6.cell? ⟨w.heap.size, 2, none⟩ = some (.int .i64 0) := (blk_cell HS6.out.res 2).trans rfl; have t0 := blk_frozen HS6.out.res 0; have t1 := blk_frozen HS6.out.res 1; have t2 := blk_frozen HS6.out.res 2))
            refine bodyPost_ret (results_ctt rfl _ _ w.heap.size 59 #[.int .u32 0, .int .i64 fv, .int .i64 ((T0.length : Int) + 1)] (0, 0) _ rfl (HS6.out.fin _ _ _).1 Try.underlying59 rfl (by kernel_rfl)) rfl ?_
            exact ⟨_, by rw [List.length_append, List.length_singleton]; rfl, (HS6.out.fin _ _ _).2⟩
      · rw [if_neg hin] at hR; cases hR
end Go.Proofs.Ytdkalnkplgfgoaa.Ln
namespace Go.Proofs.Ytdkalnkplgfgoaa.Ln
open Go.RowKit Go.Maps Go.Proofs.YtdkalnkplgfgoaaW.PrintWords Go.Proofs.YtdkalnkplgfgoaaW.PrintLast Go.Proofs.YtdkalnkplgfgoaaW.PrintMore Go.Proofs.Ytdkalnkplgfgoaa.PA
set_option linter.unusedVariables false
set_option linter.unusedSimpArgs false
/-- A block's instructions: the words behind them, the steps, and the fault. -/
def insGo (pk : List Int) : List S45 → Mach → Int → Mach × Int × Int
  | [], M, s => (M, s, 0)
  | i :: r, M, s => if (stepF i pk M).2 = 0 then insGo pk r (stepF i pk M).1 (wrap64 (s + 1)) else ((stepF i pk M).1, wrap64 (s + 1), (stepF i pk M).2)
/-- A graph's run: value, fault, steps. -/
def gRun (g : List S47) (pk : List Int) : Nat → Int → Mach → Int → Option (Int × Int × Int)
  | 0, _, _, _ => none
  | n + 1, at_, M, s =>
    if 0 ≤ at_ ∧ at_ < (g.length : Int) then
      let b := rd_T47 g at_
      let q := insGo pk b.f0 M s
      if q.2.2 = 0 then
        (if b.f1 = 1 then (if b.f2.f0 = 6 then some (b.f2.f3, 0, wrap64 (q.2.1 + 1)) else some (q.1.a, 0, wrap64 (q.2.1 + 1)))
        else if b.f1 = 2 then gRun g pk n b.f3 q.1 q.2.1
        else if hoP b.f2 q.1.a q.1.x = true then gRun g pk n b.f3 q.1 (wrap64 (q.2.1 + 1))
        else gRun g pk n b.f4 q.1 (wrap64 (q.2.1 + 1)))
      else some (0, q.2.2, q.2.1)
    else none
theorem rd_T47_mem {p : List S47} {i : Int} (h0 : 0 ≤ i) (h1 : i < p.length) : rd_T47 p i ∈ p := by
  unfold rd_T47
  rw [List.getD_eq_getElem?_getD, List.getElem?_eq_getElem (by omega)]
  exact List.getElem_mem _
structure GS (w wr : World) (gv gm : Nat) (M : Mach) : Prop where
  below : Below w.heap.size w wr
  res : wr.heap[gv]? = some (.cells #[.int .u32 0, .int .i64 0, .int .i64 0] 59 (0, 0))
  mach : wr.heap[gm]? = some (.cells (mcells M) 97 (0, 0))
  len : M.m.length = 16
  hv : w.heap.size ≤ gv
  hm : w.heap.size ≤ gm
theorem GS.fin {w wr : World} {gv gm : Nat} {M : Mach} (h : GS w wr gv gm M) (a b c : Value) :
    (((wr.setCell ⟨gv, 0, none⟩ a).setCell ⟨gv, 1, none⟩ b).setCell ⟨gv, 2, none⟩ c).heap[gv]? = some (.cells #[a, b, c] 59 (0, 0)) ∧ Below w.heap.size w (((wr.setCell ⟨gv, 0, none⟩ a).setCell ⟨gv, 1, none⟩ b).setCell ⟨gv, 2, none⟩ c) :=
  ⟨blk_put (blk_put (blk_put h.res 0 _ rfl) 1 _ rfl) 2 _ rfl, below_set (below_set (below_set h.below h.hv) h.hv) h.hv⟩
theorem GS.quiet {w wr w1 : World} {gv gm : Nat} {M : Mach} (h : GS w wr gv gm M) (hb : Below wr.heap.size wr w1) : GS w w1 gv gm M :=
  ⟨below_step h.below hb, blk_below h.res hb, blk_below h.mach hb, h.len, h.hv, h.hm⟩
theorem GS.step {w wr w1 : World} {gv gm : Nat} {M M1 : Mach} (h : GS w wr gv gm M) (kp : Kp (fun k => k = gm) wr w1) (hM : w1.heap[gm]? = some (.cells (mcells M1) 97 (0, 0))) (hl : M1.m.length = 16) : GS w w1 gv gm M1 :=
  ⟨kp.toBelow h.below h.below.size (fun k e => e ▸ h.hm), (kp.block gv (blk_lt h.res) (blk_ne h.res h.mach (by decide))).trans h.res, hM, hl, h.hv, h.hm⟩
end Go.Proofs.Ytdkalnkplgfgoaa.Ln
namespace Go.Proofs.Ytdkalnkplgfgoaa.Ln
open Go.RowKit Go.Maps Go.Proofs.YtdkalnkplgfgoaaW.PrintWords Go.Proofs.YtdkalnkplgfgoaaW.PrintLast Go.Proofs.YtdkalnkplgfgoaaW.PrintMore Go.Proofs.Ytdkalnkplgfgoaa.PA
set_option linter.unusedVariables false
set_option linter.unusedSimpArgs false
/-- The writer while it writes. -/
structure Ws (w0 w : World) (g : List S47) (A : Option Addr) (c B : Nat) (vc vo : Value) (code : List S45) (order : List Int) (bA bF bP nA nF nP : Nat) (after PL : Int → Int) (fars : Int → Bool × Bool) : Prop where
  me : Wr w0 w g A c B vc vo (.map (some bP)) order bA bF nA nF after fars
  code : k45.R 45 w w0.heap.size (fun _ => True) vc code
  mP : MI w bP nP PL
  hP : w0.heap.size ≤ bP
def jaI (tt here : Int) : S45 := ⟨5, 0, 0, IntKind.u32.wrap (wrap64 (wrap64 (tt - here) - 1))⟩
/-- What was there is as it was, but for B and the row of vc. -/
theorem Ws.wrote {w0 w w1 : World} {g : List S47} {A : Option Addr} {c B : Nat} {vc vc1 vo : Value} {code code1 : List S45} {order : List Int} {bA bF bP nA nF nP : Nat} {after PL : Int → Int} {fars : Int → Bool × Bool}
    (H : Ws w0 w g A c B vc vo code order bA bF bP nA nF nP after PL fars) (kp : Kp (fun k => k = B ∨ some k = vc.ownBlock) w w1)
    (blk : w1.heap[B]? = some (.cells #[vc1, .slice A g.length c, vo, .map (some bA), .map (some bP), .map (some bF)] 72 (0, 0))) (hc : k45.R 45 w1 w0.heap.size (fun _ => True) vc1 code1) : Ws w0 w1 g A c B vc1 vo code1 order bA bF bP nA nF nP after PL fars := by
  have hty := Kd.R_typed H.code
  have hbase := Kd.R_base H.code
  have hmap : ∀ {b : Nat}, (∃ es c, w.heap[b]? = some (.map es c)) → w1.heap[b]? = w.heap[b]? := by
    rintro b ⟨es, c, hb⟩
    refine kp.block b (Array.getElem?_eq_some_iff.1 hb).1 ?_
    rintro (rfl | h)
    · have := H.me.blk; rw [hb] at this; cases this
    · obtain ⟨cells, hc⟩ := hty b h.symm
      rw [hb] at hc; cases hc
  refine ⟨⟨kp.toBelow H.me.below H.me.below.size (by rintro k (rfl | h); exact H.me.hB; exact hbase k h.symm), blk, H.me.graph, R_kp H.me.ord ?_ kp, H.me.ordin, H.me.goin, H.me.mA.move (hmap H.me.mA.ismap), H.me.mF.move (hmap H.me.mF.ismap), H.me.hB, H.me.hA, H.me.hF, H.me.ne⟩, hc, H.mP.move (hmap H.mP.ismap), H.hP⟩
  rintro k (rfl | h)
  · exact .inl ⟨_, _, _, H.me.blk, by decide⟩
  · obtain ⟨cells, hc⟩ := hty k h.symm
    exact .inl ⟨_, _, _, hc, by decide⟩
set_option maxHeartbeats 2000000 in
set_option maxRecDepth 100000 in
theorem ja_calls (w0 w : World) (g : List S47) (A : Option Addr) (c B : Nat) (vc vo : Value) (code : List S45) (order : List Int) (bA bF bP nA nF nP : Nat) (after PL : Int → Int) (fars : Int → Bool × Bool)
    (H : Ws w0 w g A c B vc vo code order bA bF bP nA nF nP after PL fars) (tt : Int) (hwf : (Lit.int .i64 tt).wf = true) (hn : (code.length + 1) * 8 ≤ 140737488355328) :
    Calls Try.prog 78 #[.pointer (some ⟨B, 0, none⟩), .int .i64 tt] w fun e w' =>
      e = .returned (.tuple #[]) ∧ ∃ vc', Ws w0 w' g A c B vc' vo (code ++ [jaI (PL tt) (code.length : Int)]) order bA bF bP nA nF nP after PL fars ∧ Kp (fun k => k = B ∨ some k = vc.ownBlock) w w' := by
  have b0 : w.cell? ⟨B, 0, none⟩ = some vc := (blk_cell H.me.blk 0).trans rfl
  have b4 : w.cell? ⟨B, 4, none⟩ = some (.map (some bP)) := (blk_cell H.me.blk 4).trans rfl
  have f0 := blk_frozen H.me.blk 0
  have hBl := blk_lt H.me.blk
  have lP : (Instr.lookup 66 (.map (some bP)) (.int .i64 tt) false).run Try.prog w.drew = .ok (.int .i64 (PL tt)) w.drew := MI_look (H.mP.below (below_drew1 (Below.refl _ _))) tt hwf
  obtain ⟨Ac, cc, rfl, hcc, hC⟩ := Kd.R_reads H.code
  have hu := Try.underlying26
  have keep : ∀ W, Kp (fun k => some k = (Value.slice Ac code.length cc).ownBlock) w W → (W.cell? ⟨B, 0, none⟩ = some (.slice Ac code.length cc) ∧ W.cell? ⟨B, 4, none⟩ = some (.map (some bP)) ∧ W.frozen? ⟨B, 0, none⟩ = false ∧ (Instr.lookup 66 (.map (some bP)) (.int .i64 tt) false).run Try.prog W = .ok (.int .i64 (PL tt)) W) := by
    intro W kp
    have hb : W.heap[B]? = _ := (kp.block B hBl (Kd.R_ne H.code H.me.blk (by decide))).trans H.me.blk
    obtain ⟨es, cl, hm⟩ := H.mP.ismap
    have hm2 : W.heap[bP]? = w.heap[bP]? := kp.block bP H.mP.lt (fun h => by obtain ⟨cells, hc⟩ := Kd.R_typed H.code bP h.symm; rw [hm] at hc; cases hc)
    exact ⟨(blk_cell hb 0).trans rfl, (blk_cell hb 4).trans rfl, blk_frozen hb 0, MI_look (H.mP.move hm2) tt hwf⟩
  have Keep := Aside0.mk keep
  have HH := Aside0.mk H
  clear H hC keep
  go_enter Try.func78, Try.ntmps78
  go_wp2
  refine start_ (n := 28) (S := fun w' => w'.cell? ⟨B, 0, none⟩ = some (.slice Ac code.length cc) ∧ w'.cell? ⟨B, 4, none⟩ = some (.map (some bP)) ∧ w'.frozen? ⟨B, 0, none⟩ = false ∧ (Instr.lookup 66 (.map (some bP)) (.int .i64 tt) false).run Try.prog w' = .ok (.int .i64 (PL tt)) w') (ds := [27]) #[false, false, false, false, false, false, false, false, false, false, false, false, false, false, false, false, false, false, false, false, false, false, false, false, false, false, false, false] (by kernel_rfl) rfl rfl ⟨b0, b4, f0, lP⟩ (fun hHeld => ?_)
  refine pure_ (i := 0) (N := some 4) (v := ?_) (a' := ?_) #[true, false, false, false, false, false, false, false, false, false, false, false, false, false, false, false, false, false, false, false, false, false, false, false, false, false, false, false] rfl rfl (by kernel_rfl) (fun _ _ _ h => h) (Or.inl ⟨by rfl, ?_⟩) ?_ ?_
  rotate_left
  · intro w'
    go_simp
    with_reducible rfl
  rotate_left
  · simp only [Act.put, List.setIfInBounds_toArray, List.set_cons_zero, List.set_cons_succ, i64_w, i32_w]
    rfl
  refine pure_ (i := 1) (N := some 5) (v := ?_) (a' := ?_) #[true, true, false, false, false, false, false, false, false, false, false, false, false, false, false, false, false, false, false, false, false, false, false, false, false, false, false, false] rfl rfl (by kernel_rfl) (fun _ _ _ h => h) (Or.inl ⟨by rfl, ?_⟩) ?_ ?_
  rotate_left
  · intro w'
    go_simp
    with_reducible rfl
  rotate_left
  · simp only [Act.put, List.setIfInBounds_toArray, List.set_cons_zero, List.set_cons_succ, i64_w, i32_w]
    rfl
  refine pure_ (i := 2) (N := some 6) (v := ?_) (a' := ?_) #[true, true, true, false, false, false, false, false, false, false, false, false, false, false, false, false, false, false, false, false, false, false, false, false, false, false, false, false] rfl rfl (by kernel_rfl) (fun _ _ _ h => h) (Or.inl ⟨by rfl, ?_⟩) ?_ ?_
  rotate_left
  · intro w'
    go_simp
    with_reducible rfl
  rotate_left
  · simp only [Act.put, List.setIfInBounds_toArray, List.set_cons_zero, List.set_cons_succ, i64_w, i32_w]
    rfl
  refine pure_ (i := 3) (N := some 7) (v := ?_) (a' := ?_) #[true, true, true, true, false, false, false, false, false, false, false, false, false, false, false, false, false, false, false, false, false, false, false, false, false, false, false, false] rfl rfl (by kernel_rfl) (fun _ _ _ h => h) (Or.inl ⟨by rfl, ?_⟩) ?_ ?_
  rotate_left
  · intro w'
    go_simp
    with_reducible rfl
  rotate_left
  · simp only [Act.put, List.setIfInBounds_toArray, List.set_cons_zero, List.set_cons_succ, i64_w, i32_w]
    rfl
  refine pure_ (i := 4) (N := some 8) (v := ?_) (a' := ?_) #[true, true, true, true, true, false, false, false, false, false, false, false, false, false, false, false, false, false, false, false, false, false, false, false, false, false, false, false] rfl rfl (by kernel_rfl) (fun _ _ _ h => h) (Or.inl ⟨by rfl, ?_⟩) ?_ ?_
  rotate_left
  · intro w'
    go_simp
    with_reducible rfl
  rotate_left
  · simp only [Act.put, List.setIfInBounds_toArray, List.set_cons_zero, List.set_cons_succ, i64_w, i32_w]
    rfl
  refine pure_ (i := 6) (N := some 10) (v := ?_) (a' := ?_) #[true, true, true, true, true, false, true, false, false, false, false, false, false, false, false, false, false, false, false, false, false, false, false, false, false, false, false, false] rfl rfl (by kernel_rfl) (fun _ _ _ h => h) (Or.inl ⟨by rfl, ?_⟩) ?_ ?_
  rotate_left
  · intro w'
    go_simp
    with_reducible rfl
  rotate_left
  · simp only [Act.put, List.setIfInBounds_toArray, List.set_cons_zero, List.set_cons_succ, i64_w, i32_w]
    rfl
  refine pure_ (i := 7) (N := some 11) (v := ?_) (a' := ?_) #[true, true, true, true, true, false, true, true, false, false, false, false, false, false, false, false, false, false, false, false, false, false, false, false, false, false, false, false] rfl rfl (by kernel_rfl) (fun _ _ _ h => h) (Or.inl ⟨by rfl, ?_⟩) ?_ ?_
  rotate_left
  · intro w'
    go_simp
    with_reducible rfl
  rotate_left
  · simp only [Act.put, List.setIfInBounds_toArray, List.set_cons_zero, List.set_cons_succ, i64_w, i32_w]
    rfl
  refine pure_ (i := 8) (N := some 12) (v := ?_) (a' := ?_) #[true, true, true, true, true, false, true, true, true, false, false, false, false, false, false, false, false, false, false, false, false, false, false, false, false, false, false, false] rfl rfl (by kernel_rfl) (fun _ _ _ h => h) (Or.inl ⟨by rfl, ?_⟩) ?_ ?_
  rotate_left
  · intro w'
    go_simp
    with_reducible rfl
  rotate_left
  · simp only [Act.put, List.setIfInBounds_toArray, List.set_cons_zero, List.set_cons_succ, i64_w, i32_w]
    rfl
  refine pure_ (i := 10) (N := some 14) (v := ?_) (a' := ?_) #[true, true, true, true, true, false, true, true, true, false, true, false, false, false, false, false, false, false, false, false, false, false, false, false, false, false, false, false] rfl rfl (by kernel_rfl) (fun _ _ _ h => h) (Or.inl ⟨by rfl, ?_⟩) ?_ ?_
  rotate_left
  · intro w'
    go_simp
    with_reducible rfl
  rotate_left
  · simp only [Act.put, List.setIfInBounds_toArray, List.set_cons_zero, List.set_cons_succ, i64_w, i32_w]
    rfl
  refine pure_ (i := 12) (N := some 16) (v := ?_) (a' := ?_) #[true, true, true, true, true, false, true, true, true, false, true, false, true, false, false, false, false, false, false, false, false, false, false, false, false, false, false, false] rfl rfl (by kernel_rfl) (fun _ _ _ h => h) (Or.inl ⟨by rfl, ?_⟩) ?_ ?_
  rotate_left
  · intro w'
    go_simp
    with_reducible rfl
  rotate_left
  · simp only [Act.put, List.setIfInBounds_toArray, List.set_cons_zero, List.set_cons_succ, i64_w, i32_w]
    rfl
  refine pure_ (i := 13) (N := some 17) (v := ?_) (a' := ?_) #[true, true, true, true, true, false, true, true, true, false, true, false, true, true, false, false, false, false, false, false, false, false, false, false, false, false, false, false] rfl rfl (by kernel_rfl) (fun _ _ _ h => h) (Or.inl ⟨by rfl, ?_⟩) ?_ ?_
  rotate_left
  · intro w'
    go_simp
    with_reducible rfl
  rotate_left
  · simp only [Act.put, List.setIfInBounds_toArray, List.set_cons_zero, List.set_cons_succ, i64_w, i32_w]
    rfl
  refine pure_ (i := 14) (N := some 18) (v := ?_) (a' := ?_) #[true, true, true, true, true, false, true, true, true, false, true, false, true, true, true, false, false, false, false, false, false, false, false, false, false, false, false, false] rfl rfl (by kernel_rfl) (fun _ _ _ h => h) (Or.inl ⟨by rfl, ?_⟩) ?_ ?_
  rotate_left
  · intro w'
    go_simp
    with_reducible rfl
  rotate_left
  · simp only [Act.put, List.setIfInBounds_toArray, List.set_cons_zero, List.set_cons_succ, i64_w, i32_w]
    rfl
  refine pure_ (i := 15) (N := some 19) (v := ?_) (a' := ?_) #[true, true, true, true, true, false, true, true, true, false, true, false, true, true, true, true, false, false, false, false, false, false, false, false, false, false, false, false] rfl rfl (by kernel_rfl) (fun _ _ _ h => h) (Or.inl ⟨by rfl, ?_⟩) ?_ ?_
  rotate_left
  · intro w'
    go_simp
    with_reducible rfl
  rotate_left
  · simp only [Act.put, List.setIfInBounds_toArray, List.set_cons_zero, List.set_cons_succ, i64_w, i32_w]
    rfl
  refine take_ (i := 5) (N := some 9) (v := ?_) (a' := ?_) #[true, true, true, true, true, true, true, true, true, false, true, false, true, true, true, true, false, false, false, false, false, false, false, false, false, false, false, false] rfl rfl (by kernel_rfl) (fun _ _ _ h => h) (Or.inl ⟨by rfl, ?_⟩) hHeld ?_ ?_
  rotate_left
  · rintro w' ⟨s0, s1, s2, s3⟩
    go_simp
    with_reducible rfl
  rotate_left
  · simp only [Act.put, List.setIfInBounds_toArray, List.set_cons_zero, List.set_cons_succ, i64_w, i32_w]
    rfl
  refine take_ (i := 9) (N := some 13) (v := ?_) (a' := ?_) #[true, true, true, true, true, true, true, true, true, true, true, false, true, true, true, true, false, false, false, false, false, false, false, false, false, false, false, false] rfl rfl (by kernel_rfl) (fun _ _ _ h => h) (Or.inl ⟨by rfl, ?_⟩) hHeld ?_ ?_
  rotate_left
  · rintro w' ⟨s0, s1, s2, s3⟩
    go_simp
    with_reducible rfl
  rotate_left
  · simp only [Act.put, List.setIfInBounds_toArray, List.set_cons_zero, List.set_cons_succ, i64_w, i32_w]
    rfl
  refine take_ (i := 11) (N := some 15) (v := ?_) (a' := ?_) #[true, true, true, true, true, true, true, true, true, true, true, true, true, true, true, true, false, false, false, false, false, false, false, false, false, false, false, false] rfl rfl (by kernel_rfl) (fun _ _ _ h => h) (Or.inl ⟨by rfl, ?_⟩) hHeld ?_ ?_
  rotate_left
  · rintro w' ⟨s0, s1, s2, s3⟩
    go_simp
    with_reducible rfl
  rotate_left
  · simp only [Act.put, List.setIfInBounds_toArray, List.set_cons_zero, List.set_cons_succ, i64_w, i32_w]
    rfl
  refine take_ (i := 16) (N := some 20) (v := ?_) (a' := ?_) #[true, true, true, true, true, true, true, true, true, true, true, true, true, true, true, true, true, false, false, false, false, false, false, false, false, false, false, false] rfl rfl (by kernel_rfl) (fun _ _ _ h => h) (Or.inl ⟨by rfl, ?_⟩) hHeld ?_ ?_
  rotate_left
  · rintro w' ⟨s0, s1, s2, s3⟩
    go_simp
    with_reducible rfl
  rotate_left
  · simp only [Act.put, List.setIfInBounds_toArray, List.set_cons_zero, List.set_cons_succ, i64_w, i32_w]
    rfl
  refine pure_ (i := 17) (N := some 21) (v := ?_) (a' := ?_) #[true, true, true, true, true, true, true, true, true, true, true, true, true, true, true, true, true, true, false, false, false, false, false, false, false, false, false, false] rfl rfl (by kernel_rfl) (fun _ _ _ h => h) (Or.inl ⟨by rfl, ?_⟩) ?_ ?_
  rotate_left
  · intro w'
    go_simp
    with_reducible rfl
  rotate_left
  · simp only [Act.put, List.setIfInBounds_toArray, List.set_cons_zero, List.set_cons_succ, i64_w, i32_w]
    rfl
  refine pure_ (i := 18) (N := some 22) (v := ?_) (a' := ?_) #[true, true, true, true, true, true, true, true, true, true, true, true, true, true, true, true, true, true, true, false, false, false, false, false, false, false, false, false] rfl rfl (by kernel_rfl) (fun _ _ _ h => h) (Or.inl ⟨by rfl, ?_⟩) ?_ ?_
  rotate_left
  · intro w'
    go_simp
    with_reducible rfl
  rotate_left
  · simp only [Act.put, List.setIfInBounds_toArray, List.set_cons_zero, List.set_cons_succ, i64_w, i32_w]
    rfl
  refine pure_ (i := 19) (N := some 23) (v := ?_) (a' := ?_) #[true, true, true, true, true, true, true, true, true, true, true, true, true, true, true, true, true, true, true, true, false, false, false, false, false, false, false, false] rfl rfl (by kernel_rfl) (fun _ _ _ h => h) (Or.inl ⟨by rfl, ?_⟩) ?_ ?_
  rotate_left
  · intro w'
    go_simp
    with_reducible rfl
  rotate_left
  · simp only [Act.put, List.setIfInBounds_toArray, List.set_cons_zero, List.set_cons_succ, i64_w, i32_w]
    rfl
  refine pure_ (i := 20) (N := some 24) (v := ?_) (a' := ?_) #[true, true, true, true, true, true, true, true, true, true, true, true, true, true, true, true, true, true, true, true, true, false, false, false, false, false, false, false] rfl rfl (by kernel_rfl) (fun _ _ _ h => h) (Or.inl ⟨by rfl, ?_⟩) ?_ ?_
  rotate_left
  · intro w'
    go_simp
    with_reducible rfl
  rotate_left
  · simp only [Act.put, List.setIfInBounds_toArray, List.set_cons_zero, List.set_cons_succ, i64_w, i32_w]
    rfl
  refine pure_ (i := 21) (N := some 25) (v := ?_) (a' := ?_) #[true, true, true, true, true, true, true, true, true, true, true, true, true, true, true, true, true, true, true, true, true, true, false, false, false, false, false, false] rfl rfl (by kernel_rfl) (fun _ _ _ h => h) (Or.inl ⟨by rfl, ?_⟩) ?_ ?_
  rotate_left
  · intro w'
    go_simp
    with_reducible rfl
  rotate_left
  · simp only [Act.put, List.setIfInBounds_toArray, List.set_cons_zero, List.set_cons_succ, i64_w, i32_w]
    rfl
  refine one_ (i := 22) (N := some 26) #[true, true, true, true, true, true, true, true, true, true, true, true, true, true, true, true, true, true, true, true, true, true, true, false, false, false, false, false] rfl rfl (by kernel_rfl) (by decide) (fun K hK => ?_)
  refine value_ (w1 := ?_) (v := ?_) (by rfl) rfl ?_ ?_
  rotate_left 2
  · go_simp
    constructor
    · rfl
    · rfl
  refine hK.out _ _ ⟨(Keep.out _ ((Kp.refl _ w).below (below_alloc (below_drew1 (Below.refl _ _)) _))).1, (Keep.out _ ((Kp.refl _ w).below (below_alloc (below_drew1 (Below.refl _ _)) _))).2.1, (Keep.out _ ((Kp.refl _ w).below (below_alloc (below_drew1 (Below.refl _ _)) _))).2.2.1, (Keep.out _ ((Kp.refl _ w).below (below_alloc (below_drew1 (Below.refl _ _)) _))).2.2.2⟩ (fun hHeld => ?_)
  clear hK K
  refine norm_ (a' := ?_) ?_ ?_
  rotate_left
  · show Act.put _ (some 26) _ = _
    simp only [Act.put, List.setIfInBounds_toArray, List.set_cons_zero, List.set_cons_succ, i64_w, i32_w]
    rfl
  refine one_ (i := 23) (N := some 27) #[true, true, true, true, true, true, true, true, true, true, true, true, true, true, true, true, true, true, true, true, true, true, true, true, false, false, false, false] rfl rfl (by kernel_rfl) (by decide) (fun K hK => ?_)
  refine R_append_drew k45 (w0 := w0) (W := w) w0.heap.size (.tmp 9) (.tmp 26) 26 45 (.agg #[.int .u16 0, .int .u8 0, .int .u8 0, .int .u32 0]) 8 (by rfl) (by rfl) hu info45 rfl (by decide) (by decide) (.slice Ac code.length cc) code (jaI (PL tt) code.length) [.int .u16 5, .int .u8 0, .int .u8 0, .int .u32 (jaI (PL tt) code.length).f3] (by rfl) (by rfl) (k45_mkM _ _ _ (jaI (PL tt) code.length)) HH.out.code HH.out.me.below HH.out.me.below.size hn ?_
  intro v1 w1 hR hB hG
  obtain ⟨A1, cc1, rfl⟩ := Kd.R_slice hR
  refine hK.out _ _ ⟨(Keep.out _ (((Kp.refl _ w).below (below_drew1 (Below.refl _ _))).grown hG (fun b hb => .inl hb.symm))).1, (Keep.out _ (((Kp.refl _ w).below (below_drew1 (Below.refl _ _))).grown hG (fun b hb => .inl hb.symm))).2.1, (Keep.out _ (((Kp.refl _ w).below (below_drew1 (Below.refl _ _))).grown hG (fun b hb => .inl hb.symm))).2.2.1, (Keep.out _ (((Kp.refl _ w).below (below_drew1 (Below.refl _ _))).grown hG (fun b hb => .inl hb.symm))).2.2.2⟩ (fun hHeld => ?_)
  clear hK K
  refine norm_ (a' := ?_) ?_ ?_
  rotate_left
  · show Act.put _ (some 27) _ = _
    simp only [Act.put, List.setIfInBounds_toArray, List.set_cons_zero, List.set_cons_succ, i64_w, i32_w]
    rfl
  refine pure_ (i := 24) (N := some 28) (v := ?_) (a' := ?_) #[true, true, true, true, true, true, true, true, true, true, true, true, true, true, true, true, true, true, true, true, true, true, true, true, true, false, false, false] rfl rfl (by kernel_rfl) (fun _ _ _ h => h) (Or.inl ⟨by rfl, ?_⟩) ?_ ?_
  rotate_left
  · intro w'
    go_simp
    with_reducible rfl
  rotate_left
  · simp only [Act.put, List.setIfInBounds_toArray, List.set_cons_zero, List.set_cons_succ, i64_w, i32_w]
    rfl
  refine pure_ (i := 25) (N := some 29) (v := ?_) (a' := ?_) #[true, true, true, true, true, true, true, true, true, true, true, true, true, true, true, true, true, true, true, true, true, true, true, true, true, true, false, false] rfl rfl (by kernel_rfl) (fun _ _ _ h => h) (Or.inl ⟨by rfl, ?_⟩) ?_ ?_
  rotate_left
  · intro w'
    go_simp
    with_reducible rfl
  rotate_left
  · simp only [Act.put, List.setIfInBounds_toArray, List.set_cons_zero, List.set_cons_succ, i64_w, i32_w]
    rfl
  refine pure_ (i := 26) (N := some 30) (v := ?_) (a' := ?_) #[true, true, true, true, true, true, true, true, true, true, true, true, true, true, true, true, true, true, true, true, true, true, true, true, true, true, true, false] rfl rfl (by kernel_rfl) (fun _ _ _ h => h) (Or.inl ⟨by rfl, ?_⟩) ?_ ?_
  rotate_left
  · intro w'
    go_simp
    with_reducible rfl
  rotate_left
  · simp only [Act.put, List.setIfInBounds_toArray, List.set_cons_zero, List.set_cons_succ, i64_w, i32_w]
    rfl
  refine last_ (i := 27) (N := none) #[true, true, true, true, true, true, true, true, true, true, true, true, true, true, true, true, true, true, true, true, true, true, true, true, true, true, true, true] rfl rfl (by kernel_rfl) (by decide) (fun K hK => ?_)
  refine skip_ (w1 := ?_) (by rfl) rfl ?_ ?_
  rotate_left
  · go_simp
    rfl
  refine hK.out _ _ ?_
  clear hK K
  refine done_ (by kernel_rfl) ?_
  go_wp2
  go_end0
  have kp1 : Kp (fun k => k = B ∨ some k = (Value.slice Ac code.length cc).ownBlock) w w1 := (((Kp.refl (fun k => k = B ∨ some k = (Value.slice Ac code.length cc).ownBlock) w).below (below_drew1 (Below.refl _ _))).grown hG (fun b hb => .inl (.inr hb.symm)))
  have hb1 : w1.heap[B]? = _ := (((Kp.refl (fun k => some k = (Value.slice Ac code.length cc).ownBlock) w).below (below_drew1 (Below.refl _ _))).grown hG (fun b hb => .inl hb.symm)).block B hBl (Kd.R_ne HH.out.code HH.out.me.blk (by decide))
  have hb2 := hb1.trans HH.out.me.blk
  exact ⟨rfl, _, HH.out.wrote (kp1.set (.inl (.inl rfl)) 0 _) (blk_put hb2 0 _ rfl) (by have := Kd.R_set hR hb2 (by decide) 0 (.slice A1 (code.length + 1) cc1); rw [List.length_append, List.length_singleton] at this; exact this), kp1.set (.inl (.inl rfl)) 0 _⟩
end Go.Proofs.Ytdkalnkplgfgoaa.Ln
