/- Lemmas and walks for the statements of the texts ZDZ..: the declarations that they need, taken together by a program of this session. Conditions: as each says. -/
import Derived.Test.YtdkalnkplgfgoaaZDa
import Derived.Test.YtdkalnkplgfgoaaZDb
import Derived.Test.YtdkalnkplgfgoaaZDc
import Derived.Test.YtdkalnkplgfgoaaZDe
set_option maxHeartbeats 8000000
set_option maxRecDepth 100000
set_option linter.unusedVariables false
set_option linter.unusedSimpArgs false
namespace Go.Proofs.Ytdkalnkplgfgoaa.Ln
open Go.RowKit Go.Maps Go.Proofs.YtdkalnkplgfgoaaW.PrintWords Go.Proofs.YtdkalnkplgfgoaaW.PrintLast Go.Proofs.YtdkalnkplgfgoaaW.PrintMore Go.Proofs.Ytdkalnkplgfgoaa.PA
def mkC (b : S47) (c : List Bool) : List Bool := if b.f1 = 1 then c else if b.f1 = 3 then (c.set b.f3.toNat true).set b.f4.toNat true else c.set b.f3.toNat true
def cmF : List S47 → Nat → List Bool → List Bool
 | [], _, c => c
 | b :: r, n, c => cmF r (n + 1) (if c.getD n false = true then mkC b c else c)
def fV (g : List S47) (first : Nat) : List Bool := cmF g 0 ((List.replicate g.length false).set first true)
def cB (c : List Bool) : Nat → Nat
 | 0 => 0
 | j + 1 => cB c j + (if c.getD j false = true then 1 else 0)
def gN (c : List Bool) (b : S47) : S47 := ⟨b.f0, b.f1, b.f2, if b.f1 = 1 then b.f3 else (cB c b.f3.toNat : Int), if b.f1 = 3 then (cB c b.f4.toNat : Int) else b.f4⟩
def dpL (c : List Bool) : List S47 → Nat → List S47
 | [], _ => []
 | b :: r, n => if c.getD n false = true then gN c b :: dpL c r (n + 1) else dpL c r (n + 1)
def iT (g : List S47) : List S47 × Bool :=
 if cB (fV g (onG g 0)) g.length = g.length then (g, false) else (dpL (fV g (onG g 0)) g 0, true)
theorem Al (b : S47) (c : List Bool) : (mkC b c).length = c.length := by
 unfold mkC; split; rfl; split <;> simp
theorem yH : ∀ (l : List S47) (n : Nat) (c : List Bool), (cmF l n c).length = c.length := by
 intro l
 induction l with
 | nil => intro n c; rfl
 | cons b r ih =>
  intro n c
  unfold cmF
  rw [ih]
  split
  · exact Al b c
  rfl
theorem wm {c : List Bool} {i j : Nat} (h : c.getD j false = true) : (c.set i true).getD j false = true := by
 by_cases hi : i < c.length
 · rw [dM hi]; split
   · rfl
   exact h
 rw [List.set_eq_of_length_le (by omega)]; exact h
theorem mI {c : List Bool} {i j : Nat} (h : i ≠ j) : (c.set i true).getD j false = c.getD j false := by
 by_cases hi : i < c.length
 · rw [dM hi, if_neg h]
 rw [List.set_eq_of_length_le (by omega)]
theorem mk_t {b : S47} {c : List Bool} {j : Nat} (h : c.getD j false = true) : (mkC b c).getD j false = true := by
 unfold mkC; split
 · exact h
 split
 · exact wm (wm h)
 exact wm h
theorem mk_o {b : S47} {i : Nat} {n : Int} (h : BOk b i n) {c : List Bool} {j : Nat} (hj : j ≤ i) : (mkC b c).getD j false = c.getD j false := by
 unfold mkC
 by_cases e1 : b.f1 = 1
 · rw [if_pos e1]
 rw [if_neg e1]
 have hy := bu h.goal e1
 by_cases e3 : b.f1 = 3
 · rw [if_pos e3]
   have hn := dG h.goal e3
   rw [mI (by omega), mI (by omega)]
 rw [if_neg e3, mI (by omega)]
theorem cm_t : ∀ (l : List S47) (n : Nat) (c : List Bool) (j : Nat), c.getD j false = true → (cmF l n c).getD j false = true := by
 intro l
 induction l with
 | nil => intro n c j h; exact h
 | cons b r ih =>
  intro n c j h
  unfold cmF
  refine ih _ _ _ ?_
  split
  · exact mk_t h
  exact h
theorem cm_o (L : Int) : ∀ (l : List S47) (n : Nat) (c : List Bool), (∀ (j : Nat) (b : S47), l[j]? = some b → BOk b ((n + j : Nat) : Int) L) → ∀ j, j ≤ n → (cmF l n c).getD j false = c.getD j false := by
 intro l
 induction l with
 | nil => intro n c _ j h; rfl
 | cons b r ih =>
  intro n c hb j h
  have hb0 : BOk b ((n : Nat) : Int) L := hb 0 b rfl
  have hr : ∀ (j : Nat) (b : S47), r[j]? = some b → BOk b ((n + 1 + j : Nat) : Int) L := fun j c hc => by
   have := hb (j + 1) c hc
   rw [show n + 1 + j = n + (j + 1) by omega]; exact this
  unfold cmF
  rw [ih (n + 1) _ hr j (by omega)]
  split
  · exact mk_o hb0 h
  rfl
theorem yI (L : Int) (m : Nat) : ∀ (l : List S47) (n : Nat) (c : List Bool), (∀ (j : Nat) (b : S47), l[j]? = some b → BOk b ((n + j : Nat) : Int) L) → (∀ j, j < m → c.getD j false = false) → ∀ j, j < m → (cmF l n c).getD j false = false := by
 intro l
 induction l with
 | nil => intro n c _ h; exact h
 | cons b r ih =>
  intro n c hb h
  have hb0 : BOk b ((n : Nat) : Int) L := hb 0 b rfl
  have hr : ∀ (j : Nat) (b : S47), r[j]? = some b → BOk b ((n + 1 + j : Nat) : Int) L := fun j c hc => by
   have := hb (j + 1) c hc
   rw [show n + 1 + j = n + (j + 1) by omega]; exact this
  unfold cmF
  refine ih (n + 1) _ hr ?_
  intro j hj
  by_cases q : c.getD n false = true
  · rw [if_pos q]
    have hmn : m ≤ n := by
     refine Nat.le_of_not_lt fun hlt => ?_
     rw [h n hlt] at q; cases q
    rw [mk_o hb0 (by omega)]
    exact h j hj
  rw [if_neg q]; exact h j hj
theorem cm_cl (L : Nat) : ∀ (l : List S47) (n : Nat) (c : List Bool), (∀ (j : Nat) (b : S47), l[j]? = some b → BOk b ((n + j : Nat) : Int) L) → c.length = L →
 ∀ (j : Nat) (b : S47), l[j]? = some b → (cmF l n c).getD (n + j) false = true → (b.f1 ≠ 1 → (cmF l n c).getD b.f3.toNat false = true) ∧ (b.f1 = 3 → (cmF l n c).getD b.f4.toNat false = true) := by
 intro l
 induction l with
 | nil => intro n c _ _ j b h; simp at h
 | cons b0 r ih =>
  intro n c hb hc j b h hin
  have hb0 : BOk b0 ((n : Nat) : Int) L := hb 0 b0 rfl
  have hr : ∀ (j : Nat) (b : S47), r[j]? = some b → BOk b ((n + 1 + j : Nat) : Int) L := fun j c hc => by
   have := hb (j + 1) c hc
   rw [show n + 1 + j = n + (j + 1) by omega]; exact this
  cases j with
  | zero =>
   cases h
   have e := cm_o L (b0 :: r) n c hb n (Nat.le_refl n)
   rw [Nat.add_zero, e] at hin
   unfold cmF
   rw [if_pos hin]
   refine ⟨fun h1 => cm_t _ _ _ _ ?_, fun h3 => cm_t _ _ _ _ ?_⟩
   · have hy := bu hb0.goal h1
     unfold mkC
     rw [if_neg h1]
     have e1 : (c.set b0.f3.toNat true).getD b0.f3.toNat false = true := by rw [dM (by omega), if_pos rfl]
     split
     · exact wm e1
     exact e1
   have hn := dG hb0.goal h3
   unfold mkC
   rw [if_neg (by omega), if_pos h3, dM (by rw [List.length_set]; omega), if_pos rfl]
  | succ j =>
   unfold cmF at hin ⊢
   have := ih (n + 1) (if c.getD n false = true then mkC b0 c else c) hr (by split; rw [Al]; exact hc; exact hc) j b h
   rw [show n + 1 + j = n + (j + 1) by omega] at this
   exact this hin
theorem num_le (c : List Bool) : ∀ (d j : Nat), cB c j ≤ cB c (j + d) ∧ cB c (j + d) ≤ cB c j + d := by
 intro d
 induction d with
 | zero => intro j; exact ⟨Nat.le_refl _, Nat.le_refl _⟩
 | succ d ih =>
  intro j
  have := ih j
  show cB c j ≤ cB c (j + d) + _ ∧ cB c (j + d) + _ ≤ _
  split <;> omega
theorem iV {c : List Bool} {i j : Nat} (h : i ≤ j) : cB c i ≤ cB c j ∧ cB c j ≤ cB c i + (j - i) := by
 obtain ⟨d, rfl⟩ : ∃ d, j = i + d := ⟨j - i, by omega⟩
 have := num_le c d i
 omega
theorem kW {c : List Bool} {i j : Nat} (h : i < j) (hc : c.getD i false = true) : cB c i < cB c j := by
 have h1 := (iV (c := c) (i := i + 1) (j := j) h).1
 have : cB c (i + 1) = cB c i + 1 := by show cB c i + _ = _; rw [if_pos hc]
 omega
theorem num_z {c : List Bool} : ∀ {m : Nat}, (∀ j, j < m → c.getD j false = false) → cB c m = 0 := by
 intro m
 induction m with
 | zero => intro _; rfl
 | succ m ih =>
  intro h
  show cB c m + _ = 0
  rw [ih (fun j hj => h j (by omega)), h m (by omega)]; rfl
theorem mY {c : List Bool} {b : S47} {r : List S47} {n : Nat} (q : c.getD n false = true) : dpL c (b :: r) n = gN c b :: dpL c r (n + 1) := by
 show (if c.getD n false = true then _ else _) = _
 rw [if_pos q]
theorem sS {c : List Bool} {b : S47} {r : List S47} {n : Nat} (q : ¬ c.getD n false = true) : dpL c (b :: r) n = dpL c r (n + 1) := by
 show (if c.getD n false = true then _ else _) = _
 rw [if_neg q]
theorem mD {c : List Bool} {n : Nat} (q : c.getD n false = true) : cB c (n + 1) = cB c n + 1 := by
 show cB c n + _ = _; rw [if_pos q]
theorem nk {c : List Bool} {n : Nat} (q : ¬ c.getD n false = true) : cB c (n + 1) = cB c n := by
 show cB c n + _ = _; rw [if_neg q]; rfl
theorem db1 {c : List Bool} {b : S47} (h : b.f1 = 1) : gN c b = b := by
 unfold gN; rw [if_pos h, if_neg (by omega)]
theorem db2 {c : List Bool} {b : S47} (h : b.f1 = 2) : gN c b = ⟨b.f0, b.f1, b.f2, (cB c b.f3.toNat : Int), b.f4⟩ := by
 unfold gN; rw [if_neg (show ¬ b.f1 = 1 by omega), if_neg (show ¬ b.f1 = 3 by omega)]
theorem db3 {c : List Bool} {b : S47} (h : b.f1 = 3) : gN c b = ⟨b.f0, b.f1, b.f2, (cB c b.f3.toNat : Int), (cB c b.f4.toNat : Int)⟩ := by
 unfold gN; rw [if_neg (show ¬ b.f1 = 1 by omega), if_pos h]
theorem dp_get (c : List Bool) : ∀ (l : List S47) (n j : Nat) (b : S47), l[j]? = some b → c.getD (n + j) false = true → (dpL c l n)[cB c (n + j) - cB c n]? = some (gN c b) := by
 intro l
 induction l with
 | nil => intro n j b h; simp at h
 | cons b0 r ih =>
  intro n j b h hc
  cases j with
  | zero =>
   cases h
   have hc' : c.getD n false = true := hc
   rw [mY hc']
   show (gN c b0 :: _)[cB c n - cB c n]? = _
   rw [Nat.sub_self]; rfl
  | succ j =>
   have h2 := ih (n + 1) j b h (by rw [show n + 1 + j = n + (j + 1) by omega]; exact hc)
   rw [show n + 1 + j = n + (j + 1) by omega] at h2
   have hm := (iV (c := c) (i := n + 1) (j := n + (j + 1)) (by omega)).1
   by_cases q : c.getD n false = true
   · have e := mD q
     rw [mY q, show cB c (n + (j + 1)) - cB c n = (cB c (n + (j + 1)) - cB c (n + 1)) + 1 by omega]
     exact h2
   rw [sS q, ← nk q]; exact h2
theorem dp_at (c : List Bool) : ∀ (l : List S47) (n k : Nat) (b' : S47), (dpL c l n)[k]? = some b' → ∃ j b, l[j]? = some b ∧ c.getD (n + j) false = true ∧ b' = gN c b ∧ cB c (n + j) = cB c n + k := by
 intro l
 induction l with
 | nil => intro n k b' h; simp [dpL] at h
 | cons b0 r ih =>
  intro n k b' h
  by_cases q : c.getD n false = true
  · have e := mD q
    rw [mY q] at h
    cases k with
    | zero => exact ⟨0, b0, rfl, q, (Option.some.inj h).symm, rfl⟩
    | succ k =>
     obtain ⟨j, b, h1, h2, h3, h4⟩ := ih (n + 1) k b' h
     rw [show n + 1 + j = n + (j + 1) by omega] at h2 h4
     exact ⟨j + 1, b, h1, h2, h3, by omega⟩
  have e := nk q
  rw [sS q] at h
  obtain ⟨j, b, h1, h2, h3, h4⟩ := ih (n + 1) k b' h
  rw [show n + 1 + j = n + (j + 1) by omega] at h2 h4
  exact ⟨j + 1, b, h1, h2, h3, by omega⟩
theorem yS (c : List Bool) : ∀ (l : List S47) (n : Nat), (dpL c l n).length + cB c n = cB c (n + l.length) := by
 intro l
 induction l with
 | nil => intro n; exact Nat.zero_add _
 | cons b r ih =>
  intro n
  have := ih (n + 1)
  rw [show n + 1 + r.length = n + (b :: r).length by rw [List.length_cons]; omega] at this
  by_cases q : c.getD n false = true
  · have e := mD q
    rw [mY q, List.length_cons]; omega
  have e := nk q
  rw [sS q]; omega
theorem rC (c : List Bool) (F G : S47 → Nat) (one : Nat) (h1 : ∀ b, one ≤ G b) : ∀ (l : List S47) (n : Nat), (∀ (j : Nat) (b : S47), l[j]? = some b → c.getD (n + j) false = true → F (gN c b) ≤ G b) →
 ((dpL c l n).map F).sum + one * l.length + one * cB c n ≤ (l.map G).sum + one * cB c (n + l.length) := by
 intro l
 induction l with
 | nil => intro n _; simp [dpL]
 | cons b r ih =>
  intro n h
  have i1 := ih (n + 1) (fun j b hb hc => h (j + 1) b hb (by rw [show n + (j + 1) = n + 1 + j by omega]; exact hc))
  rw [show n + 1 + r.length = n + (b :: r).length by rw [List.length_cons]; omega] at i1
  have e1 : one * (b :: r).length = one * r.length + one := by rw [List.length_cons, Nat.mul_add, Nat.mul_one]
  have hg := h1 b
  rw [e1, List.map_cons, List.sum_cons]
  by_cases q : c.getD n false = true
  · have h0 := h 0 b rfl q
    rw [mD q, Nat.mul_add, Nat.mul_one] at i1
    rw [mY q, List.map_cons, List.sum_cons]
    omega
  rw [nk q] at i1
  rw [sS q]
  omega
theorem on_rn {g : List S47} {pk : List Int} : ∀ (k : Nat) {j : Nat} {M : bF} {v f : Int} {t : Nat}, Rn g pk j M v f t → Rn g pk (onF g k j) M v f t := by
 intro k
 induction k with
 | zero => intro j M v f t h; exact h
 | succ k ih =>
  intro j M v f t h
  unfold onF
  cases hb : g[j]? with
  | none => exact h
  | some b =>
   dsimp only
   by_cases q : fC b = true
   · rw [if_pos q]
     refine ih ?_
     have e := lZ (pk := pk) (M := M) q
     cases h with
     | fin hb' e' => rw [hb] at hb'; cases hb'; rw [e] at e'; cases e'
     | go hb' e' hr =>
      rw [hb] at hb'; cases hb'
      rw [e] at e'
      injection e' with a1 a2 a3
      subst a1 a2 a3
      rw [Nat.zero_add]; exact hr
   rw [if_neg q]; exact h
theorem jU {g : List S47} (hg : GOk g) : jy g (iT g).1 (iT g).2 := by
 have hb0 : ∀ (j : Nat) (b : S47), g[j]? = some b → BOk b ((0 + j : Nat) : Int) g.length := fun j b h => by rw [Nat.zero_add]; exact hg.all j b h
 unfold iT
 by_cases q : cB (fV g (onG g 0)) g.length = g.length
 · rw [if_pos q]
   exact ⟨hg, fun pk v f t h => ⟨t, Nat.le_refl _, h⟩, Nat.le_refl _, Nat.le_refl _, (fun h => by cases h), fun _ => rfl⟩
 rw [if_neg q]
 have hfirst : onG g 0 < g.length := (nQ hg g.length 0 hg.some_).2
 have hcl := cm_cl g.length g 0 ((List.replicate g.length false).set (onG g 0) true) hb0 (by rw [List.length_set, List.length_replicate])
 have hlow := yI g.length (onG g 0) g 0 ((List.replicate g.length false).set (onG g 0) true) hb0 (fun j hj => by
  rw [mI (by omega), List.getD_eq_getElem?_getD, List.getElem?_replicate]; split <;> rfl)
 have hst : (fV g (onG g 0)).getD (onG g 0) false = true := cm_t _ _ _ _ (by rw [dM (by rw [List.length_replicate]; exact hfirst), if_pos rfl])
 change ∀ j b, g[j]? = some b → (fV g (onG g 0)).getD (0 + j) false = true → (b.f1 ≠ 1 → (fV g (onG g 0)).getD b.f3.toNat false = true) ∧ (b.f1 = 3 → (fV g (onG g 0)).getD b.f4.toNat false = true) at hcl
 change ∀ j, j < onG g 0 → (fV g (onG g 0)).getD j false = false at hlow
 generalize fV g (onG g 0) = c at *
 have hn0 : cB c (onG g 0) = 0 := num_z hlow
 have hlen : (dpL c g 0).length = cB c g.length := by have := yS c g 0; rw [Nat.zero_add] at this; exact this
 have hnl : cB c g.length ≤ g.length := by have := (iV (c := c) (Nat.zero_le g.length)).2; have e : cB c 0 = 0 := rfl; omega
 have hpos := kW hfirst hst
 have cl : ∀ (j : Nat) (b : S47), g[j]? = some b → c.getD j false = true → (b.f1 ≠ 1 → c.getD b.f3.toNat false = true) ∧ (b.f1 = 3 → c.getD b.f4.toNat false = true) := fun j b hb hj => hcl j b hb (by rw [Nat.zero_add]; exact hj)
 -- a block in its new place
 have bok : ∀ (j : Nat) (b : S47), g[j]? = some b → c.getD j false = true → BOk (gN c b) (cB c j) (cB c g.length) := by
  intro j b hb hj
  have hok := hg.all j b hb
  have hc := cl j b hb hj
  refine ⟨hok.code, ?_, ?_, hok.rg, hok.rl⟩
  · have he := hok.ends
    rcases dX hok.ends with ⟨h1, _⟩ | ⟨h1, _⟩ | ⟨h1, _⟩
    · rw [db1 h1]; exact he
    · rw [db2 h1]
      unfold iU at he ⊢
      dsimp only
      rw [if_neg (show ¬ b.f1 = 1 by omega), if_pos h1] at he ⊢
      exact he
    rw [db3 h1]
    unfold iU at he ⊢
    dsimp only
    rw [if_neg (show ¬ b.f1 = 1 by omega), if_neg (show ¬ b.f1 = 2 by omega), if_pos h1] at he ⊢
    exact he
  rcases dX hok.ends with ⟨h1, _⟩ | ⟨h1, _⟩ | ⟨h1, _⟩
  · rw [db1 h1]
    unfold gI
    rw [decide_eq_true h1, decide_eq_false (show ¬ b.f1 = 3 by omega)]; rfl
  · have hy := bu hok.goal (by omega)
    have hyc := hc.1 (by omega)
    rw [db2 h1]
    unfold gI
    dsimp only
    have a1 := kW (c := c) (i := j) (j := b.f3.toNat) (by omega) hj
    have a2 := kW (c := c) (i := b.f3.toNat) (j := g.length) (by omega) hyc
    rw [decide_eq_true (show ((cB c j : Nat) : Int) < ((cB c b.f3.toNat : Nat) : Int) ∧ ((cB c b.f3.toNat : Nat) : Int) < ((cB c g.length : Nat) : Int) by omega), decide_eq_false (show ¬ b.f1 = 3 by omega), Bool.or_true]; rfl
  have hy := bu hok.goal (by omega)
  have hn := dG hok.goal h1
  have hyc := hc.1 (by omega)
  have hnc := hc.2 h1
  rw [db3 h1]
  unfold gI
  dsimp only
  have a1 := kW (c := c) (i := j) (j := b.f3.toNat) (by omega) hj
  have a2 := kW (c := c) (i := b.f3.toNat) (j := g.length) (by omega) hyc
  have a3 := kW (c := c) (i := j) (j := b.f4.toNat) (by omega) hj
  have a4 := kW (c := c) (i := b.f4.toNat) (j := g.length) (by omega) hnc
  rw [decide_eq_true (show ((cB c j : Nat) : Int) < ((cB c b.f3.toNat : Nat) : Int) ∧ ((cB c b.f3.toNat : Nat) : Int) < ((cB c g.length : Nat) : Int) by omega), decide_eq_true (show ((cB c j : Nat) : Int) < ((cB c b.f4.toNat : Nat) : Int) ∧ ((cB c b.f4.toNat : Nat) : Int) < ((cB c g.length : Nat) : Int) by omega), Bool.or_true, Bool.or_true]; rfl
 have get : ∀ (j : Nat) (b : S47), g[j]? = some b → c.getD j false = true → (dpL c g 0)[cB c j]? = some (gN c b) := by
  intro j b hb hj
  have := dp_get c g 0 j b hb (by rw [Nat.zero_add]; exact hj)
  rw [Nat.zero_add] at this
  exact this
 have hout : ∀ (pk : List Int) (j : Nat) (b : S47), g[j]? = some b → ∀ M, (∀ v f s, fF pk b M = .fin v f s → fF pk (gN c b) M = .fin v f s) ∧ (∀ j1 M1 s, fF pk b M = .go j1 M1 s → fF pk (gN c b) M = .go (cB c j1) M1 s) := by
  intro pk j b hb M
  have hok := hg.all j b hb
  unfold fF
  show (∀ v f s, _ → (if (bE pk b.f0 M).2.1 = 0 then fP (gN c b) (bE pk b.f0 M).1 (bE pk b.f0 M).2.2 else .fin 0 (bE pk b.f0 M).2.1 (bE pk b.f0 M).2.2) = _) ∧ (∀ j1 M1 s, _ → (if (bE pk b.f0 M).2.1 = 0 then fP (gN c b) (bE pk b.f0 M).1 (bE pk b.f0 M).2.2 else .fin 0 (bE pk b.f0 M).2.1 (bE pk b.f0 M).2.2) = _)
  by_cases h0 : (bE pk b.f0 M).2.1 = 0
  · rw [if_pos h0, if_pos h0]
    rcases dX hok.ends with ⟨h1, _⟩ | ⟨h1, _⟩ | ⟨h1, _⟩
    · rw [db1 h1]
      refine ⟨(fun v f s e => e), fun j1 M1 s e => ?_⟩
      unfold fP at e; rw [if_pos h1] at e; cases e
    · have E : ∀ M k, fP b M k = .go b.f3.toNat M k := fun M k => by unfold fP; rw [if_neg (show ¬ b.f1 = 1 by omega), if_pos h1]
      have E2 : ∀ M k, fP (gN c b) M k = .go (cB c b.f3.toNat) M k := fun M k => by
       rw [db2 h1]
       unfold fP
       dsimp only
       rw [if_neg (show ¬ b.f1 = 1 by omega), if_pos h1, Int.toNat_natCast]
      rw [E, E2]
      refine ⟨(fun v f s e => by cases e), fun j1 M1 s e => ?_⟩
      injection e with a1 a2 a3
      subst a1 a2 a3
      rfl
    have E : ∀ M k, fP b M k = .go (if hoP b.f2 M.a M.x = true then b.f3.toNat else b.f4.toNat) M (k + 1) := fun M k => by unfold fP; rw [if_neg (show ¬ b.f1 = 1 by omega), if_neg (show ¬ b.f1 = 2 by omega)]
    have E2 : ∀ M k, fP (gN c b) M k = .go (if hoP b.f2 M.a M.x = true then cB c b.f3.toNat else cB c b.f4.toNat) M (k + 1) := fun M k => by
     rw [db3 h1]
     unfold fP
     dsimp only
     rw [if_neg (show ¬ b.f1 = 1 by omega), if_neg (show ¬ b.f1 = 2 by omega), Int.toNat_natCast, Int.toNat_natCast]
    rw [E, E2]
    refine ⟨(fun v f s e => by cases e), fun j1 M1 s e => ?_⟩
    injection e with a1 a2 a3
    subst a1 a2 a3
    split <;> rfl
  rw [if_neg h0, if_neg h0]
  exact ⟨fun v f s e => e, fun j1 M1 s e => by cases e⟩
 have run : ∀ (pk : List Int) {j : Nat} {M : bF} {v f : Int} {t : Nat}, Rn g pk j M v f t → c.getD j false = true → Rn (dpL c g 0) pk (cB c j) M v f t := by
  intro pk j M v f t hr
  induction hr with
  | @fin j M b v f s hb e => intro hj; exact .fin (get j b hb hj) ((hout pk j b hb M).1 v f s e)
  | @go j M b j1 M1 s1 v f t1 hb e _ ih =>
   intro hj
   have hok := hg.all j b hb
   obtain ⟨_, _, _, _, q3⟩ := jZ hok (by omega) e
   have hc1 : c.getD j1 false = true := by
    have hc := cl j b hb hj
    rcases q3 with ⟨e2, ej, _⟩ | ⟨e3, ej, _⟩
    · have := hc.1 (by omega)
      rw [show j1 = b.f3.toNat by omega]; exact this
    have hy := hc.1 (by omega)
    have hn := hc.2 e3
    by_cases ho : hoP b.f2 M1.a M1.x = true
    · rw [if_pos ho] at ej; rw [show j1 = b.f3.toNat by omega]; exact hy
    rw [if_neg ho] at ej; rw [show j1 = b.f4.toNat by omega]; exact hn
   exact .go (get j b hb hj) ((hout pk j b hb M).2 j1 M1 s1 e) (ih hc1)
 have ph1 : ∀ b : S47, 1 ≤ phB g.length b := fun b => by unfold phB; omega
 have phw : ∀ (j : Nat) (b : S47), g[j]? = some b → c.getD (0 + j) false = true → phB (cB c g.length : Nat) (gN c b) ≤ phB g.length b := by
  intro j b hb hj
  have hok := hg.all j b hb
  show 1 + wC b.f0 + wE _ (gN c b) ≤ 1 + wC b.f0 + wE _ b
  have : wE (cB c g.length : Nat) (gN c b) ≤ wE g.length b := by
   rcases dX hok.ends with ⟨h1, _⟩ | ⟨h1, _⟩ | ⟨h1, _⟩
   · rw [db1 h1]
     unfold wE
     rw [if_pos h1, if_pos h1]; exact Nat.le_refl _
   · have hy := bu hok.goal (by omega)
     have := (iV (c := c) (i := b.f3.toNat) (j := g.length) (by omega)).2
     rw [db2 h1]
     unfold wE
     dsimp only
     rw [if_neg (show ¬ b.f1 = 1 by omega), if_pos h1, if_neg (show ¬ b.f1 = 1 by omega), if_pos h1]
     omega
   have hy := bu hok.goal (by omega)
   have hn := dG hok.goal h1
   have := (iV (c := c) (i := b.f3.toNat) (j := g.length) (by omega)).2
   have := (iV (c := c) (i := b.f4.toNat) (j := g.length) (by omega)).2
   rw [db3 h1]
   unfold wE
   dsimp only
   rw [if_neg (show ¬ b.f1 = 1 by omega), if_neg (show ¬ b.f1 = 2 by omega), if_neg (show ¬ b.f1 = 1 by omega), if_neg (show ¬ b.f1 = 2 by omega)]
   omega
  omega
 have sph := rC c (phB (cB c g.length : Nat)) (phB g.length) 1 ph1 g 0 phw
 have sms := rC c msB msB 0 (fun b => Nat.zero_le _) g 0 (fun j b _ _ => Nat.le_refl _)
 have ssz := rC c szB szB 0 (fun b => Nat.zero_le _) g 0 (fun j b _ _ => Nat.le_refl _)
 have sln := rC c (fun b => b.f0.length) (fun b => b.f0.length) 0 (fun b => Nat.zero_le _) g 0 (fun j b _ _ => Nat.le_refl _)
 rw [Nat.zero_add] at sph
 simp only [Nat.zero_mul, Nat.add_zero] at sms ssz sln
 have en : cB c 0 = 0 := rfl
 refine ⟨⟨by rw [hlen]; omega, by rw [hlen]; have := hg.few; omega, fun k b' h => ?_, Nat.le_trans sln hg.sum⟩, ?_, sms, ?_, ?_, fun h => by cases h⟩
 · obtain ⟨j, b, h1, h2, h3, h4⟩ := dp_at c g 0 k b' h
   rw [Nat.zero_add] at h2 h4
   rw [en, Nat.zero_add] at h4
   rw [hlen, h3, ← h4]
   exact bok j b h1 h2
 · intro pk v f t hr
   have := run pk (on_rn g.length hr) hst
   change Rn _ pk (cB c (onG g 0)) _ _ _ _ at this
   rw [hn0] at this
   exact ⟨t, Nat.le_refl _, this⟩
 · unfold phG; dsimp only; rw [hlen]; omega
 intro _; unfold phG; dsimp only; rw [hlen]; omega
def jR : S47 := ⟨[], 1, ⟨6, 0, 0, 0⟩, 0, 0⟩
def mgB (b nx : S47) : S47 := ⟨b.f0 ++ nx.f0, nx.f1, nx.f2, nx.f3, nx.f4⟩
def jn1 (g : List S47) (a y : Nat) (b nx : S47) : List S47 := (g.set a (mgB b nx)).set y jR
def cE (t : Nat) (b : S47) : Nat := (if b.f1 ≠ 1 ∧ b.f3.toNat = t then 1 else 0) + (if b.f1 = 3 ∧ b.f4.toNat = t then 1 else 0)
def jl (g : List S47) (t : Nat) : Nat := (g.map (cE t)).sum
theorem sD (f : S47 → Nat) : ∀ (g : List S47) (i : Nat) (b c : S47), g[i]? = some b → ((g.set i c).map f).sum + f b = (g.map f).sum + f c := by
 intro g
 induction g with
 | nil => intro i b c h; simp at h
 | cons a r ih =>
  intro i b c h
  cases i with
  | zero => cases h; simp only [List.set_cons_zero, List.map_cons, List.sum_cons]; omega
  | succ i =>
   have := ih i b c h
   simp only [List.set_cons_succ, List.map_cons, List.sum_cons]
   omega
theorem vR {g : List S47} {i j : Nat} {c : S47} : (g.set i c)[j]? = if i = j then (if i < g.length then some c else none) else g[j]? := by
 rw [List.getElem?_set]
theorem ja {g : List S47} {i j : Nat} {c : S47} (h : i ≠ j) : (g.set i c)[j]? = g[j]? := by
 rw [vR, if_neg h]
theorem o8 {g : List S47} {i : Nat} {c : S47} (h : i < g.length) : (g.set i c)[i]? = some c := by
 rw [vR, if_pos rfl, if_pos h]
theorem yG (t : Nat) : cE t jR = 0 := rfl
theorem vP {g : List S47} {i j t : Nat} {b c : S47} (hb : g[i]? = some b) (hc : g[j]? = some c) (h : i ≠ j) : cE t b + cE t c ≤ jl g t := by
 have h1 := sD (cE t) g i b jR hb
 have h2 : cE t c ≤ ((g.set i jR).map (cE t)).sum := wy (List.mem_map_of_mem (List.mem_of_getElem? (by rw [ja h]; exact hc)))
 rw [yG] at h1
 unfold jl
 omega
theorem oU {b : S47} {t : Nat} (h1 : b.f1 ≠ 1) (h : b.f3.toNat = t) : 1 ≤ cE t b := by
 unfold cE; rw [if_pos ⟨h1, h⟩]; omega
theorem cE_no {b : S47} {t : Nat} (h1 : b.f1 = 3) (h : b.f4.toNat = t) : 1 ≤ cE t b := by
 unfold cE; rw [if_pos (show b.f1 = 3 ∧ b.f4.toNat = t from ⟨h1, h⟩)]; omega
structure Mg (g : List S47) (a y : Nat) (b nx : S47) : Prop where
 gok : GOk g
 at_ : g[a]? = some b
 goes : b.f1 = 2
 goal : b.f3.toNat = y
 nx : g[y]? = some nx
 one : jl g y = 1
theorem Mg.lt {g : List S47} {a y : Nat} {b nx : S47} (h : Mg g a y b nx) : a < y ∧ y < g.length ∧ a < g.length := by
 have hy := bu (h.gok.all a b h.at_).goal (by have := h.goes; omega)
 have := h.goal
 have : y < g.length := (List.getElem?_eq_some_iff.1 h.nx).1
 omega
theorem Mg.len {g : List S47} {a y : Nat} {b nx : S47} (h : Mg g a y b nx) : (jn1 g a y b nx).length = g.length := by
 unfold jn1; rw [List.length_set, List.length_set]
theorem Mg.get {g : List S47} {a y : Nat} {b nx : S47} (h : Mg g a y b nx) : (jn1 g a y b nx)[a]? = some (mgB b nx) ∧ (jn1 g a y b nx)[y]? = some jR ∧ ∀ j, j ≠ a → j ≠ y → (jn1 g a y b nx)[j]? = g[j]? := by
 obtain ⟨l1, l2, l3⟩ := h.lt
 unfold jn1
 refine ⟨?_, ?_, fun j h1 h2 => ?_⟩
 · rw [ja (by omega), o8 l3]
 · rw [o8 (by rw [List.length_set]; exact l2)]
 rw [ja (by omega), ja (by omega)]
theorem Mg.sum {g : List S47} {a y : Nat} {b nx : S47} (h : Mg g a y b nx) (f : S47 → Nat) : ((jn1 g a y b nx).map f).sum + f b + f nx = (g.map f).sum + f (mgB b nx) + f jR := by
 obtain ⟨l1, l2, l3⟩ := h.lt
 have h1 := sD f g a b (mgB b nx) h.at_
 have h2 := sD f (g.set a (mgB b nx)) y nx jR (by rw [ja (by omega)]; exact h.nx)
 unfold jn1
 omega
theorem Mg.cnt {g : List S47} {a y : Nat} {b nx : S47} (h : Mg g a y b nx) (t : Nat) : jl (jn1 g a y b nx) t = if t = y then 0 else jl g t := by
 have hs := h.sum (cE t)
 have e1 : cE t (mgB b nx) = cE t nx := rfl
 have e2 : cE t b = if y = t then 1 else 0 := by
  unfold cE
  have h2 := h.goes
  have h3 := h.goal
  rw [if_neg (show ¬ (b.f1 = 3 ∧ _) by omega), h3]
  by_cases q : y = t
  · rw [if_pos ⟨by omega, q⟩, if_pos q]
  rw [if_neg (fun h => q h.2), if_neg q]
 rw [e1, yG, e2] at hs
 unfold jl at *
 by_cases q : t = y
 · subst q
   rw [if_pos rfl] at hs ⊢
   have := h.one
   unfold jl at this
   omega
 rw [if_neg (fun h => q h.symm)] at hs
 rw [if_neg q]
 omega
theorem wP {c d : List S45} (h1 : fG c = true) (h2 : fG d = true) : fG (c ++ d) = true := by
 unfold fG at *; rw [List.all_append, h1, h2]; rfl
theorem Mg.gok' {g : List S47} {a y : Nat} {b nx : S47} (h : Mg g a y b nx) : GOk (jn1 g a y b nx) := by
 obtain ⟨l1, l2, l3⟩ := h.lt
 obtain ⟨g1, g2, g3⟩ := h.get
 have ha := h.gok.all a b h.at_
 have hy := h.gok.all y nx h.nx
 refine ⟨by rw [h.len]; exact h.gok.some_, by rw [h.len]; exact h.gok.few, fun j c hc => ?_, ?_⟩
 · rw [h.len]
   by_cases qa : j = a
   · subst qa
     rw [g1] at hc
     cases hc
     refine ⟨wP ha.code hy.code, hy.ends, ?_, ?_, hy.rl⟩
     · have hg := hy.goal
       unfold gI at hg ⊢
       simp only [Bool.and_eq_true, Bool.or_eq_true, decide_eq_true_eq, Bool.not_eq_true', decide_eq_false_iff_not] at hg ⊢
       show (nx.f1 = 1 ∨ _ < nx.f3 ∧ nx.f3 < _) ∧ (¬ nx.f1 = 3 ∨ _ < nx.f4 ∧ nx.f4 < _)
       omega
     intro x hx
     rcases List.mem_append.1 hx with hx | hx
     · exact ha.rg x hx
     exact hy.rg x hx
   by_cases qy : j = y
   · subst qy
     rw [g2] at hc
     cases hc
     exact ⟨rfl, rfl, rfl, (fun x hx => absurd hx List.not_mem_nil), Rg.z⟩
   rw [g3 j qa qy] at hc
   exact h.gok.all j c hc
 have := h.sum (fun b => b.f0.length)
 have e : (mgB b nx).f0.length = b.f0.length + nx.f0.length := List.length_append
 have e2 : jR.f0.length = 0 := rfl
 have := h.gok.sum
 omega
theorem zK (pk : List Int) : ∀ (c d : List S45) (M : bF), bE pk (c ++ d) M = if (bE pk c M).2.1 = 0 then ((bE pk d (bE pk c M).1).1, (bE pk d (bE pk c M).1).2.1, (bE pk c M).2.2 + (bE pk d (bE pk c M).1).2.2) else bE pk c M := by
 intro c
 induction c with
 | nil => intro d M; show bE pk d M = (if (0 : Int) = 0 then _ else _); rw [if_pos rfl]; show _ = (_, _, 0 + _); rw [Nat.zero_add]; rfl
 | cons i r ih =>
  intro d M
  show (if (bV i pk M).2 = 0 then ((bE pk (r ++ d) (bV i pk M).1).1, (bE pk (r ++ d) (bV i pk M).1).2.1, (bE pk (r ++ d) (bV i pk M).1).2.2 + 1) else ((bV i pk M).1, (bV i pk M).2, 1)) = _
  have e : bE pk (i :: r) M = (if (bV i pk M).2 = 0 then ((bE pk r (bV i pk M).1).1, (bE pk r (bV i pk M).1).2.1, (bE pk r (bV i pk M).1).2.2 + 1) else ((bV i pk M).1, (bV i pk M).2, 1)) := rfl
  rw [e]
  by_cases f0 : (bV i pk M).2 = 0
  · rw [if_pos f0, if_pos f0, ih]
    dsimp only
    by_cases q : (bE pk r (bV i pk M).1).2.1 = 0
    · rw [if_pos q, if_pos q]
      simp only [Prod.mk.injEq, true_and]
      omega
    rw [if_neg q, if_neg q]
  rw [if_neg f0, if_neg f0]
  dsimp only
  rw [if_neg f0]
def shO (k : Nat) : Out → Out
 | .fin v f s => .fin v f (k + s)
 | .go j M s => .go j M (k + s)
theorem endO_sh (b : S47) (M : bF) (k s : Nat) : fP b M (k + s) = shO k (fP b M s) := by
 unfold fP
 split
 · rfl
 split <;> rfl
theorem Ak (pk : List Int) {b nx : S47} (h : b.f1 = 2) (M : bF) : ((bE pk b.f0 M).2.1 = 0 → fF pk (mgB b nx) M = shO (bE pk b.f0 M).2.2 (fF pk nx (bE pk b.f0 M).1)) ∧ ((bE pk b.f0 M).2.1 ≠ 0 → fF pk (mgB b nx) M = fF pk b M) := by
 have e : fF pk (mgB b nx) M = if (bE pk (b.f0 ++ nx.f0) M).2.1 = 0 then fP nx (bE pk (b.f0 ++ nx.f0) M).1 (bE pk (b.f0 ++ nx.f0) M).2.2 else .fin 0 (bE pk (b.f0 ++ nx.f0) M).2.1 (bE pk (b.f0 ++ nx.f0) M).2.2 := rfl
 rw [e, zK]
 refine ⟨fun h0 => ?_, fun h0 => ?_⟩
 · rw [if_pos h0]
   dsimp only
   unfold fF
   split
   · exact endO_sh _ _ _ _
   rfl
 rw [if_neg h0, if_neg h0]
 unfold fF
 rw [if_neg h0]
theorem Mg.run {g : List S47} {a y : Nat} {b nx : S47} (h : Mg g a y b nx) (pk : List Int) : ∀ {j : Nat} {M : bF} {v f : Int} {t : Nat}, Rn g pk j M v f t →
 (j ≠ y → Rn (jn1 g a y b nx) pk j M v f t) ∧ (j = y → fF pk nx M = .fin v f t ∨ ∃ j1 M1 s t1, fF pk nx M = .go j1 M1 s ∧ t = s + t1 ∧ Rn (jn1 g a y b nx) pk j1 M1 v f t1) := by
 obtain ⟨l1, l2, l3⟩ := h.lt
 obtain ⟨g1, g2, g3⟩ := h.get
 intro j M v f t hr
 induction hr with
 | @fin j M c v f s hb e =>
  refine ⟨fun hy => ?_, fun hy => ?_⟩
  · by_cases qa : j = a
    · subst qa
      rw [h.at_] at hb; cases hb
      have h0 : (bE pk b.f0 M).2.1 ≠ 0 := by
       intro h0
       unfold fF at e
       rw [if_pos h0] at e
       unfold fP at e
       have := h.goes
       rw [if_neg (by omega), if_pos this] at e
       cases e
      exact .fin g1 (by rw [(Ak pk h.goes M).2 h0]; exact e)
    exact .fin (by rw [g3 j qa hy]; exact hb) e
  subst hy
  rw [h.nx] at hb; cases hb
  exact .inl e
 | @go j M c j1 M1 s1 v f t1 hb e _ ih =>
  have hok := h.gok.all j c hb
  obtain ⟨h0, q1, q2, q3, q4⟩ := jZ hok (by omega) e
  refine ⟨fun hy => ?_, fun hy => ?_⟩
  · by_cases qa : j = a
    · subst qa
      rw [h.at_] at hb; cases hb
      have hj1 : j1 = y ∧ s1 = (bE pk b.f0 M).2.2 := by
       have := h.goes
       have := h.goal
       rcases q4 with ⟨_, ej, es⟩ | ⟨e3, _⟩
       · exact ⟨by omega, es⟩
       omega
      have em := (Ak pk (nx := nx) h.goes M).1 h0
      rw [← q1, ← hj1.2] at em
      rcases ih.2 hj1.1 with e2 | ⟨j2, M2, s2, t2, e2, rfl, hr2⟩
      · rw [e2] at em
        exact .fin g1 em
      rw [e2] at em
      rw [← Nat.add_assoc]
      exact .go g1 em hr2
    have hj1 : j1 ≠ y := by
     rintro rfl
     have c1 := oU (b := b) (t := j1) (by have := h.goes; omega) h.goal
     have c2 := vP (t := j1) h.at_ hb (Ne.symm qa)
     have := h.one
     rcases q4 with ⟨e2, ej, _⟩ | ⟨e3, ej, _⟩
     · have := oU (b := c) (t := j1) (by omega) (by omega)
       omega
     by_cases ho : hoP c.f2 M1.a M1.x = true
     · rw [if_pos ho] at ej
       have := oU (b := c) (t := j1) (by omega) (by omega)
       omega
     rw [if_neg ho] at ej
     have := cE_no (b := c) (t := j1) e3 (by omega)
     omega
    exact .go (by rw [g3 j qa hy]; exact hb) e (ih.1 hj1)
  subst hy
  rw [h.nx] at hb; cases hb
  exact .inr ⟨j1, M1, s1, t1, e, rfl, ih.1 (by omega)⟩
theorem wC_app (c d : List S45) : wC (c ++ d) = wC c + wC d := by
 unfold wC; rw [List.map_append, List.sum_append]
theorem Mg.w {g : List S47} {a y : Nat} {b nx : S47} (h : Mg g a y b nx) : phG (jn1 g a y b nx) < phG g ∧ msG (jn1 g a y b nx) ≤ msG g := by
 have h1 := h.sum (phB g.length)
 have h2 := h.sum msB
 have hg := h.goes
 have hy := bu (h.gok.all a b h.at_).goal (by omega)
 have p1 : phB g.length b = 1 + wC b.f0 + (1 + ((g.length : Int) - b.f3).toNat) := by
  unfold phB wE; rw [if_neg (by omega), if_pos hg]
 have p2 : phB g.length nx = 1 + wC nx.f0 + wE g.length nx := rfl
 have p3 : phB g.length (mgB b nx) = 1 + (wC b.f0 + wC nx.f0) + wE g.length nx := by rw [← wC_app]; rfl
 have p4 : phB g.length jR = 2 := rfl
 have m1 : msB b = b.f0.length + 1 := by unfold msB; rw [if_neg (by omega)]
 have m2 : msB (mgB b nx) + 1 = b.f0.length + msB nx + 1 := by
  have e : (mgB b nx).f0.length = b.f0.length + nx.f0.length := List.length_append
  show (mgB b nx).f0.length + 1 + (if nx.f1 = 3 then 2 else 0) + 1 = b.f0.length + (nx.f0.length + 1 + (if nx.f1 = 3 then 2 else 0)) + 1
  omega
 have m3 : msB jR = 1 := rfl
 refine ⟨?_, ?_⟩
 · unfold phG
   rw [h.len]
   omega
 unfold msG
 omega
def jnY (g : List S47) (fr : List Nat) (a : Nat) : Option (S47 × S47) :=
 match g[a]? with
 | some b => if b.f1 = 2 ∧ fr.getD b.f3.toNat 0 = 1 then (match g[b.f3.toNat]? with | some nx => some (b, nx) | none => none) else none
 | none => none
def jnW : Nat → List S47 → List Nat → Nat → List S47 × List Nat × Bool
 | 0, g, fr, _ => (g, fr, false)
 | k + 1, g, fr, a =>
  match jnY g fr a with
  | some (b, nx) => ((jnW k (jn1 g a b.f3.toNat b nx) (fr.set b.f3.toNat 0) a).1, (jnW k (jn1 g a b.f3.toNat b nx) (fr.set b.f3.toNat 0) a).2.1, true)
  | none => (g, fr, false)
def jnL : Nat → List S47 → List Nat → Nat → List S47 × Bool
 | 0, g, _, _ => (g, false)
 | d + 1, g, fr, a => ((jnL d (jnW g.length g fr a).1 (jnW g.length g fr a).2.1 (a + 1)).1, (jnW g.length g fr a).2.2 || (jnL d (jnW g.length g fr a).1 (jnW g.length g fr a).2.1 (a + 1)).2)
def frG (g : List S47) : List Nat := (List.range g.length).map (jl g)
def jM (g : List S47) : List S47 × Bool := jnL g.length g (frG g) 0
structure sH (g : List S47) (fr : List Nat) : Prop where
 len : fr.length = g.length
 eq : ∀ t, t < g.length → fr.getD t 0 = jl g t
theorem ze (g : List S47) : sH g (frG g) := by
 refine ⟨by unfold frG; rw [List.length_map, List.length_range], fun t ht => ?_⟩
 unfold frG
 rw [List.getD_eq_getElem?_getD, List.getElem?_map, List.getElem?_range ht]
 rfl
theorem zN {g : List S47} (hg : GOk g) {fr : List Nat} (hf : sH g fr) {a : Nat} {b nx : S47} (h : jnY g fr a = some (b, nx)) : Mg g a b.f3.toNat b nx := by
 unfold jnY at h
 cases e : g[a]? with
 | none => rw [e] at h; cases h
 | some c =>
  rw [e] at h
  dsimp only at h
  by_cases q : c.f1 = 2 ∧ fr.getD c.f3.toNat 0 = 1
  · rw [if_pos q] at h
    cases e2 : g[c.f3.toNat]? with
    | none => rw [e2] at h; cases h
    | some d =>
     rw [e2] at h
     cases h
     have hlt : b.f3.toNat < g.length := (List.getElem?_eq_some_iff.1 e2).1
     exact ⟨hg, e, q.1, rfl, e2, by rw [← hf.eq _ hlt]; exact q.2⟩
  rw [if_neg q] at h; cases h
theorem fr_mg {g : List S47} {fr : List Nat} (hf : sH g fr) {a y : Nat} {b nx : S47} (h : Mg g a y b nx) : sH (jn1 g a y b nx) (fr.set y 0) := by
 obtain ⟨l1, l2, l3⟩ := h.lt
 refine ⟨by rw [List.length_set, h.len]; exact hf.len, fun t ht => ?_⟩
 rw [h.len] at ht
 rw [dM (by rw [hf.len]; exact l2), h.cnt]
 by_cases q : y = t
 · rw [if_pos q, if_pos q.symm]
 rw [if_neg q, if_neg (fun h => q h.symm)]; exact hf.eq t ht
structure lS (g g' : List S47) (found : Bool) : Prop where
 gok : GOk g'
 len : g'.length = g.length
 run : ∀ pk v f t, Rn g pk 0 z16 v f t → Rn g' pk 0 z16 v f t
 ms : msG g' ≤ msG g
 ph : phG g' ≤ phG g
 less : found = true → phG g' < phG g
 same : found = false → g' = g
theorem lS.refl {g : List S47} (hg : GOk g) : lS g g false := ⟨hg, rfl, (fun _ _ _ _ h => h), Nat.le_refl _, Nat.le_refl _, (fun h => by cases h), fun _ => rfl⟩
theorem lS.one {g : List S47} {a y : Nat} {b nx : S47} (h : Mg g a y b nx) : lS g (jn1 g a y b nx) true := by
 obtain ⟨w1, w2⟩ := h.w
 obtain ⟨l1, l2, l3⟩ := h.lt
 exact ⟨h.gok', h.len, fun pk v f t hr => (h.run pk hr).1 (by omega), w2, Nat.le_of_lt w1, fun _ => w1, fun h => by cases h⟩
theorem lS.trans {g g1 g2 : List S47} {f1 f2 : Bool} (h : lS g g1 f1) (h2 : lS g1 g2 f2) : lS g g2 (f1 || f2) := by
 refine ⟨h2.gok, h2.len.trans h.len, fun pk v f t hr => h2.run pk v f t (h.run pk v f t hr), Nat.le_trans h2.ms h.ms, Nat.le_trans h2.ph h.ph, fun hf => ?_, fun hf => ?_⟩
 · have := h.ph
   have := h2.ph
   rcases Bool.or_eq_true_iff.1 hf with hf | hf
   · have := h.less hf; omega
   have := h2.less hf; omega
 rw [Bool.or_eq_false_iff] at hf
 rw [h2.same hf.2, h.same hf.1]
theorem jnW_ok (P : List S47 → Prop) (hP : ∀ g a y b nx, Mg g a y b nx → P g → P (jn1 g a y b nx)) : ∀ (k : Nat) (g : List S47) (fr : List Nat) (a : Nat), GOk g → sH g fr → P g →
 lS g (jnW k g fr a).1 (jnW k g fr a).2.2 ∧ sH (jnW k g fr a).1 (jnW k g fr a).2.1 ∧ P (jnW k g fr a).1 := by
 intro k
 induction k with
 | zero => intro g fr a hg hf hp; exact ⟨lS.refl hg, hf, hp⟩
 | succ k ih =>
  intro g fr a hg hf hp
  unfold jnW
  cases e : jnY g fr a with
  | none => exact ⟨lS.refl hg, hf, hp⟩
  | some q =>
   obtain ⟨b, nx⟩ := q
   have hm := zN hg hf e
   obtain ⟨i1, i2, i3⟩ := ih (jn1 g a b.f3.toNat b nx) (fr.set b.f3.toNat 0) a hm.gok' (fr_mg hf hm) (hP _ _ _ _ _ hm hp)
   dsimp only
   have := (lS.one hm).trans i1
   rw [Bool.true_or] at this
   exact ⟨this, i2, i3⟩
theorem zM (P : List S47 → Prop) (hP : ∀ g a y b nx, Mg g a y b nx → P g → P (jn1 g a y b nx)) : ∀ (d : Nat) (g : List S47) (fr : List Nat) (a : Nat), GOk g → sH g fr → P g →
 lS g (jnL d g fr a).1 (jnL d g fr a).2 ∧ P (jnL d g fr a).1 := by
 intro d
 induction d with
 | zero => intro g fr a hg hf hp; exact ⟨lS.refl hg, hp⟩
 | succ d ih =>
  intro g fr a hg hf hp
  unfold jnL
  dsimp only
  obtain ⟨w1, w2, w3⟩ := jnW_ok P hP g.length g fr a hg hf hp
  obtain ⟨i1, i2⟩ := ih _ _ (a + 1) w1.gok w2 w3
  exact ⟨w1.trans i1, i2⟩
theorem nN {g : List S47} (hg : GOk g) : jy g (jM g).1 (jM g).2 := by
 obtain ⟨h, _⟩ := zM (fun _ => True) (fun _ _ _ _ _ _ _ => trivial) g.length g (frG g) 0 hg (ze g) trivial
 exact ⟨h.gok, fun pk v f t hr => ⟨t, Nat.le_refl _, h.run pk v f t hr⟩, h.ms, h.ph, h.less, h.same⟩
theorem uA (P : List S47 → Prop) (hP : ∀ g a y b nx, Mg g a y b nx → P g → P (jn1 g a y b nx)) {g : List S47} (hg : GOk g) (hp : P g) : P (jM g).1 :=
 (zM P hP g.length g (frG g) 0 hg (ze g) hp).2
theorem zL : ∀ (d : Nat) (g : List S47) (fr : List Nat) (a : Nat), 0 < g.length → (jnL d g fr a).2 = false → ∀ j, a ≤ j → j < a + d → jnY g fr j = none := by
 intro d
 induction d with
 | zero => intro g fr a _ _ j h1 h2; omega
 | succ d ih =>
  intro g fr a hl h j h1 h2
  unfold jnL at h
  dsimp only at h
  rw [Bool.or_eq_false_iff] at h
  obtain ⟨L, hL⟩ : ∃ L, g.length = L + 1 := ⟨g.length - 1, by omega⟩
  rw [hL] at h
  have key : jnY g fr a = none ∧ jnW (L + 1) g fr a = (g, fr, false) := by
   cases e : jnY g fr a with
   | none =>
    refine ⟨rfl, ?_⟩
    unfold jnW; rw [e]
   | some q =>
    obtain ⟨b, nx⟩ := q
    have h1 := h.1
    unfold jnW at h1
    rw [e] at h1
    cases h1
  rw [key.2] at h
  by_cases q : j = a
  · subst q; exact key.1
  exact ih g fr (a + 1) hl h.2 j (by omega) (by omega)
theorem wZ {g : List S47} (hg : GOk g) (h : (jM g).2 = false) : ∀ (j : Nat) (b : S47), g[j]? = some b → b.f1 = 2 → jl g b.f3.toNat ≠ 1 := by
 intro j b hb h2 hc
 have hj : j < g.length := (List.getElem?_eq_some_iff.1 hb).1
 have := zL g.length g (frG g) 0 hg.some_ h j (Nat.zero_le _) (by omega)
 have hy := bu (hg.all j b hb).goal (by omega)
 have hlt : b.f3.toNat < g.length := by omega
 unfold jnY at this
 rw [hb] at this
 dsimp only at this
 rw [if_pos ⟨h2, by rw [(ze g).eq _ hlt]; exact hc⟩, List.getElem?_eq_getElem hlt] at this
 cases this
def szM : List S47 → Nat → List Bool → Nat
 | [], _, _ => 0
 | b :: r, n, m => (if m.getD n false = true then 0 else szB b) + szM r (n + 1) m
structure Mk (g : List S47) (m : List Bool) (S : Nat) : Prop where
 len : m.length = g.length
 zero : m.getD 0 false = false
 cl : ∀ (j : Nat) (b : S47), g[j]? = some b → m.getD j false = false → (b.f1 ≠ 1 → m.getD b.f3.toNat false = false) ∧ (b.f1 = 3 → m.getD b.f4.toNat false = false)
 sz : szM g 0 m ≤ S
def Mks (g : List S47) (S : Nat) : Prop := ∃ m, Mk g m S
theorem mH (n j : Nat) : (List.replicate n false).getD j false = false := by
 rw [List.getD_eq_getElem?_getD, List.getElem?_replicate]; split <;> rfl
theorem szM_all : ∀ (g : List S47) (n : Nat) (m : List Bool), (∀ j, n ≤ j → j < n + g.length → m.getD j false = false) → szM g n m = szG g := by
 intro g
 induction g with
 | nil => intro n m _; rfl
 | cons b r ih =>
  intro n m h
  unfold szM szG
  rw [h n (Nat.le_refl n) (by rw [List.length_cons]; omega), if_neg (by decide), ih (n + 1) m (fun j h1 h2 => h j (by omega) (by rw [List.length_cons]; omega)), List.map_cons, List.sum_cons]
  rfl
theorem mks_0 (g : List S47) : Mks g (szG g) :=
 ⟨List.replicate g.length false, by rw [List.length_replicate], mH _ _, fun j b _ _ => ⟨fun _ => mH _ _, fun _ => mH _ _⟩, Nat.le_of_eq (szM_all g 0 _ (fun j _ _ => mH _ _))⟩
theorem szM_le (m : List Bool) : ∀ (g g' : List S47) (n : Nat), g'.length = g.length → (∀ (j : Nat) (b b' : S47), g[j]? = some b → g'[j]? = some b' → szB b' ≤ szB b) → szM g' n m ≤ szM g n m := by
 intro g
 induction g with
 | nil => intro g' n h _; cases g' with | nil => exact Nat.le_refl _ | cons => cases h
 | cons b r ih =>
  intro g' n h H
  cases g' with
  | nil => cases h
  | cons b' r' =>
   unfold szM
   have h0 := H 0 b b' rfl rfl
   have h1 := ih r' (n + 1) (by simpa using h) (fun j c c' hc hc' => H (j + 1) c c' hc hc')
   split <;> omega
theorem rP {g g' : List S47} {m : List Bool} {S : Nat} (h : Mk g m S) (hl : g'.length = g.length) (H : ∀ (j : Nat) (b b' : S47), g[j]? = some b → g'[j]? = some b' → szB b' ≤ szB b ∧
 ((b.f1 ≠ 1 → m.getD b.f3.toNat false = false) → (b.f1 = 3 → m.getD b.f4.toNat false = false) → (b'.f1 ≠ 1 → m.getD b'.f3.toNat false = false) ∧ (b'.f1 = 3 → m.getD b'.f4.toNat false = false))) : Mk g' m S := by
 refine ⟨h.len.trans hl.symm, h.zero, fun j b' hb' hm => ?_, Nat.le_trans (szM_le m g g' 0 hl (fun j b b' hb hb' => (H j b b' hb hb').1)) h.sz⟩
 have hj : j < g.length := by rw [← hl]; exact (List.getElem?_eq_some_iff.1 hb').1
 have hb := List.getElem?_eq_getElem hj
 have := h.cl j _ hb hm
 exact (H j _ b' hb hb').2 this.1 this.2
theorem en_goal {s : St} {b : S47} {i n : Int} (h : BOk b i n) (P : Int → Prop) (h3 : b.f1 ≠ 1 → P b.f3) (h4 : b.f1 = 3 → P b.f4) : ((enF s b).1.f1 ≠ 1 → P (enF s b).1.f3) ∧ ((enF s b).1.f1 = 3 → P (enF s b).1.f4) := by
 unfold enF
 by_cases q : b.f1 = 1 ∧ b.f2.f0 = 22
 · rw [if_pos q]
   cases gS s 0 with
   | none => exact ⟨h3, h4⟩
   | some a => exact ⟨h3, h4⟩
 rw [if_neg q]
 by_cases q3 : b.f1 ≠ 3
 · rw [if_pos q3]; exact ⟨h3, h4⟩
 rw [if_neg q3]
 cases jF s (gP s b.f2).1 with
 | none => exact ⟨h3, h4⟩
 | some y =>
  dsimp only
  refine ⟨fun _ => ?_, fun e => by cases e⟩
  split
  · exact h3 (by omega)
  exact h4 (by omega)
theorem fold_mk {g : List S47} (hg : GOk g) {S : Nat} (h : Mks g S) : Mks (jm g).1 S := by
 obtain ⟨m, h⟩ := h
 obtain ⟨a1, _⟩ := vH hg.some_
 have hb : ∀ (j : Nat) (b : S47), g[j]? = some b → BOk b ((0 + j : Nat) : Int) g.length := fun j b h => by rw [Nat.zero_add]; exact hg.all j b h
 refine ⟨m, rP h (yZ g 0 _) (fun j b b' hj hj' => ?_)⟩
 obtain ⟨b0, hb0, e | ⟨s, hs, e⟩⟩ := fd_at g.length g 0 _ a1 hb j b' hj'
 · rw [hj] at hb0; cases hb0
   subst e
   exact ⟨Nat.le_refl _, fun h3 h4 => ⟨h3, h4⟩⟩
 rw [hj] at hb0; cases hb0
 subst e
 have hok := hg.all j b hj
 refine ⟨(zb hok hs).2.2.2, fun h3 h4 => ?_⟩
 obtain ⟨a, c, d, _⟩ := lI b.f0 s hs hok.code hok.rg
 exact en_goal (b := ⟨(bY s b.f0).1, b.f1, b.f2, b.f3, b.f4⟩) ⟨a, hok.ends, hok.goal, c, hok.rl⟩ (fun x => m.getD x.toNat false = false) h3 h4
theorem copy_mk {g : List S47} {S : Nat} (h : Mks g S) : Mks (iY g).1 S := by
 obtain ⟨m, h⟩ := h
 refine ⟨m, rP h (List.length_map ..) (fun j b b' hj hj' => ?_)⟩
 have : some b' = some (gz b).1 := by
  rw [← hj']
  show (g.map _)[j]? = _
  rw [List.getElem?_map, hj]; rfl
 cases this
 refine ⟨?_, fun h3 h4 => ⟨h3, h4⟩⟩
 have := (mX b.f0 iK 18).1.length_le
 show (cpF iK 18 b.f0).1.length + (if b.f1 = 2 then 0 else 1) ≤ b.f0.length + (if b.f1 = 2 then 0 else 1)
 omega
theorem dead_mk {g : List S47} (hg : GOk g) {S : Nat} (h : Mks g S) : Mks (jJ g).1 S := by
 obtain ⟨m, h⟩ := h
 have H := yQ g.length (ddL g 0).2.1 g 0 (fun j b h => by rw [Nat.zero_add]; exact hg.all j b h) (fun j _ => rfl)
 refine ⟨m, rP h (yR g 0).1 (fun j b b' hj hj' => ?_)⟩
 obtain ⟨b2, hb2, hd⟩ := H j b hj
 have : some b2 = some b' := hb2.symm.trans hj'
 cases this
 rw [hd.blk]
 refine ⟨?_, fun h3 h4 => ⟨h3, h4⟩⟩
 have := (rf (lvF b ((ddL g 0).2.1.getD b.f3.toNat noW) ((ddL g 0).2.1.getD b.f4.toNat noW)) b.f0).1.length_le
 unfold szB
 dsimp only
 omega
theorem on_mk {g : List S47} {m : List Bool} {S : Nat} (h : Mk g m S) : ∀ (k j : Nat), m.getD j false = false → m.getD (onF g k j) false = false := by
 intro k
 induction k with
 | zero => intro j hj; exact hj
 | succ k ih =>
  intro j hj
  unfold onF
  cases e : g[j]? with
  | none => exact hj
  | some b =>
   dsimp only
   by_cases q : fC b = true
   · rw [if_pos q]
     exact ih _ ((h.cl j b e hj).1 (by have := (iP.1 q).1; omega))
   rw [if_neg q]; exact hj
theorem goal_mk {g : List S47} (hg : GOk g) {S : Nat} (h : Mks g S) : Mks (iF g).1 S := by
 obtain ⟨m, h⟩ := h
 refine ⟨m, rP h (List.length_map ..) (fun j b b' hj hj' => ?_)⟩
 have : some (goB g b).1 = some b' := (kN hj).symm.trans hj'
 cases this
 refine ⟨(wU hg (hg.all j b hj)).2.2.2.2, fun h3 h4 => ?_⟩
 have hon : ∀ x : Nat, m.getD x false = false → m.getD (onG g x : Int).toNat false = false := fun x hx => by
  rw [Int.toNat_natCast]; exact on_mk h g.length x hx
 unfold goB
 by_cases e1 : b.f1 = 1
 · rw [if_pos e1]; exact ⟨h3, h4⟩
 rw [if_neg e1]
 by_cases e2 : b.f1 = 2
 · rw [if_pos e2]
   exact ⟨fun _ => hon _ (h3 e1), fun e => by dsimp only at e; omega⟩
 rw [if_neg e2]
 split
 · exact ⟨fun _ => hon _ (h3 e1), fun e => by cases e⟩
 exact ⟨fun _ => hon _ (h3 e1), fun e => hon _ (h4 e)⟩
theorem cm_mk {g : List S47} {m : List Bool} {S : Nat} (h : Mk g m S) : ∀ (l : List S47) (n : Nat) (c : List Bool), (∀ (j : Nat) (b : S47), l[j]? = some b → g[n + j]? = some b) → (∀ j, c.getD j false = true → m.getD j false = false) → ∀ j, (cmF l n c).getD j false = true → m.getD j false = false := by
 intro l
 induction l with
 | nil => intro n c _ hc; exact hc
 | cons b r ih =>
  intro n c hb hc
  unfold cmF
  refine ih (n + 1) _ (fun j x hx => by rw [show n + 1 + j = n + (j + 1) by omega]; exact hb (j + 1) x hx) ?_
  intro j hj
  by_cases q : c.getD n false = true
  · rw [if_pos q] at hj
    have h0 := h.cl n b (hb 0 b rfl) (hc n q)
    have st : ∀ (c : List Bool) (i j : Nat), (c.set i true).getD j false = true → c.getD j false = true ∨ i = j := fun c i j e => by
     by_cases hi : i = j
     · exact .inr hi
     rw [mI hi] at e; exact .inl e
    unfold mkC at hj
    by_cases e1 : b.f1 = 1
    · rw [if_pos e1] at hj; exact hc j hj
    rw [if_neg e1] at hj
    by_cases e3 : b.f1 = 3
    · rw [if_pos e3] at hj
      rcases st _ _ _ hj with hj | rfl
      · rcases st _ _ _ hj with hj | rfl
        · exact hc j hj
        exact h0.1 e1
      exact h0.2 e3
    rw [if_neg e3] at hj
    rcases st _ _ _ hj with hj | rfl
    · exact hc j hj
    exact h0.1 e1
  rw [if_neg q] at hj; exact hc j hj
theorem come_mk {g : List S47} (hg : GOk g) {m : List Bool} {S : Nat} (h : Mk g m S) : ∀ j, (fV g (onG g 0)).getD j false = true → m.getD j false = false := by
 refine cm_mk h g 0 _ (fun j b hb => by rw [Nat.zero_add]; exact hb) (fun j hj => ?_)
 by_cases q : onG g 0 = j
 · subst q; exact on_mk h g.length 0 h.zero
 rw [mI q, mH] at hj; cases hj
theorem dp_mk (c m : List Bool) (hcm : ∀ j, c.getD j false = true → m.getD j false = false) : ∀ (l : List S47) (n : Nat), szG (dpL c l n) ≤ szM l n m := by
 intro l
 induction l with
 | nil => intro n; exact Nat.le_refl _
 | cons b r ih =>
  intro n
  have := ih (n + 1)
  unfold szM
  by_cases q : c.getD n false = true
  · rw [mY q, if_neg (by rw [hcm n q]; decide)]
    unfold szG at *
    rw [List.map_cons, List.sum_cons]
    have e : szB (gN c b) = szB b := rfl
    omega
  rw [sS q]; omega
theorem drop_mk {g : List S47} (hg : GOk g) {S : Nat} (h : Mks g S) : Mks (iT g).1 S := by
 obtain ⟨m, h⟩ := h
 unfold iT
 by_cases q : cB (fV g (onG g 0)) g.length = g.length
 · rw [if_pos q]; exact ⟨m, h⟩
 rw [if_neg q]
 have h1 := dp_mk (fV g (onG g 0)) m (come_mk hg h) g 0
 have h2 := h.sz
 obtain ⟨m2, k⟩ := mks_0 (dpL (fV g (onG g 0)) g 0)
 exact ⟨m2, k.len, k.zero, k.cl, Nat.le_trans k.sz (Nat.le_trans h1 h2)⟩
theorem sM {g : List S47} (hg : GOk g) (h : (iT g).2 = false) : ∀ j, j < g.length → (fV g (onG g 0)).getD j false = true := by
 unfold iT at h
 by_cases q : cB (fV g (onG g 0)) g.length = g.length
 · intro j hj
   generalize fV g (onG g 0) = c at *
   cases e : c.getD j false with
   | true => rfl
   | false =>
    have a1 := (iV (c := c) (i := 0) (j := j) (Nat.zero_le _)).2
    have a2 := nk (c := c) (n := j) (by rw [e]; decide)
    have a3 := (iV (c := c) (i := j + 1) (j := g.length) (by omega)).2
    have a4 : cB c 0 = 0 := rfl
    omega
 rw [if_neg q] at h; cases h
theorem jv (b : S47) (r : List S47) (n : Nat) (m : List Bool) : szM (b :: r) n m = (if m.getD n false = true then 0 else szB b) + szM r (n + 1) m := rfl
theorem wz (m : List Bool) : ∀ (g : List S47) (n i : Nat) (b c : S47), g[i]? = some b → szM (g.set i c) n m + (if m.getD (n + i) false = true then 0 else szB b) = szM g n m + (if m.getD (n + i) false = true then 0 else szB c) := by
 intro g
 induction g with
 | nil => intro n i b c h; simp at h
 | cons a r ih =>
  intro n i b c h
  cases i with
  | zero =>
   cases h
   show szM (c :: r) n m + (if m.getD n false = true then 0 else szB a) = szM (a :: r) n m + (if m.getD n false = true then 0 else szB c)
   rw [jv, jv]
   generalize (if m.getD n false = true then 0 else szB a) = u
   generalize (if m.getD n false = true then 0 else szB c) = v
   omega
  | succ i =>
   have := ih (n + 1) i b c h
   rw [show n + 1 + i = n + (i + 1) by omega] at this
   rw [List.set_cons_succ, jv, jv]
   omega
theorem szM_far (m : List Bool) (x : Nat) (hl : x < m.length) : ∀ (r : List S47) (k : Nat), x < k → szM r k (m.set x true) = szM r k m := by
 intro r
 induction r with
 | nil => intro k _; rfl
 | cons y r ih2 =>
  intro k hk
  have e : (m.set x true).getD k false = m.getD k false := by rw [dM hl, if_neg (by omega)]
  rw [jv, jv, ih2 (k + 1) (by omega), e]
theorem BU (m : List Bool) : ∀ (g : List S47) (n i : Nat) (b : S47), g[i]? = some b → n + i < m.length → szM g n (m.set (n + i) true) + (if m.getD (n + i) false = true then 0 else szB b) = szM g n m := by
 intro g
 induction g with
 | nil => intro n i b h; simp at h
 | cons a r ih =>
  intro n i b h hl
  rw [jv, jv]
  cases i with
  | zero =>
   cases h
   have e : (m.set n true).getD n false = true := by rw [dM (by omega), if_pos rfl]
   rw [Nat.add_zero, szM_far m n (by omega) r (n + 1) (by omega), e, if_pos rfl]
   omega
  | succ i =>
   have := ih (n + 1) i b h (by omega)
   rw [show n + 1 + i = n + (i + 1) by omega] at this
   have e : (m.set (n + (i + 1)) true).getD n false = m.getD n false := by rw [dM hl, if_neg (by omega)]
   rw [e]
   omega
theorem join_mk {g : List S47} (hg : GOk g) {S : Nat} (h : Mks g S) : Mks (jM g).1 S := by
 refine uA (fun g => Mks g S) ?_ hg h
 rintro g a y b nx hm ⟨m, h⟩
 obtain ⟨l1, l2, l3⟩ := hm.lt
 obtain ⟨g1, g2, g3⟩ := hm.get
 have hml := h.len
 have hgo := hm.goes
 have hgl := hm.goal
 have hset : ∀ x, (m.set y true).getD x false = if y = x then true else m.getD x false := fun x => dM (by omega)
 refine ⟨m.set y true, by rw [List.length_set, hm.len]; exact hml, by rw [hset, if_neg (by omega)]; exact h.zero, fun j c hc hj => ?_, ?_⟩
 · rw [hset] at hj
   by_cases qy : y = j
   · rw [if_pos qy] at hj; cases hj
   rw [if_neg qy] at hj
   have fin : ∀ x : Nat, m.getD x false = false → x ≠ y → (m.set y true).getD x false = false := fun x h1 h2 => by
    rw [hset, if_neg (fun e => h2 e.symm)]; exact h1
   by_cases qa : j = a
   · subst qa
     rw [g1] at hc
     cases hc
     have hy := (h.cl j b hm.at_ hj).1 (by omega)
     rw [hgl] at hy
     have hn := h.cl y nx hm.nx hy
     have hok := hm.gok.all y nx hm.nx
     refine ⟨fun e => fin _ (hn.1 e) ?_, fun e => fin _ (hn.2 e) ?_⟩
     · have := bu hok.goal e; show nx.f3.toNat ≠ y; omega
     have := dG hok.goal e; show nx.f4.toNat ≠ y; omega
   rw [g3 j qa (fun e => qy e.symm)] at hc
   have hn := h.cl j c hc hj
   have hone := hm.one
   have c1 := oU (b := b) (t := y) (by omega) hgl
   have c2 := vP (t := y) hm.at_ hc (Ne.symm qa)
   refine ⟨fun e => fin _ (hn.1 e) (fun e2 => ?_), fun e => fin _ (hn.2 e) (fun e2 => ?_)⟩
   · have := oU (b := c) e e2; omega
   have := cE_no (b := c) e e2; omega
 have s1 := wz m g 0 a b (mgB b nx) hm.at_
 have s2 := wz m (g.set a (mgB b nx)) 0 y nx jR (by rw [ja (by omega)]; exact hm.nx)
 have s3 := BU m (jn1 g a y b nx) 0 y jR g2 (by omega)
 rw [Nat.zero_add] at s1 s2 s3
 have hs := h.sz
 change szM (jn1 g a y b nx) 0 m + _ = _ at s2
 have z1 : szB b = b.f0.length := by unfold szB; rw [if_pos hgo]; rfl
 have z2 : szB (mgB b nx) = b.f0.length + szB nx := by
  have e : (mgB b nx).f0.length = b.f0.length + nx.f0.length := List.length_append
  show (mgB b nx).f0.length + (if nx.f1 = 2 then 0 else 1) = b.f0.length + (nx.f0.length + (if nx.f1 = 2 then 0 else 1))
  omega
 have hcl := (h.cl a b hm.at_)
 rw [z1, z2] at s1
 cases ea : m.getD a false with
 | true =>
  rw [ea, if_pos rfl, if_pos rfl] at s1
  by_cases ey : m.getD y false = true
  · rw [if_pos ey, if_pos ey] at s2
    rw [if_pos ey] at s3
    omega
  rw [if_neg ey, if_neg ey] at s2
  rw [if_neg ey] at s3
  omega
 | false =>
  rw [ea, if_neg (by decide), if_neg (by decide)] at s1
  have hy := (hcl ea).1 (by omega)
  rw [hgl] at hy
  rw [hy, if_neg (by decide), if_neg (by decide)] at s2
  rw [hy, if_neg (by decide)] at s3
  omega
def r1 (g : List S47) := jm g
def r2 (g : List S47) := iY (r1 g).1
def r3 (g : List S47) := jJ (r2 g).1
def r4 (g : List S47) := iF (r3 g).1
def r5 (g : List S47) := iT (r4 g).1
def r6 (g : List S47) := jM (r5 g).1
def iA (g : List S47) : List S47 × Bool := ((r6 g).1, (r6 g).2 || ((r5 g).2 || ((r4 g).2 || ((r3 g).2 || ((r2 g).2 || (r1 g).2)))))
def qi : Nat → List S47 → List S47
 | 0, g => g
 | k + 1, g => if (iA g).2 = true then qi k (iA g).1 else (iA g).1
theorem jy.trans {g g1 g2 : List S47} {f1 f2 : Bool} (h : jy g g1 f1) (h2 : jy g1 g2 f2) : jy g g2 (f2 || f1) := by
 refine ⟨h2.gok, fun pk v f t hr => ?_, Nat.le_trans h2.ms h.ms, Nat.le_trans h2.ph h.ph, fun hf => ?_, fun hf => ?_⟩
 · obtain ⟨t1, l1, hr1⟩ := h.run pk v f t hr
   obtain ⟨t2, l2, hr2⟩ := h2.run pk v f t1 hr1
   exact ⟨t2, by omega, hr2⟩
 · have := h.ph
   have := h2.ph
   rcases Bool.or_eq_true_iff.1 hf with hf | hf
   · have := h2.less hf; omega
   have := h.less hf; omega
 rw [Bool.or_eq_false_iff] at hf
 rw [h2.same hf.1, h.same hf.2]
theorem kF {g : List S47} (hg : GOk g) : jy g (iA g).1 (iA g).2 := by
 have b1 := jW hg
 have b2 := b1.trans (jS b1.gok)
 have b3 := b2.trans (jT b2.gok)
 have b4 := b3.trans (jX b3.gok)
 have b5 := b4.trans (jU b4.gok)
 exact b5.trans (nN b5.gok)
theorem Bq {g : List S47} (hg : GOk g) {S : Nat} (h : Mks g S) : Mks (iA g).1 S := by
 have b1 := jW hg
 have b2 := b1.trans (jS b1.gok)
 have b3 := b2.trans (jT b2.gok)
 have b4 := b3.trans (jX b3.gok)
 have b5 := b4.trans (jU b4.gok)
 exact join_mk b5.gok (drop_mk b4.gok (goal_mk b3.gok (dead_mk b2.gok (copy_mk (fold_mk hg h)))))
structure Done (x : List S47) : Prop where
 gok : GOk x
 fold : (jm x).2 = false
 dead : (jJ x).2 = false
 goal : (iF x).2 = false
 drop : (iT x).2 = false
 join : (jM x).2 = false
theorem uV {g : List S47} (hg : GOk g) (h : (iA g).2 = false) : (iA g).1 = g ∧ Done g := by
 have hb := kF hg
 unfold iA at h
 simp only [Bool.or_eq_false_iff] at h
 obtain ⟨h6, h5, h4, h3, h2, h1⟩ := h
 have b1 := jW hg
 have e1 : (r1 g).1 = g := b1.same h1
 have b2 := jS (show GOk (r1 g).1 by rw [e1]; exact hg)
 have e2 : (r2 g).1 = g := (b2.same h2).trans e1
 have b3 := jT (show GOk (r2 g).1 by rw [e2]; exact hg)
 have e3 : (r3 g).1 = g := (b3.same h3).trans e2
 have b4 := jX (show GOk (r3 g).1 by rw [e3]; exact hg)
 have e4 : (r4 g).1 = g := (b4.same h4).trans e3
 have b5 := jU (show GOk (r4 g).1 by rw [e4]; exact hg)
 have e5 : (r5 g).1 = g := (b5.same h5).trans e4
 refine ⟨hb.same (by unfold iA; simp [h1, h2, h3, h4, h5, h6]), hg, h1, ?_, ?_, ?_, ?_⟩
 · rw [← e2]; exact h3
 · rw [← e3]; exact h4
 · rw [← e4]; exact h5
 rw [← e5]; exact h6
structure Impr (g x : List S47) : Prop where
 done : Done x
 run : ∀ pk v f t, Rn g pk 0 z16 v f t → ∃ t', t' ≤ t ∧ Rn x pk 0 z16 v f t'
 ms : msG x ≤ msG g
 size : ∀ S, Mks g S → Mks x S
theorem imp_ok : ∀ (k : Nat) (g : List S47), GOk g → phG g < k → Impr g (qi k g) := by
 intro k
 induction k with
 | zero => intro g _ h; omega
 | succ k ih =>
  intro g hg h
  have hb := kF hg
  unfold qi
  by_cases q : (iA g).2 = true
  · rw [if_pos q]
    have := hb.less q
    obtain ⟨a, b, c, d⟩ := ih (iA g).1 hb.gok (by omega)
    refine ⟨a, fun pk v f t hr => ?_, Nat.le_trans c hb.ms, fun S hS => d S (Bq hg hS)⟩
    obtain ⟨t1, l1, hr1⟩ := hb.run pk v f t hr
    obtain ⟨t2, l2, hr2⟩ := b pk v f t1 hr1
    exact ⟨t2, by omega, hr2⟩
  rw [if_neg q]
  have q' : (iA g).2 = false := by simpa using q
  obtain ⟨e, hd⟩ := uV hg q'
  rw [e]
  exact ⟨hd, fun pk v f t hr => ⟨t, Nat.le_refl _, hr⟩, Nat.le_refl _, fun S h => h⟩
theorem cm_all (P : Nat → Prop) : ∀ (l : List S47) (n : Nat) (c : List Bool), (∀ b ∈ l, (b.f1 ≠ 1 → P b.f3.toNat) ∧ (b.f1 = 3 → P b.f4.toNat)) → (∀ j, c.getD j false = true → P j) → ∀ j, (cmF l n c).getD j false = true → P j := by
 intro l
 induction l with
 | nil => intro n c _ hc; exact hc
 | cons b r ih =>
  intro n c hb hc
  unfold cmF
  refine ih (n + 1) _ (fun x hx => hb x (List.mem_cons_of_mem _ hx)) ?_
  intro j hj
  have h0 := hb b (List.mem_cons_self ..)
  have st : ∀ (c : List Bool) (i j : Nat), (c.set i true).getD j false = true → c.getD j false = true ∨ i = j := fun c i j e => by
   by_cases hi : i = j
   · exact .inr hi
   rw [mI hi] at e; exact .inl e
  by_cases q : c.getD n false = true
  · rw [if_pos q] at hj
    unfold mkC at hj
    by_cases e1 : b.f1 = 1
    · rw [if_pos e1] at hj; exact hc j hj
    rw [if_neg e1] at hj
    by_cases e3 : b.f1 = 3
    · rw [if_pos e3] at hj
      rcases st _ _ _ hj with hj | rfl
      · rcases st _ _ _ hj with hj | rfl
        · exact hc j hj
        exact h0.1 e1
      exact h0.2 e3
    rw [if_neg e3] at hj
    rcases st _ _ _ hj with hj | rfl
    · exact hc j hj
    exact h0.1 e1
  rw [if_neg q] at hj; exact hc j hj
theorem Done.first {x : List S47} (h : Done x) : onG x 0 = 0 := by
 have hc := sM h.gok h.drop 0 h.gok.some_
 refine Nat.eq_zero_of_not_pos fun hp => ?_
 have := yI x.length (onG x 0) x 0 ((List.replicate x.length false).set (onG x 0) true) (fun j b hb => by rw [Nat.zero_add]; exact h.gok.all j b hb) (fun j hj => by
  rw [mI (by omega), mH]) 0 hp
 change (fV x (onG x 0)).getD 0 false = false at this
 rw [hc] at this; cases this
theorem Done.come {x : List S47} (h : Done x) : ∀ j, j < x.length → (fV x 0).getD j false = true := by
 have := sM h.gok h.drop
 rw [h.first] at this
 exact this
theorem Done.gb {x : List S47} (h : Done x) {b : S47} (hb : b ∈ x) : (goB x b).2 = false := by
 have h2 : x.any (fun b => (goB x b).2) = false := h.goal
 rw [List.any_eq_false] at h2
 simpa using h2 b hb
theorem Done.on {x : List S47} (h : Done x) {j : Nat} {b : S47} (hb : x[j]? = some b) : (b.f1 ≠ 1 → onG x b.f3.toNat = b.f3.toNat) ∧ (b.f1 = 3 → onG x b.f4.toNat = b.f4.toNat ∧ b.f3 ≠ b.f4) := by
 have hok := h.gok.all j b hb
 have hf := h.gb (List.mem_of_getElem? hb)
 unfold goB at hf
 rcases dX hok.ends with ⟨h1, _⟩ | ⟨h1, _⟩ | ⟨h1, _⟩
 · exact ⟨fun e => absurd h1 e, fun e => by omega⟩
 · rw [if_neg (by omega), if_pos h1] at hf
   have hy := bu hok.goal (by omega)
   have := of_decide_eq_false hf
   exact ⟨fun _ => by omega, fun e => by omega⟩
 rw [if_neg (by omega), if_neg (by omega)] at hf
 have hy := bu hok.goal (by omega)
 have hn := dG hok.goal h1
 by_cases q : onG x b.f3.toNat = onG x b.f4.toNat
 · rw [if_pos q] at hf; cases hf
 rw [if_neg q] at hf
 simp only [Bool.or_eq_false_iff, decide_eq_false_iff_not] at hf
 refine ⟨fun _ => by omega, fun _ => ⟨by omega, fun e => q (by rw [e])⟩⟩
theorem Done.nobare {x : List S47} (h : Done x) {j : Nat} {b : S47} (hb : x[j]? = some b) : ¬ fC b = true := by
 have hj : j < x.length := (List.getElem?_eq_some_iff.1 hb).1
 have P := cm_all (fun j => ∀ b, x[j]? = some b → ¬ fC b = true) x 0 ((List.replicate x.length false).set 0 true) (fun b hb => ?_) (fun j hj c hc => ?_) j (h.come j hj) b hb
 · exact P
 · obtain ⟨i, hi⟩ := List.getElem?_of_mem hb
   have hok := h.gok.all i b hi
   have ho := h.on hi
   refine ⟨fun e c hc => ?_, fun e c hc => ?_⟩
   · have hy := bu hok.goal e
     obtain ⟨d, hd, hn⟩ := uH h.gok x.length b.f3.toNat (by omega) (by omega)
     rw [ho.1 e, hc] at hd
     cases hd; exact hn
   have hy := dG hok.goal e
   obtain ⟨d, hd, hn⟩ := uH h.gok x.length b.f4.toNat (by omega) (by omega)
   rw [(ho.2 e).1, hc] at hd
   cases hd; exact hn
 by_cases q : 0 = j
 · subst q
   obtain ⟨d, hd, hn⟩ := uH h.gok x.length 0 (by omega) h.gok.some_
   rw [h.first, hc] at hd
   cases hd; exact hn
 rw [mI q, mH] at hj; cases hj
theorem fd_none (L : Nat) : ∀ (l : List S47) (n : Nat) (A : AC), AOk A L → (∀ (j : Nat) (b : S47), l[j]? = some b → BOk b ((n + j : Nat) : Int) L) → (fdL l n A).2 = false →
 ∀ (j : Nat) (b : S47), l[j]? = some b → (cmF l n A.2).getD (n + j) false = true → ∃ s, Wst s ∧ (dJ s b).2.2 = false := by
 intro l
 induction l with
 | nil => intro n A _ _ _ j b h; simp at h
 | cons b0 r ih =>
  intro n A hA hb hf j b h hc
  have hb0 : BOk b0 ((n : Nat) : Int) L := hb 0 b0 rfl
  have hr : ∀ (j : Nat) (b : S47), r[j]? = some b → BOk b ((n + 1 + j : Nat) : Int) L := fun j c hc => by
   have := hb (j + 1) c hc
   rw [show n + 1 + j = n + (j + 1) by omega]; exact this
  have ho := cm_o L (b0 :: r) n A.2 hb n (Nat.le_refl n)
  unfold fdL at hf
  by_cases q : A.2.getD n false = true
  · rw [if_pos q, Bool.or_eq_false_iff] at hf
    have hw := hA.wst n q
    have hs := lm hb0 hw hf.1
    cases j with
    | zero => cases h; exact ⟨_, hw, hf.1⟩
    | succ j =>
     have f2 := hf.2
     rw [hs] at f2
     obtain ⟨w1, w2, _⟩ := jL hb0 hw
     rw [hs] at w1
     have hcome : (nxF b0 (dJ (A.1.getD n []) b0).2.1 A).2 = mkC b0 A.2 := by
      unfold nxF mkC
      rcases dX hb0.ends with ⟨h1, _⟩ | ⟨h1, _⟩ | ⟨h1, _⟩
      · rw [if_neg (by omega), if_neg (by omega), if_pos h1]
      · rw [if_pos h1, if_neg (by omega), if_neg (by omega)]; rfl
      rw [if_neg (by omega), if_pos h1, if_neg (by omega), if_pos h1]; rfl
     refine ih (n + 1) _ (qI hA w1 w2) hr f2 j b h ?_
     rw [hcome]
     unfold cmF at hc
     rw [if_pos q] at hc
     rw [show n + 1 + j = n + (j + 1) by omega]; exact hc
  rw [if_neg q] at hf
  cases j with
  | zero => rw [Nat.add_zero, ho] at hc; exact absurd hc q
  | succ j =>
   refine ih (n + 1) _ hA hr hf j b h ?_
   unfold cmF at hc
   rw [if_neg q] at hc
   rw [show n + 1 + j = n + (j + 1) by omega]; exact hc
theorem Done.folded {x : List S47} (h : Done x) {j : Nat} {b : S47} (hb : x[j]? = some b) : ∃ s, Wst s ∧ (dJ s b).2.2 = false := by
 have hj : j < x.length := (List.getElem?_eq_some_iff.1 hb).1
 obtain ⟨a1, _⟩ := vH h.gok.some_
 refine fd_none x.length x 0 _ a1 (fun j b h2 => by rw [Nat.zero_add]; exact h.gok.all j b h2) h.fold j b hb ?_
 rw [Nat.zero_add]
 exact h.come j hj
theorem xI (s : St) (i : S45) (r : List S45) : bY s (i :: r) = if ik s (df s i) = true then ((bY s r).1, (bY s r).2.1, true)
 else (df s i :: (bY (dL s (df s i)) r).1, (bY (dL s (df s i)) r).2.1, neI (df s i) i || (bY (dL s (df s i)) r).2.2) := rfl
theorem pX {s : St} {i : S45} {r : List S45} (h : (bY s (i :: r)).2.2 = false) : ik s i = false ∧ df s i = i ∧ (bY (dL s i) r).2.2 = false ∧ (bY s (i :: r)).2.1 = (bY (dL s i) r).2.1 := by
 rw [xI] at h ⊢
 by_cases q : ik s (df s i) = true
 · rw [if_pos q] at h; cases h
 rw [if_neg q] at h
 dsimp only at h
 rw [Bool.or_eq_false_iff] at h
 have e := Am h.1
 have h2 := h.2
 rw [if_neg q]
 rw [e] at q h2 ⊢
 exact ⟨by simpa using q, rfl, h2, rfl⟩
theorem qz {s : St} (i : S45) : (dL s i).length = s.length := by
 unfold dL
 repeat (refine eF (P := fun t : St => t.length = s.length) (fun _ => by rw [List.length_set]) (fun _ => ?_))
 rw [List.length_set]
theorem xh {s : St} {v : Int} (hs : gS s 0 = some v) {i : S45} (h : df s i = i) (hc : i.f0 ∈ eY ∨ i.f0 = 132) : False := by
 obtain ⟨c, jt, jf, k⟩ := i
 dsimp only at hc
 have H : ∀ x ∈ eY, x ∉ ldL ∧ x ≠ 7 ∧ x ≠ 135 ∧ x ≠ 132 ∧ x ∉ gJ ∧ x ≠ 0 := by decide
 have e0 : (df s ⟨c, jt, jf, k⟩).f0 = 0 := by
  unfold df
  dsimp only
  rcases hc with hc | rfl
  · obtain ⟨a1, a2, a3, a4, a5, a6⟩ := H c hc
    rw [if_neg a1, if_neg (by omega), if_pos (.inr (.inl hc))]
    unfold qX jC
    dsimp only
    rw [if_neg a4, if_neg a5, hs]
  rw [if_neg (by decide), if_neg (by decide), if_pos (.inl rfl)]
  unfold qX
  dsimp only
  rw [if_pos rfl, hs]
 rw [h] at e0
 dsimp only at e0
 subst e0
 rcases hc with hc | hc
 · exact (H 0 hc).2.2.2.2.2 rfl
 cases hc
theorem BQ : ∀ (c : List S45) (s : St), s.length = 18 → (bY s c).2.2 = false → ∀ (j : Nat) (a b : S45), c[j]? = some a → c[j + 1]? = some b → a.f0 = 0 → ¬ (b.f0 ∈ eY ∨ b.f0 = 132) := by
 intro c
 induction c with
 | nil => intro s _ _ j a b h; simp at h
 | cons i r ih =>
  intro s hw h j a b ha hb h0 hc
  obtain ⟨_, _, h3, _⟩ := pX h
  cases j with
  | zero =>
   cases ha
   have hg : gS (dL s i) 0 = some i.f3 := by
    unfold dL
    rw [if_pos h0, mZ (by omega), if_pos rfl]
   cases r with
   | nil => simp at hb
   | cons i2 r2 =>
    have hb' : i2 = b := by simpa using hb
    subst hb'
    exact xh hg (pX h3).2.1 hc
  | succ j => exact ih (dL s i) ((qz i).trans hw) h3 j a b ha hb h0 hc
theorem BP : ∀ (c : List S45) (s : St), s.length = 18 → (bY s c).2.2 = false → ∀ i, c.getLast? = some i → i.f0 = 0 → gS (bY s c).2.1 0 = some i.f3 := by
 intro c
 induction c with
 | nil => intro s _ _ i h; simp at h
 | cons a r ih =>
  intro s hw h i hi h0
  obtain ⟨_, _, h3, h4⟩ := pX h
  rw [h4]
  cases r with
  | nil =>
   have : a = i := by simpa using hi
   subst this
   show gS (dL s a) 0 = _
   unfold dL
   rw [if_pos h0, mZ (by omega), if_pos rfl]
  | cons i2 r2 => exact ih (dL s a) ((qz a).trans hw) h3 i (by rw [List.getLast?_cons_cons] at hi; exact hi) h0
theorem en_none {s : St} {b : S47} (h : (enF s b).2 = false) (h3 : b.f1 = 3) {v : Int} (hs : gS s 0 = some v) : b.f2.f0 ∈ tX := by
 refine Classical.byContradiction fun hx => ?_
 unfold enF at h
 rw [if_neg (by omega), if_neg (by omega)] at h
 have e1 : gP s b.f2 = (b.f2, false) := by unfold gP; rw [if_neg hx]
 have e2 : jF s (gP s b.f2).1 = some (hoK b.f2.f0 v b.f2.f3) := by
  rw [e1]; unfold jF; rw [if_neg hx, hs]
 rw [e2] at h
 cases h
theorem sO (l : Lw) (i : S45) (r : List S45) : bkF l (i :: r) = if inW (bkF l r).2.1 (wrF i) = false ∧ i.f0 ∉ flL then ((bkF l r).1, (bkF l r).2.1, true)
 else (i :: (bkF l r).1, rdF ((bkF l r).2.1.set (wrF i) false) i, (bkF l r).2.2) := rfl
theorem q9 {l : Lw} {i : S45} {r : List S45} (h : (bkF l (i :: r)).2.2 = false) : ¬ (inW (bkF l r).2.1 (wrF i) = false ∧ i.f0 ∉ flL) ∧ (bkF l r).2.2 = false ∧ (bkF l (i :: r)).2.1 = rdF ((bkF l r).2.1.set (wrF i) false) i := by
 rw [sO] at h ⊢
 by_cases q : inW (bkF l r).2.1 (wrF i) = false ∧ i.f0 ∉ flL
 · rw [if_pos q] at h; cases h
 rw [if_neg q] at h ⊢; exact ⟨q, h, rfl⟩
theorem bk_pair (l : Lw) (hl : l.length = 18) : ∀ (c : List S45), fG c = true → (∀ x ∈ c, Rg x.f3) → (bkF l c).2.2 = false → ∀ (j : Nat) (a b : S45), c[j]? = some a → c[j + 1]? = some b → (a.f0 = 0 ∨ a.f0 = 96 ∨ a.f0 = 128) → b.f0 ∉ ([0, 32, 40, 48, 64, 72, 80, 96, 128] : List Int) := by
 intro c
 induction c with
 | nil => intro _ _ _ j a b h; simp at h
 | cons i r ih =>
  intro hc hk h j a b ha hb h0 hm
  unfold fG at hc
  rw [List.all_cons, Bool.and_eq_true] at hc
  have hk2 : ∀ x ∈ r, Rg x.f3 := fun x hx => hk x (List.mem_cons_of_mem _ hx)
  obtain ⟨h1, h2, h3⟩ := q9 h
  cases j with
  | zero =>
   cases ha
   cases r with
   | nil => simp at hb
   | cons i2 r2 =>
    have hb' : i2 = b := by simpa using hb
    subst hb'
    obtain ⟨g1, g2, g3⟩ := q9 h2
    refine h1 ⟨?_, ?_⟩
    · rw [g3]
      have ew : wrF i = 0 := by unfold wrF; rcases h0 with h0 | h0 | h0 <;> rw [h0] <;> rfl
      have ew2 : wrF i2 = 0 := by
       simp only [List.mem_cons, List.not_mem_nil, or_false] at hm
       unfold wrF
       rw [if_neg (by omega), if_neg (by omega)]
      have hr : rdB i2 0 = false := by
       have hm2 := hm
       simp only [List.mem_cons, List.not_mem_nil, or_false] at hm
       have HL : ∀ x ∈ ([0, 32, 40, 48, 64, 72, 80, 96, 128] : List Int), ¬ (x = 2 ∨ x = 132 ∨ x ∈ eY ∨ x ∈ gJ ∨ x = 7 ∨ jmB x = true ∨ x = 22) := by decide
       unfold rdB
       rw [decide_eq_false (HL _ hm2), decide_eq_false (show ¬ (0 : Nat) = 1 by decide), decide_eq_false (show ¬ 0 = 2 + i2.f3.toNat by omega)]
       rfl
      rw [ew, ew2]
      unfold rdF
      rw [il, hr, Bool.or_false]
      unfold inW
      rw [dM (by rw [oQ l hl]; decide), if_pos rfl]
      rfl
    rcases h0 with h0 | h0 | h0 <;> rw [h0] <;> decide
  | succ j => exact ih hc.2 hk2 h2 j a b ha hb h0 hm
def Lds (g : List S47) (k : Nat) : Prop := ∃ b ∈ g, ∃ c ∈ b.f0, (c.f0 = 96 ∨ c.f0 = 97) ∧ c.f3.toNat = k
theorem uQ {i : S45} {k : Nat} (h : rdB i (2 + k) = true) : (i.f0 = 96 ∨ i.f0 = 97) ∧ i.f3.toNat = k := by
 unfold rdB at h
 rw [decide_eq_false (show ¬ 2 + k = 0 by omega), decide_eq_false (show ¬ 2 + k = 1 by omega)] at h
 simp only [Bool.false_and, Bool.false_or, Bool.and_eq_true, decide_eq_true_eq] at h
 exact ⟨h.2, by omega⟩
theorem uO {l : Lw} {i : S45} {j : Nat} (h : inW (rdF l i) j = true) : inW l j = true ∨ rdB i j = true := by
 unfold rdF at h
 rw [il, Bool.and_eq_true, Bool.or_eq_true] at h
 exact h.2
theorem yC (g : List S47) (l : Lw) (k : Nat) (hl : inW l (2 + k) = true → Lds g k) {b : S47} (hb : b ∈ g) : ∀ (c : List S45), (∀ x ∈ c, x ∈ b.f0) → inW (bkF l c).2.1 (2 + k) = true → Lds g k := by
 intro c
 induction c with
 | nil => intro _ h; exact hl h
 | cons i r ih =>
  intro hc h
  have ih := ih (fun x hx => hc x (List.mem_cons_of_mem _ hx))
  rw [sO] at h
  by_cases q : inW (bkF l r).2.1 (wrF i) = false ∧ i.f0 ∉ flL
  · rw [if_pos q] at h; exact ih h
  rw [if_neg q] at h
  rcases uO h with h | h
  · refine ih ?_
    unfold inW at h ⊢
    by_cases hw : wrF i < (bkF l r).2.1.length
    · rw [dM hw] at h
      split at h
      · cases h
      exact h
    rw [List.set_eq_of_length_le (by omega)] at h; exact h
  exact ⟨b, hb, i, hc i (List.mem_cons_self ..), uQ h⟩
theorem lv_lds (g : List S47) {b : S47} (he : iU b = true) {y z : Lw} {k : Nat} (hy : inW y (2 + k) = true → Lds g k) (hz : inW z (2 + k) = true → Lds g k) : inW (lvF b y z) (2 + k) = true → Lds g k := by
 intro h
 have nol : b.f1 ≠ 2 → ¬ (b.f2.f0 = 96 ∨ b.f2.f0 = 97) := by
  intro h2 hx
  rcases dX he with ⟨_, h1, _⟩ | ⟨h1, _⟩ | ⟨_, h1, _⟩
  · rcases hx with hx | hx <;> rw [hx] at h1 <;> revert h1 <;> decide
  · exact h2 h1
  rcases hx with hx | hx <;> rw [hx] at h1 <;> revert h1 <;> decide
 unfold lvF at h
 by_cases e1 : b.f1 = 1
 · rw [if_pos e1] at h
   rcases uO h with h | h
   · unfold inW noW at h; rw [mH] at h; cases h
   exact absurd (uQ h).1 (nol (by omega))
 rw [if_neg e1] at h
 by_cases e2 : b.f1 = 2
 · rw [if_pos e2] at h; exact hy h
 rw [if_neg e2] at h
 rcases uO h with h | h
 · rw [il, Bool.and_eq_true, Bool.or_eq_true] at h
   rcases h.2 with h | h
   · exact hy h
   exact hz h
 exact absurd (uQ h).1 (nol e2)
theorem yE (g : List S47) (l : Lw) (hl : ∀ k, inW l (2 + k) = true → Lds g k) {b : S47} (hb : b ∈ g) : ∀ (c : List S45), (∀ x ∈ c, x ∈ b.f0) → (bkF l c).2.2 = false → ∀ i ∈ c, (i.f0 = 2 ∨ i.f0 = 3) → Lds g i.f3.toNat := by
 intro c
 induction c with
 | nil => intro _ _ i hi; cases hi
 | cons a r ih =>
  intro hc h i hi h0
  obtain ⟨h1, h2, _⟩ := q9 h
  rcases List.mem_cons.1 hi with rfl | hi
  · have ew : wrF i = 2 + i.f3.toNat := by unfold wrF; rw [if_neg (by omega), if_pos h0]
    have hf : i.f0 ∉ flL := by rcases h0 with h0 | h0 <;> rw [h0] <;> decide
    have hin : inW (bkF l r).2.1 (wrF i) = true := by
     cases e : inW (bkF l r).2.1 (wrF i) with
     | true => rfl
     | false => exact absurd ⟨e, hf⟩ h1
    rw [ew] at hin
    exact yC g l _ (hl _) hb r (fun x hx => hc x (List.mem_cons_of_mem _ hx)) hin
  exact ih (fun x hx => hc x (List.mem_cons_of_mem _ hx)) h2 i hi h0
theorem dd_none (P : Lw → Prop) (h0 : P noW) : ∀ (l : List S47) (n : Nat), (∀ b ∈ l, ∀ y z, P y → P z → P (lvF b y z) ∧ P (bkF (lvF b y z) b.f0).2.1) →
 (∀ x ∈ (ddL l n).2.1, P x) ∧ ((ddL l n).2.2 = false → ∀ b ∈ l, ∃ x, P x ∧ (bkF x b.f0).2.2 = false) := by
 intro l
 induction l with
 | nil => intro n _; exact ⟨(fun x hx => by cases hx), fun _ b hb => by cases hb⟩
 | cons a r ih =>
  intro n H
  obtain ⟨i1, i2⟩ := ih (n + 1) (fun b hb => H b (List.mem_cons_of_mem _ hb))
  have get : ∀ i, P ((ddL r (n + 1)).2.1.getD i noW) := by
   intro i
   rw [List.getD_eq_getElem?_getD]
   cases e : (ddL r (n + 1)).2.1[i]? with
   | none => exact h0
   | some u => exact i1 u (List.mem_of_getElem? e)
  have ha := H a (List.mem_cons_self ..) _ _ (get (a.f3.toNat - (n + 1))) (get (a.f4.toNat - (n + 1)))
  unfold ddL
  dsimp only
  refine ⟨fun x hx => ?_, fun h b hb => ?_⟩
  · rcases List.mem_cons.1 hx with rfl | hx
    · exact ha.2
    exact i1 x hx
  rw [Bool.or_eq_false_iff] at h
  rcases List.mem_cons.1 hb with rfl | hb
  · exact ⟨_, ha.1, h.1⟩
  exact i2 h.2 b hb
theorem Done.sQ {x : List S47} (h : Done x) {b : S47} (hb : b ∈ x) : ∃ l : Lw, l.length = 18 ∧ (∀ k, inW l (2 + k) = true → Lds x k) ∧ (bkF l b.f0).2.2 = false := by
 have he : ∀ b ∈ x, iU b = true := fun b hb => by
  obtain ⟨j, hj⟩ := List.getElem?_of_mem hb
  exact (h.gok.all j b hj).ends
 obtain ⟨_, h2⟩ := dd_none (fun l => l.length = 18 ∧ ∀ k, inW l (2 + k) = true → Lds x k) ⟨rfl, fun k hk => by unfold inW noW at hk; rw [mH] at hk; cases hk⟩ x 0 (fun b hb y z hy hz => by
  have l1 := rJ b (z := z) hy.1
  have l2 : ∀ k, inW (lvF b y z) (2 + k) = true → Lds x k := fun k => lv_lds x (he b hb) (hy.2 k) (hz.2 k)
  exact ⟨⟨l1, l2⟩, oQ _ l1 _, fun k => yC x _ k (l2 k) hb b.f0 (fun c hc => hc)⟩)
 obtain ⟨l, hl, hf⟩ := h2 h.dead b hb
 exact ⟨l, hl.1, hl.2, hf⟩
structure vz (x : List S47) : Prop where
 reach : ∀ j, j < x.length → (fV x 0).getD j false = true
 test : ∀ b ∈ x, b.f1 = 3 → b.f3 ≠ b.f4
 bare : ∀ b ∈ x, b.f1 = 2 → b.f0 ≠ []
 alone : ∀ b ∈ x, b.f1 = 2 → jl x b.f3.toNat ≠ 1
 known : ∀ b ∈ x, b.f1 = 3 → ∀ i, b.f0.getLast? = some i → i.f0 = 0 → b.f2.f0 ∈ tX
 alu : ∀ b ∈ x, ∀ (j : Nat) (a c : S45), b.f0[j]? = some a → b.f0[j + 1]? = some c → a.f0 = 0 → ¬ (c.f0 ∈ eY ∨ c.f0 = 132)
 load : ∀ b ∈ x, ∀ (j : Nat) (a c : S45), b.f0[j]? = some a → b.f0[j + 1]? = some c → (a.f0 = 0 ∨ a.f0 = 96 ∨ a.f0 = 128) → c.f0 ∉ ([0, 32, 40, 48, 64, 72, 80, 96, 128] : List Int)
 store : ∀ b ∈ x, ∀ i ∈ b.f0, (i.f0 = 2 ∨ i.f0 = 3) → Lds x i.f3.toNat
theorem Done.gone {x : List S47} (h : Done x) : vz x := by
 have at_ : ∀ b ∈ x, ∃ j : Nat, x[j]? = some b := fun b hb => List.getElem?_of_mem hb
 refine ⟨h.come, ?_, ?_, ?_, ?_, ?_, ?_, ?_⟩
 · intro b hb h3
   obtain ⟨j, hj⟩ := at_ b hb
   exact ((h.on hj).2 h3).2
 · intro b hb h2 he
   obtain ⟨j, hj⟩ := at_ b hb
   exact h.nobare hj (iP.2 ⟨h2, he⟩)
 · intro b hb h2
   obtain ⟨j, hj⟩ := at_ b hb
   exact wZ h.gok h.join j b hj h2
 · intro b hb h3 i hi h0
   obtain ⟨j, hj⟩ := at_ b hb
   obtain ⟨s, hs, hf⟩ := h.folded hj
   unfold dJ at hf
   rw [Bool.or_eq_false_iff] at hf
   exact en_none (b := ⟨(bY s b.f0).1, b.f1, b.f2, b.f3, b.f4⟩) hf.2 h3 (BP b.f0 s hs.len hf.1 i hi h0)
 · intro b hb j a c ha hc h0
   obtain ⟨j2, hj⟩ := at_ b hb
   obtain ⟨s, hs, hf⟩ := h.folded hj
   unfold dJ at hf
   rw [Bool.or_eq_false_iff] at hf
   exact BQ b.f0 s hs.len hf.1 j a c ha hc h0
 · intro b hb j a c ha hc h0
   obtain ⟨j2, hj⟩ := at_ b hb
   have hok := h.gok.all j2 b hj
   obtain ⟨l, h1, h2, h3⟩ := h.sQ hb
   exact bk_pair l h1 b.f0 hok.code hok.rg h3 j a c ha hc h0
 intro b hb i hi h0
 obtain ⟨l, h1, h2, h3⟩ := h.sQ hb
 exact yE x l h2 hb b.f0 (fun c hc => hc) h3 i hi h0
end Go.Proofs.Ytdkalnkplgfgoaa.Ln
namespace Go.Proofs.Ytdkalnkplgfgoaa.PA
open Go.RowKit Go.Proofs.YtdkalnkplgfgoaaW.PrintWords Go.Proofs.YtdkalnkplgfgoaaW.PrintLast Go.Proofs.YtdkalnkplgfgoaaW.PrintMore
attribute [local go_sem] d9 eu fH fI dR dS ek eB
def bM.f (a0 : Int) (a1 : Int) (a2 : Int) : Option (Int × Bool) := if (Go.bits .andNot .u16 a0 8) = 4 then (some ((a1 + a2) % 4294967296, true)) else (if (Go.bits .andNot .u16 a0 8) = 20 then (some ((a1 - a2) % 4294967296, true)) else (if (Go.bits .andNot .u16 a0 8) = 36 then (some ((a1 * a2) % 4294967296, true)) else (if (Go.bits .andNot .u16 a0 8) = 68 then (some (Go.bits .or .u32 a1 a2, true)) else (if (Go.bits .andNot .u16 a0 8) = 84 then (some (Go.bits .and .u32 a1 a2, true)) else (if (Go.bits .andNot .u16 a0 8) = 164 then (some (Go.bits .xor .u32 a1 a2, true)) else (if (Go.bits .andNot .u16 a0 8) = 100 then (if 0 ≤ a2 then (some (shl .u32 a1 a2, true)) else (none)) else (if (Go.bits .andNot .u16 a0 8) = 116 then (if 0 ≤ a2 then (some (shr .u32 a1 a2, true)) else (none)) else (if a2 = 0 then (some (0, false)) else (if (Go.bits .andNot .u16 a0 8) = 52 then (some ((Int.tdiv a1 a2) % 4294967296, true)) else (some (Int.tmod a1 a2, true)))))))))))
theorem bM.calls (a0 : Int) (a1 : Int) (a2 : Int) (r1 : Int) (r2 : Bool) (w : World) (h : bM.f a0 a1 a2 = some (r1, r2)) :
 Calls Try.prog 155 #[.int .u16 a0, .int .u32 a1, .int .u32 a2] w fun e w' => e = .returned (.tuple #[.int .u32 r1, .bool r2]) ∧ cu w w' := by
 have H : (if (Go.bits .andNot .u16 a0 8) = 4 then (some ((a1 + a2) % 4294967296, true)) else (if (Go.bits .andNot .u16 a0 8) = 20 then (some ((a1 - a2) % 4294967296, true)) else (if (Go.bits .andNot .u16 a0 8) = 36 then (some ((a1 * a2) % 4294967296, true)) else (if (Go.bits .andNot .u16 a0 8) = 68 then (some (Go.bits .or .u32 a1 a2, true)) else (if (Go.bits .andNot .u16 a0 8) = 84 then (some (Go.bits .and .u32 a1 a2, true)) else (if (Go.bits .andNot .u16 a0 8) = 164 then (some (Go.bits .xor .u32 a1 a2, true)) else (if (Go.bits .andNot .u16 a0 8) = 100 then (if 0 ≤ a2 then (some (shl .u32 a1 a2, true)) else (none)) else (if (Go.bits .andNot .u16 a0 8) = 116 then (if 0 ≤ a2 then (some (shr .u32 a1 a2, true)) else (none)) else (if a2 = 0 then (some (0, false)) else (if (Go.bits .andNot .u16 a0 8) = 52 then (some ((Int.tdiv a1 a2) % 4294967296, true)) else (some (Int.tmod a1 a2, true)))))))))))) = some (r1, r2) := h
 clear h
 iterate 2
  replace H := bL H
  obtain ⟨H, -, _, _⟩ | ⟨H, c4, _, _⟩ := H
  · obtain ⟨rfl, rfl⟩ := so2 H
    go_enter Try.func155, Try.ntmps155
    go_wp2
    go_ret2
    exact ⟨aW, bA⟩
 iterate 2
  replace H := bL H
  obtain ⟨H, -, _, _⟩ | ⟨H, c6, _, _⟩ := H
  · obtain ⟨rfl, rfl⟩ := so2 H
    go_enter Try.func155, Try.ntmps155
    go_wp2
    go_ret2
    exact ⟨aW, bA⟩
 iterate 2
  replace H := bL H
  obtain ⟨H, -, _, _⟩ | ⟨H, c8, _, _⟩ := H
  · obtain ⟨rfl, rfl⟩ := so2 H
    go_enter Try.func155, Try.ntmps155
    go_wp2
    go_ret2
    exact ⟨aW, bA⟩
 replace H := bL H
 obtain ⟨H, -, _, _⟩ | ⟨H, c10, _, _⟩ := H
 · replace H := mO H
   obtain ⟨H, c11⟩ | ⟨H, c11⟩ := H
   · have c11b0 := eq_true c11
     have c11b1 : decide (0 ≤ a2) = true := decide_eq_true c11
     clear c11
     obtain ⟨ji12, hji12⟩ : ∃ j_ : Int, (shl .u32 a1 a2) = j_ := ⟨_, rfl⟩
     replace H : (some (ji12, true)) = some (r1, r2) := by first | (rw [hji12] at H; exact H) | (simp only [hji12] at H ⊢; exact H)
     have hji12_ : (IntKind.u32.wrap (a1 * 2 ^ min a2.toNat 32)) = ji12 := hji12
     have hji12z : a2 ≤ 32 → (IntKind.u32.wrap (a1 * 2 ^ a2.toNat)) = ji12 := qK hji12
     obtain ⟨rfl, rfl⟩ := so2 H
     go_enter Try.func155, Try.ntmps155
     go_wp2
     go_ret2
     exact ⟨by first | rfl | (simp; done) | (simp only [← hji12] <;> (first | rfl | simp)) | (simp [*]; done), bA⟩
   exact absurd H (by simp)
 replace H := bL H
 obtain ⟨H, -, _, _⟩ | ⟨H, c13, _, _⟩ := H
 · replace H := mO H
   obtain ⟨H, c14⟩ | ⟨H, c14⟩ := H
   · have c14b0 := eq_true c14
     have c14b1 : decide (0 ≤ a2) = true := decide_eq_true c14
     clear c14
     obtain ⟨ji15, hji15⟩ : ∃ j_ : Int, (shr .u32 a1 a2) = j_ := ⟨_, rfl⟩
     replace H : (some (ji15, true)) = some (r1, r2) := by first | (rw [hji15] at H; exact H) | (simp only [hji15] at H ⊢; exact H)
     have hji15_ : (a1 / 2 ^ min a2.toNat 32) = ji15 := hji15
     have hji15z : a2 ≤ 32 → (a1 / 2 ^ a2.toNat) = ji15 := qL hji15
     obtain ⟨rfl, rfl⟩ := so2 H
     go_enter Try.func155, Try.ntmps155
     go_wp2
     go_ret2
     exact ⟨by first | rfl | (simp; done) | (simp only [← hji15] <;> (first | rfl | simp)) | (simp [*]; done), bA⟩
   exact absurd H (by simp)
 iterate 2
  replace H := bL H
  obtain ⟨H, -, _, _⟩ | ⟨H, c16, _, _⟩ := H
  · obtain ⟨rfl, rfl⟩ := so2 H
    go_enter Try.func155, Try.ntmps155
    go_wp2
    go_ret2
    exact ⟨aW, bA⟩
 obtain ⟨rfl, rfl⟩ := so2 H
 go_enter Try.func155, Try.ntmps155
 go_wp2
 go_ret2
 exact ⟨aW, bA⟩
def ib.f (a0 : Int) (a1 : Int) (a2 : Int) : Option (Bool) := if (Go.bits .andNot .u16 a0 8) = 21 then (some (a1 == a2)) else (if (Go.bits .andNot .u16 a0 8) = 37 then (some (decide (a1 > a2))) else (if (Go.bits .andNot .u16 a0 8) = 53 then (some (decide (a1 ≥ a2))) else (some ((Go.bits .and .u32 a1 a2) != 0))))
theorem ib.calls (a0 : Int) (a1 : Int) (a2 : Int) (r : Bool) (w : World) (h : ib.f a0 a1 a2 = some r) :
 Calls Try.prog 157 #[.int .u16 a0, .int .u32 a1, .int .u32 a2] w fun e w' => e = .returned (.bool r) ∧ cu w w' := by
 have H : (if (Go.bits .andNot .u16 a0 8) = 21 then (some (a1 == a2)) else (if (Go.bits .andNot .u16 a0 8) = 37 then (some (decide (a1 > a2))) else (if (Go.bits .andNot .u16 a0 8) = 53 then (some (decide (a1 ≥ a2))) else (some ((Go.bits .and .u32 a1 a2) != 0))))) = some r := h
 clear h
 replace H := bL H
 obtain ⟨H, -, _, _⟩ | ⟨H, c4, _, _⟩ := H
 · cases H
   go_enter Try.func157, Try.ntmps157
   go_wp2
   go_ret
   exact ⟨aW, bA⟩
 iterate 2
  replace H := bL H
  obtain ⟨H, -, _, _⟩ | ⟨H, c5, _, _⟩ := H
  · cases H
    go_enter Try.func157, Try.ntmps157
    go_wp2
    go_ret
    exact ⟨aW, bA⟩
 cases H
 go_enter Try.func157, Try.ntmps157
 go_wp2
 go_ret
 exact ⟨aW, bA⟩
def gX.f (a0 : Int) : Option (Bool × Int) := some (true, a0)
theorem gX.calls (a0 : Int) (r1 : Bool) (r2 : Int) (w : World) (h : gX.f a0 = some (r1, r2)) :
 Calls Try.prog 125 #[.int .u32 a0] w fun e w' => e = .returned (.agg #[.bool r1, .int .u32 r2]) ∧ Below w.heap.size w w' := by
 have hu149 := Try.underlying149
 have HB := aa.mk (Below.refl w.heap.size w)
 have H : (some (true, a0)) = some (r1, r2) := h
 clear h
 obtain ⟨rfl, rfl⟩ := so2 H
 go_enter Try.func125, Try.ntmps125
 go_wp2_with ((with_reducible refine aU (N := 2) rfl ?_); refine dU (N := 2) (cs := #[.bool false, .int .u32 0]) (t := 149) ?_; intro gb562 hg w2 hbox hb; have GE562 := geN HB hg; have BK562 := aa.mk hbox; replace HB := di HB hb; clear hb hbox hg; have hcz3_0 : w2.cell? ⟨gb562, 0, none⟩ = some (.bool false) := (ae BK562.out 0).trans rfl; have hcz3_1 : w2.cell? ⟨gb562, 1, none⟩ = some (.int .u32 0) := (ae BK562.out 1).trans rfl; have hfz3_0 := af BK562.out 0; have hfz3_1 := af BK562.out 1)
 refine bodyPost_ret (results_cell_row rfl _ _ gb562 149 #[.bool true, .int .u32 a0] (0, 0) _ rfl (by (with_reducible repeat (first | refine aZ ?_ _ | refine bz ?_ | refine aQ ?_ _)); refine aN (cs := #[.bool true, .int .u32 0]) ?_ 1 _ rfl; (with_reducible repeat (first | refine aZ ?_ _ | refine bz ?_ | refine aQ ?_ _)); refine aN (cs := #[.bool false, .int .u32 0]) ?_ 0 _ rfl; (with_reducible repeat (first | refine aZ ?_ _ | refine bz ?_ | refine aQ ?_ _)); exact BK562.out) Try.underlying149 rfl (by kernel_rfl)) rfl ?_
 exact ⟨dn, bD⟩
def jd.f (a0_0 : Int) (a0_1 : Int) (a0_2 : Int) (a0_3 : Int) : Option (Int × Int × Bool) := if a0_0 = 96 then (some (wrap64 (2 + (wrap64 (a0_3))), 0, true)) else (if a0_0 = 97 then (some (wrap64 (2 + (wrap64 (a0_3))), 1, true)) else (if a0_0 = 2 then (some (0, wrap64 (2 + (wrap64 (a0_3))), true)) else (if a0_0 = 3 then (some (1, wrap64 (2 + (wrap64 (a0_3))), true)) else (if a0_0 = 7 then (some (0, 1, true)) else (if a0_0 = 135 then (some (1, 0, true)) else (some (0, 0, false)))))))
theorem jd.calls (a0_0 : Int) (a0_1 : Int) (a0_2 : Int) (a0_3 : Int) (r1 : Int) (r2 : Int) (r3 : Bool) (w : World) (h : jd.f a0_0 a0_1 a0_2 a0_3 = some (r1, r2, r3)) :
 Calls Try.prog 131 #[.agg #[.int .u16 a0_0, .int .u8 a0_1, .int .u8 a0_2, .int .u32 a0_3]] w fun e w' => e = .returned (.tuple #[.int .i64 r1, .int .i64 r2, .bool r3]) ∧ Below w.heap.size w w' := by
 have hu45 := Try.underlying45
 have HB := aa.mk (Below.refl w.heap.size w)
 have H : (if a0_0 = 96 then (some (wrap64 (2 + (wrap64 (a0_3))), 0, true)) else (if a0_0 = 97 then (some (wrap64 (2 + (wrap64 (a0_3))), 1, true)) else (if a0_0 = 2 then (some (0, wrap64 (2 + (wrap64 (a0_3))), true)) else (if a0_0 = 3 then (some (1, wrap64 (2 + (wrap64 (a0_3))), true)) else (if a0_0 = 7 then (some (0, 1, true)) else (if a0_0 = 135 then (some (1, 0, true)) else (some (0, 0, false)))))))) = some (r1, r2, r3) := h
 clear h
 iterate 2
  replace H := bL H
  obtain ⟨H, -, _, _⟩ | ⟨H, c2, _, _⟩ := H
  · obtain ⟨rfl, rfl, rfl⟩ := so3 H
    go_enter Try.func131, Try.ntmps131
    go_wp2_with ((with_reducible refine aU (N := 1) rfl ?_); refine dU (N := 1) (cs := #[.int .u16 a0_0, .int .u8 a0_1, .int .u8 a0_2, .int .u32 a0_3]) (t := 45) ?_; intro gb563 hg w3 hbox hb; have GE563 := geN HB hg; have BK563 := aa.mk hbox; replace HB := di HB hb; clear hb hbox hg; obtain ⟨_, _, _, _, _, _, _, _⟩ := cz4 BK563)
    repeat (go_quiet (first | ((with_reducible refine aU (N := 1) rfl ?_); refine dU (N := 1) (cs := #[.int .u16 a0_0, .int .u8 a0_1, .int .u8 a0_2, .int .u32 a0_3]) (t := 45) ?_; intro gb563 hg w3 hbox hb; have GE563 := geN HB hg; have BK563 := aa.mk hbox; replace HB := di HB hb; clear hb hbox hg; obtain ⟨_, _, _, _, _, _, _, _⟩ := cz4 BK563)); try go_wp2_with ((with_reducible refine aU (N := 1) rfl ?_); refine dU (N := 1) (cs := #[.int .u16 a0_0, .int .u8 a0_1, .int .u8 a0_2, .int .u32 a0_3]) (t := 45) ?_; intro gb563 hg w3 hbox hb; have GE563 := geN HB hg; have BK563 := aa.mk hbox; replace HB := di HB hb; clear hb hbox hg; obtain ⟨_, _, _, _, _, _, _, _⟩ := cz4 BK563))
    go_ret3
    exact ⟨dn, bD⟩
 iterate 2
  replace H := bL H
  obtain ⟨H, -, _, _⟩ | ⟨H, c8, _, _⟩ := H
  · obtain ⟨rfl, rfl, rfl⟩ := so3 H
    go_enter Try.func131, Try.ntmps131
    go_wp2_with ((with_reducible refine aU (N := 1) rfl ?_); refine dU (N := 1) (cs := #[.int .u16 a0_0, .int .u8 a0_1, .int .u8 a0_2, .int .u32 a0_3]) (t := 45) ?_; intro gb563 hg w9 hbox hb; have GE563 := geN HB hg; have BK563 := aa.mk hbox; replace HB := di HB hb; clear hb hbox hg; obtain ⟨_, _, _, _, _, _, _, _⟩ := cz4 BK563)
    repeat (go_quiet (first | ((with_reducible refine aU (N := 1) rfl ?_); refine dU (N := 1) (cs := #[.int .u16 a0_0, .int .u8 a0_1, .int .u8 a0_2, .int .u32 a0_3]) (t := 45) ?_; intro gb563 hg w9 hbox hb; have GE563 := geN HB hg; have BK563 := aa.mk hbox; replace HB := di HB hb; clear hb hbox hg; obtain ⟨_, _, _, _, _, _, _, _⟩ := cz4 BK563)); try go_wp2_with ((with_reducible refine aU (N := 1) rfl ?_); refine dU (N := 1) (cs := #[.int .u16 a0_0, .int .u8 a0_1, .int .u8 a0_2, .int .u32 a0_3]) (t := 45) ?_; intro gb563 hg w9 hbox hb; have GE563 := geN HB hg; have BK563 := aa.mk hbox; replace HB := di HB hb; clear hb hbox hg; obtain ⟨_, _, _, _, _, _, _, _⟩ := cz4 BK563))
    go_ret3
    exact ⟨dn, bD⟩
 iterate 2
  replace H := bL H
  obtain ⟨H, -, _, _⟩ | ⟨H, c14, _, _⟩ := H
  · obtain ⟨rfl, rfl, rfl⟩ := so3 H
    go_enter Try.func131, Try.ntmps131
    go_wp2_with ((with_reducible refine aU (N := 1) rfl ?_); refine dU (N := 1) (cs := #[.int .u16 a0_0, .int .u8 a0_1, .int .u8 a0_2, .int .u32 a0_3]) (t := 45) ?_; intro gb563 hg w15 hbox hb; have GE563 := geN HB hg; have BK563 := aa.mk hbox; replace HB := di HB hb; clear hb hbox hg; obtain ⟨_, _, _, _, _, _, _, _⟩ := cz4 BK563)
    repeat (go_quiet (first | ((with_reducible refine aU (N := 1) rfl ?_); refine dU (N := 1) (cs := #[.int .u16 a0_0, .int .u8 a0_1, .int .u8 a0_2, .int .u32 a0_3]) (t := 45) ?_; intro gb563 hg w15 hbox hb; have GE563 := geN HB hg; have BK563 := aa.mk hbox; replace HB := di HB hb; clear hb hbox hg; obtain ⟨_, _, _, _, _, _, _, _⟩ := cz4 BK563)); try go_wp2_with ((with_reducible refine aU (N := 1) rfl ?_); refine dU (N := 1) (cs := #[.int .u16 a0_0, .int .u8 a0_1, .int .u8 a0_2, .int .u32 a0_3]) (t := 45) ?_; intro gb563 hg w15 hbox hb; have GE563 := geN HB hg; have BK563 := aa.mk hbox; replace HB := di HB hb; clear hb hbox hg; obtain ⟨_, _, _, _, _, _, _, _⟩ := cz4 BK563))
    go_ret3
    exact ⟨dn, bD⟩
 obtain ⟨rfl, rfl, rfl⟩ := so3 H
 go_enter Try.func131, Try.ntmps131
 go_wp2_with ((with_reducible refine aU (N := 1) rfl ?_); refine dU (N := 1) (cs := #[.int .u16 a0_0, .int .u8 a0_1, .int .u8 a0_2, .int .u32 a0_3]) (t := 45) ?_; intro gb563 hg w20 hbox hb; have GE563 := geN HB hg; have BK563 := aa.mk hbox; replace HB := di HB hb; clear hb hbox hg; obtain ⟨_, _, _, _, _, _, _, _⟩ := cz4 BK563)
 repeat (go_quiet (first | ((with_reducible refine aU (N := 1) rfl ?_); refine dU (N := 1) (cs := #[.int .u16 a0_0, .int .u8 a0_1, .int .u8 a0_2, .int .u32 a0_3]) (t := 45) ?_; intro gb563 hg w20 hbox hb; have GE563 := geN HB hg; have BK563 := aa.mk hbox; replace HB := di HB hb; clear hb hbox hg; obtain ⟨_, _, _, _, _, _, _, _⟩ := cz4 BK563)); try go_wp2_with ((with_reducible refine aU (N := 1) rfl ?_); refine dU (N := 1) (cs := #[.int .u16 a0_0, .int .u8 a0_1, .int .u8 a0_2, .int .u32 a0_3]) (t := 45) ?_; intro gb563 hg w20 hbox hb; have GE563 := geN HB hg; have BK563 := aa.mk hbox; replace HB := di HB hb; clear hb hbox hg; obtain ⟨_, _, _, _, _, _, _, _⟩ := cz4 BK563))
 go_ret3
 exact ⟨dn, bD⟩
def dH.j0 : Nat → Int → Bool → Int → Int → Int → Int → Option (Int)
 | 0, _, _, _, _, _, _ => none
 | k + 1, x5, x8, x565000, x565001, x565002, x565003 => if x8 = true then (some (wrap64 (2 + (wrap64 (x565003))))) else (if x5 = 7 then (if x565000 = 7 then (some 1) else (some 0)) else (some 0))
def dH.f (k : Nat) (a0_0 : Int) (a0_1 : Int) (a0_2 : Int) (a0_3 : Int) : Option (Int) := (aD.f k a0_0).bind fun t565 => (if t565 = 1 then (some 1) else (if t565 = 2 then (dH.j0 k t565 (t565 == 2) a0_0 a0_1 a0_2 a0_3) else (dH.j0 k t565 (t565 == 3) a0_0 a0_1 a0_2 a0_3)))
theorem dH.calls (k : Nat) (a0_0 : Int) (a0_1 : Int) (a0_2 : Int) (a0_3 : Int) (r : Int) (w : World) (h : dH.f k a0_0 a0_1 a0_2 a0_3 = some r) :
 Calls Try.prog 133 #[.agg #[.int .u16 a0_0, .int .u8 a0_1, .int .u8 a0_2, .int .u32 a0_3]] w fun e w' => e = .returned (.int .i64 r) ∧ Below w.heap.size w w' := by
 have hu45 := Try.underlying45
 have HB := aa.mk (Below.refl w.heap.size w)
 have H : ((aD.f k a0_0).bind fun t565 => (if t565 = 1 then (some 1) else (if t565 = 2 then (dH.j0 k t565 (t565 == 2) a0_0 a0_1 a0_2 a0_3) else (dH.j0 k t565 (t565 == 3) a0_0 a0_1 a0_2 a0_3)))) = some r := h
 clear h
 replace H := bnd H
 obtain ⟨t565, A2, H⟩ := H
 replace H := bL H
 obtain ⟨H, -, _, _⟩ | ⟨H, c3, _, _⟩ := H
 · cases H
   go_enter Try.func133, Try.ntmps133
   go_wp2_with (first | ((with_reducible refine aU (N := 1) rfl ?_); refine dU (N := 1) (cs := #[.int .u16 a0_0, .int .u8 a0_1, .int .u8 a0_2, .int .u32 a0_3]) (t := 45) ?_; intro gb564 hg w4 hbox hb; have GE564 := geN HB hg; have BK564 := aa.mk hbox; replace HB := di HB hb; clear hb hbox hg; obtain ⟨_, _, _, _, _, _, _, _⟩ := cz4 BK564) | (go_at_call 99; (with_reducible refine (aD.calls _ _ _ _ A2.out).mono ?_); rintro e w' ⟨rfl, ⟨nd, rfl⟩⟩))
   go_ret
   exact ⟨dn, bD⟩
 have HC6 := aa.mk H
 clear H
 go_enter Try.func133, Try.ntmps133
 go_upto_if 8 with (first | ((with_reducible refine aU (N := 1) rfl ?_); refine dU (N := 1) (cs := #[.int .u16 a0_0, .int .u8 a0_1, .int .u8 a0_2, .int .u32 a0_3]) (t := 45) ?_; intro gb564 hg w7 hbox hb; have GE564 := geN HB hg; have BK564 := aa.mk hbox; replace HB := di HB hb; clear hb hbox hg; obtain ⟨_, _, _, _, _, _, _, _⟩ := cz4 BK564) | (go_at_call 99; (with_reducible refine (aD.calls _ _ _ _ A2.out).mono ?_); rintro e w' ⟨rfl, ⟨nd, rfl⟩⟩))
 (try simp only [Act.put, List.setIfInBounds_toArray, List.set_cons_zero, List.set_cons_succ])
 go_cut [8] (fun v8 wc => ∃ (kq : Nat) (x8_5 : Bool), v8 = .bool x8_5 ∧ aa (dH.j0 kq t565 x8_5 a0_0 a0_1 a0_2 a0_3 = some r) ∧ aa (kq ≤ k) ∧ aa (wc.heap[gb564]? = some (.cells #[.int .u16 a0_0, .int .u8 a0_1, .int .u8 a0_2, .int .u32 a0_3] 45 (0, 0))) ∧ aa (Below w.heap.size w wc))
 case first =>
  have H := HC6.out
  clear HC6
  replace H := bL H
  obtain ⟨H, -, c9b0, _⟩ | ⟨H, c9, c9b0, _⟩ := H
  · (first | rw [c9b0] | (simp only [dB, dD]; rw [c9b0]) | skip)
    replace H := aa.mk H
    go_wp2
    go_meet
    case rel => exact ⟨_, _, aW, H, ⟨le0⟩, ⟨iR⟩, ⟨bD⟩⟩
  (first | rw [c9b0] | (simp only [dB, dD]; rw [c9b0]) | skip)
  replace H := aa.mk H
  go_wp2
  go_meet
  case rel => exact ⟨_, _, aW, H, ⟨le0⟩, ⟨iR⟩, ⟨bD⟩⟩
 case rest =>
  clear HC6
  obtain ⟨kq, x8_5, rfl, HA, HJ5, BK564, HB⟩ := hcut
  cases kq with
  | zero => exact absurd HA.out (by simp [dH.j0])
  | succ kj5 =>
   have H := HA.out
   clear HA
   simp only [dH.j0] at H
   by_cases c10 : x8_5 = true
   · subst c10
     have H1 : (some (wrap64 (2 + (wrap64 (a0_3))))) = some r := by rw [if_pos rfl] at H; exact H
     clear H
     have H := H1
     clear H1
     cases H
     obtain ⟨_, _, _, _, _, _, _, _⟩ := cz4 BK564
     go_wp2
     go_ret
     exact ⟨dn, bD⟩
   replace c10 := Bool.eq_false_iff.mpr c10
   subst c10
   have H1 : (if t565 = 7 then (if a0_0 = 7 then (some 1) else (some 0)) else (some 0)) = some r := by rw [if_neg (show ¬ (false = true) by decide)] at H; exact H
   clear H
   have H := H1
   clear H1
   replace H := bL H
   obtain ⟨H, -, _, _⟩ | ⟨H, c12, _, _⟩ := H
   · replace H := bL H
     obtain ⟨H, -, _, _⟩ | ⟨H, c13, _, _⟩ := H
     · cases H
       obtain ⟨_, _, _, _, _, _, _, _⟩ := cz4 BK564
       go_wp2
       go_ret
       exact ⟨dn, bD⟩
     cases H
     obtain ⟨_, _, _, _, _, _, _, _⟩ := cz4 BK564
     go_wp2
     go_ret
     exact ⟨dn, bD⟩
   cases H
   go_wp2
   go_ret
   exact ⟨dn, bD⟩
end Go.Proofs.Ytdkalnkplgfgoaa.PA
namespace Go.Proofs.Ytdkalnkplgfgoaa.Ln
open Go.RowKit Go.Maps Go.Proofs.YtdkalnkplgfgoaaW.PrintWords Go.Proofs.YtdkalnkplgfgoaaW.PrintLast Go.Proofs.YtdkalnkplgfgoaaW.PrintMore Go.Proofs.Ytdkalnkplgfgoaa.PA
theorem AU (k : Nat) (c : Int) : PA.aD.f k c = aD.f k c := rfl
theorem andN_K : ∀ c ∈ eY, Go.bits .andNot .u16 c 8 = c := by decide +kernel
theorem tL {c a k : Int} (hc : c ∈ eY) (hk : 0 ≤ k) (h52 : (c = 52 ∨ c = 148) → k ≠ 0) (h31 : (c = 100 ∨ c = 116) → k ≤ 31) : PA.bM.f c a k = some ((opP c a k).1, true) := by
 have hb := andN_K c hc
 unfold PA.bM.f
 rw [hb]
 simp only [eY, List.mem_cons, List.not_mem_nil, or_false] at hc
 rcases hc with rfl | rfl | rfl | rfl | rfl | rfl | rfl | rfl | rfl | rfl
 · rfl
 · rfl
 · rfl
 · rw [AA, if_neg (h52 (.inl rfl)), if_neg (by decide), if_neg (by decide), if_neg (by decide), if_neg (by decide), if_neg (by decide), if_neg (by decide), if_neg (by decide), if_neg (by decide), if_neg (h52 (.inl rfl))]; rfl
 · rfl
 · rfl
 · have := h31 (.inl rfl)
   rw [rQ hk, if_neg (show ¬ k > 31 by omega), if_neg (by decide), if_neg (by decide), if_neg (by decide), if_neg (by decide), if_neg (by decide), if_neg (by decide), if_pos rfl, if_pos hk]
 · have := h31 (.inr rfl)
   rw [rR hk, if_neg (show ¬ k > 31 by omega), if_neg (by decide), if_neg (by decide), if_neg (by decide), if_neg (by decide), if_neg (by decide), if_neg (by decide), if_neg (by decide), if_pos rfl, if_pos hk]
 · rw [Az, if_neg (h52 (.inr rfl)), if_neg (by decide), if_neg (by decide), if_neg (by decide), if_neg (by decide), if_neg (by decide), if_neg (by decide), if_neg (by decide), if_neg (by decide), if_neg (h52 (.inr rfl))]; rfl
 rfl
theorem holds_f {c a k : Int} (hc : jmB c = true) (hx : c ∉ tX) : PA.ib.f c a k = some (hoK c a k) := by
 have hm : c ∈ ([21, 29, 37, 45, 53, 61, 69, 77] : List Int) := of_decide_eq_true hc
 simp only [tX, List.mem_cons, List.not_mem_nil, or_false] at hm hx
 have H : c ∈ ([21, 37, 53, 69] : List Int) := by simp only [List.mem_cons, List.not_mem_nil, or_false]; omega
 have G : ∀ c ∈ ([21, 37, 53, 69] : List Int), Go.bits .andNot .u16 c 8 = c := by decide +kernel
 unfold PA.ib.f hoK
 rw [G c H]
 by_cases h1 : c = 21
 · rw [if_pos h1, if_pos h1]
 rw [if_neg h1, if_neg h1]
 by_cases h2 : c = 37
 · rw [if_pos h2, if_pos h2]
 rw [if_neg h2, if_neg h2]
 by_cases h3 : c = 53
 · rw [if_pos h3, if_pos h3]
 rw [if_neg h3, if_neg h3]
theorem ug : ∀ c ∈ stL, (aT c = 0 ↔ c ∈ ([0, 32, 40, 48, 64, 72, 80, 96, 128] : List Int)) ∧ (aT c = 1 ↔ c ∈ ([1, 97, 129, 177] : List Int)) ∧ (aT c = 2 ↔ c = 2) ∧ (aT c = 3 ↔ c = 3) ∧ (aT c = 4 ↔ c = 132 ∨ c ∈ eY ∨ c ∈ gJ) ∧ aT c ≠ 5 ∧ aT c ≠ 6 ∧ (aT c = 7 ↔ c = 7 ∨ c = 135) ∧ aT c ≠ -1 := by
 decide +kernel
theorem tY {i : S45} (hc : stB i.f0 i.f3 = true) (hk : Rg i.f3) (k : Nat) : PA.dH.f (k + 8) i.f0 i.f1 i.f2 i.f3 = some (wrF i : Int) := by
 obtain ⟨hm, h16, _⟩ := gQ hc
 obtain ⟨h0, h1, h2, h3, h4, h5, h6, h7, h8⟩ := ug i.f0 hm
 have hk0 := hk.1
 have hk1 := hk.2
 have e : wrap64 (2 + wrap64 i.f3) = 2 + i.f3 := by rw [w64 (n := i.f3) (by omega) (by omega), w64 (by omega) (by omega)]
 unfold PA.dH.f
 rw [AU, (gV i.f0 k).1]
 simp only [Option.bind_some]
 have hj : ∀ b : Bool, PA.dH.j0 (k + 7 + 1) (aT i.f0) b i.f0 i.f1 i.f2 i.f3 = if b = true then some (2 + i.f3) else if aT i.f0 = 7 then (if i.f0 = 7 then some 1 else some 0) else some 0 := fun b => by
  rw [PA.dH.j0, e]
 rw [hj, hj]
 unfold wrF
 simp only [List.mem_cons, List.not_mem_nil, or_false] at h1
 by_cases c1 : aT i.f0 = 1
 · rw [if_pos c1, if_pos (by have := h1.1 c1; omega)]; rfl
 rw [if_neg c1]
 have n1 : ¬ (i.f0 = 1 ∨ i.f0 = 97 ∨ i.f0 = 129 ∨ i.f0 = 177) := fun h => c1 (h1.2 h)
 by_cases c2 : aT i.f0 = 2
 · have := h2.1 c2
   rw [if_pos c2, if_pos (beq_iff_eq.mpr c2), if_neg (by omega), if_pos (.inl this)]
   congr 1; omega
 rw [if_neg c2]
 by_cases c3 : aT i.f0 = 3
 · have := h3.1 c3
   rw [if_pos (beq_iff_eq.mpr c3), if_neg (by omega), if_pos (.inr this)]
   congr 1; omega
 rw [if_neg (by simpa using c3)]
 have n2 : i.f0 ≠ 2 := fun h => c2 (h2.2 h)
 have n3 : i.f0 ≠ 3 := fun h => c3 (h3.2 h)
 by_cases c7 : aT i.f0 = 7
 · rw [if_pos c7]
   by_cases q : i.f0 = 7
   · rw [if_pos q, if_pos (by omega)]; rfl
   rw [if_neg q, if_neg (by omega), if_neg (by omega)]; rfl
 have := mt h7.2 c7
 rw [if_neg c7, if_neg (by omega), if_neg (by omega)]; rfl
theorem moves_f {i : S45} (hk : Rg i.f3) : PA.jd.f i.f0 i.f1 i.f2 i.f3 = some (match mvF i with | some (f, t) => ((f : Int), (t : Int), true) | none => (0, 0, false)) := by
 have hk0 := hk.1
 have hk1 := hk.2
 have e : wrap64 (2 + wrap64 i.f3) = ((2 + i.f3.toNat : Nat) : Int) := by rw [w64 (n := i.f3) (by omega) (by omega), w64 (by omega) (by omega)]; omega
 unfold PA.jd.f mvF
 rw [e]
 by_cases c1 : i.f0 = 96
 · rw [if_pos c1, if_pos c1]; rfl
 rw [if_neg c1, if_neg c1]
 by_cases c2 : i.f0 = 97
 · rw [if_pos c2, if_pos c2]; rfl
 rw [if_neg c2, if_neg c2]
 by_cases c3 : i.f0 = 2
 · rw [if_pos c3, if_pos c3]; rfl
 rw [if_neg c3, if_neg c3]
 by_cases c4 : i.f0 = 3
 · rw [if_pos c4, if_pos c4]; rfl
 rw [if_neg c4, if_neg c4]
 by_cases c5 : i.f0 = 7
 · rw [if_pos c5, if_pos c5]; rfl
 rw [if_neg c5, if_neg c5]
 by_cases c6 : i.f0 = 135
 · rw [if_pos c6, if_pos c6]; rfl
 rw [if_neg c6, if_neg c6]
theorem yY {c K : Int} (hc : stB c K = true) (k : Nat) : ∃ u1 u2, fB.f (k + 8) c = some (u1, u2, decide (c ∈ flL)) := by
 have hm := (gQ hc).1
 have hkn : kn c = true := by
  have H : ∀ x ∈ stL, kn x = true := by decide
  exact H c hm
 have H : ∀ x ∈ stL, gZ.f x = some (decide (x ∈ flL)) := by decide +kernel
 obtain ⟨⟨u2, u3, e⟩, _⟩ := vo c k
 unfold fB.f at e ⊢
 rw [(lq c k).1, hkn] at e ⊢
 simp only [Option.bind_some, if_true, H c hm] at e ⊢
 obtain ⟨x, hx, e⟩ := Option.bind_eq_some_iff.1 e
 obtain ⟨y, hy, e⟩ := Option.bind_eq_some_iff.1 e
 rw [hx, hy]
 exact ⟨_, _, rfl⟩
def jb (o : Option Int) : List Value := [.bool o.isSome, .int .u32 (o.getD 0)]
def aA (s : St) : Array Value := (s.flatMap jb).toArray
theorem y8 (s : St) : ∀ i, i < s.length → (s.flatMap jb)[2 * i]? = some (.bool (gS s i).isSome) ∧ (s.flatMap jb)[2 * i + 1]? = some (.int .u32 ((gS s i).getD 0)) := by
 induction s with
 | nil => intro i h; cases h
 | cons o r ih =>
  intro i h
  cases i with
  | zero => exact ⟨rfl, rfl⟩
  | succ i =>
   have := ih i (by simpa using h)
   exact this
theorem Bu {s : St} {i : Nat} (h : i < s.length) : (aA s)[2 * i]? = some (.bool (gS s i).isSome) := by
 unfold aA; rw [List.getElem?_toArray]; exact (y8 s i h).1
theorem sc_v {s : St} {i : Nat} (h : i < s.length) : (aA s)[2 * i + 1]? = some (.int .u32 ((gS s i).getD 0)) := by
 unfold aA; rw [List.getElem?_toArray]; exact (y8 s i h).2
theorem y9 (o : Option Int) : ∀ (s : St) (i : Nat), i < s.length → ((s.flatMap jb).set (2 * i) (.bool o.isSome)).set (2 * i + 1) (.int .u32 (o.getD 0)) = (s.set i o).flatMap jb := by
 intro s
 induction s with
 | nil => intro i h; cases h
 | cons a r ih =>
  intro i h
  cases i with
  | zero => rfl
  | succ i =>
   have := ih i (by simpa using h)
   show Value.bool a.isSome :: Value.int .u32 (a.getD 0) :: (((r.flatMap jb).set (2 * i) _).set (2 * i + 1) _) = _
   rw [this]; rfl
theorem sc_set {s : St} {i : Nat} (o : Option Int) (h : i < s.length) : ((aA s).setIfInBounds (2 * i) (.bool o.isSome)).setIfInBounds (2 * i + 1) (.int .u32 (o.getD 0)) = aA (s.set i o) := by
 unfold aA
 rw [List.setIfInBounds_toArray, List.setIfInBounds_toArray, y9 o s i h]
section
variable {w : World} {gs i : Nat} {s : St} {v : Int}
theorem cY (j : Nat) (hS : w.heap[gs]? = some (.cells (aA s) 151 (0, 0))) (e : gS s i = some v) (h : i < s.length := by omega) (hj : j = 2 * i := by rfl) : w.cell? ⟨gs, j, none⟩ = some (.bool true) := by
 subst hj
 exact (ae hS _).trans ((Bu h).trans (by rw [e]; rfl))
theorem cN (j : Nat) (hS : w.heap[gs]? = some (.cells (aA s) 151 (0, 0))) (e : gS s i = none) (h : i < s.length := by omega) (hj : j = 2 * i := by rfl) : w.cell? ⟨gs, j, none⟩ = some (.bool false) := by
 subst hj
 exact (ae hS _).trans ((Bu h).trans (by rw [e]; rfl))
theorem dY (j : Nat) (hS : w.heap[gs]? = some (.cells (aA s) 151 (0, 0))) (e : gS s i = some v) (h : i < s.length := by omega) (hj : j = 2 * i + 1 := by rfl) : w.cell? ⟨gs, j, none⟩ = some (.int .u32 v) := by
 subst hj
 exact (ae hS _).trans ((sc_v h).trans (by rw [e]; rfl))
theorem dN (j : Nat) (hS : w.heap[gs]? = some (.cells (aA s) 151 (0, 0))) (e : gS s i = none) (h : i < s.length := by omega) (hj : j = 2 * i + 1 := by rfl) : w.cell? ⟨gs, j, none⟩ = some (.int .u32 0) := by
 subst hj
 exact (ae hS _).trans ((sc_v h).trans (by rw [e]; rfl))
end
theorem size_alloc (w : World) (o : Obj) : (w.alloc o).heap.size = w.heap.size + 1 := by show (w.heap.push o).size = _; exact Array.size_push ..
theorem fA (w : World) (o1 o2 : Obj) : ((w.alloc o1).alloc o2).heap[w.heap.size + 1]? = some o2 := by
 have := heap_alloc_new (w.alloc o1) o2
 rwa [size_alloc] at this
theorem kV (w : World) (o1 o2 : Obj) : ((w.alloc o1).alloc o2).heap[w.heap.size]? = some o1 := by
 rw [← heap_alloc_new w o1]
 show ((w.heap.push o1).push o2)[w.heap.size]? = (w.heap.push o1)[w.heap.size]?
 rw [Array.getElem?_push, if_neg (by rw [Array.size_push]; omega)]
theorem cz (w : World) (o1 o2 : Obj) : Below w.heap.size w ((w.alloc o1).alloc o2) := ai (ai (Below.refl _ w) _) _
def fE (i : S45) : Value := .agg #[.int .u16 i.f0, .int .u8 i.f1, .int .u8 i.f2, .int .u32 i.f3]
theorem jQ {W : World} {g : Nat} {a b c d : Value} {T : TypeId} (h : W.heap[g]? = some (.cells #[a, b, c, d] T (0, 0))) (v0 v1 v2 v3 : Value) :
 ((((W.setCell ⟨g, 0, none⟩ v0).setCell ⟨g, 1, none⟩ v1).setCell ⟨g, 2, none⟩ v2).setCell ⟨g, 3, none⟩ v3).heap[g]? = some (.cells #[v0, v1, v2, v3] T (0, 0)) :=
 aN (aN (aN (aN h 0 _ rfl) 1 _ rfl) 2 _ rfl) 3 _ rfl
theorem gq {w W : World} {g : Nat} (h : Below w.heap.size w W) (hg : w.heap.size ≤ g) (v0 v1 v2 v3 : Value) :
 Below w.heap.size w ((((W.setCell ⟨g, 0, none⟩ v0).setCell ⟨g, 1, none⟩ v1).setCell ⟨g, 2, none⟩ v2).setCell ⟨g, 3, none⟩ v3) :=
 dA (dA (dA (dA h hg) hg) hg) hg
theorem alu_n1 (w : World) (gs : Nat) (s : St) (v i1 i2 k : Int) (hS : w.heap[gs]? = some (.cells (aA s) 151 (0, 0))) (hl : s.length = 18) (e0 : gS s 0 = some v) :
 Calls Try.prog 166 #[.pointer (some ⟨gs, 0, none⟩), .agg #[.int .u16 132, .int .u8 i1, .int .u8 i2, .int .u32 k]] w fun e w' => e = .returned (.agg #[.int .u16 0, .int .u8 0, .int .u8 0, .int .u32 (IntKind.u32.wrap (-v))]) ∧ Below w.heap.size w w' := by
 have c0 := cY 0 hS e0
 have c1 := dY 1 hS e0
 have hlt := ay hS
 have HS := aa.mk hS
 clear hS
 go_enter Try.func166, Try.ntmps166
 go_wp2
 refine bodyPost_ret (results_cell_row rfl _ _ (w.heap.size + 1) 45 (#[.int .u16 0, .int .u8 0, .int .u8 0, .int .u32 (IntKind.u32.wrap (-v))]) (0, 0) _ rfl (fA _ _ _) Try.underlying45 rfl (by kernel_rfl)) rfl ?_
 exact ⟨rfl, cz _ _ _⟩
theorem alu_n0 (w : World) (gs : Nat) (s : St) (i1 i2 k : Int) (hS : w.heap[gs]? = some (.cells (aA s) 151 (0, 0))) (hl : s.length = 18) (e0 : gS s 0 = none) :
 Calls Try.prog 166 #[.pointer (some ⟨gs, 0, none⟩), .agg #[.int .u16 132, .int .u8 i1, .int .u8 i2, .int .u32 k]] w fun e w' => e = .returned (.agg #[.int .u16 132, .int .u8 i1, .int .u8 i2, .int .u32 k]) ∧ Below w.heap.size w w' := by
 have c0 := cN 0 hS e0
 have hlt := ay hS
 have HS := aa.mk hS
 clear hS
 go_enter Try.func166, Try.ntmps166
 go_wp2
 refine bodyPost_ret (results_cell_row rfl _ _ (w.heap.size + 1) 45 (#[.int .u16 132, .int .u8 i1, .int .u8 i2, .int .u32 k]) (0, 0) _ rfl (fA _ _ _) Try.underlying45 rfl (by kernel_rfl)) rfl ?_
 exact ⟨rfl, cz _ _ _⟩
theorem alu_k1 (w : World) (gs : Nat) (s : St) (c v r i1 i2 k : Int) (hS : w.heap[gs]? = some (.cells (aA s) 151 (0, 0))) (hl : s.length = 18) (e0 : gS s 0 = some v) (hn : (c == 132) = false) (h8 : (Go.bits .and .u16 c 8 != 0) = false) (hr : PA.bM.f c v k = some (r, true)) :
 Calls Try.prog 166 #[.pointer (some ⟨gs, 0, none⟩), .agg #[.int .u16 c, .int .u8 i1, .int .u8 i2, .int .u32 k]] w fun e w' => e = .returned (.agg #[.int .u16 0, .int .u8 0, .int .u8 0, .int .u32 r]) ∧ Below w.heap.size w w' := by
 have c0 := cY 0 hS e0
 have c1 := dY 1 hS e0
 have hlt := ay hS
 have HS := aa.mk hS
 have HC := fun W => PA.bM.calls c v k r true W hr
 have HC := aa.mk HC
 clear hS hr
 go_enter Try.func166, Try.ntmps166
 go_upto_region 16 with (fail)
 refine forget (fun W => ∃ gi, gi = w.heap.size ∧ Below w.heap.size w W ∧ W.heap[gi]? = some (.cells #[.int .u16 (c), .int .u8 i1, .int .u8 i2, .int .u32 k] 45 (0, 0)) ∧ W.heap[gi + 1]? = some (.cells #[.int .u16 0, .int .u8 0, .int .u8 0, .int .u32 0] 45 (0, 0))) ⟨_, rfl, cz _ _ _, kV _ _ _, fA _ _ _⟩ ?_
 rintro W ⟨gi, egi, hb, hi, hr⟩
 rw [← egi]
 have x1 := au hb c1
 have y0 := dZ hi 0
 have y3 := dZ hi 3
 have HB := aa.mk hb
 have HI := aa.mk hi
 have HR := aa.mk hr
 have EG := aa.mk egi
 clear hb hi hr c0 c1 egi
 go_quiet ((go_at_call 155; exact Calls.quiet_of ((HC.out _).mono fun _ _ ⟨he, ⟨m, hm⟩⟩ => ⟨he, m, hm⟩)))
 obtain ⟨z0, z1, z2, z3, t0, t1, t2, t3⟩ := cz4 ⟨HR.out⟩
 go_wp2
 have hq := aC (Below.refl W.heap.size W) nq
 refine bodyPost_ret (results_cell_row rfl _ _ (gi + 1) 45 (#[.int .u16 0, .int .u8 0, .int .u8 0, .int .u32 r]) (0, 0) _ rfl (jQ (aj HR.out hq) _ _ _ _) Try.underlying45 rfl (by kernel_rfl)) rfl ?_
 exact ⟨rfl, gq (ax HB.out hq) (by have := EG.out; omega) _ _ _ _⟩
theorem alu_k84 (w : World) (gs : Nat) (s : St) (i1 i2 k : Int) (hS : w.heap[gs]? = some (.cells (aA s) 151 (0, 0))) (hl : s.length = 18) (e0 : gS s 0 = none) (hk : k = 0) :
 Calls Try.prog 166 #[.pointer (some ⟨gs, 0, none⟩), .agg #[.int .u16 84, .int .u8 i1, .int .u8 i2, .int .u32 k]] w fun e w' => e = .returned (.agg #[.int .u16 0, .int .u8 0, .int .u8 0, .int .u32 0]) ∧ Below w.heap.size w w' := by
 have c0 := cN 0 hS e0
 subst hk
 have hlt := ay hS
 have HS := aa.mk hS
 clear hS
 go_enter Try.func166, Try.ntmps166
 go_wp2
 refine bodyPost_ret (results_cell_row rfl _ _ (w.heap.size + 1) 45 (#[.int .u16 0, .int .u8 0, .int .u8 0, .int .u32 0]) (0, 0) _ rfl (fA _ _ _) Try.underlying45 rfl (by kernel_rfl)) rfl ?_
 exact ⟨rfl, cz _ _ _⟩
theorem alu_k36 (w : World) (gs : Nat) (s : St) (i1 i2 k : Int) (hS : w.heap[gs]? = some (.cells (aA s) 151 (0, 0))) (hl : s.length = 18) (e0 : gS s 0 = none) (hk : k = 0) :
 Calls Try.prog 166 #[.pointer (some ⟨gs, 0, none⟩), .agg #[.int .u16 36, .int .u8 i1, .int .u8 i2, .int .u32 k]] w fun e w' => e = .returned (.agg #[.int .u16 0, .int .u8 0, .int .u8 0, .int .u32 0]) ∧ Below w.heap.size w w' := by
 have c0 := cN 0 hS e0
 subst hk
 have hlt := ay hS
 have HS := aa.mk hS
 clear hS
 go_enter Try.func166, Try.ntmps166
 go_wp2
 refine bodyPost_ret (results_cell_row rfl _ _ (w.heap.size + 1) 45 (#[.int .u16 0, .int .u8 0, .int .u8 0, .int .u32 0]) (0, 0) _ rfl (fA _ _ _) Try.underlying45 rfl (by kernel_rfl)) rfl ?_
 exact ⟨rfl, cz _ _ _⟩
theorem alu_kz (w : World) (gs : Nat) (s : St) (c i1 i2 k : Int) (hS : w.heap[gs]? = some (.cells (aA s) 151 (0, 0))) (hl : s.length = 18) (e0 : gS s 0 = none) (hn : (c == 132) = false) (h8 : (Go.bits .and .u16 c 8 != 0) = false) (hk : k = 0) (ha : (c == 84) = false) (hm : (c == 36) = false) :
 Calls Try.prog 166 #[.pointer (some ⟨gs, 0, none⟩), .agg #[.int .u16 c, .int .u8 i1, .int .u8 i2, .int .u32 k]] w fun e w' => e = .returned (.agg #[.int .u16 c, .int .u8 i1, .int .u8 i2, .int .u32 0]) ∧ Below w.heap.size w w' := by
 have c0 := cN 0 hS e0
 subst hk
 have hlt := ay hS
 have HS := aa.mk hS
 clear hS
 go_enter Try.func166, Try.ntmps166
 go_wp2
 refine bodyPost_ret (results_cell_row rfl _ _ (w.heap.size + 1) 45 (#[.int .u16 c, .int .u8 i1, .int .u8 i2, .int .u32 0]) (0, 0) _ rfl (fA _ _ _) Try.underlying45 rfl (by kernel_rfl)) rfl ?_
 exact ⟨rfl, cz _ _ _⟩
theorem alu_kn (w : World) (gs : Nat) (s : St) (c i1 i2 k : Int) (hS : w.heap[gs]? = some (.cells (aA s) 151 (0, 0))) (hl : s.length = 18) (e0 : gS s 0 = none) (hn : (c == 132) = false) (h8 : (Go.bits .and .u16 c 8 != 0) = false) (hk : (k == 0) = false) :
 Calls Try.prog 166 #[.pointer (some ⟨gs, 0, none⟩), .agg #[.int .u16 c, .int .u8 i1, .int .u8 i2, .int .u32 k]] w fun e w' => e = .returned (.agg #[.int .u16 c, .int .u8 i1, .int .u8 i2, .int .u32 k]) ∧ Below w.heap.size w w' := by
 have c0 := cN 0 hS e0
 have hlt := ay hS
 have HS := aa.mk hS
 clear hS
 go_enter Try.func166, Try.ntmps166
 go_wp2
 refine bodyPost_ret (results_cell_row rfl _ _ (w.heap.size + 1) 45 (#[.int .u16 c, .int .u8 i1, .int .u8 i2, .int .u32 k]) (0, 0) _ rfl (fA _ _ _) Try.underlying45 rfl (by kernel_rfl)) rfl ?_
 exact ⟨rfl, cz _ _ _⟩
theorem alu_x0 (w : World) (gs : Nat) (s : St) (c i1 i2 k : Int) (hS : w.heap[gs]? = some (.cells (aA s) 151 (0, 0))) (hl : s.length = 18) (e1 : gS s 1 = none) (hn : (c == 132) = false) (h8 : (Go.bits .and .u16 c 8 != 0) = true) :
 Calls Try.prog 166 #[.pointer (some ⟨gs, 0, none⟩), .agg #[.int .u16 c, .int .u8 i1, .int .u8 i2, .int .u32 k]] w fun e w' => e = .returned (.agg #[.int .u16 c, .int .u8 i1, .int .u8 i2, .int .u32 k]) ∧ Below w.heap.size w w' := by
 have c2 := cN 2 hS e1
 have hlt := ay hS
 have HS := aa.mk hS
 clear hS
 go_enter Try.func166, Try.ntmps166
 go_wp2
 refine bodyPost_ret (results_cell_row rfl _ _ (w.heap.size + 1) 45 (#[.int .u16 c, .int .u8 i1, .int .u8 i2, .int .u32 k]) (0, 0) _ rfl (fA _ _ _) Try.underlying45 rfl (by kernel_rfl)) rfl ?_
 exact ⟨rfl, cz _ _ _⟩
theorem alu_xf1 (w : World) (gs : Nat) (s : St) (y i1 i2 k : Int) (hS : w.heap[gs]? = some (.cells (aA s) 151 (0, 0))) (hl : s.length = 18) (e1 : gS s 1 = some y) (hy : decide (31 < y) = true) :
 Calls Try.prog 166 #[.pointer (some ⟨gs, 0, none⟩), .agg #[.int .u16 108, .int .u8 i1, .int .u8 i2, .int .u32 k]] w fun e w' => e = .returned (.agg #[.int .u16 0, .int .u8 0, .int .u8 0, .int .u32 0]) ∧ Below w.heap.size w w' := by
 have c2 := cY 2 hS e1
 have c3 := dY 3 hS e1
 have hlt := ay hS
 have HS := aa.mk hS
 clear hS
 go_enter Try.func166, Try.ntmps166
 go_wp2
 refine bodyPost_ret (results_cell_row rfl _ _ (w.heap.size + 1) 45 (#[.int .u16 0, .int .u8 0, .int .u8 0, .int .u32 0]) (0, 0) _ rfl (fA _ _ _) Try.underlying45 rfl (by kernel_rfl)) rfl ?_
 exact ⟨rfl, cz _ _ _⟩
theorem alu_xf2 (w : World) (gs : Nat) (s : St) (y i1 i2 k : Int) (hS : w.heap[gs]? = some (.cells (aA s) 151 (0, 0))) (hl : s.length = 18) (e1 : gS s 1 = some y) (hy : decide (31 < y) = true) :
 Calls Try.prog 166 #[.pointer (some ⟨gs, 0, none⟩), .agg #[.int .u16 124, .int .u8 i1, .int .u8 i2, .int .u32 k]] w fun e w' => e = .returned (.agg #[.int .u16 0, .int .u8 0, .int .u8 0, .int .u32 0]) ∧ Below w.heap.size w w' := by
 have c2 := cY 2 hS e1
 have c3 := dY 3 hS e1
 have hlt := ay hS
 have HS := aa.mk hS
 clear hS
 go_enter Try.func166, Try.ntmps166
 go_wp2
 refine bodyPost_ret (results_cell_row rfl _ _ (w.heap.size + 1) 45 (#[.int .u16 0, .int .u8 0, .int .u8 0, .int .u32 0]) (0, 0) _ rfl (fA _ _ _) Try.underlying45 rfl (by kernel_rfl)) rfl ?_
 exact ⟨rfl, cz _ _ _⟩
end Go.Proofs.Ytdkalnkplgfgoaa.Ln
