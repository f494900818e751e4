/- Lemmas and walks for the statements of the texts ZGZ..: the declarations that they need, taken together by a program of this session. Conditions: as each says. -/
import Derived.Test.YtdkalnkplgfgoaaZGd
set_option linter.unusedVariables false
set_option linter.unusedSimpArgs false
namespace Go.Proofs.Ytdkalnkplgfgoaa.Ln
open Go.RowKit Go.Maps Go.Proofs.YtdkalnkplgfgoaaW.PrintWords Go.Proofs.YtdkalnkplgfgoaaW.PrintLast Go.Proofs.YtdkalnkplgfgoaaW.PrintMore Go.Proofs.Ytdkalnkplgfgoaa.PA
def cpF : List Int → Int → List S45 → List S45 × Bool
 | _, _, [] => ([], false)
 | of, nx, i :: r =>
  match mvF i with
  | some (f, t) => if of.getD t 0 ≠ of.getD f 0 then (i :: (cpF (of.set t (of.getD f 0)) nx r).1, (cpF (of.set t (of.getD f 0)) nx r).2) else ((cpF of nx r).1, true)
  | none => (i :: (cpF (of.set (wrF i) (nx + 1)) (nx + 1) r).1, (cpF (of.set (wrF i) (nx + 1)) (nx + 1) r).2)
def iI : List Int := [1, 2, 3, 4, 5, 6, 7, 8, 9, 10, 11, 12, 13, 14, 15, 16, 17, 18]
def fT (b : S47) : S47 × Bool := (⟨(cpF iI 18 b.f0).1, b.f1, b.f2, b.f3, b.f4⟩, (cpF iI 18 b.f0).2)
def iT (g : List S47) : List S47 × Bool := (g.map (fun b => (fT b).1), g.any (fun b => (fT b).2))
structure CI (of : List Int) (nx : Int) (M : cK) : Prop where
 len : of.length = 18
 low : ∀ a, a < 18 → of.getD a 0 ≤ nx
 eq : ∀ a b, a < 18 → b < 18 → of.getD a 0 = of.getD b 0 → wd M a = wd M b
theorem ci_0 (M : cK) : CI iI 18 M := by
 have H : ∀ a < 18, iI.getD a 0 ≤ 18 ∧ ∀ b < 18, iI.getD a 0 = iI.getD b 0 → a = b := by decide
 exact ⟨rfl, fun a h => (H a h).1, fun a b ha hb e => by rw [(H a ha).2 b hb e]⟩
theorem ci_mv {of : List Int} {nx : Int} {M : cK} (h : CI of nx M) (hm : M.m.length = 16) {f t : Nat} (hf : f < 18) (ht : t < 18) : CI (of.set t (of.getD f 0)) nx (setW M t (wd M f)) := by
 have hl := h.len
 have G : ∀ a, (of.set t (of.getD f 0)).getD a 0 = if t = a then of.getD f 0 else of.getD a 0 := fun a => dK (by omega)
 refine ⟨(List.length_set ..).trans hl, fun a ha => ?_, fun a b ha hb e => ?_⟩
 · rw [G]; split
   · exact h.low f hf
   exact h.low a ha
 rw [G, G] at e
 rw [l5 ht hm, l5 ht hm]
 by_cases qa : t = a <;> by_cases qb : t = b
 · rw [if_pos qa, if_pos qb]
 · rw [if_pos qa, if_neg qb] at e ⊢; exact h.eq f b hf hb e
 · rw [if_neg qa, if_pos qb] at e ⊢; exact h.eq a f ha hf e
 rw [if_neg qa, if_neg qb] at e ⊢; exact h.eq a b ha hb e
theorem ci_fr {of : List Int} {nx : Int} {M : cK} (h : CI of nx M) (hm : M.m.length = 16) {t : Nat} (ht : t < 18) (v : Int) : CI (of.set t (nx + 1)) (nx + 1) (setW M t v) := by
 have hl := h.len
 have G : ∀ a, (of.set t (nx + 1)).getD a 0 = if t = a then nx + 1 else of.getD a 0 := fun a => dK (by omega)
 refine ⟨(List.length_set ..).trans hl, fun a ha => ?_, fun a b ha hb e => ?_⟩
 · rw [G]; split
   · omega
   have := h.low a ha; omega
 rw [G, G] at e
 rw [l5 ht hm, l5 ht hm]
 have la := h.low a ha
 have lb := h.low b hb
 by_cases qa : t = a <;> by_cases qb : t = b
 · rw [if_pos qa, if_pos qb]
 · rw [if_pos qa, if_neg qb] at e; omega
 · rw [if_neg qa, if_pos qb] at e; omega
 rw [if_neg qa, if_neg qb] at e ⊢; exact h.eq a b ha hb e
theorem setW_wd {M : cK} {t : Nat} {v : Int} (ht : t < 18) (hm : M.m.length = 16) (h : wd M t = v) : setW M t v = M := by
 match t with
 | 0 => subst h; rfl
 | 1 => subst h; rfl
 | n + 2 =>
  show ({ M with m := M.m.set n v } : cK) = M
  rw [mU (l := M.m) (by omega) h]
theorem nO {i : S45} (pk : List Int) (M : cK) (hm : M.m.length = 16) (hc : stB i.f0 i.f3 = true) (hk : Rg i.f3) : dh i pk M = (setW M (wrF i) (vfF i pk M).1, (vfF i pk M).2) := by
 rw [← BM pk M hm hc hk]; rfl
theorem cp_run (pk : List Int) : ∀ (c : List S45) (of : List Int) (nx : Int) (M : cK), CI of nx M → MB M → fE c = true → (∀ x ∈ c, Rg x.f3) →
 (bM pk (cpF of nx c).1 M).1 = (bM pk c M).1 ∧ (bM pk (cpF of nx c).1 M).2.1 = (bM pk c M).2.1 ∧ (bM pk (cpF of nx c).1 M).2.2 ≤ (bM pk c M).2.2 := by
 intro c
 induction c with
 | nil => intro of nx M _ _ _ _; exact ⟨rfl, rfl, Nat.le_refl _⟩
 | cons i r ih =>
  intro of nx M h hM hc hk
  unfold fE at hc
  rw [List.all_cons, Bool.and_eq_true] at hc
  have hk1 := hk i (List.mem_cons_self ..)
  have hk2 : ∀ x ∈ r, Rg x.f3 := fun x hx => hk x (List.mem_cons_of_mem _ hx)
  have hM1 := ll i pk M hM hk1
  have hp := nO pk M hM.len hc.1 hk1
  have kept : ∀ of1 nx1, ((dh i pk M).2 = 0 → CI of1 nx1 (dh i pk M).1) → (bM pk (i :: (cpF of1 nx1 r).1) M).1 = (bM pk (i :: r) M).1 ∧ (bM pk (i :: (cpF of1 nx1 r).1) M).2.1 = (bM pk (i :: r) M).2.1 ∧ (bM pk (i :: (cpF of1 nx1 r).1) M).2.2 ≤ (bM pk (i :: r) M).2.2 := by
   intro of1 nx1 h1
   unfold bM
   by_cases f0 : (dh i pk M).2 = 0
   · obtain ⟨a, b, d⟩ := ih of1 nx1 (dh i pk M).1 (h1 f0) hM1 hc.2 hk2
     rw [if_pos f0, if_pos f0]
     exact ⟨a, b, Nat.succ_le_succ d⟩
   rw [if_neg f0, if_neg f0]; exact ⟨rfl, rfl, Nat.le_refl _⟩
  unfold cpF
  cases e : mvF i with
  | none =>
   dsimp only
   refine kept _ _ (fun f0 => ?_)
   rw [hp]
   exact ci_fr h hM.len (wD hc.1 hk1) _
  | some ft =>
   obtain ⟨f, t⟩ := ft
   obtain ⟨m1, m2, m3, m4⟩ := jQ pk M hM.len hc.1 hk1 e
   rw [m4, m1] at hp
   dsimp only
   by_cases q : of.getD t 0 ≠ of.getD f 0
   · rw [if_pos q]
     refine kept _ _ (fun f0 => ?_)
     rw [hp]
     exact ci_mv h hM.len m2 m3
   rw [if_neg q]
   have heq := h.eq t f m3 m2 (by omega)
   rw [setW_wd m3 hM.len heq] at hp
   obtain ⟨a, b, d⟩ := ih of nx M h hM hc.2 hk2
   have : bM pk (i :: r) M = ((bM pk r M).1, (bM pk r M).2.1, (bM pk r M).2.2 + 1) := by
    show (if (dh i pk M).2 = 0 then _ else _) = _
    rw [hp]; exact if_pos rfl
   rw [this]
   exact ⟨a, b, Nat.le_succ_of_le d⟩
theorem nD : ∀ (c : List S45) (of : List Int) (nx : Int), List.Sublist (cpF of nx c).1 c ∧ wC (cpF of nx c).1 ≤ wC c ∧ ((cpF of nx c).2 = true → wC (cpF of nx c).1 < wC c) ∧ ((cpF of nx c).2 = false → (cpF of nx c).1 = c) := by
 intro c
 induction c with
 | nil => intro of nx; exact ⟨List.Sublist.refl _, Nat.le_refl _, (fun h => by cases h), fun _ => rfl⟩
 | cons i r ih =>
  intro of nx
  have e0 : ∀ r, wC (i :: r) = wI i + wC r := fun r => by unfold wC; rw [List.map_cons, List.sum_cons]
  have hp := vz i
  have kept : ∀ of nx, List.Sublist (i :: (cpF of nx r).1) (i :: r) ∧ wC (i :: (cpF of nx r).1) ≤ wC (i :: r) ∧ ((cpF of nx r).2 = true → wC (i :: (cpF of nx r).1) < wC (i :: r)) ∧ ((cpF of nx r).2 = false → i :: (cpF of nx r).1 = i :: r) := by
   intro of nx
   obtain ⟨a, b, d, e⟩ := ih of nx
   rw [e0, e0]
   exact ⟨a.cons_cons i, by omega, (fun h => by have := d h; omega), fun h => by rw [e h]⟩
  unfold cpF
  cases e : mvF i with
  | none => exact kept _ _
  | some ft =>
   obtain ⟨f, t⟩ := ft
   dsimp only
   by_cases q : of.getD t 0 ≠ of.getD f 0
   · rw [if_pos q]; exact kept _ _
   rw [if_neg q]
   obtain ⟨a, b, d, e⟩ := ih of nx
   dsimp only
   rw [e0]
   exact ⟨a.cons i, by omega, (fun _ => by omega), fun h => by cases h⟩
theorem xk {g g' : List S47} (hg : GOk g) (pk : List Int) (H : ∀ (j : Nat) (b : S47), g[j]? = some b → ∃ b', g'[j]? = some b' ∧ ∀ M, MB M → OL (gz pk b M) (gz pk b' M)) :
 ∀ {j : Nat} {M : cK} {v f : Int} {t : Nat}, Rn g pk j M v f t → MB M → ∃ t', t' ≤ t ∧ Rn g' pk j M v f t' := by
 intro j M v f t hr
 induction hr with
 | @fin j M b v f s hb e =>
  intro hM
  obtain ⟨b', hb', ho⟩ := H j b hb
  have o1 := ho M hM
  rw [e] at o1
  generalize e' : gz pk b' M = o' at o1
  cases o1 with
  | fin hle => exact ⟨_, hle, .fin hb' e'⟩
 | @go j M b j1 M1 s1 v f t1 hb e _ ih =>
  intro hM
  obtain ⟨b', hb', ho⟩ := H j b hb
  have o1 := ho M hM
  obtain ⟨_, q1, _⟩ := lK (hg.all j b hb) (by omega) e
  rw [e] at o1
  generalize e' : gz pk b' M = o' at o1
  cases o1 with
  | @go _ _ _ s1' hle =>
   obtain ⟨t', ht', hr'⟩ := ih (by rw [q1]; exact mE pk _ M hM (hg.all j b hb).rg)
   exact ⟨s1' + t', by omega, .go hb' e' hr'⟩
theorem wm {b : S47} {i n : Int} (h : BOk b i n) {c : List S45} (hs : List.Sublist c b.f0) : BOk ⟨c, b.f1, b.f2, b.f3, b.f4⟩ i n := by
 refine ⟨?_, h.ends, h.goal, fun x hx => h.rg x (hs.subset hx), h.rl⟩
 unfold fE
 rw [List.all_eq_true]
 intro x hx
 have := h.code
 unfold fE at this
 rw [List.all_eq_true] at this
 exact this x (hs.subset hx)
theorem nP {α : Type} (f h : α → Nat) : ∀ (l : List α), (∀ x ∈ l, f x ≤ h x) → (l.map f).sum ≤ (l.map h).sum := by
 intro l
 induction l with
 | nil => intro _; exact Nat.le_refl _
 | cons a r ih =>
  intro H
  simp only [List.map_cons, List.sum_cons]
  have := H a (List.mem_cons_self ..)
  have := ih (fun x hx => H x (List.mem_cons_of_mem _ hx))
  omega
theorem sum_lt {α : Type} (f h : α → Nat) : ∀ (l : List α), (∀ x ∈ l, f x ≤ h x) → (∃ x ∈ l, f x < h x) → (l.map f).sum < (l.map h).sum := by
 intro l
 induction l with
 | nil => rintro _ ⟨x, hx, _⟩; cases hx
 | cons a r ih =>
  rintro H ⟨x, hx, hlt⟩
  simp only [List.map_cons, List.sum_cons]
  have h1 := H a (List.mem_cons_self ..)
  have h2 := nP f h r (fun x hx => H x (List.mem_cons_of_mem _ hx))
  rcases List.mem_cons.1 hx with rfl | hx
  · omega
  have := ih (fun x hx => H x (List.mem_cons_of_mem _ hx)) ⟨x, hx, hlt⟩
  omega
theorem jX {g : List S47} (hg : GOk g) : jy g (iT g).1 (iT g).2 := by
 have hlen : (iT g).1.length = g.length := List.length_map ..
 have hget : ∀ (j : Nat) (b : S47), g[j]? = some b → (iT g).1[j]? = some (fT b).1 := fun j b h => by
  show (g.map _)[j]? = _
  rw [List.getElem?_map, h]; rfl
 have hmap : ∀ {β : Type} (f : S47 → β), (iT g).1.map f = g.map (fun b => f (fT b).1) := fun f => by
  show (g.map _).map f = _
  rw [List.map_map]; rfl
 have hm : ∀ b ∈ g, ∃ j, g[j]? = some b := fun b h => List.getElem?_of_mem h
 have ph1 : ∀ b, phB g.length (fT b).1 ≤ phB g.length b := fun b => by
  have := (nD b.f0 iI 18).2.1
  show 1 + wC (cpF iI 18 b.f0).1 + wE _ b ≤ 1 + wC b.f0 + wE _ b
  omega
 have ln1 : ∀ b, (fT b).1.f0.length ≤ b.f0.length := fun b => (nD b.f0 iI 18).1.length_le
 refine ⟨⟨by rw [hlen]; exact hg.some_, by rw [hlen]; exact hg.few, fun j b' h => ?_, ?_⟩, ?_, ?_, ?_, ?_, ?_⟩
 · rw [hlen]
   have h' : g[j]?.map (fun b => (fT b).1) = some b' := by rw [← List.getElem?_map]; exact h
   cases hb : g[j]? with
   | none => rw [hb] at h'; cases h'
   | some b =>
    rw [hb] at h'
    obtain rfl := Option.some.inj h'
    exact wm (hg.all j b hb) (nD b.f0 iI 18).1
 · rw [hmap]
   exact Nat.le_trans (nP _ _ g (fun b _ => ln1 b)) hg.sum
 · intro pk v f t hr
   refine xk hg pk (fun j b hb => ⟨_, hget j b hb, fun M hM => ?_⟩) hr MB_z
   have hok := hg.all j b hb
   obtain ⟨a, c, d⟩ := cp_run pk b.f0 iI 18 M (ci_0 M) hM hok.code hok.rg
   unfold gz
   show OL _ (if (bM pk (cpF iI 18 b.f0).1 M).2.1 = 0 then fU (fT b).1 (bM pk (cpF iI 18 b.f0).1 M).1 (bM pk (cpF iI 18 b.f0).1 M).2.2 else .fin 0 (bM pk (cpF iI 18 b.f0).1 M).2.1 (bM pk (cpF iI 18 b.f0).1 M).2.2)
   rw [c, a]
   by_cases h0 : (bM pk b.f0 M).2.1 = 0
   · rw [if_pos h0, if_pos h0]
     unfold fU
     show OL _ (if b.f1 = 1 then _ else if b.f1 = 2 then _ else _)
     by_cases e1 : b.f1 = 1
     · rw [if_pos e1, if_pos e1]; exact .fin (Nat.succ_le_succ d)
     rw [if_neg e1, if_neg e1]
     by_cases e2 : b.f1 = 2
     · rw [if_pos e2, if_pos e2]; exact .go d
     rw [if_neg e2, if_neg e2]; exact .go (Nat.succ_le_succ d)
   rw [if_neg h0, if_neg h0]; exact .fin d
 · unfold msG; rw [hmap]
   refine nP _ _ g (fun b _ => ?_)
   have := ln1 b
   show (fT b).1.f0.length + 1 + (if b.f1 = 3 then 2 else 0) ≤ b.f0.length + 1 + (if b.f1 = 3 then 2 else 0)
   omega
 · unfold phG; rw [hmap, hlen]
   exact nP _ _ g (fun b _ => ph1 b)
 · intro h
   unfold phG; rw [hmap, hlen]
   refine sum_lt _ _ g (fun b _ => ph1 b) ?_
   obtain ⟨b, hb, hf⟩ := List.any_eq_true.1 (show g.any (fun b => (fT b).2) = true from h)
   refine ⟨b, hb, ?_⟩
   have := (nD b.f0 iI 18).2.2.1 hf
   show 1 + wC (cpF iI 18 b.f0).1 + wE _ b < 1 + wC b.f0 + wE _ b
   omega
 intro h
 have h2 : g.any (fun b => (fT b).2) = false := h
 rw [List.any_eq_false] at h2
 show g.map (fun b => (fT b).1) = g
 have : g.map (fun b => (fT b).1) = g.map id := List.map_congr_left (fun b hb => by
  have hf : (cpF iI 18 b.f0).2 = false := by simpa [fT] using h2 b hb
  show (⟨(cpF iI 18 b.f0).1, b.f1, b.f2, b.f3, b.f4⟩ : S47) = b
  rw [(nD b.f0 iI 18).2.2.2 hf])
 rw [this, List.map_id]
abbrev Lw := List Bool
def inW (l : Lw) (j : Nat) : Bool := l.getD j false
def rdF (l : Lw) (i : S45) : Lw := (List.range 18).map (fun j => inW l j || rdB i j)
def noW : Lw := List.replicate 18 false
def bkF (l : Lw) : List S45 → List S45 × Lw × Bool
 | [] => ([], l, false)
 | i :: r =>
  if inW (bkF l r).2.1 (wrF i) = false ∧ i.f0 ∉ flL then ((bkF l r).1, (bkF l r).2.1, true)
  else (i :: (bkF l r).1, rdF ((bkF l r).2.1.set (wrF i) false) i, (bkF l r).2.2)
def lvF (b : S47) (y n : Lw) : Lw :=
 if b.f1 = 1 then rdF noW b.f2 else if b.f1 = 2 then y else rdF ((List.range 18).map (fun j => inW y j || inW n j)) b.f2
def ddL : List S47 → Nat → List S47 × List Lw × Bool
 | [], _ => ([], [], false)
 | b :: r, n =>
  let q := ddL r (n + 1)
  let l := lvF b (q.2.1.getD (b.f3.toNat - (n + 1)) noW) (q.2.1.getD (b.f4.toNat - (n + 1)) noW)
  (⟨(bkF l b.f0).1, b.f1, b.f2, b.f3, b.f4⟩ :: q.1, (bkF l b.f0).2.1 :: q.2.1, (bkF l b.f0).2.2 || q.2.2)
def jL (g : List S47) : List S47 × Bool := ((ddL g 0).1, (ddL g 0).2.2)
theorem il (f : Nat → Bool) (j : Nat) : inW ((List.range 18).map f) j = (decide (j < 18) && f j) := by
 unfold inW
 rw [List.getD_eq_getElem?_getD, List.getElem?_map]
 by_cases h : j < 18
 · rw [List.getElem?_range h, decide_eq_true h]; rfl
 rw [List.getElem?_eq_none (by rw [List.length_range]; omega), decide_eq_false h]; rfl
theorem rd_lt {i : S45} (hc : stB i.f0 i.f3 = true) (hk : Rg i.f3) {j : Nat} (h : rdB i j = true) : j < 18 := by
 have h16 := (gL hc).2.1
 have := hk.1
 unfold rdB at h
 simp only [Bool.or_eq_true, Bool.and_eq_true, decide_eq_true_eq] at h
 rcases h with (⟨rfl, _⟩ | ⟨rfl, _⟩) | ⟨rfl, e⟩
 · omega
 · omega
 have := h16 (by omega); omega
def Agr (l : Lw) (M N : cK) : Prop := ∀ j, j < 18 → inW l j = true → wd M j = wd N j
theorem pq (l : Lw) (hl : l.length = 18) : ∀ c, (bkF l c).2.1.length = 18 := by
 intro c
 induction c with
 | nil => exact hl
 | cons i r ih =>
  unfold bkF
  split
  · exact ih
  show (rdF _ i).length = 18
  unfold rdF; rw [List.length_map, List.length_range]
theorem ry (l : Lw) : ∀ c, List.Sublist (bkF l c).1 c ∧ wC (bkF l c).1 ≤ wC c ∧ ((bkF l c).2.2 = true → wC (bkF l c).1 < wC c) ∧ ((bkF l c).2.2 = false → (bkF l c).1 = c) := by
 intro c
 induction c with
 | nil => exact ⟨List.Sublist.refl _, Nat.le_refl _, (fun h => by cases h), fun _ => rfl⟩
 | cons i r ih =>
  obtain ⟨a, b, d, e⟩ := ih
  have e0 : ∀ r, wC (i :: r) = wI i + wC r := fun r => by unfold wC; rw [List.map_cons, List.sum_cons]
  have hp := vz i
  unfold bkF
  split
  · dsimp only; rw [e0]; exact ⟨a.cons i, by omega, (fun _ => by omega), fun h => by cases h⟩
  dsimp only; rw [e0, e0]; exact ⟨a.cons_cons i, by omega, (fun h => by have := d h; omega), fun h => by rw [e h]⟩
theorem yG (pk : List Int) (l : Lw) (hl : l.length = 18) : ∀ (c : List S45) (M N : cK), MB M → MB N → fE c = true → (∀ x ∈ c, Rg x.f3) → Agr (bkF l c).2.1 M N →
 (bM pk (bkF l c).1 N).2.1 = (bM pk c M).2.1 ∧ (bM pk (bkF l c).1 N).2.2 ≤ (bM pk c M).2.2 ∧ ((bM pk c M).2.1 = 0 → Agr l (bM pk c M).1 (bM pk (bkF l c).1 N).1) := by
 intro c
 induction c with
 | nil => intro M N _ _ _ _ h; exact ⟨rfl, Nat.le_refl _, fun _ => h⟩
 | cons i r ih =>
  intro M N hM hN hc hk h
  unfold fE at hc
  rw [List.all_cons, Bool.and_eq_true] at hc
  have hk1 := hk i (List.mem_cons_self ..)
  have hk2 : ∀ x ∈ r, Rg x.f3 := fun x hx => hk x (List.mem_cons_of_mem _ hx)
  have hM1 := ll i pk M hM hk1
  have hN1 := ll i pk N hN hk1
  have hpM := nO pk M hM.len hc.1 hk1
  have hpN := nO pk N hN.len hc.1 hk1
  have hw := wD hc.1 hk1
  have hlr := pq l hl r
  unfold bkF at h ⊢
  by_cases q : inW (bkF l r).2.1 (wrF i) = false ∧ i.f0 ∉ flL
  · rw [if_pos q] at h ⊢
    have f0 := nofault pk M hM hc.1 hk1 q.2
    have ag : Agr (bkF l r).2.1 (dh i pk M).1 N := by
     intro j hj hin
     rw [hpM]
     show wd (setW M (wrF i) _) j = _
     rw [l5 hw hM.len, if_neg (by rintro rfl; rw [q.1] at hin; cases hin)]
     exact h j hj hin
    obtain ⟨a, b, d⟩ := ih (dh i pk M).1 N hM1 hN hc.2 hk2 ag
    have : bM pk (i :: r) M = ((bM pk r (dh i pk M).1).1, (bM pk r (dh i pk M).1).2.1, (bM pk r (dh i pk M).1).2.2 + 1) := if_pos f0
    rw [this]
    exact ⟨a, Nat.le_succ_of_le b, d⟩
  rw [if_neg q] at h ⊢
  have hv : vfF i pk M = vfF i pk N := vf_rd pk hM.len hN.len hc.1 hk1 (fun j hj => by
   have hlt := rd_lt hc.1 hk1 hj
   refine h j hlt ?_
   show inW (rdF _ i) j = true
   unfold rdF
   rw [il, decide_eq_true hlt, hj, Bool.or_true]; rfl)
  have hf : (dh i pk N).2 = (dh i pk M).2 := by rw [hpM, hpN, hv]
  have ag : Agr (bkF l r).2.1 (dh i pk M).1 (dh i pk N).1 := by
   intro j hj hin
   rw [hpM, hpN]
   show wd (setW M (wrF i) _) j = wd (setW N (wrF i) _) j
   rw [l5 hw hM.len, l5 hw hN.len, hv]
   by_cases e : wrF i = j
   · rw [if_pos e, if_pos e]
   rw [if_neg e, if_neg e]
   refine h j hj ?_
   show inW (rdF _ i) j = true
   unfold rdF
   rw [il, decide_eq_true hj]
   have : inW ((bkF l r).2.1.set (wrF i) false) j = true := by
    unfold inW
    rw [dK (by omega), if_neg e]
    exact hin
   rw [this]; rfl
  obtain ⟨a, b, d⟩ := ih (dh i pk M).1 (dh i pk N).1 hM1 hN1 hc.2 hk2 ag
  show (bM pk (i :: (bkF l r).1) N).2.1 = _ ∧ (bM pk (i :: (bkF l r).1) N).2.2 ≤ _ ∧ (_ → Agr l _ (bM pk (i :: (bkF l r).1) N).1)
  unfold bM
  rw [hf]
  by_cases f0 : (dh i pk M).2 = 0
  · rw [if_pos f0, if_pos f0]; exact ⟨a, Nat.succ_le_succ b, d⟩
  rw [if_neg f0, if_neg f0]; exact ⟨rfl, Nat.le_refl _, fun h => absurd h f0⟩
theorem Au {b : S47} {i n : Int} (h : BOk b i n) (y z : Lw) {M N : cK} (ha : Agr (lvF b y z) M N) (k k' : Nat) (hk : k' ≤ k) :
 (∃ v s s', fU b M k = .fin v 0 s ∧ fU b N k' = .fin v 0 s' ∧ s' ≤ s) ∨ (∃ j s s', fU b M k = .go j M s ∧ fU b N k' = .go j N s' ∧ s' ≤ s ∧ ((j = b.f3.toNat ∧ b.f1 ≠ 1 ∧ Agr y M N) ∨ (j = b.f4.toNat ∧ b.f1 = 3 ∧ Agr z M N))) := by
 rcases eF h.ends with ⟨h1, h2, h3, h4, h5⟩ | ⟨h1, h2, h3⟩ | ⟨h1, h2, h3⟩
 · left
   unfold fU
   rw [if_pos h1, if_pos h1]
   unfold lvF at ha
   rw [if_pos h1] at ha
   by_cases e : b.f2.f0 = 6
   · rw [if_pos e, if_pos e]; exact ⟨_, _, _, rfl, rfl, Nat.succ_le_succ hk⟩
   rw [if_neg e, if_neg e]
   have e22 : b.f2.f0 = 22 := by
    have : b.f2.f0 = 6 ∨ b.f2.f0 = 22 := of_decide_eq_true h2
    omega
   have : M.a = N.a := ha 0 (by omega) (by
    unfold rdF
    rw [il]
    have : rdB b.f2 0 = true := by
     unfold rdB
     rw [decide_eq_true (rfl : 0 = 0), decide_eq_true (show b.f2.f0 = 2 ∨ b.f2.f0 = 132 ∨ b.f2.f0 ∈ eQ ∨ b.f2.f0 ∈ gB ∨ b.f2.f0 = 7 ∨ jmB b.f2.f0 = true ∨ b.f2.f0 = 22 from .inr (.inr (.inr (.inr (.inr (.inr e22))))))]; rfl
    rw [this, Bool.or_true]; rfl)
   rw [this]
   exact ⟨_, _, _, rfl, rfl, Nat.succ_le_succ hk⟩
 · right
   unfold fU
   unfold lvF at ha
   rw [if_neg (by omega), if_pos h1] at ha
   rw [if_neg (by omega), if_pos h1, if_neg (by omega), if_pos h1]
   exact ⟨_, _, _, rfl, rfl, hk, .inl ⟨rfl, by omega, ha⟩⟩
 right
 unfold lvF at ha
 rw [if_neg (by omega), if_neg (by omega)] at ha
 have E : ∀ M k, fU b M k = .go (if hoP b.f2 M.a M.x = true then b.f3.toNat else b.f4.toNat) M (k + 1) := fun M k => by
  unfold fU; rw [if_neg (by omega), if_neg (by omega)]
 rw [E, E]
 have hr : ∀ j, j < 18 → rdB b.f2 j = true → wd M j = wd N j := fun j hj hr => ha j hj (by
  unfold rdF
  rw [il, hr, decide_eq_true hj, Bool.or_true]; rfl)
 have ho : hoP b.f2 M.a M.x = hoP b.f2 N.a N.x := by
  have h0 : M.a = N.a := hr 0 (by omega) (by
   unfold rdB
   rw [decide_eq_true (rfl : 0 = 0), decide_eq_true (show b.f2.f0 = 2 ∨ b.f2.f0 = 132 ∨ b.f2.f0 ∈ eQ ∨ b.f2.f0 ∈ gB ∨ b.f2.f0 = 7 ∨ jmB b.f2.f0 = true ∨ b.f2.f0 = 22 from .inr (.inr (.inr (.inr (.inr (.inl h2))))))]; rfl)
  by_cases hx : b.f2.f0 ∈ tX
  · have h1 : M.x = N.x := hr 1 (by omega) (by
     unfold rdB
     rw [decide_eq_true (rfl : 1 = 1), decide_eq_true (show b.f2.f0 = 64 ∨ b.f2.f0 = 72 ∨ b.f2.f0 = 80 ∨ b.f2.f0 = 3 ∨ b.f2.f0 ∈ gB ∨ b.f2.f0 = 135 ∨ b.f2.f0 ∈ tX from .inr (.inr (.inr (.inr (.inr (.inr hx))))))]
     simp)
    rw [h0, h1]
  have e1 := sW b.f2.f0 b.f2.f1 b.f2.f2 b.f2.f3 M.a M.x h2 hx
  have e2 := sW b.f2.f0 b.f2.f1 b.f2.f2 b.f2.f3 N.a N.x h2 hx
  have e1' : hoP b.f2 M.a M.x = hoK b.f2.f0 M.a b.f2.f3 := e1
  have e2' : hoP b.f2 N.a N.x = hoK b.f2.f0 N.a b.f2.f3 := e2
  rw [e1', e2', h0]
 rw [ho]
 refine ⟨_, _, _, rfl, rfl, Nat.succ_le_succ hk, ?_⟩
 have hy : Agr y M N := fun j hj hin => ha j hj (by
  unfold rdF
  rw [il, il, hin, decide_eq_true hj]; rfl)
 have hz : Agr z M N := fun j hj hin => ha j hj (by
  unfold rdF
  rw [il, il, hin, decide_eq_true hj]; simp)
 by_cases q : hoP b.f2 N.a N.x = true
 · rw [if_pos q]; exact .inl ⟨rfl, by omega, hy⟩
 rw [if_neg q]; exact .inr ⟨rfl, h1, hz⟩
theorem rP (b : S47) {y z : Lw} (hy : y.length = 18) : (lvF b y z).length = 18 := by
 unfold lvF
 split
 · unfold rdF; rw [List.length_map, List.length_range]
 split
 · exact hy
 unfold rdF; rw [List.length_map, List.length_range]
theorem yT : ∀ (l : List S47) (n : Nat), (ddL l n).1.length = l.length ∧ (ddL l n).2.1.length = l.length := by
 intro l
 induction l with
 | nil => intro n; exact ⟨rfl, rfl⟩
 | cons b r ih =>
  intro n
  unfold ddL
  obtain ⟨a, c⟩ := ih (n + 1)
  exact ⟨by show _ + 1 = _ + 1; rw [a], by show _ + 1 = _ + 1; rw [c]⟩
structure DdAt (lv : List Lw) (b b' : S47) (l : Lw) : Prop where
 blk : b' = ⟨(bkF (lvF b (lv.getD b.f3.toNat noW) (lv.getD b.f4.toNat noW)) b.f0).1, b.f1, b.f2, b.f3, b.f4⟩
 set : l = (bkF (lvF b (lv.getD b.f3.toNat noW) (lv.getD b.f4.toNat noW)) b.f0).2.1
theorem yR : ∀ (l : List S47) (n : Nat), ∀ x ∈ (ddL l n).2.1, x.length = 18 := by
 intro l
 induction l with
 | nil => intro n x hx; cases hx
 | cons b r ih =>
  intro n x hx
  unfold ddL at hx
  rcases List.mem_cons.1 hx with rfl | hx
  · refine pq _ (rP b ?_) _
    rw [List.getD_eq_getElem?_getD]
    cases e : (ddL r (n + 1)).2.1[b.f3.toNat - (n + 1)]? with
    | none => rfl
    | some u => exact ih (n + 1) u (List.mem_of_getElem? e)
  exact ih (n + 1) x hx
theorem yS (L : Nat) (lv : List Lw) : ∀ (l : List S47) (n : Nat), (∀ (j : Nat) (b : S47), l[j]? = some b → BOk b ((n + j : Nat) : Int) L) → (∀ j, n ≤ j → lv.getD j noW = (ddL l n).2.1.getD (j - n) noW) →
 ∀ (j : Nat) (b : S47), l[j]? = some b → ∃ b', (ddL l n).1[j]? = some b' ∧ DdAt lv b b' ((ddL l n).2.1.getD j noW) := by
 intro l
 induction l with
 | nil => intro n _ _ j b h; simp at h
 | cons b0 r ih =>
  intro n hb hlv j b h
  have hr : ∀ (j : Nat) (b : S47), r[j]? = some b → BOk b ((n + 1 + j : Nat) : Int) L := fun j c hc => by
   have := hb (j + 1) c hc
   rw [show n + 1 + j = n + (j + 1) by omega]; exact this
  have hlv1 : ∀ j, n + 1 ≤ j → lv.getD j noW = (ddL r (n + 1)).2.1.getD (j - (n + 1)) noW := by
   intro j hj
   rw [hlv j (by omega), show j - n = (j - (n + 1)) + 1 by omega]
   rfl
  cases j with
  | zero =>
   cases h
   have hok : BOk b0 ((n : Nat) : Int) L := hb 0 b0 rfl
   have key : lvF b0 ((ddL r (n + 1)).2.1.getD (b0.f3.toNat - (n + 1)) noW) ((ddL r (n + 1)).2.1.getD (b0.f4.toNat - (n + 1)) noW) = lvF b0 (lv.getD b0.f3.toNat noW) (lv.getD b0.f4.toNat noW) := by
    unfold lvF
    by_cases e1 : b0.f1 = 1
    · rw [if_pos e1, if_pos e1]
    rw [if_neg e1, if_neg e1]
    have hy := bD hok.goal e1
    by_cases e2 : b0.f1 = 2
    · rw [if_pos e2, if_pos e2, hlv1 _ (by omega)]
    rw [if_neg e2, if_neg e2]
    have e3 : b0.f1 = 3 := by rcases eF hok.ends with ⟨h, _⟩ | ⟨h, _⟩ | ⟨h, _⟩ <;> omega
    have hn := dL hok.goal e3
    rw [hlv1 _ (by omega), hlv1 _ (by omega)]
   refine ⟨_, rfl, ⟨?_, ?_⟩⟩
   · rw [← key]
   rw [← key]; rfl
  | succ j => exact ih (n + 1) hr hlv1 j b h
theorem vV (b : S47) (c : List S45) (M : cK) (k : Nat) : fU ⟨c, b.f1, b.f2, b.f3, b.f4⟩ M k = fU b M k := rfl
theorem dd_run {g : List S47} (hg : GOk g) (pk : List Int) : ∀ {j : Nat} {M : cK} {v f : Int} {t : Nat}, Rn g pk j M v f t → ∀ N, MB M → MB N → Agr ((ddL g 0).2.1.getD j noW) M N → ∃ t', t' ≤ t ∧ Rn (jL g).1 pk j N v f t' := by
 have H := yS g.length (ddL g 0).2.1 g 0 (fun j b h => by rw [Nat.zero_add]; exact hg.all j b h) (fun j _ => rfl)
 have hset : ∀ j, ((ddL g 0).2.1.getD j noW).length = 18 := fun j => by
  rw [List.getD_eq_getElem?_getD]
  cases e : (ddL g 0).2.1[j]? with
  | none => rfl
  | some u => exact yR g 0 u (List.mem_of_getElem? e)
 intro j M v f t hr
 induction hr with
 | @fin j M b v f s hb e =>
  intro N hM hN ha
  obtain ⟨b', hb', hd⟩ := H j b hb
  have hok := hg.all j b hb
  rw [hd.set] at ha
  obtain ⟨r1, r2, r3⟩ := yG pk _ (rP b (hset _)) b.f0 M N hM hN hok.code hok.rg ha
  have e' : gz pk b' N = if (bM pk b'.f0 N).2.1 = 0 then fU b' (bM pk b'.f0 N).1 (bM pk b'.f0 N).2.2 else .fin 0 (bM pk b'.f0 N).2.1 (bM pk b'.f0 N).2.2 := rfl
  rw [hd.blk] at e'
  rw [r1, vV] at e'
  unfold gz at e
  by_cases h0 : (bM pk b.f0 M).2.1 = 0
  · rw [if_pos h0] at e e'
    rcases Au hok _ _ (r3 h0) _ _ r2 with ⟨v1, s1, s2, x1, x2, x3⟩ | ⟨j1, s1, s2, x1, _⟩
    · rw [x1] at e
      injection e with a1 a2 a3
      subst a1 a2 a3
      refine ⟨s2, x3, .fin hb' ?_⟩
      rw [hd.blk]; rw [x2] at e'; exact e'
    rw [x1] at e; cases e
  rw [if_neg h0] at e e'
  injection e with a1 a2 a3
  subst a1 a2 a3
  refine ⟨_, r2, .fin hb' ?_⟩
  rw [hd.blk]; exact e'
 | @go j M b j1 M1 s1 v f t1 hb e _ ih =>
  intro N hM hN ha
  obtain ⟨b', hb', hd⟩ := H j b hb
  have hok := hg.all j b hb
  rw [hd.set] at ha
  obtain ⟨r1, r2, r3⟩ := yG pk _ (rP b (hset _)) b.f0 M N hM hN hok.code hok.rg ha
  have e' : gz pk b' N = if (bM pk b'.f0 N).2.1 = 0 then fU b' (bM pk b'.f0 N).1 (bM pk b'.f0 N).2.2 else .fin 0 (bM pk b'.f0 N).2.1 (bM pk b'.f0 N).2.2 := rfl
  rw [hd.blk] at e'
  rw [r1, vV] at e'
  obtain ⟨h0, q1, _⟩ := lK hok (by omega) e
  unfold gz at e
  rw [if_pos h0] at e e'
  rcases Au hok _ _ (r3 h0) _ _ r2 with ⟨v1, s2, s3, x1, _⟩ | ⟨j2, s2, s3, x1, x2, x3, x4⟩
  · rw [x1] at e; cases e
  rw [x1] at e
  injection e with a1 a2 a3
  subst a1 a3
  have hsub : ∀ x ∈ (bkF (lvF b ((ddL g 0).2.1.getD b.f3.toNat noW) ((ddL g 0).2.1.getD b.f4.toNat noW)) b.f0).1, Rg x.f3 := fun x hx => hok.rg x ((ry _ b.f0).1.subset hx)
  have ag : Agr ((ddL g 0).2.1.getD j2 noW) M1 (bM pk (bkF (lvF b ((ddL g 0).2.1.getD b.f3.toNat noW) ((ddL g 0).2.1.getD b.f4.toNat noW)) b.f0).1 N).1 := by
   rw [q1]
   rcases x4 with ⟨rfl, _, x4⟩ | ⟨rfl, _, x4⟩ <;> exact x4
  obtain ⟨t', ht', hr'⟩ := ih _ (by rw [q1]; exact mE pk _ M hM hok.rg) (mE pk _ N hN hsub) ag
  refine ⟨s3 + t', by omega, .go hb' ?_ hr'⟩
  rw [hd.blk]; rw [x2] at e'; exact e'
theorem dd_w (L : Int) : ∀ (l : List S47) (n : Nat), ((ddL l n).1.map (phB L)).sum ≤ (l.map (phB L)).sum ∧ ((ddL l n).2.2 = true → ((ddL l n).1.map (phB L)).sum < (l.map (phB L)).sum) ∧ ((ddL l n).2.2 = false → (ddL l n).1 = l)
 ∧ ((ddL l n).1.map msB).sum ≤ (l.map msB).sum ∧ ((ddL l n).1.map szB).sum ≤ (l.map szB).sum ∧ ((ddL l n).1.map (fun b => b.f0.length)).sum ≤ (l.map (fun b => b.f0.length)).sum := by
 intro l
 induction l with
 | nil => intro n; exact ⟨Nat.le_refl _, (fun h => by cases h), (fun _ => rfl), Nat.le_refl _, Nat.le_refl _, Nat.le_refl _⟩
 | cons b r ih =>
  intro n
  obtain ⟨i1, i2, i3, i4, i5, i6⟩ := ih (n + 1)
  unfold ddL
  dsimp only
  generalize lvF b _ _ = l0
  obtain ⟨a, c, d, e⟩ := ry l0 b.f0
  have hl := a.length_le
  simp only [List.map_cons, List.sum_cons]
  have p1 : phB L ⟨(bkF l0 b.f0).1, b.f1, b.f2, b.f3, b.f4⟩ = 1 + wC (bkF l0 b.f0).1 + wE L b := rfl
  have p2 : phB L b = 1 + wC b.f0 + wE L b := rfl
  have p3 : msB ⟨(bkF l0 b.f0).1, b.f1, b.f2, b.f3, b.f4⟩ = (bkF l0 b.f0).1.length + 1 + (if b.f1 = 3 then 2 else 0) := rfl
  have p4 : msB b = b.f0.length + 1 + (if b.f1 = 3 then 2 else 0) := rfl
  have p5 : szB ⟨(bkF l0 b.f0).1, b.f1, b.f2, b.f3, b.f4⟩ = (bkF l0 b.f0).1.length + (if b.f1 = 2 then 0 else 1) := rfl
  have p6 : szB b = b.f0.length + (if b.f1 = 2 then 0 else 1) := rfl
  rw [p1, p2, p3, p4, p5, p6]
  refine ⟨by omega, fun h => ?_, fun h => ?_, by omega, by omega, by omega⟩
  · rcases Bool.or_eq_true_iff.1 h with h | h
    · have := d h; omega
    have := i2 h; omega
  rw [Bool.or_eq_false_iff] at h
  rw [e h.1, i3 h.2]
theorem jY {g : List S47} (hg : GOk g) : jy g (jL g).1 (jL g).2 := by
 have hlen : (jL g).1.length = g.length := (yT g 0).1
 obtain ⟨i1, i2, i3, i4, i5, i6⟩ := dd_w g.length g 0
 have H := yS g.length (ddL g 0).2.1 g 0 (fun j b h => by rw [Nat.zero_add]; exact hg.all j b h) (fun j _ => rfl)
 refine ⟨⟨by rw [hlen]; exact hg.some_, by rw [hlen]; exact hg.few, fun j b' h => ?_, Nat.le_trans i6 hg.sum⟩, ?_, i4, ?_, ?_, i3⟩
 · rw [hlen]
   have hj : j < g.length := by rw [← hlen]; exact (List.getElem?_eq_some_iff.1 h).1
   obtain ⟨b, hb, hok⟩ := hg.at_ hj
   obtain ⟨b2, hb2, hd⟩ := H j b hb
   have : some b2 = some b' := hb2.symm.trans h
   cases this
   rw [hd.blk]
   exact wm hok (ry _ b.f0).1
 · intro pk v f t hr
   exact dd_run hg pk hr z16 MB_z MB_z (fun _ _ _ => rfl)
 · unfold phG; rw [hlen]; exact i1
 intro h; unfold phG; rw [hlen]; exact i2 h
def fo (b : S47) : Bool := decide (b.f1 = 2) && decide (b.f0.length = 0)
def onF (g : List S47) : Nat → Nat → Nat
 | 0, j => j
 | k + 1, j => match g[j]? with
  | some b => if fo b = true then onF g k b.f3.toNat else j
  | none => j
def onG (g : List S47) (j : Nat) : Nat := onF g g.length j
def goB (g : List S47) (b : S47) : S47 × Bool :=
 if b.f1 = 1 then (b, false)
 else if b.f1 = 2 then (⟨b.f0, b.f1, b.f2, (onG g b.f3.toNat : Int), b.f4⟩, decide ((onG g b.f3.toNat : Int) ≠ b.f3))
 else if onG g b.f3.toNat = onG g b.f4.toNat then (⟨b.f0, 2, ⟨0, 0, 0, 0⟩, (onG g b.f3.toNat : Int), 0⟩, true)
 else (⟨b.f0, b.f1, b.f2, (onG g b.f3.toNat : Int), (onG g b.f4.toNat : Int)⟩, decide ((onG g b.f3.toNat : Int) ≠ b.f3) || decide ((onG g b.f4.toNat : Int) ≠ b.f4))
def iF (g : List S47) : List S47 × Bool := (g.map (fun b => (goB g b).1), g.any (fun b => (goB g b).2))
theorem iM {b : S47} : fo b = true ↔ b.f1 = 2 ∧ b.f0 = [] := by
 unfold fo
 rw [Bool.and_eq_true, decide_eq_true_eq, decide_eq_true_eq, List.length_eq_zero_iff]
theorem l9 {pk : List Int} {b : S47} {M : cK} (h : fo b = true) : gz pk b M = .go b.f3.toNat M 0 := by
 obtain ⟨h1, h2⟩ := iM.1 h
 unfold gz
 rw [h2]
 show fU b M 0 = _
 unfold fU
 rw [if_neg (by omega), if_pos h1]
theorem og {g : List S47} (hg : GOk g) : ∀ (k j : Nat), j < g.length → j ≤ onF g k j ∧ onF g k j < g.length := by
 intro k
 induction k with
 | zero => intro j hj; exact ⟨Nat.le_refl _, hj⟩
 | succ k ih =>
  intro j hj
  obtain ⟨b, hb, hok⟩ := hg.at_ hj
  unfold onF
  rw [hb]
  dsimp only
  by_cases q : fo b = true
  · rw [if_pos q]
    have := bD hok.goal (by have := (iM.1 q).1; omega)
    have := ih b.f3.toNat (by omega)
    omega
  rw [if_neg q]; exact ⟨Nat.le_refl _, hj⟩
theorem on_more {g : List S47} (hg : GOk g) : ∀ (d j k : Nat), g.length - j ≤ d → d ≤ k → onF g k j = onF g d j := by
 intro d
 induction d with
 | zero =>
  intro j k hd hk
  cases k with
  | zero => rfl
  | succ k =>
   unfold onF
   rw [List.getElem?_eq_none (by omega)]
 | succ d ih =>
  intro j k hd hk
  cases k with
  | zero => omega
  | succ k =>
   by_cases hj : j < g.length
   · obtain ⟨b, hb, hok⟩ := hg.at_ hj
     unfold onF
     rw [hb]
     dsimp only
     by_cases q : fo b = true
     · rw [if_pos q, if_pos q]
       have := bD hok.goal (by have := (iM.1 q).1; omega)
       exact ih _ k (by omega) (by omega)
     rw [if_neg q, if_neg q]
   unfold onF
   rw [List.getElem?_eq_none (by omega)]
theorem oU {g : List S47} (hg : GOk g) {j : Nat} {b : S47} (hb : g[j]? = some b) (q : fo b = true) : onG g j = onG g b.f3.toNat := by
 have hj : j < g.length := (List.getElem?_eq_some_iff.1 hb).1
 have hok := hg.all j b hb
 have := bD hok.goal (by have := (iM.1 q).1; omega)
 unfold onG
 obtain ⟨L, hL⟩ : ∃ L, g.length = L + 1 := ⟨g.length - 1, by omega⟩
 rw [hL]
 show (match g[j]? with | some b => if fo b = true then onF g L b.f3.toNat else j | none => j) = _
 rw [hb]
 dsimp only
 rw [if_pos q, on_more hg L b.f3.toNat (L + 1) (by omega) (by omega)]
theorem nJ {g : List S47} {j : Nat} {b : S47} (hb : g[j]? = some b) (q : ¬ fo b = true) : onG g j = j := by
 have hj : j < g.length := (List.getElem?_eq_some_iff.1 hb).1
 unfold onG
 obtain ⟨L, hL⟩ : ∃ L, g.length = L + 1 := ⟨g.length - 1, by omega⟩
 rw [hL]
 show (match g[j]? with | some b => if fo b = true then onF g L b.f3.toNat else j | none => j) = _
 rw [hb]
 dsimp only
 rw [if_neg q]
theorem uI {g : List S47} (hg : GOk g) : ∀ (d j : Nat), g.length - j ≤ d → j < g.length → ∃ b, g[onG g j]? = some b ∧ ¬ fo b = true := by
 intro d
 induction d with
 | zero => intro j hd hj; omega
 | succ d ih =>
  intro j hd hj
  obtain ⟨b, hb, hok⟩ := hg.at_ hj
  by_cases q : fo b = true
  · rw [oU hg hb q]
    have := bD hok.goal (by have := (iM.1 q).1; omega)
    exact ih _ (by omega) (by omega)
  rw [nJ hb q]; exact ⟨b, hb, q⟩
theorem oM (g : List S47) (b : S47) : (goB g b).1.f0 = b.f0 := by
 unfold goB; split; rfl; split; rfl; split <;> rfl
theorem go_bok {g : List S47} (hg : GOk g) {b : S47} {i : Nat} (h : BOk b i g.length) : BOk (goB g b).1 i g.length := by
 have hc := oM g b
 have hgoal := h.goal
 have hrl := h.rl
 refine ⟨by rw [hc]; exact h.code, ?_, ?_, by rw [hc]; exact h.rg, ?_⟩
 all_goals
  unfold goB
  rcases eF h.ends with ⟨h1, h2, h3, h4, h5⟩ | ⟨h1, h2, h3⟩ | ⟨h1, h2, h3⟩
 · rw [if_pos h1]; exact h.ends
 · rw [if_neg (by omega), if_pos h1]
   have he := h.ends
   unfold jB at he ⊢
   dsimp only
   rw [if_neg (by omega), if_pos h1] at he ⊢
   exact he
 · rw [if_neg (by omega), if_neg (by omega)]
   split
   · exact rfl
   have he := h.ends
   unfold jB at he ⊢
   dsimp only
   rw [if_neg (by omega), if_neg (by omega), if_pos h1] at he ⊢
   exact he
 · rw [if_pos h1]; exact h.goal
 · rw [if_neg (by omega), if_pos h1]
   have hy := bD hgoal (by omega)
   have := og hg g.length b.f3.toNat (by omega)
   unfold ig
   dsimp only
   have e : (i : Int) < (onG g b.f3.toNat : Int) ∧ (onG g b.f3.toNat : Int) < g.length := by unfold onG; omega
   rw [decide_eq_true e, decide_eq_false (show ¬ b.f1 = 3 by omega), Bool.or_true]; rfl
 · rw [if_neg (by omega), if_neg (by omega)]
   have hy := bD hgoal (by omega)
   have hn := dL hgoal h1
   have := og hg g.length b.f3.toNat (by omega)
   have := og hg g.length b.f4.toNat (by omega)
   have e : (i : Int) < (onG g b.f3.toNat : Int) ∧ (onG g b.f3.toNat : Int) < g.length := by unfold onG; omega
   have e2 : (i : Int) < (onG g b.f4.toNat : Int) ∧ (onG g b.f4.toNat : Int) < g.length := by unfold onG; omega
   split
   · unfold ig; dsimp only; rw [decide_eq_true e]; rfl
   unfold ig; dsimp only; rw [decide_eq_true e, decide_eq_true e2, Bool.or_true, Bool.or_true]; rfl
 · rw [if_pos h1]; exact hrl
 · rw [if_neg (by omega), if_pos h1]; exact hrl
 rw [if_neg (by omega), if_neg (by omega)]
 split
 · exact Rg.z
 exact hrl
theorem uq {g : List S47} (pk : List Int) {b : S47} {i : Nat} {n : Int} (h : BOk b i n) (M : cK) :
 (∀ v f s, gz pk b M = .fin v f s → gz pk (goB g b).1 M = .fin v f s) ∧ (∀ j M1 s, gz pk b M = .go j M1 s → ∃ s', s' ≤ s ∧ gz pk (goB g b).1 M = .go (onG g j) M1 s') := by
 have ec := oM g b
 have eo : gz pk (goB g b).1 M = if (bM pk b.f0 M).2.1 = 0 then fU (goB g b).1 (bM pk b.f0 M).1 (bM pk b.f0 M).2.2 else .fin 0 (bM pk b.f0 M).2.1 (bM pk b.f0 M).2.2 := by
  unfold gz; rw [ec]
 rw [eo]
 unfold gz
 by_cases h0 : (bM pk b.f0 M).2.1 = 0
 · rw [if_pos h0, if_pos h0]
   unfold goB
   rcases eF h.ends with ⟨h1, h2, h3, h4, h5⟩ | ⟨h1, h2, h3⟩ | ⟨h1, h2, h3⟩
   · rw [if_pos h1]
     refine ⟨fun v f s e => e, fun j M1 s e => ?_⟩
     unfold fU at e; rw [if_pos h1] at e; cases e
   · rw [if_neg (by omega), if_pos h1]
     have e1 : ∀ M k, fU b M k = .go b.f3.toNat M k := fun M k => by unfold fU; rw [if_neg (by omega), if_pos h1]
     have e2 : ∀ y M k, fU ⟨b.f0, b.f1, b.f2, (y : Nat), b.f4⟩ M k = .go y M k := fun y M k => by
      unfold fU; dsimp only; rw [if_neg (by omega), if_pos h1, Int.toNat_natCast]
     rw [e1, e2]
     refine ⟨(fun v f s e => by cases e), fun j M1 s e => ?_⟩
     injection e with a1 a2 a3
     subst a1 a2 a3
     exact ⟨_, Nat.le_refl _, rfl⟩
   rw [if_neg (by omega), if_neg (by omega)]
   have e1 : ∀ M k, fU b M k = .go (if hoP b.f2 M.a M.x = true then b.f3.toNat else b.f4.toNat) M (k + 1) := fun M k => by unfold fU; rw [if_neg (by omega), if_neg (by omega)]
   rw [e1]
   refine ⟨(fun v f s e => by cases e), fun j M1 s e => ?_⟩
   injection e with a1 a2 a3
   subst a1 a2 a3
   by_cases q : onG g b.f3.toNat = onG g b.f4.toNat
   · rw [if_pos q]
     refine ⟨(bM pk b.f0 M).2.2, Nat.le_succ _, ?_⟩
     show Out.go (onG g b.f3.toNat : Int).toNat _ _ = _
     rw [Int.toNat_natCast]
     split
     · rfl
     rw [q]
   rw [if_neg q]
   refine ⟨(bM pk b.f0 M).2.2 + 1, Nat.le_refl _, ?_⟩
   show (if b.f1 = 1 then _ else if b.f1 = 2 then _ else Out.go (if hoP b.f2 _ _ = true then (onG g b.f3.toNat : Int).toNat else (onG g b.f4.toNat : Int).toNat) _ _) = _
   rw [if_neg (by omega), if_neg (by omega), Int.toNat_natCast, Int.toNat_natCast]
   split <;> rfl
 rw [if_neg h0, if_neg h0]
 exact ⟨fun v f s e => e, fun j M1 s e => by cases e⟩
theorem kT {g : List S47} {j : Nat} {b : S47} (hb : g[j]? = some b) : (iF g).1[j]? = some (goB g b).1 := by
 show (g.map _)[j]? = _
 rw [List.getElem?_map, hb]; rfl
theorem zk {g : List S47} (hg : GOk g) (pk : List Int) : ∀ {j : Nat} {M : cK} {v f : Int} {t : Nat}, Rn g pk j M v f t → ∃ t', t' ≤ t ∧ Rn (iF g).1 pk (onG g j) M v f t' := by
 intro j M v f t hr
 induction hr with
 | @fin j M b v f s hb e =>
  have hok := hg.all j b hb
  have q : ¬ fo b = true := fun q => by rw [l9 q] at e; cases e
  rw [nJ hb q]
  exact ⟨s, Nat.le_refl _, .fin (kT hb) ((uq pk hok M).1 v f s e)⟩
 | @go j M b j1 M1 s1 v f t1 hb e _ ih =>
  have hok := hg.all j b hb
  obtain ⟨t', ht', hr'⟩ := ih
  by_cases q : fo b = true
  · rw [oU hg hb q]
    rw [l9 q] at e
    injection e with a1 a2 a3
    subst a1 a2 a3
    exact ⟨t', by omega, hr'⟩
  rw [nJ hb q]
  obtain ⟨s', hs', e'⟩ := (uq (g := g) pk hok M).2 j1 M1 s1 e
  exact ⟨s' + t', by omega, .go (kT hb) e' hr'⟩
theorem wW {g : List S47} (hg : GOk g) (pk : List Int) {j : Nat} (hj : j < g.length) {M : cK} {v f : Int} {t : Nat} (h : Rn (iF g).1 pk (onG g j) M v f t) : Rn (iF g).1 pk j M v f t := by
 obtain ⟨b, hb, hok⟩ := hg.at_ hj
 by_cases q : fo b = true
 · rw [oU hg hb q] at h
   obtain ⟨s', hs', e'⟩ := (uq (g := g) pk hok M).2 _ _ _ (l9 q)
   have : s' = 0 := by omega
   subst this
   have := Rn.go (kT hb) e' h
   rwa [Nat.zero_add] at this
 rw [nJ hb q] at h; exact h
theorem wV {g : List S47} (hg : GOk g) {b : S47} {i : Nat} (h : BOk b i g.length) : phB g.length (goB g b).1 ≤ phB g.length b ∧ ((goB g b).2 = true → phB g.length (goB g b).1 < phB g.length b) ∧ ((goB g b).2 = false → (goB g b).1 = b)
 ∧ msB (goB g b).1 ≤ msB b ∧ szB (goB g b).1 ≤ szB b := by
 have ph : ∀ c : S47, phB g.length c = 1 + wC c.f0 + wE g.length c := fun c => rfl
 have hgoal := h.goal
 rw [ph, ph, oM]
 unfold goB
 rcases eF h.ends with ⟨h1, h2, h3, h4, h5⟩ | ⟨h1, h2, h3⟩ | ⟨h1, h2, h3⟩
 · rw [if_pos h1]; exact ⟨Nat.le_refl _, (fun h => by cases h), (fun _ => rfl), Nat.le_refl _, Nat.le_refl _⟩
 · rw [if_neg (by omega), if_pos h1]
   have hy := bD hgoal (by omega)
   have ho := og hg g.length b.f3.toNat (by omega)
   have e1 : wE g.length b = 1 + ((g.length : Int) - b.f3).toNat := by unfold wE; rw [if_neg (by omega), if_pos h1]
   have e2 : ∀ y, wE g.length ⟨b.f0, b.f1, b.f2, y, b.f4⟩ = 1 + ((g.length : Int) - y).toNat := fun y => by unfold wE; dsimp only; rw [if_neg (by omega), if_pos h1]
   dsimp only
   rw [e1, e2]
   unfold onG at *
   refine ⟨by omega, fun hf => ?_, fun hf => ?_, Nat.le_refl _, Nat.le_refl _⟩
   · have := of_decide_eq_true hf; omega
   have := of_decide_eq_false hf
   have e : (onF g g.length b.f3.toNat : Int) = b.f3 := by omega
   rw [e]
 rw [if_neg (by omega), if_neg (by omega)]
 have hy := bD hgoal (by omega)
 have hn := dL hgoal h1
 have ho := og hg g.length b.f3.toNat (by omega)
 have ho2 := og hg g.length b.f4.toNat (by omega)
 have e1 : wE g.length b = (if b.f2.f0 ∈ tX then 3 else 2) + ((g.length : Int) - b.f3).toNat + ((g.length : Int) - b.f4).toNat := by unfold wE; rw [if_neg (by omega), if_neg (by omega)]
 have e2 : ∀ y z, wE g.length ⟨b.f0, b.f1, b.f2, y, z⟩ = (if b.f2.f0 ∈ tX then 3 else 2) + ((g.length : Int) - y).toNat + ((g.length : Int) - z).toNat := fun y z => by unfold wE; dsimp only; rw [if_neg (by omega), if_neg (by omega)]
 have e3 : ∀ y, wE g.length ⟨b.f0, 2, ⟨0, 0, 0, 0⟩, y, 0⟩ = 1 + ((g.length : Int) - y).toNat := fun y => rfl
 have h2' : 2 ≤ (if b.f2.f0 ∈ tX then 3 else 2) := by split <;> omega
 rw [e1]
 unfold onG at *
 by_cases q : onF g g.length b.f3.toNat = onF g g.length b.f4.toNat
 · rw [if_pos q]
   dsimp only
   rw [e3]
   refine ⟨by omega, fun _ => by omega, (fun h => by cases h), ?_, ?_⟩
   · unfold msB; dsimp only; rw [if_neg (by decide)]; omega
   unfold szB; dsimp only; rw [if_pos rfl]; omega
 rw [if_neg q]
 dsimp only
 rw [e2]
 refine ⟨by omega, fun hf => ?_, fun hf => ?_, Nat.le_refl _, Nat.le_refl _⟩
 · simp only [Bool.or_eq_true, decide_eq_true_eq] at hf
   rcases hf with hf | hf <;> omega
 simp only [Bool.or_eq_false_iff, decide_eq_false_iff_not] at hf
 have ea : (onF g g.length b.f3.toNat : Int) = b.f3 := by omega
 have eb : (onF g g.length b.f4.toNat : Int) = b.f4 := by omega
 rw [ea, eb]
theorem j6 {g : List S47} (hg : GOk g) : jy g (iF g).1 (iF g).2 := by
 have hlen : (iF g).1.length = g.length := List.length_map ..
 have hmap : ∀ {β : Type} (f : S47 → β), (iF g).1.map f = g.map (fun b => f (goB g b).1) := fun f => by
  show (g.map _).map f = _
  rw [List.map_map]; rfl
 have hm : ∀ b ∈ g, ∃ j : Nat, BOk b j g.length := fun b h => by
  obtain ⟨j, hj⟩ := List.getElem?_of_mem h
  exact ⟨j, hg.all j b hj⟩
 refine ⟨⟨by rw [hlen]; exact hg.some_, by rw [hlen]; exact hg.few, fun j b' h => ?_, ?_⟩, ?_, ?_, ?_, ?_, ?_⟩
 · rw [hlen]
   have hj : j < g.length := by rw [← hlen]; exact (List.getElem?_eq_some_iff.1 h).1
   obtain ⟨b, hb, hok⟩ := hg.at_ hj
   have : some (goB g b).1 = some b' := (kT hb).symm.trans h
   cases this
   exact go_bok hg hok
 · rw [hmap]
   have : (fun b : S47 => (goB g b).1.f0.length) = (fun b => b.f0.length) := funext (fun b => by rw [oM])
   rw [this]; exact hg.sum
 · intro pk v f t hr
   obtain ⟨t', ht', hr'⟩ := zk hg pk hr
   exact ⟨t', ht', wW hg pk hg.some_ hr'⟩
 · unfold msG; rw [hmap]
   exact nP _ _ g (fun b hb => by obtain ⟨j, hj⟩ := hm b hb; exact (wV hg hj).2.2.2.1)
 · unfold phG; rw [hmap, hlen]
   exact nP _ _ g (fun b hb => by obtain ⟨j, hj⟩ := hm b hb; exact (wV hg hj).1)
 · intro h
   unfold phG; rw [hmap, hlen]
   refine sum_lt _ _ g (fun b hb => by obtain ⟨j, hj⟩ := hm b hb; exact (wV hg hj).1) ?_
   obtain ⟨b, hb, hf⟩ := List.any_eq_true.1 (show g.any (fun b => (goB g b).2) = true from h)
   obtain ⟨j, hj⟩ := hm b hb
   exact ⟨b, hb, (wV hg hj).2.1 hf⟩
 intro h
 have h2 : g.any (fun b => (goB g b).2) = false := h
 rw [List.any_eq_false] at h2
 show g.map (fun b => (goB g b).1) = g
 have : g.map (fun b => (goB g b).1) = g.map id := List.map_congr_left (fun b hb => by
  obtain ⟨j, hj⟩ := hm b hb
  exact (wV hg hj).2.2.1 (by simpa using h2 b hb))
 rw [this, List.map_id]
def mkC (b : S47) (c : List Bool) : List Bool := if b.f1 = 1 then c else if b.f1 = 3 then (c.set b.f3.toNat true).set b.f4.toNat true else c.set b.f3.toNat true
def cmF : List S47 → Nat → List Bool → List Bool
 | [], _, c => c
 | b :: r, n, c => cmF r (n + 1) (if c.getD n false = true then mkC b c else c)
def fM (g : List S47) (first : Nat) : List Bool := cmF g 0 ((List.replicate g.length false).set first true)
def cu (c : List Bool) : Nat → Nat
 | 0 => 0
 | j + 1 => cu c j + (if c.getD j false = true then 1 else 0)
def gJ (c : List Bool) (b : S47) : S47 := ⟨b.f0, b.f1, b.f2, if b.f1 = 1 then b.f3 else (cu c b.f3.toNat : Int), if b.f1 = 3 then (cu c b.f4.toNat : Int) else b.f4⟩
def dpL (c : List Bool) : List S47 → Nat → List S47
 | [], _ => []
 | b :: r, n => if c.getD n false = true then gJ c b :: dpL c r (n + 1) else dpL c r (n + 1)
def iO (g : List S47) : List S47 × Bool :=
 if cu (fM g (onG g 0)) g.length = g.length then (g, false) else (dpL (fM g (onG g 0)) g 0, true)
theorem AA (b : S47) (c : List Bool) : (mkC b c).length = c.length := by
 unfold mkC; split; rfl; split <;> simp
theorem yK : ∀ (l : List S47) (n : Nat) (c : List Bool), (cmF l n c).length = c.length := by
 intro l
 induction l with
 | nil => intro n c; rfl
 | cons b r ih =>
  intro n c
  unfold cmF
  rw [ih]
  split
  · exact AA b c
  rfl
theorem vZ {c : List Bool} {i j : Nat} (h : c.getD j false = true) : (c.set i true).getD j false = true := by
 by_cases hi : i < c.length
 · rw [dK hi]; split
   · rfl
   exact h
 rw [List.set_eq_of_length_le (by omega)]; exact h
theorem mR {c : List Bool} {i j : Nat} (h : i ≠ j) : (c.set i true).getD j false = c.getD j false := by
 by_cases hi : i < c.length
 · rw [dK hi, if_neg h]
 rw [List.set_eq_of_length_le (by omega)]
theorem mk_t {b : S47} {c : List Bool} {j : Nat} (h : c.getD j false = true) : (mkC b c).getD j false = true := by
 unfold mkC; split
 · exact h
 split
 · exact vZ (vZ h)
 exact vZ h
theorem mk_o {b : S47} {i : Nat} {n : Int} (h : BOk b i n) {c : List Bool} {j : Nat} (hj : j ≤ i) : (mkC b c).getD j false = c.getD j false := by
 unfold mkC
 by_cases e1 : b.f1 = 1
 · rw [if_pos e1]
 rw [if_neg e1]
 have hy := bD h.goal e1
 by_cases e3 : b.f1 = 3
 · rw [if_pos e3]
   have hn := dL h.goal e3
   rw [mR (by omega), mR (by omega)]
 rw [if_neg e3, mR (by omega)]
theorem cm_t : ∀ (l : List S47) (n : Nat) (c : List Bool) (j : Nat), c.getD j false = true → (cmF l n c).getD j false = true := by
 intro l
 induction l with
 | nil => intro n c j h; exact h
 | cons b r ih =>
  intro n c j h
  unfold cmF
  refine ih _ _ _ ?_
  split
  · exact mk_t h
  exact h
theorem cm_o (L : Int) : ∀ (l : List S47) (n : Nat) (c : List Bool), (∀ (j : Nat) (b : S47), l[j]? = some b → BOk b ((n + j : Nat) : Int) L) → ∀ j, j ≤ n → (cmF l n c).getD j false = c.getD j false := by
 intro l
 induction l with
 | nil => intro n c _ j h; rfl
 | cons b r ih =>
  intro n c hb j h
  have hb0 : BOk b ((n : Nat) : Int) L := hb 0 b rfl
  have hr : ∀ (j : Nat) (b : S47), r[j]? = some b → BOk b ((n + 1 + j : Nat) : Int) L := fun j c hc => by
   have := hb (j + 1) c hc
   rw [show n + 1 + j = n + (j + 1) by omega]; exact this
  unfold cmF
  rw [ih (n + 1) _ hr j (by omega)]
  split
  · exact mk_o hb0 h
  rfl
theorem yL (L : Int) (m : Nat) : ∀ (l : List S47) (n : Nat) (c : List Bool), (∀ (j : Nat) (b : S47), l[j]? = some b → BOk b ((n + j : Nat) : Int) L) → (∀ j, j < m → c.getD j false = false) → ∀ j, j < m → (cmF l n c).getD j false = false := by
 intro l
 induction l with
 | nil => intro n c _ h; exact h
 | cons b r ih =>
  intro n c hb h
  have hb0 : BOk b ((n : Nat) : Int) L := hb 0 b rfl
  have hr : ∀ (j : Nat) (b : S47), r[j]? = some b → BOk b ((n + 1 + j : Nat) : Int) L := fun j c hc => by
   have := hb (j + 1) c hc
   rw [show n + 1 + j = n + (j + 1) by omega]; exact this
  unfold cmF
  refine ih (n + 1) _ hr ?_
  intro j hj
  by_cases q : c.getD n false = true
  · rw [if_pos q]
    have hmn : m ≤ n := by
     refine Nat.le_of_not_lt fun hlt => ?_
     rw [h n hlt] at q; cases q
    rw [mk_o hb0 (by omega)]
    exact h j hj
  rw [if_neg q]; exact h j hj
theorem cm_cl (L : Nat) : ∀ (l : List S47) (n : Nat) (c : List Bool), (∀ (j : Nat) (b : S47), l[j]? = some b → BOk b ((n + j : Nat) : Int) L) → c.length = L →
 ∀ (j : Nat) (b : S47), l[j]? = some b → (cmF l n c).getD (n + j) false = true → (b.f1 ≠ 1 → (cmF l n c).getD b.f3.toNat false = true) ∧ (b.f1 = 3 → (cmF l n c).getD b.f4.toNat false = true) := by
 intro l
 induction l with
 | nil => intro n c _ _ j b h; simp at h
 | cons b0 r ih =>
  intro n c hb hc j b h hin
  have hb0 : BOk b0 ((n : Nat) : Int) L := hb 0 b0 rfl
  have hr : ∀ (j : Nat) (b : S47), r[j]? = some b → BOk b ((n + 1 + j : Nat) : Int) L := fun j c hc => by
   have := hb (j + 1) c hc
   rw [show n + 1 + j = n + (j + 1) by omega]; exact this
  cases j with
  | zero =>
   cases h
   have e := cm_o L (b0 :: r) n c hb n (Nat.le_refl n)
   rw [Nat.add_zero, e] at hin
   unfold cmF
   rw [if_pos hin]
   refine ⟨fun h1 => cm_t _ _ _ _ ?_, fun h3 => cm_t _ _ _ _ ?_⟩
   · have hy := bD hb0.goal h1
     unfold mkC
     rw [if_neg h1]
     have e1 : (c.set b0.f3.toNat true).getD b0.f3.toNat false = true := by rw [dK (by omega), if_pos rfl]
     split
     · exact vZ e1
     exact e1
   have hn := dL hb0.goal h3
   unfold mkC
   rw [if_neg (by omega), if_pos h3, dK (by rw [List.length_set]; omega), if_pos rfl]
  | succ j =>
   unfold cmF at hin ⊢
   have := ih (n + 1) (if c.getD n false = true then mkC b0 c else c) hr (by split; rw [AA]; exact hc; exact hc) j b h
   rw [show n + 1 + j = n + (j + 1) by omega] at this
   exact this hin
theorem num_le (c : List Bool) : ∀ (d j : Nat), cu c j ≤ cu c (j + d) ∧ cu c (j + d) ≤ cu c j + d := by
 intro d
 induction d with
 | zero => intro j; exact ⟨Nat.le_refl _, Nat.le_refl _⟩
 | succ d ih =>
  intro j
  have := ih j
  show cu c j ≤ cu c (j + d) + _ ∧ cu c (j + d) + _ ≤ _
  split <;> omega
theorem iP {c : List Bool} {i j : Nat} (h : i ≤ j) : cu c i ≤ cu c j ∧ cu c j ≤ cu c i + (j - i) := by
 obtain ⟨d, rfl⟩ : ∃ d, j = i + d := ⟨j - i, by omega⟩
 have := num_le c d i
 omega
theorem kZ {c : List Bool} {i j : Nat} (h : i < j) (hc : c.getD i false = true) : cu c i < cu c j := by
 have h1 := (iP (c := c) (i := i + 1) (j := j) h).1
 have : cu c (i + 1) = cu c i + 1 := by show cu c i + _ = _; rw [if_pos hc]
 omega
theorem num_z {c : List Bool} : ∀ {m : Nat}, (∀ j, j < m → c.getD j false = false) → cu c m = 0 := by
 intro m
 induction m with
 | zero => intro _; rfl
 | succ m ih =>
  intro h
  show cu c m + _ = 0
  rw [ih (fun j hj => h j (by omega)), h m (by omega)]; rfl
theorem nE {c : List Bool} {b : S47} {r : List S47} {n : Nat} (q : c.getD n false = true) : dpL c (b :: r) n = gJ c b :: dpL c r (n + 1) := by
 show (if c.getD n false = true then _ else _) = _
 rw [if_pos q]
theorem sU {c : List Bool} {b : S47} {r : List S47} {n : Nat} (q : ¬ c.getD n false = true) : dpL c (b :: r) n = dpL c r (n + 1) := by
 show (if c.getD n false = true then _ else _) = _
 rw [if_neg q]
theorem mI {c : List Bool} {n : Nat} (q : c.getD n false = true) : cu c (n + 1) = cu c n + 1 := by
 show cu c n + _ = _; rw [if_pos q]
theorem nI {c : List Bool} {n : Nat} (q : ¬ c.getD n false = true) : cu c (n + 1) = cu c n := by
 show cu c n + _ = _; rw [if_neg q]; rfl
theorem db1 {c : List Bool} {b : S47} (h : b.f1 = 1) : gJ c b = b := by
 unfold gJ; rw [if_pos h, if_neg (by omega)]
theorem db2 {c : List Bool} {b : S47} (h : b.f1 = 2) : gJ c b = ⟨b.f0, b.f1, b.f2, (cu c b.f3.toNat : Int), b.f4⟩ := by
 unfold gJ; rw [if_neg (show ¬ b.f1 = 1 by omega), if_neg (show ¬ b.f1 = 3 by omega)]
theorem db3 {c : List Bool} {b : S47} (h : b.f1 = 3) : gJ c b = ⟨b.f0, b.f1, b.f2, (cu c b.f3.toNat : Int), (cu c b.f4.toNat : Int)⟩ := by
 unfold gJ; rw [if_neg (show ¬ b.f1 = 1 by omega), if_pos h]
theorem dp_get (c : List Bool) : ∀ (l : List S47) (n j : Nat) (b : S47), l[j]? = some b → c.getD (n + j) false = true → (dpL c l n)[cu c (n + j) - cu c n]? = some (gJ c b) := by
 intro l
 induction l with
 | nil => intro n j b h; simp at h
 | cons b0 r ih =>
  intro n j b h hc
  cases j with
  | zero =>
   cases h
   have hc' : c.getD n false = true := hc
   rw [nE hc']
   show (gJ c b0 :: _)[cu c n - cu c n]? = _
   rw [Nat.sub_self]; rfl
  | succ j =>
   have h2 := ih (n + 1) j b h (by rw [show n + 1 + j = n + (j + 1) by omega]; exact hc)
   rw [show n + 1 + j = n + (j + 1) by omega] at h2
   have hm := (iP (c := c) (i := n + 1) (j := n + (j + 1)) (by omega)).1
   by_cases q : c.getD n false = true
   · have e := mI q
     rw [nE q, show cu c (n + (j + 1)) - cu c n = (cu c (n + (j + 1)) - cu c (n + 1)) + 1 by omega]
     exact h2
   rw [sU q, ← nI q]; exact h2
theorem dp_at (c : List Bool) : ∀ (l : List S47) (n k : Nat) (b' : S47), (dpL c l n)[k]? = some b' → ∃ j b, l[j]? = some b ∧ c.getD (n + j) false = true ∧ b' = gJ c b ∧ cu c (n + j) = cu c n + k := by
 intro l
 induction l with
 | nil => intro n k b' h; simp [dpL] at h
 | cons b0 r ih =>
  intro n k b' h
  by_cases q : c.getD n false = true
  · have e := mI q
    rw [nE q] at h
    cases k with
    | zero => exact ⟨0, b0, rfl, q, (Option.some.inj h).symm, rfl⟩
    | succ k =>
     obtain ⟨j, b, h1, h2, h3, h4⟩ := ih (n + 1) k b' h
     rw [show n + 1 + j = n + (j + 1) by omega] at h2 h4
     exact ⟨j + 1, b, h1, h2, h3, by omega⟩
  have e := nI q
  rw [sU q] at h
  obtain ⟨j, b, h1, h2, h3, h4⟩ := ih (n + 1) k b' h
  rw [show n + 1 + j = n + (j + 1) by omega] at h2 h4
  exact ⟨j + 1, b, h1, h2, h3, by omega⟩
theorem yU (c : List Bool) : ∀ (l : List S47) (n : Nat), (dpL c l n).length + cu c n = cu c (n + l.length) := by
 intro l
 induction l with
 | nil => intro n; exact Nat.zero_add _
 | cons b r ih =>
  intro n
  have := ih (n + 1)
  rw [show n + 1 + r.length = n + (b :: r).length by rw [List.length_cons]; omega] at this
  by_cases q : c.getD n false = true
  · have e := mI q
    rw [nE q, List.length_cons]; omega
  have e := nI q
  rw [sU q]; omega
theorem rF (c : List Bool) (F G : S47 → Nat) (one : Nat) (h1 : ∀ b, one ≤ G b) : ∀ (l : List S47) (n : Nat), (∀ (j : Nat) (b : S47), l[j]? = some b → c.getD (n + j) false = true → F (gJ c b) ≤ G b) →
 ((dpL c l n).map F).sum + one * l.length + one * cu c n ≤ (l.map G).sum + one * cu c (n + l.length) := by
 intro l
 induction l with
 | nil => intro n _; simp [dpL]
 | cons b r ih =>
  intro n h
  have i1 := ih (n + 1) (fun j b hb hc => h (j + 1) b hb (by rw [show n + (j + 1) = n + 1 + j by omega]; exact hc))
  rw [show n + 1 + r.length = n + (b :: r).length by rw [List.length_cons]; omega] at i1
  have e1 : one * (b :: r).length = one * r.length + one := by rw [List.length_cons, Nat.mul_add, Nat.mul_one]
  have hg := h1 b
  rw [e1, List.map_cons, List.sum_cons]
  by_cases q : c.getD n false = true
  · have h0 := h 0 b rfl q
    rw [mI q, Nat.mul_add, Nat.mul_one] at i1
    rw [nE q, List.map_cons, List.sum_cons]
    omega
  rw [nI q] at i1
  rw [sU q]
  omega
theorem on_rn {g : List S47} {pk : List Int} : ∀ (k : Nat) {j : Nat} {M : cK} {v f : Int} {t : Nat}, Rn g pk j M v f t → Rn g pk (onF g k j) M v f t := by
 intro k
 induction k with
 | zero => intro j M v f t h; exact h
 | succ k ih =>
  intro j M v f t h
  unfold onF
  cases hb : g[j]? with
  | none => exact h
  | some b =>
   dsimp only
   by_cases q : fo b = true
   · rw [if_pos q]
     refine ih ?_
     have e := l9 (pk := pk) (M := M) q
     cases h with
     | fin hb' e' => rw [hb] at hb'; cases hb'; rw [e] at e'; cases e'
     | go hb' e' hr =>
      rw [hb] at hb'; cases hb'
      rw [e] at e'
      injection e' with a1 a2 a3
      subst a1 a2 a3
      rw [Nat.zero_add]; exact hr
   rw [if_neg q]; exact h
theorem jZ {g : List S47} (hg : GOk g) : jy g (iO g).1 (iO g).2 := by
 have hb0 : ∀ (j : Nat) (b : S47), g[j]? = some b → BOk b ((0 + j : Nat) : Int) g.length := fun j b h => by rw [Nat.zero_add]; exact hg.all j b h
 unfold iO
 by_cases q : cu (fM g (onG g 0)) g.length = g.length
 · rw [if_pos q]
   exact ⟨hg, fun pk v f t h => ⟨t, Nat.le_refl _, h⟩, Nat.le_refl _, Nat.le_refl _, (fun h => by cases h), fun _ => rfl⟩
 rw [if_neg q]
 have hfirst : onG g 0 < g.length := (og hg g.length 0 hg.some_).2
 have hcl := cm_cl g.length g 0 ((List.replicate g.length false).set (onG g 0) true) hb0 (by rw [List.length_set, List.length_replicate])
 have hlow := yL g.length (onG g 0) g 0 ((List.replicate g.length false).set (onG g 0) true) hb0 (fun j hj => by
  rw [mR (by omega), List.getD_eq_getElem?_getD, List.getElem?_replicate]; split <;> rfl)
 have hst : (fM g (onG g 0)).getD (onG g 0) false = true := cm_t _ _ _ _ (by rw [dK (by rw [List.length_replicate]; exact hfirst), if_pos rfl])
 change ∀ j b, g[j]? = some b → (fM g (onG g 0)).getD (0 + j) false = true → (b.f1 ≠ 1 → (fM g (onG g 0)).getD b.f3.toNat false = true) ∧ (b.f1 = 3 → (fM g (onG g 0)).getD b.f4.toNat false = true) at hcl
 change ∀ j, j < onG g 0 → (fM g (onG g 0)).getD j false = false at hlow
 generalize fM g (onG g 0) = c at *
 have hn0 : cu c (onG g 0) = 0 := num_z hlow
 have hlen : (dpL c g 0).length = cu c g.length := by have := yU c g 0; rw [Nat.zero_add] at this; exact this
 have hnl : cu c g.length ≤ g.length := by have := (iP (c := c) (Nat.zero_le g.length)).2; have e : cu c 0 = 0 := rfl; omega
 have hpos := kZ hfirst hst
 have cl : ∀ (j : Nat) (b : S47), g[j]? = some b → c.getD j false = true → (b.f1 ≠ 1 → c.getD b.f3.toNat false = true) ∧ (b.f1 = 3 → c.getD b.f4.toNat false = true) := fun j b hb hj => hcl j b hb (by rw [Nat.zero_add]; exact hj)
 -- a block in its new place
 have bok : ∀ (j : Nat) (b : S47), g[j]? = some b → c.getD j false = true → BOk (gJ c b) (cu c j) (cu c g.length) := by
  intro j b hb hj
  have hok := hg.all j b hb
  have hc := cl j b hb hj
  refine ⟨hok.code, ?_, ?_, hok.rg, hok.rl⟩
  · have he := hok.ends
    rcases eF hok.ends with ⟨h1, _⟩ | ⟨h1, _⟩ | ⟨h1, _⟩
    · rw [db1 h1]; exact he
    · rw [db2 h1]
      unfold jB at he ⊢
      dsimp only
      rw [if_neg (show ¬ b.f1 = 1 by omega), if_pos h1] at he ⊢
      exact he
    rw [db3 h1]
    unfold jB at he ⊢
    dsimp only
    rw [if_neg (show ¬ b.f1 = 1 by omega), if_neg (show ¬ b.f1 = 2 by omega), if_pos h1] at he ⊢
    exact he
  rcases eF hok.ends with ⟨h1, _⟩ | ⟨h1, _⟩ | ⟨h1, _⟩
  · rw [db1 h1]
    unfold ig
    rw [decide_eq_true h1, decide_eq_false (show ¬ b.f1 = 3 by omega)]; rfl
  · have hy := bD hok.goal (by omega)
    have hyc := hc.1 (by omega)
    rw [db2 h1]
    unfold ig
    dsimp only
    have a1 := kZ (c := c) (i := j) (j := b.f3.toNat) (by omega) hj
    have a2 := kZ (c := c) (i := b.f3.toNat) (j := g.length) (by omega) hyc
    rw [decide_eq_true (show ((cu c j : Nat) : Int) < ((cu c b.f3.toNat : Nat) : Int) ∧ ((cu c b.f3.toNat : Nat) : Int) < ((cu c g.length : Nat) : Int) by omega), decide_eq_false (show ¬ b.f1 = 3 by omega), Bool.or_true]; rfl
  have hy := bD hok.goal (by omega)
  have hn := dL hok.goal h1
  have hyc := hc.1 (by omega)
  have hnc := hc.2 h1
  rw [db3 h1]
  unfold ig
  dsimp only
  have a1 := kZ (c := c) (i := j) (j := b.f3.toNat) (by omega) hj
  have a2 := kZ (c := c) (i := b.f3.toNat) (j := g.length) (by omega) hyc
  have a3 := kZ (c := c) (i := j) (j := b.f4.toNat) (by omega) hj
  have a4 := kZ (c := c) (i := b.f4.toNat) (j := g.length) (by omega) hnc
  rw [decide_eq_true (show ((cu c j : Nat) : Int) < ((cu c b.f3.toNat : Nat) : Int) ∧ ((cu c b.f3.toNat : Nat) : Int) < ((cu c g.length : Nat) : Int) by omega), decide_eq_true (show ((cu c j : Nat) : Int) < ((cu c b.f4.toNat : Nat) : Int) ∧ ((cu c b.f4.toNat : Nat) : Int) < ((cu c g.length : Nat) : Int) by omega), Bool.or_true, Bool.or_true]; rfl
 have get : ∀ (j : Nat) (b : S47), g[j]? = some b → c.getD j false = true → (dpL c g 0)[cu c j]? = some (gJ c b) := by
  intro j b hb hj
  have := dp_get c g 0 j b hb (by rw [Nat.zero_add]; exact hj)
  rw [Nat.zero_add] at this
  exact this
 have hout : ∀ (pk : List Int) (j : Nat) (b : S47), g[j]? = some b → ∀ M, (∀ v f s, gz pk b M = .fin v f s → gz pk (gJ c b) M = .fin v f s) ∧ (∀ j1 M1 s, gz pk b M = .go j1 M1 s → gz pk (gJ c b) M = .go (cu c j1) M1 s) := by
  intro pk j b hb M
  have hok := hg.all j b hb
  unfold gz
  show (∀ v f s, _ → (if (bM pk b.f0 M).2.1 = 0 then fU (gJ c b) (bM pk b.f0 M).1 (bM pk b.f0 M).2.2 else .fin 0 (bM pk b.f0 M).2.1 (bM pk b.f0 M).2.2) = _) ∧ (∀ j1 M1 s, _ → (if (bM pk b.f0 M).2.1 = 0 then fU (gJ c b) (bM pk b.f0 M).1 (bM pk b.f0 M).2.2 else .fin 0 (bM pk b.f0 M).2.1 (bM pk b.f0 M).2.2) = _)
  by_cases h0 : (bM pk b.f0 M).2.1 = 0
  · rw [if_pos h0, if_pos h0]
    rcases eF hok.ends with ⟨h1, _⟩ | ⟨h1, _⟩ | ⟨h1, _⟩
    · rw [db1 h1]
      refine ⟨(fun v f s e => e), fun j1 M1 s e => ?_⟩
      unfold fU at e; rw [if_pos h1] at e; cases e
    · have E : ∀ M k, fU b M k = .go b.f3.toNat M k := fun M k => by unfold fU; rw [if_neg (show ¬ b.f1 = 1 by omega), if_pos h1]
      have E2 : ∀ M k, fU (gJ c b) M k = .go (cu c b.f3.toNat) M k := fun M k => by
       rw [db2 h1]
       unfold fU
       dsimp only
       rw [if_neg (show ¬ b.f1 = 1 by omega), if_pos h1, Int.toNat_natCast]
      rw [E, E2]
      refine ⟨(fun v f s e => by cases e), fun j1 M1 s e => ?_⟩
      injection e with a1 a2 a3
      subst a1 a2 a3
      rfl
    have E : ∀ M k, fU b M k = .go (if hoP b.f2 M.a M.x = true then b.f3.toNat else b.f4.toNat) M (k + 1) := fun M k => by unfold fU; rw [if_neg (show ¬ b.f1 = 1 by omega), if_neg (show ¬ b.f1 = 2 by omega)]
    have E2 : ∀ M k, fU (gJ c b) M k = .go (if hoP b.f2 M.a M.x = true then cu c b.f3.toNat else cu c b.f4.toNat) M (k + 1) := fun M k => by
     rw [db3 h1]
     unfold fU
     dsimp only
     rw [if_neg (show ¬ b.f1 = 1 by omega), if_neg (show ¬ b.f1 = 2 by omega), Int.toNat_natCast, Int.toNat_natCast]
    rw [E, E2]
    refine ⟨(fun v f s e => by cases e), fun j1 M1 s e => ?_⟩
    injection e with a1 a2 a3
    subst a1 a2 a3
    split <;> rfl
  rw [if_neg h0, if_neg h0]
  exact ⟨fun v f s e => e, fun j1 M1 s e => by cases e⟩
 have run : ∀ (pk : List Int) {j : Nat} {M : cK} {v f : Int} {t : Nat}, Rn g pk j M v f t → c.getD j false = true → Rn (dpL c g 0) pk (cu c j) M v f t := by
  intro pk j M v f t hr
  induction hr with
  | @fin j M b v f s hb e => intro hj; exact .fin (get j b hb hj) ((hout pk j b hb M).1 v f s e)
  | @go j M b j1 M1 s1 v f t1 hb e _ ih =>
   intro hj
   have hok := hg.all j b hb
   obtain ⟨_, _, _, _, q3⟩ := lK hok (by omega) e
   have hc1 : c.getD j1 false = true := by
    have hc := cl j b hb hj
    rcases q3 with ⟨e2, ej, _⟩ | ⟨e3, ej, _⟩
    · have := hc.1 (by omega)
      rw [show j1 = b.f3.toNat by omega]; exact this
    have hy := hc.1 (by omega)
    have hn := hc.2 e3
    by_cases ho : hoP b.f2 M1.a M1.x = true
    · rw [if_pos ho] at ej; rw [show j1 = b.f3.toNat by omega]; exact hy
    rw [if_neg ho] at ej; rw [show j1 = b.f4.toNat by omega]; exact hn
   exact .go (get j b hb hj) ((hout pk j b hb M).2 j1 M1 s1 e) (ih hc1)
 have ph1 : ∀ b : S47, 1 ≤ phB g.length b := fun b => by unfold phB; omega
 have phw : ∀ (j : Nat) (b : S47), g[j]? = some b → c.getD (0 + j) false = true → phB (cu c g.length : Nat) (gJ c b) ≤ phB g.length b := by
  intro j b hb hj
  have hok := hg.all j b hb
  show 1 + wC b.f0 + wE _ (gJ c b) ≤ 1 + wC b.f0 + wE _ b
  have : wE (cu c g.length : Nat) (gJ c b) ≤ wE g.length b := by
   rcases eF hok.ends with ⟨h1, _⟩ | ⟨h1, _⟩ | ⟨h1, _⟩
   · rw [db1 h1]
     unfold wE
     rw [if_pos h1, if_pos h1]; exact Nat.le_refl _
   · have hy := bD hok.goal (by omega)
     have := (iP (c := c) (i := b.f3.toNat) (j := g.length) (by omega)).2
     rw [db2 h1]
     unfold wE
     dsimp only
     rw [if_neg (show ¬ b.f1 = 1 by omega), if_pos h1, if_neg (show ¬ b.f1 = 1 by omega), if_pos h1]
     omega
   have hy := bD hok.goal (by omega)
   have hn := dL hok.goal h1
   have := (iP (c := c) (i := b.f3.toNat) (j := g.length) (by omega)).2
   have := (iP (c := c) (i := b.f4.toNat) (j := g.length) (by omega)).2
   rw [db3 h1]
   unfold wE
   dsimp only
   rw [if_neg (show ¬ b.f1 = 1 by omega), if_neg (show ¬ b.f1 = 2 by omega), if_neg (show ¬ b.f1 = 1 by omega), if_neg (show ¬ b.f1 = 2 by omega)]
   omega
  omega
 have sph := rF c (phB (cu c g.length : Nat)) (phB g.length) 1 ph1 g 0 phw
 have sms := rF c msB msB 0 (fun b => Nat.zero_le _) g 0 (fun j b _ _ => Nat.le_refl _)
 have ssz := rF c szB szB 0 (fun b => Nat.zero_le _) g 0 (fun j b _ _ => Nat.le_refl _)
 have sln := rF c (fun b => b.f0.length) (fun b => b.f0.length) 0 (fun b => Nat.zero_le _) g 0 (fun j b _ _ => Nat.le_refl _)
 rw [Nat.zero_add] at sph
 simp only [Nat.zero_mul, Nat.add_zero] at sms ssz sln
 have en : cu c 0 = 0 := rfl
 refine ⟨⟨by rw [hlen]; omega, by rw [hlen]; have := hg.few; omega, fun k b' h => ?_, Nat.le_trans sln hg.sum⟩, ?_, sms, ?_, ?_, fun h => by cases h⟩
 · obtain ⟨j, b, h1, h2, h3, h4⟩ := dp_at c g 0 k b' h
   rw [Nat.zero_add] at h2 h4
   rw [en, Nat.zero_add] at h4
   rw [hlen, h3, ← h4]
   exact bok j b h1 h2
 · intro pk v f t hr
   have := run pk (on_rn g.length hr) hst
   change Rn _ pk (cu c (onG g 0)) _ _ _ _ at this
   rw [hn0] at this
   exact ⟨t, Nat.le_refl _, this⟩
 · unfold phG; dsimp only; rw [hlen]; omega
 intro _; unfold phG; dsimp only; rw [hlen]; omega
def jV : S47 := ⟨[], 1, ⟨6, 0, 0, 0⟩, 0, 0⟩
def mgB (b nx : S47) : S47 := ⟨b.f0 ++ nx.f0, nx.f1, nx.f2, nx.f3, nx.f4⟩
def jn1 (g : List S47) (a y : Nat) (b nx : S47) : List S47 := (g.set a (mgB b nx)).set y jV
def cE (t : Nat) (b : S47) : Nat := (if b.f1 ≠ 1 ∧ b.f3.toNat = t then 1 else 0) + (if b.f1 = 3 ∧ b.f4.toNat = t then 1 else 0)
def jl (g : List S47) (t : Nat) : Nat := (g.map (cE t)).sum
theorem sH (f : S47 → Nat) : ∀ (g : List S47) (i : Nat) (b c : S47), g[i]? = some b → ((g.set i c).map f).sum + f b = (g.map f).sum + f c := by
 intro g
 induction g with
 | nil => intro i b c h; simp at h
 | cons a r ih =>
  intro i b c h
  cases i with
  | zero => cases h; simp only [List.set_cons_zero, List.map_cons, List.sum_cons]; omega
  | succ i =>
   have := ih i b c h
   simp only [List.set_cons_succ, List.map_cons, List.sum_cons]
   omega
theorem vR {g : List S47} {i j : Nat} {c : S47} : (g.set i c)[j]? = if i = j then (if i < g.length then some c else none) else g[j]? := by
 rw [List.getElem?_set]
theorem iX {g : List S47} {i j : Nat} {c : S47} (h : i ≠ j) : (g.set i c)[j]? = g[j]? := by
 rw [vR, if_neg h]
theorem pK {g : List S47} {i : Nat} {c : S47} (h : i < g.length) : (g.set i c)[i]? = some c := by
 rw [vR, if_pos rfl, if_pos h]
theorem yJ (t : Nat) : cE t jV = 0 := rfl
theorem vO {g : List S47} {i j t : Nat} {b c : S47} (hb : g[i]? = some b) (hc : g[j]? = some c) (h : i ≠ j) : cE t b + cE t c ≤ jl g t := by
 have h1 := sH (cE t) g i b jV hb
 have h2 : cE t c ≤ ((g.set i jV).map (cE t)).sum := wu (List.mem_map_of_mem (List.mem_of_getElem? (by rw [iX h]; exact hc)))
 rw [yJ] at h1
 unfold jl
 omega
theorem pz {b : S47} {t : Nat} (h1 : b.f1 ≠ 1) (h : b.f3.toNat = t) : 1 ≤ cE t b := by
 unfold cE; rw [if_pos ⟨h1, h⟩]; omega
theorem cE_no {b : S47} {t : Nat} (h1 : b.f1 = 3) (h : b.f4.toNat = t) : 1 ≤ cE t b := by
 unfold cE; rw [if_pos (show b.f1 = 3 ∧ b.f4.toNat = t from ⟨h1, h⟩)]; omega
structure Mg (g : List S47) (a y : Nat) (b nx : S47) : Prop where
 gok : GOk g
 at_ : g[a]? = some b
 goes : b.f1 = 2
 goal : b.f3.toNat = y
 nx : g[y]? = some nx
 one : jl g y = 1
theorem Mg.lt {g : List S47} {a y : Nat} {b nx : S47} (h : Mg g a y b nx) : a < y ∧ y < g.length ∧ a < g.length := by
 have hy := bD (h.gok.all a b h.at_).goal (by have := h.goes; omega)
 have := h.goal
 have : y < g.length := (List.getElem?_eq_some_iff.1 h.nx).1
 omega
theorem Mg.len {g : List S47} {a y : Nat} {b nx : S47} (h : Mg g a y b nx) : (jn1 g a y b nx).length = g.length := by
 unfold jn1; rw [List.length_set, List.length_set]
theorem Mg.get {g : List S47} {a y : Nat} {b nx : S47} (h : Mg g a y b nx) : (jn1 g a y b nx)[a]? = some (mgB b nx) ∧ (jn1 g a y b nx)[y]? = some jV ∧ ∀ j, j ≠ a → j ≠ y → (jn1 g a y b nx)[j]? = g[j]? := by
 obtain ⟨l1, l2, l3⟩ := h.lt
 unfold jn1
 refine ⟨?_, ?_, fun j h1 h2 => ?_⟩
 · rw [iX (by omega), pK l3]
 · rw [pK (by rw [List.length_set]; exact l2)]
 rw [iX (by omega), iX (by omega)]
theorem Mg.sum {g : List S47} {a y : Nat} {b nx : S47} (h : Mg g a y b nx) (f : S47 → Nat) : ((jn1 g a y b nx).map f).sum + f b + f nx = (g.map f).sum + f (mgB b nx) + f jV := by
 obtain ⟨l1, l2, l3⟩ := h.lt
 have h1 := sH f g a b (mgB b nx) h.at_
 have h2 := sH f (g.set a (mgB b nx)) y nx jV (by rw [iX (by omega)]; exact h.nx)
 unfold jn1
 omega
theorem Mg.cnt {g : List S47} {a y : Nat} {b nx : S47} (h : Mg g a y b nx) (t : Nat) : jl (jn1 g a y b nx) t = if t = y then 0 else jl g t := by
 have hs := h.sum (cE t)
 have e1 : cE t (mgB b nx) = cE t nx := rfl
 have e2 : cE t b = if y = t then 1 else 0 := by
  unfold cE
  have h2 := h.goes
  have h3 := h.goal
  rw [if_neg (show ¬ (b.f1 = 3 ∧ _) by omega), h3]
  by_cases q : y = t
  · rw [if_pos ⟨by omega, q⟩, if_pos q]
  rw [if_neg (fun h => q h.2), if_neg q]
 rw [e1, yJ, e2] at hs
 unfold jl at *
 by_cases q : t = y
 · subst q
   rw [if_pos rfl] at hs ⊢
   have := h.one
   unfold jl at this
   omega
 rw [if_neg (fun h => q h.symm)] at hs
 rw [if_neg q]
 omega
theorem wP {c d : List S45} (h1 : fE c = true) (h2 : fE d = true) : fE (c ++ d) = true := by
 unfold fE at *; rw [List.all_append, h1, h2]; rfl
theorem Mg.gok' {g : List S47} {a y : Nat} {b nx : S47} (h : Mg g a y b nx) : GOk (jn1 g a y b nx) := by
 obtain ⟨l1, l2, l3⟩ := h.lt
 obtain ⟨g1, g2, g3⟩ := h.get
 have ha := h.gok.all a b h.at_
 have hy := h.gok.all y nx h.nx
 refine ⟨by rw [h.len]; exact h.gok.some_, by rw [h.len]; exact h.gok.few, fun j c hc => ?_, ?_⟩
 · rw [h.len]
   by_cases qa : j = a
   · subst qa
     rw [g1] at hc
     cases hc
     refine ⟨wP ha.code hy.code, hy.ends, ?_, ?_, hy.rl⟩
     · have hg := hy.goal
       unfold ig at hg ⊢
       simp only [Bool.and_eq_true, Bool.or_eq_true, decide_eq_true_eq, Bool.not_eq_true', decide_eq_false_iff_not] at hg ⊢
       show (nx.f1 = 1 ∨ _ < nx.f3 ∧ nx.f3 < _) ∧ (¬ nx.f1 = 3 ∨ _ < nx.f4 ∧ nx.f4 < _)
       omega
     intro x hx
     rcases List.mem_append.1 hx with hx | hx
     · exact ha.rg x hx
     exact hy.rg x hx
   by_cases qy : j = y
   · subst qy
     rw [g2] at hc
     cases hc
     exact ⟨rfl, rfl, rfl, (fun x hx => absurd hx List.not_mem_nil), Rg.z⟩
   rw [g3 j qa qy] at hc
   exact h.gok.all j c hc
 have := h.sum (fun b => b.f0.length)
 have e : (mgB b nx).f0.length = b.f0.length + nx.f0.length := List.length_append
 have e2 : jV.f0.length = 0 := rfl
 have := h.gok.sum
 omega
theorem zP (pk : List Int) : ∀ (c d : List S45) (M : cK), bM pk (c ++ d) M = if (bM pk c M).2.1 = 0 then ((bM pk d (bM pk c M).1).1, (bM pk d (bM pk c M).1).2.1, (bM pk c M).2.2 + (bM pk d (bM pk c M).1).2.2) else bM pk c M := by
 intro c
 induction c with
 | nil => intro d M; show bM pk d M = (if (0 : Int) = 0 then _ else _); rw [if_pos rfl]; show _ = (_, _, 0 + _); rw [Nat.zero_add]; rfl
 | cons i r ih =>
  intro d M
  show (if (dh i pk M).2 = 0 then ((bM pk (r ++ d) (dh i pk M).1).1, (bM pk (r ++ d) (dh i pk M).1).2.1, (bM pk (r ++ d) (dh i pk M).1).2.2 + 1) else ((dh i pk M).1, (dh i pk M).2, 1)) = _
  have e : bM pk (i :: r) M = (if (dh i pk M).2 = 0 then ((bM pk r (dh i pk M).1).1, (bM pk r (dh i pk M).1).2.1, (bM pk r (dh i pk M).1).2.2 + 1) else ((dh i pk M).1, (dh i pk M).2, 1)) := rfl
  rw [e]
  by_cases f0 : (dh i pk M).2 = 0
  · rw [if_pos f0, if_pos f0, ih]
    dsimp only
    by_cases q : (bM pk r (dh i pk M).1).2.1 = 0
    · rw [if_pos q, if_pos q]
      simp only [Prod.mk.injEq, true_and]
      omega
    rw [if_neg q, if_neg q]
  rw [if_neg f0, if_neg f0]
  dsimp only
  rw [if_neg f0]
def shO (k : Nat) : Out → Out
 | .fin v f s => .fin v f (k + s)
 | .go j M s => .go j M (k + s)
theorem endO_sh (b : S47) (M : cK) (k s : Nat) : fU b M (k + s) = shO k (fU b M s) := by
 unfold fU
 split
 · rfl
 split <;> rfl
theorem Az (pk : List Int) {b nx : S47} (h : b.f1 = 2) (M : cK) : ((bM pk b.f0 M).2.1 = 0 → gz pk (mgB b nx) M = shO (bM pk b.f0 M).2.2 (gz pk nx (bM pk b.f0 M).1)) ∧ ((bM pk b.f0 M).2.1 ≠ 0 → gz pk (mgB b nx) M = gz pk b M) := by
 have e : gz pk (mgB b nx) M = if (bM pk (b.f0 ++ nx.f0) M).2.1 = 0 then fU nx (bM pk (b.f0 ++ nx.f0) M).1 (bM pk (b.f0 ++ nx.f0) M).2.2 else .fin 0 (bM pk (b.f0 ++ nx.f0) M).2.1 (bM pk (b.f0 ++ nx.f0) M).2.2 := rfl
 rw [e, zP]
 refine ⟨fun h0 => ?_, fun h0 => ?_⟩
 · rw [if_pos h0]
   dsimp only
   unfold gz
   split
   · exact endO_sh _ _ _ _
   rfl
 rw [if_neg h0, if_neg h0]
 unfold gz
 rw [if_neg h0]
theorem Mg.run {g : List S47} {a y : Nat} {b nx : S47} (h : Mg g a y b nx) (pk : List Int) : ∀ {j : Nat} {M : cK} {v f : Int} {t : Nat}, Rn g pk j M v f t →
 (j ≠ y → Rn (jn1 g a y b nx) pk j M v f t) ∧ (j = y → gz pk nx M = .fin v f t ∨ ∃ j1 M1 s t1, gz pk nx M = .go j1 M1 s ∧ t = s + t1 ∧ Rn (jn1 g a y b nx) pk j1 M1 v f t1) := by
 obtain ⟨l1, l2, l3⟩ := h.lt
 obtain ⟨g1, g2, g3⟩ := h.get
 intro j M v f t hr
 induction hr with
 | @fin j M c v f s hb e =>
  refine ⟨fun hy => ?_, fun hy => ?_⟩
  · by_cases qa : j = a
    · subst qa
      rw [h.at_] at hb; cases hb
      have h0 : (bM pk b.f0 M).2.1 ≠ 0 := by
       intro h0
       unfold gz at e
       rw [if_pos h0] at e
       unfold fU at e
       have := h.goes
       rw [if_neg (by omega), if_pos this] at e
       cases e
      exact .fin g1 (by rw [(Az pk h.goes M).2 h0]; exact e)
    exact .fin (by rw [g3 j qa hy]; exact hb) e
  subst hy
  rw [h.nx] at hb; cases hb
  exact .inl e
 | @go j M c j1 M1 s1 v f t1 hb e _ ih =>
  have hok := h.gok.all j c hb
  obtain ⟨h0, q1, q2, q3, q4⟩ := lK hok (by omega) e
  refine ⟨fun hy => ?_, fun hy => ?_⟩
  · by_cases qa : j = a
    · subst qa
      rw [h.at_] at hb; cases hb
      have hj1 : j1 = y ∧ s1 = (bM pk b.f0 M).2.2 := by
       have := h.goes
       have := h.goal
       rcases q4 with ⟨_, ej, es⟩ | ⟨e3, _⟩
       · exact ⟨by omega, es⟩
       omega
      have em := (Az pk (nx := nx) h.goes M).1 h0
      rw [← q1, ← hj1.2] at em
      rcases ih.2 hj1.1 with e2 | ⟨j2, M2, s2, t2, e2, rfl, hr2⟩
      · rw [e2] at em
        exact .fin g1 em
      rw [e2] at em
      rw [← Nat.add_assoc]
      exact .go g1 em hr2
    have hj1 : j1 ≠ y := by
     rintro rfl
     have c1 := pz (b := b) (t := j1) (by have := h.goes; omega) h.goal
     have c2 := vO (t := j1) h.at_ hb (Ne.symm qa)
     have := h.one
     rcases q4 with ⟨e2, ej, _⟩ | ⟨e3, ej, _⟩
     · have := pz (b := c) (t := j1) (by omega) (by omega)
       omega
     by_cases ho : hoP c.f2 M1.a M1.x = true
     · rw [if_pos ho] at ej
       have := pz (b := c) (t := j1) (by omega) (by omega)
       omega
     rw [if_neg ho] at ej
     have := cE_no (b := c) (t := j1) e3 (by omega)
     omega
    exact .go (by rw [g3 j qa hy]; exact hb) e (ih.1 hj1)
  subst hy
  rw [h.nx] at hb; cases hb
  exact .inr ⟨j1, M1, s1, t1, e, rfl, ih.1 (by omega)⟩
theorem wC_app (c d : List S45) : wC (c ++ d) = wC c + wC d := by
 unfold wC; rw [List.map_append, List.sum_append]
theorem Mg.w {g : List S47} {a y : Nat} {b nx : S47} (h : Mg g a y b nx) : phG (jn1 g a y b nx) < phG g ∧ msG (jn1 g a y b nx) ≤ msG g := by
 have h1 := h.sum (phB g.length)
 have h2 := h.sum msB
 have hg := h.goes
 have hy := bD (h.gok.all a b h.at_).goal (by omega)
 have p1 : phB g.length b = 1 + wC b.f0 + (1 + ((g.length : Int) - b.f3).toNat) := by
  unfold phB wE; rw [if_neg (by omega), if_pos hg]
 have p2 : phB g.length nx = 1 + wC nx.f0 + wE g.length nx := rfl
 have p3 : phB g.length (mgB b nx) = 1 + (wC b.f0 + wC nx.f0) + wE g.length nx := by rw [← wC_app]; rfl
 have p4 : phB g.length jV = 2 := rfl
 have m1 : msB b = b.f0.length + 1 := by unfold msB; rw [if_neg (by omega)]
 have m2 : msB (mgB b nx) + 1 = b.f0.length + msB nx + 1 := by
  have e : (mgB b nx).f0.length = b.f0.length + nx.f0.length := List.length_append
  show (mgB b nx).f0.length + 1 + (if nx.f1 = 3 then 2 else 0) + 1 = b.f0.length + (nx.f0.length + 1 + (if nx.f1 = 3 then 2 else 0)) + 1
  omega
 have m3 : msB jV = 1 := rfl
 refine ⟨?_, ?_⟩
 · unfold phG
   rw [h.len]
   omega
 unfold msG
 omega
def jnY (g : List S47) (fr : List Nat) (a : Nat) : Option (S47 × S47) :=
 match g[a]? with
 | some b => if b.f1 = 2 ∧ fr.getD b.f3.toNat 0 = 1 then (match g[b.f3.toNat]? with | some nx => some (b, nx) | none => none) else none
 | none => none
def jnW : Nat → List S47 → List Nat → Nat → List S47 × List Nat × Bool
 | 0, g, fr, _ => (g, fr, false)
 | k + 1, g, fr, a =>
  match jnY g fr a with
  | some (b, nx) => ((jnW k (jn1 g a b.f3.toNat b nx) (fr.set b.f3.toNat 0) a).1, (jnW k (jn1 g a b.f3.toNat b nx) (fr.set b.f3.toNat 0) a).2.1, true)
  | none => (g, fr, false)
def jnL : Nat → List S47 → List Nat → Nat → List S47 × Bool
 | 0, g, _, _ => (g, false)
 | d + 1, g, fr, a => ((jnL d (jnW g.length g fr a).1 (jnW g.length g fr a).2.1 (a + 1)).1, (jnW g.length g fr a).2.2 || (jnL d (jnW g.length g fr a).1 (jnW g.length g fr a).2.1 (a + 1)).2)
def frG (g : List S47) : List Nat := (List.range g.length).map (jl g)
def jO (g : List S47) : List S47 × Bool := jnL g.length g (frG g) 0
structure sK (g : List S47) (fr : List Nat) : Prop where
 len : fr.length = g.length
 eq : ∀ t, t < g.length → fr.getD t 0 = jl g t
theorem zh (g : List S47) : sK g (frG g) := by
 refine ⟨by unfold frG; rw [List.length_map, List.length_range], fun t ht => ?_⟩
 unfold frG
 rw [List.getD_eq_getElem?_getD, List.getElem?_map, List.getElem?_range ht]
 rfl
theorem zT {g : List S47} (hg : GOk g) {fr : List Nat} (hf : sK g fr) {a : Nat} {b nx : S47} (h : jnY g fr a = some (b, nx)) : Mg g a b.f3.toNat b nx := by
 unfold jnY at h
 cases e : g[a]? with
 | none => rw [e] at h; cases h
 | some c =>
  rw [e] at h
  dsimp only at h
  by_cases q : c.f1 = 2 ∧ fr.getD c.f3.toNat 0 = 1
  · rw [if_pos q] at h
    cases e2 : g[c.f3.toNat]? with
    | none => rw [e2] at h; cases h
    | some d =>
     rw [e2] at h
     cases h
     have hlt : b.f3.toNat < g.length := (List.getElem?_eq_some_iff.1 e2).1
     exact ⟨hg, e, q.1, rfl, e2, by rw [← hf.eq _ hlt]; exact q.2⟩
  rw [if_neg q] at h; cases h
theorem fr_mg {g : List S47} {fr : List Nat} (hf : sK g fr) {a y : Nat} {b nx : S47} (h : Mg g a y b nx) : sK (jn1 g a y b nx) (fr.set y 0) := by
 obtain ⟨l1, l2, l3⟩ := h.lt
 refine ⟨by rw [List.length_set, h.len]; exact hf.len, fun t ht => ?_⟩
 rw [h.len] at ht
 rw [dK (by rw [hf.len]; exact l2), h.cnt]
 by_cases q : y = t
 · rw [if_pos q, if_pos q.symm]
 rw [if_neg q, if_neg (fun h => q h.symm)]; exact hf.eq t ht
structure lV (g g' : List S47) (found : Bool) : Prop where
 gok : GOk g'
 len : g'.length = g.length
 run : ∀ pk v f t, Rn g pk 0 z16 v f t → Rn g' pk 0 z16 v f t
 ms : msG g' ≤ msG g
 ph : phG g' ≤ phG g
 less : found = true → phG g' < phG g
 same : found = false → g' = g
theorem lV.refl {g : List S47} (hg : GOk g) : lV g g false := ⟨hg, rfl, (fun _ _ _ _ h => h), Nat.le_refl _, Nat.le_refl _, (fun h => by cases h), fun _ => rfl⟩
theorem lV.one {g : List S47} {a y : Nat} {b nx : S47} (h : Mg g a y b nx) : lV g (jn1 g a y b nx) true := by
 obtain ⟨w1, w2⟩ := h.w
 obtain ⟨l1, l2, l3⟩ := h.lt
 exact ⟨h.gok', h.len, fun pk v f t hr => (h.run pk hr).1 (by omega), w2, Nat.le_of_lt w1, fun _ => w1, fun h => by cases h⟩
theorem lV.trans {g g1 g2 : List S47} {f1 f2 : Bool} (h : lV g g1 f1) (h2 : lV g1 g2 f2) : lV g g2 (f1 || f2) := by
 refine ⟨h2.gok, h2.len.trans h.len, fun pk v f t hr => h2.run pk v f t (h.run pk v f t hr), Nat.le_trans h2.ms h.ms, Nat.le_trans h2.ph h.ph, fun hf => ?_, fun hf => ?_⟩
 · have := h.ph
   have := h2.ph
   rcases Bool.or_eq_true_iff.1 hf with hf | hf
   · have := h.less hf; omega
   have := h2.less hf; omega
 rw [Bool.or_eq_false_iff] at hf
 rw [h2.same hf.2, h.same hf.1]
theorem jnW_ok (P : List S47 → Prop) (hP : ∀ g a y b nx, Mg g a y b nx → P g → P (jn1 g a y b nx)) : ∀ (k : Nat) (g : List S47) (fr : List Nat) (a : Nat), GOk g → sK g fr → P g →
 lV g (jnW k g fr a).1 (jnW k g fr a).2.2 ∧ sK (jnW k g fr a).1 (jnW k g fr a).2.1 ∧ P (jnW k g fr a).1 := by
 intro k
 induction k with
 | zero => intro g fr a hg hf hp; exact ⟨lV.refl hg, hf, hp⟩
 | succ k ih =>
  intro g fr a hg hf hp
  unfold jnW
  cases e : jnY g fr a with
  | none => exact ⟨lV.refl hg, hf, hp⟩
  | some q =>
   obtain ⟨b, nx⟩ := q
   have hm := zT hg hf e
   obtain ⟨i1, i2, i3⟩ := ih (jn1 g a b.f3.toNat b nx) (fr.set b.f3.toNat 0) a hm.gok' (fr_mg hf hm) (hP _ _ _ _ _ hm hp)
   dsimp only
   have := (lV.one hm).trans i1
   rw [Bool.true_or] at this
   exact ⟨this, i2, i3⟩
theorem zS (P : List S47 → Prop) (hP : ∀ g a y b nx, Mg g a y b nx → P g → P (jn1 g a y b nx)) : ∀ (d : Nat) (g : List S47) (fr : List Nat) (a : Nat), GOk g → sK g fr → P g →
 lV g (jnL d g fr a).1 (jnL d g fr a).2 ∧ P (jnL d g fr a).1 := by
 intro d
 induction d with
 | zero => intro g fr a hg hf hp; exact ⟨lV.refl hg, hp⟩
 | succ d ih =>
  intro g fr a hg hf hp
  unfold jnL
  dsimp only
  obtain ⟨w1, w2, w3⟩ := jnW_ok P hP g.length g fr a hg hf hp
  obtain ⟨i1, i2⟩ := ih _ _ (a + 1) w1.gok w2 w3
  exact ⟨w1.trans i1, i2⟩
theorem nU {g : List S47} (hg : GOk g) : jy g (jO g).1 (jO g).2 := by
 obtain ⟨h, _⟩ := zS (fun _ => True) (fun _ _ _ _ _ _ _ => trivial) g.length g (frG g) 0 hg (zh g) trivial
 exact ⟨h.gok, fun pk v f t hr => ⟨t, Nat.le_refl _, h.run pk v f t hr⟩, h.ms, h.ph, h.less, h.same⟩
theorem uA (P : List S47 → Prop) (hP : ∀ g a y b nx, Mg g a y b nx → P g → P (jn1 g a y b nx)) {g : List S47} (hg : GOk g) (hp : P g) : P (jO g).1 :=
 (zS P hP g.length g (frG g) 0 hg (zh g) hp).2
theorem zR : ∀ (d : Nat) (g : List S47) (fr : List Nat) (a : Nat), 0 < g.length → (jnL d g fr a).2 = false → ∀ j, a ≤ j → j < a + d → jnY g fr j = none := by
 intro d
 induction d with
 | zero => intro g fr a _ _ j h1 h2; omega
 | succ d ih =>
  intro g fr a hl h j h1 h2
  unfold jnL at h
  dsimp only at h
  rw [Bool.or_eq_false_iff] at h
  obtain ⟨L, hL⟩ : ∃ L, g.length = L + 1 := ⟨g.length - 1, by omega⟩
  rw [hL] at h
  have key : jnY g fr a = none ∧ jnW (L + 1) g fr a = (g, fr, false) := by
   cases e : jnY g fr a with
   | none =>
    refine ⟨rfl, ?_⟩
    unfold jnW; rw [e]
   | some q =>
    obtain ⟨b, nx⟩ := q
    have h1 := h.1
    unfold jnW at h1
    rw [e] at h1
    cases h1
  rw [key.2] at h
  by_cases q : j = a
  · subst q; exact key.1
  exact ih g fr (a + 1) hl h.2 j (by omega) (by omega)
theorem xe {g : List S47} (hg : GOk g) (h : (jO g).2 = false) : ∀ (j : Nat) (b : S47), g[j]? = some b → b.f1 = 2 → jl g b.f3.toNat ≠ 1 := by
 intro j b hb h2 hc
 have hj : j < g.length := (List.getElem?_eq_some_iff.1 hb).1
 have := zR g.length g (frG g) 0 hg.some_ h j (Nat.zero_le _) (by omega)
 have hy := bD (hg.all j b hb).goal (by omega)
 have hlt : b.f3.toNat < g.length := by omega
 unfold jnY at this
 rw [hb] at this
 dsimp only at this
 rw [if_pos ⟨h2, by rw [(zh g).eq _ hlt]; exact hc⟩, List.getElem?_eq_getElem hlt] at this
 cases this
def szM : List S47 → Nat → List Bool → Nat
 | [], _, _ => 0
 | b :: r, n, m => (if m.getD n false = true then 0 else szB b) + szM r (n + 1) m
structure Mk (g : List S47) (m : List Bool) (S : Nat) : Prop where
 len : m.length = g.length
 zero : m.getD 0 false = false
 cl : ∀ (j : Nat) (b : S47), g[j]? = some b → m.getD j false = false → (b.f1 ≠ 1 → m.getD b.f3.toNat false = false) ∧ (b.f1 = 3 → m.getD b.f4.toNat false = false)
 sz : szM g 0 m ≤ S
def Mks (g : List S47) (S : Nat) : Prop := ∃ m, Mk g m S
theorem mQ (n j : Nat) : (List.replicate n false).getD j false = false := by
 rw [List.getD_eq_getElem?_getD, List.getElem?_replicate]; split <;> rfl
theorem ww : ∀ (g : List S47) (n : Nat) (m : List Bool), (∀ j, n ≤ j → j < n + g.length → m.getD j false = false) → szM g n m = szG g := by
 intro g
 induction g with
 | nil => intro n m _; rfl
 | cons b r ih =>
  intro n m h
  unfold szM szG
  rw [h n (Nat.le_refl n) (by rw [List.length_cons]; omega), if_neg (by decide), ih (n + 1) m (fun j h1 h2 => h j (by omega) (by rw [List.length_cons]; omega)), List.map_cons, List.sum_cons]
  rfl
theorem mks_0 (g : List S47) : Mks g (szG g) :=
 ⟨List.replicate g.length false, by rw [List.length_replicate], mQ _ _, fun j b _ _ => ⟨fun _ => mQ _ _, fun _ => mQ _ _⟩, Nat.le_of_eq (ww g 0 _ (fun j _ _ => mQ _ _))⟩
theorem szM_le (m : List Bool) : ∀ (g g' : List S47) (n : Nat), g'.length = g.length → (∀ (j : Nat) (b b' : S47), g[j]? = some b → g'[j]? = some b' → szB b' ≤ szB b) → szM g' n m ≤ szM g n m := by
 intro g
 induction g with
 | nil => intro g' n h _; cases g' with | nil => exact Nat.le_refl _ | cons => cases h
 | cons b r ih =>
  intro g' n h H
  cases g' with
  | nil => cases h
  | cons b' r' =>
   unfold szM
   have h0 := H 0 b b' rfl rfl
   have h1 := ih r' (n + 1) (by simpa using h) (fun j c c' hc hc' => H (j + 1) c c' hc hc')
   split <;> omega
theorem rU {g g' : List S47} {m : List Bool} {S : Nat} (h : Mk g m S) (hl : g'.length = g.length) (H : ∀ (j : Nat) (b b' : S47), g[j]? = some b → g'[j]? = some b' → szB b' ≤ szB b ∧
 ((b.f1 ≠ 1 → m.getD b.f3.toNat false = false) → (b.f1 = 3 → m.getD b.f4.toNat false = false) → (b'.f1 ≠ 1 → m.getD b'.f3.toNat false = false) ∧ (b'.f1 = 3 → m.getD b'.f4.toNat false = false))) : Mk g' m S := by
 refine ⟨h.len.trans hl.symm, h.zero, fun j b' hb' hm => ?_, Nat.le_trans (szM_le m g g' 0 hl (fun j b b' hb hb' => (H j b b' hb hb').1)) h.sz⟩
 have hj : j < g.length := by rw [← hl]; exact (List.getElem?_eq_some_iff.1 hb').1
 have hb := List.getElem?_eq_getElem hj
 have := h.cl j _ hb hm
 exact (H j _ b' hb hb').2 this.1 this.2
theorem en_goal {s : St} {b : S47} {i n : Int} (h : BOk b i n) (P : Int → Prop) (h3 : b.f1 ≠ 1 → P b.f3) (h4 : b.f1 = 3 → P b.f4) : ((enF s b).1.f1 ≠ 1 → P (enF s b).1.f3) ∧ ((enF s b).1.f1 = 3 → P (enF s b).1.f4) := by
 unfold enF
 by_cases q : b.f1 = 1 ∧ b.f2.f0 = 22
 · rw [if_pos q]
   cases gS s 0 with
   | none => exact ⟨h3, h4⟩
   | some a => exact ⟨h3, h4⟩
 rw [if_neg q]
 by_cases q3 : b.f1 ≠ 3
 · rw [if_pos q3]; exact ⟨h3, h4⟩
 rw [if_neg q3]
 cases jI s (gK s b.f2).1 with
 | none => exact ⟨h3, h4⟩
 | some y =>
  dsimp only
  refine ⟨fun _ => ?_, fun e => by cases e⟩
  split
  · exact h3 (by omega)
  exact h4 (by omega)
theorem fold_mk {g : List S47} (hg : GOk g) {S : Nat} (h : Mks g S) : Mks (jm g).1 S := by
 obtain ⟨m, h⟩ := h
 obtain ⟨a1, _⟩ := vI hg.some_
 have hb : ∀ (j : Nat) (b : S47), g[j]? = some b → BOk b ((0 + j : Nat) : Int) g.length := fun j b h => by rw [Nat.zero_add]; exact hg.all j b h
 refine ⟨m, rU h (y9 g 0 _) (fun j b b' hj hj' => ?_)⟩
 obtain ⟨b0, hb0, e | ⟨s, hs, e⟩⟩ := fd_at g.length g 0 _ a1 hb j b' hj'
 · rw [hj] at hb0; cases hb0
   subst e
   exact ⟨Nat.le_refl _, fun h3 h4 => ⟨h3, h4⟩⟩
 rw [hj] at hb0; cases hb0
 subst e
 have hok := hg.all j b hj
 refine ⟨(zg hok hs).2.2.2, fun h3 h4 => ?_⟩
 obtain ⟨a, c, d, _⟩ := lL b.f0 s hs hok.code hok.rg
 exact en_goal (b := ⟨(bU s b.f0).1, b.f1, b.f2, b.f3, b.f4⟩) ⟨a, hok.ends, hok.goal, c, hok.rl⟩ (fun x => m.getD x.toNat false = false) h3 h4
theorem copy_mk {g : List S47} {S : Nat} (h : Mks g S) : Mks (iT g).1 S := by
 obtain ⟨m, h⟩ := h
 refine ⟨m, rU h (List.length_map ..) (fun j b b' hj hj' => ?_)⟩
 have : some b' = some (fT b).1 := by
  rw [← hj']
  show (g.map _)[j]? = _
  rw [List.getElem?_map, hj]; rfl
 cases this
 refine ⟨?_, fun h3 h4 => ⟨h3, h4⟩⟩
 have := (nD b.f0 iI 18).1.length_le
 show (cpF iI 18 b.f0).1.length + (if b.f1 = 2 then 0 else 1) ≤ b.f0.length + (if b.f1 = 2 then 0 else 1)
 omega
theorem dead_mk {g : List S47} (hg : GOk g) {S : Nat} (h : Mks g S) : Mks (jL g).1 S := by
 obtain ⟨m, h⟩ := h
 have H := yS g.length (ddL g 0).2.1 g 0 (fun j b h => by rw [Nat.zero_add]; exact hg.all j b h) (fun j _ => rfl)
 refine ⟨m, rU h (yT g 0).1 (fun j b b' hj hj' => ?_)⟩
 obtain ⟨b2, hb2, hd⟩ := H j b hj
 have : some b2 = some b' := hb2.symm.trans hj'
 cases this
 rw [hd.blk]
 refine ⟨?_, fun h3 h4 => ⟨h3, h4⟩⟩
 have := (ry (lvF b ((ddL g 0).2.1.getD b.f3.toNat noW) ((ddL g 0).2.1.getD b.f4.toNat noW)) b.f0).1.length_le
 unfold szB
 dsimp only
 omega
theorem on_mk {g : List S47} {m : List Bool} {S : Nat} (h : Mk g m S) : ∀ (k j : Nat), m.getD j false = false → m.getD (onF g k j) false = false := by
 intro k
 induction k with
 | zero => intro j hj; exact hj
 | succ k ih =>
  intro j hj
  unfold onF
  cases e : g[j]? with
  | none => exact hj
  | some b =>
   dsimp only
   by_cases q : fo b = true
   · rw [if_pos q]
     exact ih _ ((h.cl j b e hj).1 (by have := (iM.1 q).1; omega))
   rw [if_neg q]; exact hj
theorem goal_mk {g : List S47} (hg : GOk g) {S : Nat} (h : Mks g S) : Mks (iF g).1 S := by
 obtain ⟨m, h⟩ := h
 refine ⟨m, rU h (List.length_map ..) (fun j b b' hj hj' => ?_)⟩
 have : some (goB g b).1 = some b' := (kT hj).symm.trans hj'
 cases this
 refine ⟨(wV hg (hg.all j b hj)).2.2.2.2, fun h3 h4 => ?_⟩
 have hon : ∀ x : Nat, m.getD x false = false → m.getD (onG g x : Int).toNat false = false := fun x hx => by
  rw [Int.toNat_natCast]; exact on_mk h g.length x hx
 unfold goB
 by_cases e1 : b.f1 = 1
 · rw [if_pos e1]; exact ⟨h3, h4⟩
 rw [if_neg e1]
 by_cases e2 : b.f1 = 2
 · rw [if_pos e2]
   exact ⟨fun _ => hon _ (h3 e1), fun e => by dsimp only at e; omega⟩
 rw [if_neg e2]
 split
 · exact ⟨fun _ => hon _ (h3 e1), fun e => by cases e⟩
 exact ⟨fun _ => hon _ (h3 e1), fun e => hon _ (h4 e)⟩
theorem cm_mk {g : List S47} {m : List Bool} {S : Nat} (h : Mk g m S) : ∀ (l : List S47) (n : Nat) (c : List Bool), (∀ (j : Nat) (b : S47), l[j]? = some b → g[n + j]? = some b) → (∀ j, c.getD j false = true → m.getD j false = false) → ∀ j, (cmF l n c).getD j false = true → m.getD j false = false := by
 intro l
 induction l with
 | nil => intro n c _ hc; exact hc
 | cons b r ih =>
  intro n c hb hc
  unfold cmF
  refine ih (n + 1) _ (fun j x hx => by rw [show n + 1 + j = n + (j + 1) by omega]; exact hb (j + 1) x hx) ?_
  intro j hj
  by_cases q : c.getD n false = true
  · rw [if_pos q] at hj
    have h0 := h.cl n b (hb 0 b rfl) (hc n q)
    have st : ∀ (c : List Bool) (i j : Nat), (c.set i true).getD j false = true → c.getD j false = true ∨ i = j := fun c i j e => by
     by_cases hi : i = j
     · exact .inr hi
     rw [mR hi] at e; exact .inl e
    unfold mkC at hj
    by_cases e1 : b.f1 = 1
    · rw [if_pos e1] at hj; exact hc j hj
    rw [if_neg e1] at hj
    by_cases e3 : b.f1 = 3
    · rw [if_pos e3] at hj
      rcases st _ _ _ hj with hj | rfl
      · rcases st _ _ _ hj with hj | rfl
        · exact hc j hj
        exact h0.1 e1
      exact h0.2 e3
    rw [if_neg e3] at hj
    rcases st _ _ _ hj with hj | rfl
    · exact hc j hj
    exact h0.1 e1
  rw [if_neg q] at hj; exact hc j hj
theorem vP {g : List S47} (hg : GOk g) {m : List Bool} {S : Nat} (h : Mk g m S) : ∀ j, (fM g (onG g 0)).getD j false = true → m.getD j false = false := by
 refine cm_mk h g 0 _ (fun j b hb => by rw [Nat.zero_add]; exact hb) (fun j hj => ?_)
 by_cases q : onG g 0 = j
 · subst q; exact on_mk h g.length 0 h.zero
 rw [mR q, mQ] at hj; cases hj
theorem dp_mk (c m : List Bool) (hcm : ∀ j, c.getD j false = true → m.getD j false = false) : ∀ (l : List S47) (n : Nat), szG (dpL c l n) ≤ szM l n m := by
 intro l
 induction l with
 | nil => intro n; exact Nat.le_refl _
 | cons b r ih =>
  intro n
  have := ih (n + 1)
  unfold szM
  by_cases q : c.getD n false = true
  · rw [nE q, if_neg (by rw [hcm n q]; decide)]
    unfold szG at *
    rw [List.map_cons, List.sum_cons]
    have e : szB (gJ c b) = szB b := rfl
    omega
  rw [sU q]; omega
theorem drop_mk {g : List S47} (hg : GOk g) {S : Nat} (h : Mks g S) : Mks (iO g).1 S := by
 obtain ⟨m, h⟩ := h
 unfold iO
 by_cases q : cu (fM g (onG g 0)) g.length = g.length
 · rw [if_pos q]; exact ⟨m, h⟩
 rw [if_neg q]
 have h1 := dp_mk (fM g (onG g 0)) m (vP hg h) g 0
 have h2 := h.sz
 obtain ⟨m2, k⟩ := mks_0 (dpL (fM g (onG g 0)) g 0)
 exact ⟨m2, k.len, k.zero, k.cl, Nat.le_trans k.sz (Nat.le_trans h1 h2)⟩
theorem o9 {g : List S47} (hg : GOk g) (h : (iO g).2 = false) : ∀ j, j < g.length → (fM g (onG g 0)).getD j false = true := by
 unfold iO at h
 by_cases q : cu (fM g (onG g 0)) g.length = g.length
 · intro j hj
   generalize fM g (onG g 0) = c at *
   cases e : c.getD j false with
   | true => rfl
   | false =>
    have a1 := (iP (c := c) (i := 0) (j := j) (Nat.zero_le _)).2
    have a2 := nI (c := c) (n := j) (by rw [e]; decide)
    have a3 := (iP (c := c) (i := j + 1) (j := g.length) (by omega)).2
    have a4 : cu c 0 = 0 := rfl
    omega
 rw [if_neg q] at h; cases h
theorem mks_end {g : List S47} (hg : GOk g) (hd : (iO g).2 = false) {S : Nat} (h : Mks g S) : szG g ≤ S := by
 obtain ⟨m, h⟩ := h
 rw [← ww g 0 m (fun j _ hj => vP hg h j (o9 hg hd j (by omega)))]
 exact h.sz
theorem jv (b : S47) (r : List S47) (n : Nat) (m : List Bool) : szM (b :: r) n m = (if m.getD n false = true then 0 else szB b) + szM r (n + 1) m := rfl
theorem wy (m : List Bool) : ∀ (g : List S47) (n i : Nat) (b c : S47), g[i]? = some b → szM (g.set i c) n m + (if m.getD (n + i) false = true then 0 else szB b) = szM g n m + (if m.getD (n + i) false = true then 0 else szB c) := by
 intro g
 induction g with
 | nil => intro n i b c h; simp at h
 | cons a r ih =>
  intro n i b c h
  cases i with
  | zero =>
   cases h
   show szM (c :: r) n m + (if m.getD n false = true then 0 else szB a) = szM (a :: r) n m + (if m.getD n false = true then 0 else szB c)
   rw [jv, jv]
   generalize (if m.getD n false = true then 0 else szB a) = u
   generalize (if m.getD n false = true then 0 else szB c) = v
   omega
  | succ i =>
   have := ih (n + 1) i b c h
   rw [show n + 1 + i = n + (i + 1) by omega] at this
   rw [List.set_cons_succ, jv, jv]
   omega
theorem szM_far (m : List Bool) (x : Nat) (hl : x < m.length) : ∀ (r : List S47) (k : Nat), x < k → szM r k (m.set x true) = szM r k m := by
 intro r
 induction r with
 | nil => intro k _; rfl
 | cons y r ih2 =>
  intro k hk
  have e : (m.set x true).getD k false = m.getD k false := by rw [dK hl, if_neg (by omega)]
  rw [jv, jv, ih2 (k + 1) (by omega), e]
theorem BQ (m : List Bool) : ∀ (g : List S47) (n i : Nat) (b : S47), g[i]? = some b → n + i < m.length → szM g n (m.set (n + i) true) + (if m.getD (n + i) false = true then 0 else szB b) = szM g n m := by
 intro g
 induction g with
 | nil => intro n i b h; simp at h
 | cons a r ih =>
  intro n i b h hl
  rw [jv, jv]
  cases i with
  | zero =>
   cases h
   have e : (m.set n true).getD n false = true := by rw [dK (by omega), if_pos rfl]
   rw [Nat.add_zero, szM_far m n (by omega) r (n + 1) (by omega), e, if_pos rfl]
   omega
  | succ i =>
   have := ih (n + 1) i b h (by omega)
   rw [show n + 1 + i = n + (i + 1) by omega] at this
   have e : (m.set (n + (i + 1)) true).getD n false = m.getD n false := by rw [dK hl, if_neg (by omega)]
   rw [e]
   omega
theorem join_mk {g : List S47} (hg : GOk g) {S : Nat} (h : Mks g S) : Mks (jO g).1 S := by
 refine uA (fun g => Mks g S) ?_ hg h
 rintro g a y b nx hm ⟨m, h⟩
 obtain ⟨l1, l2, l3⟩ := hm.lt
 obtain ⟨g1, g2, g3⟩ := hm.get
 have hml := h.len
 have hgo := hm.goes
 have hgl := hm.goal
 have hset : ∀ x, (m.set y true).getD x false = if y = x then true else m.getD x false := fun x => dK (by omega)
 refine ⟨m.set y true, by rw [List.length_set, hm.len]; exact hml, by rw [hset, if_neg (by omega)]; exact h.zero, fun j c hc hj => ?_, ?_⟩
 · rw [hset] at hj
   by_cases qy : y = j
   · rw [if_pos qy] at hj; cases hj
   rw [if_neg qy] at hj
   have fin : ∀ x : Nat, m.getD x false = false → x ≠ y → (m.set y true).getD x false = false := fun x h1 h2 => by
    rw [hset, if_neg (fun e => h2 e.symm)]; exact h1
   by_cases qa : j = a
   · subst qa
     rw [g1] at hc
     cases hc
     have hy := (h.cl j b hm.at_ hj).1 (by omega)
     rw [hgl] at hy
     have hn := h.cl y nx hm.nx hy
     have hok := hm.gok.all y nx hm.nx
     refine ⟨fun e => fin _ (hn.1 e) ?_, fun e => fin _ (hn.2 e) ?_⟩
     · have := bD hok.goal e; show nx.f3.toNat ≠ y; omega
     have := dL hok.goal e; show nx.f4.toNat ≠ y; omega
   rw [g3 j qa (fun e => qy e.symm)] at hc
   have hn := h.cl j c hc hj
   have hone := hm.one
   have c1 := pz (b := b) (t := y) (by omega) hgl
   have c2 := vO (t := y) hm.at_ hc (Ne.symm qa)
   refine ⟨fun e => fin _ (hn.1 e) (fun e2 => ?_), fun e => fin _ (hn.2 e) (fun e2 => ?_)⟩
   · have := pz (b := c) e e2; omega
   have := cE_no (b := c) e e2; omega
 have s1 := wy m g 0 a b (mgB b nx) hm.at_
 have s2 := wy m (g.set a (mgB b nx)) 0 y nx jV (by rw [iX (by omega)]; exact hm.nx)
 have s3 := BQ m (jn1 g a y b nx) 0 y jV g2 (by omega)
 rw [Nat.zero_add] at s1 s2 s3
 have hs := h.sz
 change szM (jn1 g a y b nx) 0 m + _ = _ at s2
 have z1 : szB b = b.f0.length := by unfold szB; rw [if_pos hgo]; rfl
 have z2 : szB (mgB b nx) = b.f0.length + szB nx := by
  have e : (mgB b nx).f0.length = b.f0.length + nx.f0.length := List.length_append
  show (mgB b nx).f0.length + (if nx.f1 = 2 then 0 else 1) = b.f0.length + (nx.f0.length + (if nx.f1 = 2 then 0 else 1))
  omega
 have hcl := (h.cl a b hm.at_)
 rw [z1, z2] at s1
 cases ea : m.getD a false with
 | true =>
  rw [ea, if_pos rfl, if_pos rfl] at s1
  by_cases ey : m.getD y false = true
  · rw [if_pos ey, if_pos ey] at s2
    rw [if_pos ey] at s3
    omega
  rw [if_neg ey, if_neg ey] at s2
  rw [if_neg ey] at s3
  omega
 | false =>
  rw [ea, if_neg (by decide), if_neg (by decide)] at s1
  have hy := (hcl ea).1 (by omega)
  rw [hgl] at hy
  rw [hy, if_neg (by decide), if_neg (by decide)] at s2
  rw [hy, if_neg (by decide)] at s3
  omega
def r1 (g : List S47) := jm g
def r2 (g : List S47) := iT (r1 g).1
def r3 (g : List S47) := jL (r2 g).1
def r4 (g : List S47) := iF (r3 g).1
def r5 (g : List S47) := iO (r4 g).1
def r6 (g : List S47) := jO (r5 g).1
def iC (g : List S47) : List S47 × Bool := ((r6 g).1, (r6 g).2 || ((r5 g).2 || ((r4 g).2 || ((r3 g).2 || ((r2 g).2 || (r1 g).2)))))
def nH : Nat → List S47 → List S47
 | 0, g => g
 | k + 1, g => if (iC g).2 = true then nH k (iC g).1 else (iC g).1
theorem jy.trans {g g1 g2 : List S47} {f1 f2 : Bool} (h : jy g g1 f1) (h2 : jy g1 g2 f2) : jy g g2 (f2 || f1) := by
 refine ⟨h2.gok, fun pk v f t hr => ?_, Nat.le_trans h2.ms h.ms, Nat.le_trans h2.ph h.ph, fun hf => ?_, fun hf => ?_⟩
 · obtain ⟨t1, l1, hr1⟩ := h.run pk v f t hr
   obtain ⟨t2, l2, hr2⟩ := h2.run pk v f t1 hr1
   exact ⟨t2, by omega, hr2⟩
 · have := h.ph
   have := h2.ph
   rcases Bool.or_eq_true_iff.1 hf with hf | hf
   · have := h2.less hf; omega
   have := h.less hf; omega
 rw [Bool.or_eq_false_iff] at hf
 rw [h2.same hf.1, h.same hf.2]
theorem kJ {g : List S47} (hg : GOk g) : jy g (iC g).1 (iC g).2 := by
 have b1 := j5 hg
 have b2 := b1.trans (jX b1.gok)
 have b3 := b2.trans (jY b2.gok)
 have b4 := b3.trans (j6 b3.gok)
 have b5 := b4.trans (jZ b4.gok)
 exact b5.trans (nU b5.gok)
theorem Bz {g : List S47} (hg : GOk g) {S : Nat} (h : Mks g S) : Mks (iC g).1 S := by
 have b1 := j5 hg
 have b2 := b1.trans (jX b1.gok)
 have b3 := b2.trans (jY b2.gok)
 have b4 := b3.trans (j6 b3.gok)
 have b5 := b4.trans (jZ b4.gok)
 exact join_mk b5.gok (drop_mk b4.gok (goal_mk b3.gok (dead_mk b2.gok (copy_mk (fold_mk hg h)))))
structure Done (x : List S47) : Prop where
 gok : GOk x
 fold : (jm x).2 = false
 dead : (jL x).2 = false
 goal : (iF x).2 = false
 drop : (iO x).2 = false
 join : (jO x).2 = false
theorem uU {g : List S47} (hg : GOk g) (h : (iC g).2 = false) : (iC g).1 = g ∧ Done g := by
 have hb := kJ hg
 unfold iC at h
 simp only [Bool.or_eq_false_iff] at h
 obtain ⟨h6, h5, h4, h3, h2, h1⟩ := h
 have b1 := j5 hg
 have e1 : (r1 g).1 = g := b1.same h1
 have b2 := jX (show GOk (r1 g).1 by rw [e1]; exact hg)
 have e2 : (r2 g).1 = g := (b2.same h2).trans e1
 have b3 := jY (show GOk (r2 g).1 by rw [e2]; exact hg)
 have e3 : (r3 g).1 = g := (b3.same h3).trans e2
 have b4 := j6 (show GOk (r3 g).1 by rw [e3]; exact hg)
 have e4 : (r4 g).1 = g := (b4.same h4).trans e3
 have b5 := jZ (show GOk (r4 g).1 by rw [e4]; exact hg)
 have e5 : (r5 g).1 = g := (b5.same h5).trans e4
 refine ⟨hb.same (by unfold iC; simp [h1, h2, h3, h4, h5, h6]), hg, h1, ?_, ?_, ?_, ?_⟩
 · rw [← e2]; exact h3
 · rw [← e3]; exact h4
 · rw [← e4]; exact h5
 rw [← e5]; exact h6
structure xO (g x : List S47) : Prop where
 done : Done x
 run : ∀ pk v f t, Rn g pk 0 z16 v f t → ∃ t', t' ≤ t ∧ Rn x pk 0 z16 v f t'
 ms : msG x ≤ msG g
 size : ∀ S, Mks g S → Mks x S
theorem imp_ok : ∀ (k : Nat) (g : List S47), GOk g → phG g < k → xO g (nH k g) := by
 intro k
 induction k with
 | zero => intro g _ h; omega
 | succ k ih =>
  intro g hg h
  have hb := kJ hg
  unfold nH
  by_cases q : (iC g).2 = true
  · rw [if_pos q]
    have := hb.less q
    obtain ⟨a, b, c, d⟩ := ih (iC g).1 hb.gok (by omega)
    refine ⟨a, fun pk v f t hr => ?_, Nat.le_trans c hb.ms, fun S hS => d S (Bz hg hS)⟩
    obtain ⟨t1, l1, hr1⟩ := hb.run pk v f t hr
    obtain ⟨t2, l2, hr2⟩ := b pk v f t1 hr1
    exact ⟨t2, by omega, hr2⟩
  rw [if_neg q]
  have q' : (iC g).2 = false := by simpa using q
  obtain ⟨e, hd⟩ := uU hg q'
  rw [e]
  exact ⟨hd, fun pk v f t hr => ⟨t, Nat.le_refl _, hr⟩, Nat.le_refl _, fun S h => h⟩
theorem xO.sz {g x : List S47} (h : xO g x) : szG x ≤ szG g := mks_end h.done.gok h.done.drop (h.size _ (mks_0 g))
theorem cm_all (P : Nat → Prop) : ∀ (l : List S47) (n : Nat) (c : List Bool), (∀ b ∈ l, (b.f1 ≠ 1 → P b.f3.toNat) ∧ (b.f1 = 3 → P b.f4.toNat)) → (∀ j, c.getD j false = true → P j) → ∀ j, (cmF l n c).getD j false = true → P j := by
 intro l
 induction l with
 | nil => intro n c _ hc; exact hc
 | cons b r ih =>
  intro n c hb hc
  unfold cmF
  refine ih (n + 1) _ (fun x hx => hb x (List.mem_cons_of_mem _ hx)) ?_
  intro j hj
  have h0 := hb b (List.mem_cons_self ..)
  have st : ∀ (c : List Bool) (i j : Nat), (c.set i true).getD j false = true → c.getD j false = true ∨ i = j := fun c i j e => by
   by_cases hi : i = j
   · exact .inr hi
   rw [mR hi] at e; exact .inl e
  by_cases q : c.getD n false = true
  · rw [if_pos q] at hj
    unfold mkC at hj
    by_cases e1 : b.f1 = 1
    · rw [if_pos e1] at hj; exact hc j hj
    rw [if_neg e1] at hj
    by_cases e3 : b.f1 = 3
    · rw [if_pos e3] at hj
      rcases st _ _ _ hj with hj | rfl
      · rcases st _ _ _ hj with hj | rfl
        · exact hc j hj
        exact h0.1 e1
      exact h0.2 e3
    rw [if_neg e3] at hj
    rcases st _ _ _ hj with hj | rfl
    · exact hc j hj
    exact h0.1 e1
  rw [if_neg q] at hj; exact hc j hj
theorem Done.first {x : List S47} (h : Done x) : onG x 0 = 0 := by
 have hc := o9 h.gok h.drop 0 h.gok.some_
 refine Nat.eq_zero_of_not_pos fun hp => ?_
 have := yL x.length (onG x 0) x 0 ((List.replicate x.length false).set (onG x 0) true) (fun j b hb => by rw [Nat.zero_add]; exact h.gok.all j b hb) (fun j hj => by
  rw [mR (by omega), mQ]) 0 hp
 change (fM x (onG x 0)).getD 0 false = false at this
 rw [hc] at this; cases this
theorem Done.come {x : List S47} (h : Done x) : ∀ j, j < x.length → (fM x 0).getD j false = true := by
 have := o9 h.gok h.drop
 rw [h.first] at this
 exact this
theorem Done.gb {x : List S47} (h : Done x) {b : S47} (hb : b ∈ x) : (goB x b).2 = false := by
 have h2 : x.any (fun b => (goB x b).2) = false := h.goal
 rw [List.any_eq_false] at h2
 simpa using h2 b hb
theorem Done.on {x : List S47} (h : Done x) {j : Nat} {b : S47} (hb : x[j]? = some b) : (b.f1 ≠ 1 → onG x b.f3.toNat = b.f3.toNat) ∧ (b.f1 = 3 → onG x b.f4.toNat = b.f4.toNat ∧ b.f3 ≠ b.f4) := by
 have hok := h.gok.all j b hb
 have hf := h.gb (List.mem_of_getElem? hb)
 unfold goB at hf
 rcases eF hok.ends with ⟨h1, _⟩ | ⟨h1, _⟩ | ⟨h1, _⟩
 · exact ⟨fun e => absurd h1 e, fun e => by omega⟩
 · rw [if_neg (by omega), if_pos h1] at hf
   have hy := bD hok.goal (by omega)
   have := of_decide_eq_false hf
   exact ⟨fun _ => by omega, fun e => by omega⟩
 rw [if_neg (by omega), if_neg (by omega)] at hf
 have hy := bD hok.goal (by omega)
 have hn := dL hok.goal h1
 by_cases q : onG x b.f3.toNat = onG x b.f4.toNat
 · rw [if_pos q] at hf; cases hf
 rw [if_neg q] at hf
 simp only [Bool.or_eq_false_iff, decide_eq_false_iff_not] at hf
 refine ⟨fun _ => by omega, fun _ => ⟨by omega, fun e => q (by rw [e])⟩⟩
theorem Done.nobare {x : List S47} (h : Done x) {j : Nat} {b : S47} (hb : x[j]? = some b) : ¬ fo b = true := by
 have hj : j < x.length := (List.getElem?_eq_some_iff.1 hb).1
 have P := cm_all (fun j => ∀ b, x[j]? = some b → ¬ fo b = true) x 0 ((List.replicate x.length false).set 0 true) (fun b hb => ?_) (fun j hj c hc => ?_) j (h.come j hj) b hb
 · exact P
 · obtain ⟨i, hi⟩ := List.getElem?_of_mem hb
   have hok := h.gok.all i b hi
   have ho := h.on hi
   refine ⟨fun e c hc => ?_, fun e c hc => ?_⟩
   · have hy := bD hok.goal e
     obtain ⟨d, hd, hn⟩ := uI h.gok x.length b.f3.toNat (by omega) (by omega)
     rw [ho.1 e, hc] at hd
     cases hd; exact hn
   have hy := dL hok.goal e
   obtain ⟨d, hd, hn⟩ := uI h.gok x.length b.f4.toNat (by omega) (by omega)
   rw [(ho.2 e).1, hc] at hd
   cases hd; exact hn
 by_cases q : 0 = j
 · subst q
   obtain ⟨d, hd, hn⟩ := uI h.gok x.length 0 (by omega) h.gok.some_
   rw [h.first, hc] at hd
   cases hd; exact hn
 rw [mR q, mQ] at hj; cases hj
theorem fd_none (L : Nat) : ∀ (l : List S47) (n : Nat) (A : AC), AOk A L → (∀ (j : Nat) (b : S47), l[j]? = some b → BOk b ((n + j : Nat) : Int) L) → (fdL l n A).2 = false →
 ∀ (j : Nat) (b : S47), l[j]? = some b → (cmF l n A.2).getD (n + j) false = true → ∃ s, Wst s ∧ (dF s b).2.2 = false := by
 intro l
 induction l with
 | nil => intro n A _ _ _ j b h; simp at h
 | cons b0 r ih =>
  intro n A hA hb hf j b h hc
  have hb0 : BOk b0 ((n : Nat) : Int) L := hb 0 b0 rfl
  have hr : ∀ (j : Nat) (b : S47), r[j]? = some b → BOk b ((n + 1 + j : Nat) : Int) L := fun j c hc => by
   have := hb (j + 1) c hc
   rw [show n + 1 + j = n + (j + 1) by omega]; exact this
  have ho := cm_o L (b0 :: r) n A.2 hb n (Nat.le_refl n)
  unfold fdL at hf
  by_cases q : A.2.getD n false = true
  · rw [if_pos q, Bool.or_eq_false_iff] at hf
    have hw := hA.wst n q
    have hs := lC hb0 hw hf.1
    cases j with
    | zero => cases h; exact ⟨_, hw, hf.1⟩
    | succ j =>
     have f2 := hf.2
     rw [hs] at f2
     obtain ⟨w1, w2, _⟩ := jN hb0 hw
     rw [hs] at w1
     have hcome : (nxF b0 (dF (A.1.getD n []) b0).2.1 A).2 = mkC b0 A.2 := by
      unfold nxF mkC
      rcases eF hb0.ends with ⟨h1, _⟩ | ⟨h1, _⟩ | ⟨h1, _⟩
      · rw [if_neg (by omega), if_neg (by omega), if_pos h1]
      · rw [if_pos h1, if_neg (by omega), if_neg (by omega)]; rfl
      rw [if_neg (by omega), if_pos h1, if_neg (by omega), if_pos h1]; rfl
     refine ih (n + 1) _ (qQ hA w1 w2) hr f2 j b h ?_
     rw [hcome]
     unfold cmF at hc
     rw [if_pos q] at hc
     rw [show n + 1 + j = n + (j + 1) by omega]; exact hc
  rw [if_neg q] at hf
  cases j with
  | zero => rw [Nat.add_zero, ho] at hc; exact absurd hc q
  | succ j =>
   refine ih (n + 1) _ hA hr hf j b h ?_
   unfold cmF at hc
   rw [if_neg q] at hc
   rw [show n + 1 + j = n + (j + 1) by omega]; exact hc
theorem Done.folded {x : List S47} (h : Done x) {j : Nat} {b : S47} (hb : x[j]? = some b) : ∃ s, Wst s ∧ (dF s b).2.2 = false := by
 have hj : j < x.length := (List.getElem?_eq_some_iff.1 hb).1
 obtain ⟨a1, _⟩ := vI h.gok.some_
 refine fd_none x.length x 0 _ a1 (fun j b h2 => by rw [Nat.zero_add]; exact h.gok.all j b h2) h.fold j b hb ?_
 rw [Nat.zero_add]
 exact h.come j hj
theorem xL (s : St) (i : S45) (r : List S45) : bU s (i :: r) = if ik s (df s i) = true then ((bU s r).1, (bU s r).2.1, true)
 else (df s i :: (bU (dJ s (df s i)) r).1, (bU (dJ s (df s i)) r).2.1, neI (df s i) i || (bU (dJ s (df s i)) r).2.2) := rfl
theorem qg {s : St} {i : S45} {r : List S45} (h : (bU s (i :: r)).2.2 = false) : ik s i = false ∧ df s i = i ∧ (bU (dJ s i) r).2.2 = false ∧ (bU s (i :: r)).2.1 = (bU (dJ s i) r).2.1 := by
 rw [xL] at h ⊢
 by_cases q : ik s (df s i) = true
 · rw [if_pos q] at h; cases h
 rw [if_neg q] at h
 dsimp only at h
 rw [Bool.or_eq_false_iff] at h
 have e := AJ h.1
 have h2 := h.2
 rw [if_neg q]
 rw [e] at q h2 ⊢
 exact ⟨by simpa using q, rfl, h2, rfl⟩
theorem qG {s : St} (i : S45) : (dJ s i).length = s.length := by
 unfold dJ
 repeat (refine iq (P := fun t : St => t.length = s.length) (fun _ => by rw [List.length_set]) (fun _ => ?_))
 rw [List.length_set]
theorem xg {s : St} {v : Int} (hs : gS s 0 = some v) {i : S45} (h : df s i = i) (hc : i.f0 ∈ eQ ∨ i.f0 = 132) : False := by
 obtain ⟨c, jt, jf, k⟩ := i
 dsimp only at hc
 have H : ∀ x ∈ eQ, x ∉ ldL ∧ x ≠ 7 ∧ x ≠ 135 ∧ x ≠ 132 ∧ x ∉ gB ∧ x ≠ 0 := by decide
 have e0 : (df s ⟨c, jt, jf, k⟩).f0 = 0 := by
  unfold df
  dsimp only
  rcases hc with hc | rfl
  · obtain ⟨a1, a2, a3, a4, a5, a6⟩ := H c hc
    rw [if_neg a1, if_neg (by omega), if_pos (.inr (.inl hc))]
    unfold qZ jF
    dsimp only
    rw [if_neg a4, if_neg a5, hs]
  rw [if_neg (by decide), if_neg (by decide), if_pos (.inl rfl)]
  unfold qZ
  dsimp only
  rw [if_pos rfl, hs]
 rw [h] at e0
 dsimp only at e0
 subst e0
 rcases hc with hc | hc
 · exact (H 0 hc).2.2.2.2.2 rfl
 cases hc
theorem BO : ∀ (c : List S45) (s : St), s.length = 18 → (bU s c).2.2 = false → ∀ (j : Nat) (a b : S45), c[j]? = some a → c[j + 1]? = some b → a.f0 = 0 → ¬ (b.f0 ∈ eQ ∨ b.f0 = 132) := by
 intro c
 induction c with
 | nil => intro s _ _ j a b h; simp at h
 | cons i r ih =>
  intro s hw h j a b ha hb h0 hc
  obtain ⟨_, _, h3, _⟩ := qg h
  cases j with
  | zero =>
   cases ha
   have hg : gS (dJ s i) 0 = some i.f3 := by
    unfold dJ
    rw [if_pos h0, nG (by omega), if_pos rfl]
   cases r with
   | nil => simp at hb
   | cons i2 r2 =>
    have hb' : i2 = b := by simpa using hb
    subst hb'
    exact xg hg (qg h3).2.1 hc
  | succ j => exact ih (dJ s i) ((qG i).trans hw) h3 j a b ha hb h0 hc
theorem BN : ∀ (c : List S45) (s : St), s.length = 18 → (bU s c).2.2 = false → ∀ i, c.getLast? = some i → i.f0 = 0 → gS (bU s c).2.1 0 = some i.f3 := by
 intro c
 induction c with
 | nil => intro s _ _ i h; simp at h
 | cons a r ih =>
  intro s hw h i hi h0
  obtain ⟨_, _, h3, h4⟩ := qg h
  rw [h4]
  cases r with
  | nil =>
   have : a = i := by simpa using hi
   subst this
   show gS (dJ s a) 0 = _
   unfold dJ
   rw [if_pos h0, nG (by omega), if_pos rfl]
  | cons i2 r2 => exact ih (dJ s a) ((qG a).trans hw) h3 i (by rw [List.getLast?_cons_cons] at hi; exact hi) h0
theorem en_none {s : St} {b : S47} (h : (enF s b).2 = false) (h3 : b.f1 = 3) {v : Int} (hs : gS s 0 = some v) : b.f2.f0 ∈ tX := by
 refine Classical.byContradiction fun hx => ?_
 unfold enF at h
 rw [if_neg (by omega), if_neg (by omega)] at h
 have e1 : gK s b.f2 = (b.f2, false) := by unfold gK; rw [if_neg hx]
 have e2 : jI s (gK s b.f2).1 = some (hoK b.f2.f0 v b.f2.f3) := by
  rw [e1]; unfold jI; rw [if_neg hx, hs]
 rw [e2] at h
 cases h
theorem sP (l : Lw) (i : S45) (r : List S45) : bkF l (i :: r) = if inW (bkF l r).2.1 (wrF i) = false ∧ i.f0 ∉ flL then ((bkF l r).1, (bkF l r).2.1, true)
 else (i :: (bkF l r).1, rdF ((bkF l r).2.1.set (wrF i) false) i, (bkF l r).2.2) := rfl
theorem ru {l : Lw} {i : S45} {r : List S45} (h : (bkF l (i :: r)).2.2 = false) : ¬ (inW (bkF l r).2.1 (wrF i) = false ∧ i.f0 ∉ flL) ∧ (bkF l r).2.2 = false ∧ (bkF l (i :: r)).2.1 = rdF ((bkF l r).2.1.set (wrF i) false) i := by
 rw [sP] at h ⊢
 by_cases q : inW (bkF l r).2.1 (wrF i) = false ∧ i.f0 ∉ flL
 · rw [if_pos q] at h; cases h
 rw [if_neg q] at h ⊢; exact ⟨q, h, rfl⟩
theorem bk_pair (l : Lw) (hl : l.length = 18) : ∀ (c : List S45), fE c = true → (∀ x ∈ c, Rg x.f3) → (bkF l c).2.2 = false → ∀ (j : Nat) (a b : S45), c[j]? = some a → c[j + 1]? = some b → (a.f0 = 0 ∨ a.f0 = 96 ∨ a.f0 = 128) → b.f0 ∉ ([0, 32, 40, 48, 64, 72, 80, 96, 128] : List Int) := by
 intro c
 induction c with
 | nil => intro _ _ _ j a b h; simp at h
 | cons i r ih =>
  intro hc hk h j a b ha hb h0 hm
  unfold fE at hc
  rw [List.all_cons, Bool.and_eq_true] at hc
  have hk2 : ∀ x ∈ r, Rg x.f3 := fun x hx => hk x (List.mem_cons_of_mem _ hx)
  obtain ⟨h1, h2, h3⟩ := ru h
  cases j with
  | zero =>
   cases ha
   cases r with
   | nil => simp at hb
   | cons i2 r2 =>
    have hb' : i2 = b := by simpa using hb
    subst hb'
    obtain ⟨g1, g2, g3⟩ := ru h2
    refine h1 ⟨?_, ?_⟩
    · rw [g3]
      have ew : wrF i = 0 := by unfold wrF; rcases h0 with h0 | h0 | h0 <;> rw [h0] <;> rfl
      have ew2 : wrF i2 = 0 := by
       simp only [List.mem_cons, List.not_mem_nil, or_false] at hm
       unfold wrF
       rw [if_neg (by omega), if_neg (by omega)]
      have hr : rdB i2 0 = false := by
       have hm2 := hm
       simp only [List.mem_cons, List.not_mem_nil, or_false] at hm
       have HL : ∀ x ∈ ([0, 32, 40, 48, 64, 72, 80, 96, 128] : List Int), ¬ (x = 2 ∨ x = 132 ∨ x ∈ eQ ∨ x ∈ gB ∨ x = 7 ∨ jmB x = true ∨ x = 22) := by decide
       unfold rdB
       rw [decide_eq_false (HL _ hm2), decide_eq_false (show ¬ (0 : Nat) = 1 by decide), decide_eq_false (show ¬ 0 = 2 + i2.f3.toNat by omega)]
       rfl
      rw [ew, ew2]
      unfold rdF
      rw [il, hr, Bool.or_false]
      unfold inW
      rw [dK (by rw [pq l hl]; decide), if_pos rfl]
      rfl
    rcases h0 with h0 | h0 | h0 <;> rw [h0] <;> decide
  | succ j => exact ih hc.2 hk2 h2 j a b ha hb h0 hm
def Lds (g : List S47) (k : Nat) : Prop := ∃ b ∈ g, ∃ c ∈ b.f0, (c.f0 = 96 ∨ c.f0 = 97) ∧ c.f3.toNat = k
theorem uP {i : S45} {k : Nat} (h : rdB i (2 + k) = true) : (i.f0 = 96 ∨ i.f0 = 97) ∧ i.f3.toNat = k := by
 unfold rdB at h
 rw [decide_eq_false (show ¬ 2 + k = 0 by omega), decide_eq_false (show ¬ 2 + k = 1 by omega)] at h
 simp only [Bool.false_and, Bool.false_or, Bool.and_eq_true, decide_eq_true_eq] at h
 exact ⟨h.2, by omega⟩
theorem uO {l : Lw} {i : S45} {j : Nat} (h : inW (rdF l i) j = true) : inW l j = true ∨ rdB i j = true := by
 unfold rdF at h
 rw [il, Bool.and_eq_true, Bool.or_eq_true] at h
 exact h.2
theorem yF (g : List S47) (l : Lw) (k : Nat) (hl : inW l (2 + k) = true → Lds g k) {b : S47} (hb : b ∈ g) : ∀ (c : List S45), (∀ x ∈ c, x ∈ b.f0) → inW (bkF l c).2.1 (2 + k) = true → Lds g k := by
 intro c
 induction c with
 | nil => intro _ h; exact hl h
 | cons i r ih =>
  intro hc h
  have ih := ih (fun x hx => hc x (List.mem_cons_of_mem _ hx))
  rw [sP] at h
  by_cases q : inW (bkF l r).2.1 (wrF i) = false ∧ i.f0 ∉ flL
  · rw [if_pos q] at h; exact ih h
  rw [if_neg q] at h
  rcases uO h with h | h
  · refine ih ?_
    unfold inW at h ⊢
    by_cases hw : wrF i < (bkF l r).2.1.length
    · rw [dK hw] at h
      split at h
      · cases h
      exact h
    rw [List.set_eq_of_length_le (by omega)] at h; exact h
  exact ⟨b, hb, i, hc i (List.mem_cons_self ..), uP h⟩
theorem lv_lds (g : List S47) {b : S47} (he : jB b = true) {y z : Lw} {k : Nat} (hy : inW y (2 + k) = true → Lds g k) (hz : inW z (2 + k) = true → Lds g k) : inW (lvF b y z) (2 + k) = true → Lds g k := by
 intro h
 have nol : b.f1 ≠ 2 → ¬ (b.f2.f0 = 96 ∨ b.f2.f0 = 97) := by
  intro h2 hx
  rcases eF he with ⟨_, h1, _⟩ | ⟨h1, _⟩ | ⟨_, h1, _⟩
  · rcases hx with hx | hx <;> rw [hx] at h1 <;> revert h1 <;> decide
  · exact h2 h1
  rcases hx with hx | hx <;> rw [hx] at h1 <;> revert h1 <;> decide
 unfold lvF at h
 by_cases e1 : b.f1 = 1
 · rw [if_pos e1] at h
   rcases uO h with h | h
   · unfold inW noW at h; rw [mQ] at h; cases h
   exact absurd (uP h).1 (nol (by omega))
 rw [if_neg e1] at h
 by_cases e2 : b.f1 = 2
 · rw [if_pos e2] at h; exact hy h
 rw [if_neg e2] at h
 rcases uO h with h | h
 · rw [il, Bool.and_eq_true, Bool.or_eq_true] at h
   rcases h.2 with h | h
   · exact hy h
   exact hz h
 exact absurd (uP h).1 (nol e2)
theorem yH (g : List S47) (l : Lw) (hl : ∀ k, inW l (2 + k) = true → Lds g k) {b : S47} (hb : b ∈ g) : ∀ (c : List S45), (∀ x ∈ c, x ∈ b.f0) → (bkF l c).2.2 = false → ∀ i ∈ c, (i.f0 = 2 ∨ i.f0 = 3) → Lds g i.f3.toNat := by
 intro c
 induction c with
 | nil => intro _ _ i hi; cases hi
 | cons a r ih =>
  intro hc h i hi h0
  obtain ⟨h1, h2, _⟩ := ru h
  rcases List.mem_cons.1 hi with rfl | hi
  · have ew : wrF i = 2 + i.f3.toNat := by unfold wrF; rw [if_neg (by omega), if_pos h0]
    have hf : i.f0 ∉ flL := by rcases h0 with h0 | h0 <;> rw [h0] <;> decide
    have hin : inW (bkF l r).2.1 (wrF i) = true := by
     cases e : inW (bkF l r).2.1 (wrF i) with
     | true => rfl
     | false => exact absurd ⟨e, hf⟩ h1
    rw [ew] at hin
    exact yF g l _ (hl _) hb r (fun x hx => hc x (List.mem_cons_of_mem _ hx)) hin
  exact ih (fun x hx => hc x (List.mem_cons_of_mem _ hx)) h2 i hi h0
theorem dd_none (P : Lw → Prop) (h0 : P noW) : ∀ (l : List S47) (n : Nat), (∀ b ∈ l, ∀ y z, P y → P z → P (lvF b y z) ∧ P (bkF (lvF b y z) b.f0).2.1) →
 (∀ x ∈ (ddL l n).2.1, P x) ∧ ((ddL l n).2.2 = false → ∀ b ∈ l, ∃ x, P x ∧ (bkF x b.f0).2.2 = false) := by
 intro l
 induction l with
 | nil => intro n _; exact ⟨(fun x hx => by cases hx), fun _ b hb => by cases hb⟩
 | cons a r ih =>
  intro n H
  obtain ⟨i1, i2⟩ := ih (n + 1) (fun b hb => H b (List.mem_cons_of_mem _ hb))
  have get : ∀ i, P ((ddL r (n + 1)).2.1.getD i noW) := by
   intro i
   rw [List.getD_eq_getElem?_getD]
   cases e : (ddL r (n + 1)).2.1[i]? with
   | none => exact h0
   | some u => exact i1 u (List.mem_of_getElem? e)
  have ha := H a (List.mem_cons_self ..) _ _ (get (a.f3.toNat - (n + 1))) (get (a.f4.toNat - (n + 1)))
  unfold ddL
  dsimp only
  refine ⟨fun x hx => ?_, fun h b hb => ?_⟩
  · rcases List.mem_cons.1 hx with rfl | hx
    · exact ha.2
    exact i1 x hx
  rw [Bool.or_eq_false_iff] at h
  rcases List.mem_cons.1 hb with rfl | hb
  · exact ⟨_, ha.1, h.1⟩
  exact i2 h.2 b hb
theorem Done.sS {x : List S47} (h : Done x) {b : S47} (hb : b ∈ x) : ∃ l : Lw, l.length = 18 ∧ (∀ k, inW l (2 + k) = true → Lds x k) ∧ (bkF l b.f0).2.2 = false := by
 have he : ∀ b ∈ x, jB b = true := fun b hb => by
  obtain ⟨j, hj⟩ := List.getElem?_of_mem hb
  exact (h.gok.all j b hj).ends
 obtain ⟨_, h2⟩ := dd_none (fun l => l.length = 18 ∧ ∀ k, inW l (2 + k) = true → Lds x k) ⟨rfl, fun k hk => by unfold inW noW at hk; rw [mQ] at hk; cases hk⟩ x 0 (fun b hb y z hy hz => by
  have l1 := rP b (z := z) hy.1
  have l2 : ∀ k, inW (lvF b y z) (2 + k) = true → Lds x k := fun k => lv_lds x (he b hb) (hy.2 k) (hz.2 k)
  exact ⟨⟨l1, l2⟩, pq _ l1 _, fun k => yF x _ k (l2 k) hb b.f0 (fun c hc => hc)⟩)
 obtain ⟨l, hl, hf⟩ := h2 h.dead b hb
 exact ⟨l, hl.1, hl.2, hf⟩
structure vD (x : List S47) : Prop where
 reach : ∀ j, j < x.length → (fM x 0).getD j false = true
 test : ∀ b ∈ x, b.f1 = 3 → b.f3 ≠ b.f4
 bare : ∀ b ∈ x, b.f1 = 2 → b.f0 ≠ []
 alone : ∀ b ∈ x, b.f1 = 2 → jl x b.f3.toNat ≠ 1
 known : ∀ b ∈ x, b.f1 = 3 → ∀ i, b.f0.getLast? = some i → i.f0 = 0 → b.f2.f0 ∈ tX
 alu : ∀ b ∈ x, ∀ (j : Nat) (a c : S45), b.f0[j]? = some a → b.f0[j + 1]? = some c → a.f0 = 0 → ¬ (c.f0 ∈ eQ ∨ c.f0 = 132)
 load : ∀ b ∈ x, ∀ (j : Nat) (a c : S45), b.f0[j]? = some a → b.f0[j + 1]? = some c → (a.f0 = 0 ∨ a.f0 = 96 ∨ a.f0 = 128) → c.f0 ∉ ([0, 32, 40, 48, 64, 72, 80, 96, 128] : List Int)
 store : ∀ b ∈ x, ∀ i ∈ b.f0, (i.f0 = 2 ∨ i.f0 = 3) → Lds x i.f3.toNat
theorem Done.gone {x : List S47} (h : Done x) : vD x := by
 have at_ : ∀ b ∈ x, ∃ j : Nat, x[j]? = some b := fun b hb => List.getElem?_of_mem hb
 refine ⟨h.come, ?_, ?_, ?_, ?_, ?_, ?_, ?_⟩
 · intro b hb h3
   obtain ⟨j, hj⟩ := at_ b hb
   exact ((h.on hj).2 h3).2
 · intro b hb h2 he
   obtain ⟨j, hj⟩ := at_ b hb
   exact h.nobare hj (iM.2 ⟨h2, he⟩)
 · intro b hb h2
   obtain ⟨j, hj⟩ := at_ b hb
   exact xe h.gok h.join j b hj h2
 · intro b hb h3 i hi h0
   obtain ⟨j, hj⟩ := at_ b hb
   obtain ⟨s, hs, hf⟩ := h.folded hj
   unfold dF at hf
   rw [Bool.or_eq_false_iff] at hf
   exact en_none (b := ⟨(bU s b.f0).1, b.f1, b.f2, b.f3, b.f4⟩) hf.2 h3 (BN b.f0 s hs.len hf.1 i hi h0)
 · intro b hb j a c ha hc h0
   obtain ⟨j2, hj⟩ := at_ b hb
   obtain ⟨s, hs, hf⟩ := h.folded hj
   unfold dF at hf
   rw [Bool.or_eq_false_iff] at hf
   exact BO b.f0 s hs.len hf.1 j a c ha hc h0
 · intro b hb j a c ha hc h0
   obtain ⟨j2, hj⟩ := at_ b hb
   have hok := h.gok.all j2 b hj
   obtain ⟨l, h1, h2, h3⟩ := h.sS hb
   exact bk_pair l h1 b.f0 hok.code hok.rg h3 j a c ha hc h0
 intro b hb i hi h0
 obtain ⟨l, h1, h2, h3⟩ := h.sS hb
 exact yH x l h2 hb b.f0 (fun c hc => hc) h3 i hi h0
end Go.Proofs.Ytdkalnkplgfgoaa.Ln
