/- Lemmas and walks for the statements of the texts ZGZ..: the declarations that they need, taken together by a program of this session. Conditions: as each says. -/
import Derived.Test.YtdkalnkplgfgoaaZGb
import Derived.Test.YtdkalnkplgfgoaaZGc
set_option maxHeartbeats 4000000
set_option maxRecDepth 100000
set_option linter.unusedVariables false
set_option linter.unusedSimpArgs false
namespace Go.Proofs.Ytdkalnkplgfgoaa.Ln
open Go.RowKit Go.Maps Go.Proofs.YtdkalnkplgfgoaaW.PrintWords Go.Proofs.YtdkalnkplgfgoaaW.PrintLast Go.Proofs.YtdkalnkplgfgoaaW.PrintMore Go.Proofs.Ytdkalnkplgfgoaa.PA
def Rg (v : Int) : Prop := 0 ≤ v ∧ v < 4294967296
structure MB (M : cK) : Prop where
 a : Rg M.a
 x : Rg M.x
 m : ∀ j, Rg (M.m.getD j 0)
 len : M.m.length = 16
theorem Rg.z : Rg 0 := ⟨Int.le_refl 0, by decide⟩
theorem kI (n : Int) : Rg (IntKind.u32.wrap n) := by rw [IntKind.wrap_u32]; unfold Rg; omega
theorem oV (op : BinOp) (x y : Int) : Rg (bits op .u32 x y) := kI _
theorem tQ {v : Int} (h : Rg v) : IntKind.u32.wrap v = v := by rw [IntKind.wrap_u32]; unfold Rg at h; omega
theorem get_rg (p : List Int) (a s : Int) : ∀ (k : Nat) (x i : Int) (r : Int × Bool), Rg x → bW.l0 k p a s x i = some r → Rg r.1 := by
 intro k
 induction k with
 | zero => intro x i r _ h; simp [bW.l0] at h
 | succ k ih =>
  intro x i r hx h
  unfold bW.l0 at h
  split at h
  · split at h
    · split at h
      · exact ih _ _ r (oV _ _ _) h
      cases h
    cases h
  obtain rfl := Option.some.inj h; exact hx
theorem getf_rg (p : List Int) (a s : Int) (r : Int × Bool) (h : bW.f 10 p a s = some r) : Rg r.1 := by
 have hj : ∀ b r, bW.j0 (9 + 1) p a s b = some r → Rg r.1 := by
  intro b r h
  simp only [bW.j0] at h
  split at h
  · obtain rfl := Option.some.inj h; exact Rg.z
  exact get_rg p a s 9 0 0 r Rg.z h
 have hb : ∀ (q : Option Bool) r, (q.bind fun t => bW.j0 10 p a s (!t)) = some r → Rg r.1 := by
  intro q r h
  obtain ⟨t, _, h⟩ := Option.bind_eq_some_iff.1 h
  exact hj _ _ h
 unfold bW.f at h
 split at h
 · exact hb _ _ h
 split at h
 · exact hb _ _ h
 split at h
 · exact hb _ _ h
 exact hj _ _ h
theorem Bg (p : List Int) (a s : Int) : Rg (rdP p a s).1 := by
 unfold rdP
 cases h : jD.f 10 p a s with
 | none => exact Rg.z
 | some r =>
  unfold jD.f at h
  split at h
  · obtain rfl := Option.some.inj h; exact Rg.z
  obtain ⟨t, ht, h⟩ := Option.bind_eq_some_iff.1 h
  split at h
  · obtain rfl := Option.some.inj h; exact getf_rg _ _ _ _ ht
  obtain rfl := Option.some.inj h; exact Rg.z
theorem BH (a b : Int) (l : Bool) (r : Int) (ha : Rg a) (h : dR.f a b l = some r) : Rg r := by
 unfold dR.f at h
 split at h
 · obtain rfl := Option.some.inj h; exact Rg.z
 split at h
 · split at h
   · obtain rfl := Option.some.inj h; exact kI _
   cases h
 split at h
 · obtain rfl := Option.some.inj h
   have h2 : (0 : Int) < 2 ^ min b.toNat (IntKind.u32.bits) := Int.pow_pos (by decide)
   refine ⟨Int.ediv_nonneg ha.1 (by omega), ?_⟩
   show a / _ < _
   have : a / 2 ^ min b.toNat (IntKind.u32.bits) ≤ a := Int.ediv_le_self _ ha.1
   have := ha.2
   omega
 cases h
theorem su (n : Int) : Rg (n % 4294967296) := by unfold Rg; omega
theorem AQ (c a b : Int) (ha : Rg a) (hb : Rg b) : Rg (opP c a b).1 := by
 unfold opP
 cases h : gU.f c a b with
 | none => exact Rg.z
 | some r =>
  show Rg r.1
  unfold gU.f at h
  have one : ∀ x : Int × Int, some x = some r → Rg x.1 → Rg r.1 := fun x e hx => by rw [← Option.some.inj e]; exact hx
  have sh : ∀ l, (dR.f a b l).bind (fun t => some (t, (0 : Int))) = some r → Rg r.1 := by
   intro l h
   obtain ⟨t, ht, h⟩ := Option.bind_eq_some_iff.1 h
   exact one _ h (BH a b l t ha ht)
  split at h
  · exact one _ h (su _)
  split at h
  · exact one _ h (su _)
  split at h
  · exact one _ h (su _)
  split at h
  · exact one _ h (show Rg (bits .or .u32 a b) from oV .or a b)
  split at h
  · exact one _ h (show Rg (bits .and .u32 a b) from oV .and a b)
  split at h
  · exact one _ h (show Rg (bits .xor .u32 a b) from oV .xor a b)
  split at h
  · exact sh _ h
  split at h
  · exact sh _ h
  split at h
  · exact one _ h Rg.z
  split at h
  · exact one _ h (su _)
  refine one _ h ⟨Int.tmod_nonneg _ ha.1, ?_⟩
  have h1 := ha.1
  have h2 := ha.2
  show Int.tmod a b < _
  rw [Int.tmod_eq_emod_of_nonneg h1]
  rcases Int.lt_or_eq_of_le hb.1 with hp | hp
  · have := Int.emod_lt_of_pos a hp
    have := hb.2
    omega
  rw [← hp, Int.emod_zero]; exact h2
theorem BG (l : List Int) (h : ∀ j, Rg (l.getD j 0)) (n : Nat) (v : Int) (hv : Rg v) : ∀ j, Rg ((l.set n v).getD j 0) := by
 intro j
 have := h j
 rw [List.getD_eq_getElem?_getD] at this ⊢
 rw [List.getElem?_set]
 split
 · split
   · exact hv
   exact Rg.z
 exact this
theorem ll (i : S45) (pk : List Int) (M : cK) (h : MB M) (hk : Rg i.f3) : MB (dh i pk M).1 := by
 have hl := xK i pk M
 have H : (fun s : cK × Int => Rg s.1.a ∧ Rg s.1.x ∧ ∀ j, Rg (s.1.m.getD j 0)) (dh i pk M) := by
  obtain ⟨ha, hx, hm, _⟩ := h
  unfold dh
  dsimp only
  refine iq (P := fun s : cK × Int => Rg s.1.a ∧ Rg s.1.x ∧ ∀ j, Rg (s.1.m.getD j 0)) (fun _ => ⟨hk, hx, hm⟩) (fun _ => ?_)
  refine iq (P := fun s : cK × Int => Rg s.1.a ∧ Rg s.1.x ∧ ∀ j, Rg (s.1.m.getD j 0)) (fun _ => ⟨Bg _ _ _, hx, hm⟩) (fun _ => ?_)
  refine iq (P := fun s : cK × Int => Rg s.1.a ∧ Rg s.1.x ∧ ∀ j, Rg (s.1.m.getD j 0)) (fun _ => ⟨Bg _ _ _, hx, hm⟩) (fun _ => ?_)
  refine iq (P := fun s : cK × Int => Rg s.1.a ∧ Rg s.1.x ∧ ∀ j, Rg (s.1.m.getD j 0)) (fun _ => ⟨hm _, hx, hm⟩) (fun _ => ?_)
  refine iq (P := fun s : cK × Int => Rg s.1.a ∧ Rg s.1.x ∧ ∀ j, Rg (s.1.m.getD j 0)) (fun _ => ⟨kI _, hx, hm⟩) (fun _ => ?_)
  refine iq (P := fun s : cK × Int => Rg s.1.a ∧ Rg s.1.x ∧ ∀ j, Rg (s.1.m.getD j 0)) (fun _ => ⟨ha, hk, hm⟩) (fun _ => ?_)
  refine iq (P := fun s : cK × Int => Rg s.1.a ∧ Rg s.1.x ∧ ∀ j, Rg (s.1.m.getD j 0)) (fun _ => ⟨ha, hm _, hm⟩) (fun _ => ?_)
  refine iq (P := fun s : cK × Int => Rg s.1.a ∧ Rg s.1.x ∧ ∀ j, Rg (s.1.m.getD j 0)) (fun _ => ⟨ha, kI _, hm⟩) (fun _ => ?_)
  refine iq (P := fun s : cK × Int => Rg s.1.a ∧ Rg s.1.x ∧ ∀ j, Rg (s.1.m.getD j 0)) (fun _ => ⟨ha, kI _, hm⟩) (fun _ => ?_)
  refine iq (P := fun s : cK × Int => Rg s.1.a ∧ Rg s.1.x ∧ ∀ j, Rg (s.1.m.getD j 0)) (fun _ => ⟨ha, hx, BG _ hm _ _ ha⟩) (fun _ => ?_)
  refine iq (P := fun s : cK × Int => Rg s.1.a ∧ Rg s.1.x ∧ ∀ j, Rg (s.1.m.getD j 0)) (fun _ => ⟨ha, hx, BG _ hm _ _ hx⟩) (fun _ => ?_)
  refine iq (P := fun s : cK × Int => Rg s.1.a ∧ Rg s.1.x ∧ ∀ j, Rg (s.1.m.getD j 0)) (fun _ => ⟨kI _, hx, hm⟩) (fun _ => ?_)
  refine iq (P := fun s : cK × Int => Rg s.1.a ∧ Rg s.1.x ∧ ∀ j, Rg (s.1.m.getD j 0)) (fun _ => ⟨ha, ha, hm⟩) (fun _ => ?_)
  refine iq (P := fun s : cK × Int => Rg s.1.a ∧ Rg s.1.x ∧ ∀ j, Rg (s.1.m.getD j 0)) (fun _ => ⟨hx, hx, hm⟩) (fun _ => ?_)
  exact ⟨AQ _ _ _ ha (by split <;> assumption), hx, hm⟩
 exact ⟨H.1, H.2.1, H.2.2, hl.trans h.len⟩
theorem MB_z : MB z16 := ⟨Rg.z, Rg.z, fun j => by
 have : ∀ n : Nat, (List.replicate n (0 : Int)).getD j 0 = 0 := fun n => by
  rw [List.getD_eq_getElem?_getD, List.getElem?_replicate]; split <;> rfl
 show Rg ((List.replicate 16 (0 : Int)).getD j 0)
 rw [this]; exact Rg.z, rfl⟩
def knL : List Int := [0, 32, 40, 48, 64, 72, 80, 96, 128, 1, 97, 129, 177, 2, 3, 132, 6, 22, 7, 135, 5, 21, 29, 37, 45, 53, 61, 69, 77, 4, 12, 20, 28, 36, 44, 52, 60, 68, 76, 84, 92, 100, 108, 116, 124, 148, 156, 164, 172]
def kn (c : Int) : Bool := decide (c ∈ knL)
def jmB (c : Int) : Bool := decide (c ∈ ([21, 29, 37, 45, 53, 61, 69, 77] : List Int))
def reB (c : Int) : Bool := decide (c = 6 ∨ c = 22)
def usK (c : Int) : Bool := kn c && !decide (c ∈ ([128, 129, 132, 22, 7, 135, 12, 28, 44, 60, 76, 92, 108, 124, 156, 172, 29, 45, 61, 77] : List Int))
def aN (c : Int) : Int := if kn c then wrap64 (Go.bits .and .u16 c 7) else -1
def stB (c K : Int) : Bool := kn c && !jmB c && !reB c && !decide (c = 5) && (!decide (c = 2 ∨ c = 3 ∨ c = 96 ∨ c = 97) || decide (K < 16)) && (!decide (c = 52 ∨ c = 148) || decide (K ≠ 0)) && (!decide (c = 100 ∨ c = 116) || decide (K ≤ 31))
theorem zW {c : Int} {P : Int → Prop} (h : kn c = true) (H : ∀ x ∈ knL, P x) : P c := H c (of_decide_eq_true h)
theorem kn_no {c : Int} (h : kn c = false) : ∀ x ∈ knL, c ≠ x := fun x hx e => by
 have := of_decide_eq_false h
 exact this (e ▸ hx)
theorem mG {c : Int} (h : kn c = false) (k : Nat) : aH.f (k + 8) c = some false ∧ ay.f (k + 8) c = some false ∧ bV.f (k + 8) c = some false ∧ aY.f (k + 8) c = some false ∧ bf.f c = some false ∧ az.f (k + 8) c = some false ∧ dA.f c = some false := by
 have H := kn_no h
 simp only [knL, List.forall_mem_cons] at H
 obtain ⟨h0, h1, h2, h3, h4, h5, h6, h7, h8, h9, h10, h11, h12, h13, h14, h15, h16, h17, h18, h19, h20, h21, h22, h23, h24, h25, h26, h27, h28, h29, h30, h31, h32, h33, h34, h35, h36, h37, h38, h39, h40, h41, h42, h43, h44, h45, h46, h47, h48, -⟩ := H
 refine ⟨?_, ?_, ?_, ?_, ?_, ?_, ?_⟩
 · simp [aH.f, aH.j0, aH.j1, aH.j2, aY.f, aY.j0, aY.j1, bV.f, bV.j0, *]
 · simp [ay.f, ay.j0, ay.j1, bf.f, az.f, az.j0, *]
 · simp [bV.f, bV.j0, *]
 · simp [aY.f, aY.j0, aY.j1, *]
 · simp [bf.f, *]
 · simp [az.f, az.j0, *]
 simp [dA.f, *]
theorem lG (k : Nat) : ∀ c ∈ knL, aH.f (k + 8) c = some true ∧ ay.f (k + 8) c = some true ∧ bV.f (k + 8) c = some (jmB c) ∧ bf.f c = some (jmB c) ∧ dA.f c = some (reB c) ∧ (∃ u2 u3, fe.f (k + 8) c = some (usK c, u2, u3)) ∧ (∃ u2 u3, bB.f (k + 8) c = some (usK c, u2, u3)) := by
 simp only [knL, List.forall_mem_cons]
 refine ⟨?_, ?_, ?_, ?_, ?_, ?_, ?_, ?_, ?_, ?_, ?_, ?_, ?_, ?_, ?_, ?_, ?_, ?_, ?_, ?_, ?_, ?_, ?_, ?_, ?_, ?_, ?_, ?_, ?_, ?_, ?_, ?_, ?_, ?_, ?_, ?_, ?_, ?_, ?_, ?_, ?_, ?_, ?_, ?_, ?_, ?_, ?_, ?_, ?_, by simp⟩
 all_goals exact ⟨rfl, rfl, rfl, rfl, rfl, ⟨_, _, rfl⟩, ⟨_, _, rfl⟩⟩
theorem lD (c : Int) (k : Nat) : aH.f (k + 8) c = some (kn c) ∧ ay.f (k + 8) c = some (kn c) := by
 cases h : kn c
 · exact ⟨(mG h k).1, (mG h k).2.1⟩
 have := lG k c (of_decide_eq_true h)
 exact ⟨this.1, this.2.1⟩
theorem sZ {c : Int} (h : kn c = false) : jmB c = false ∧ reB c = false ∧ usK c = false := by
 refine ⟨?_, ?_, by unfold usK; rw [h]; rfl⟩
 · unfold jmB
   refine decide_eq_false fun hc => ?_
   simp only [List.mem_cons, List.not_mem_nil, or_false] at hc
   rcases hc with rfl | rfl | rfl | rfl | rfl | rfl | rfl | rfl <;> exact absurd h (by decide)
 unfold reB
 refine decide_eq_false fun hc => ?_
 rcases hc with rfl | rfl <;> exact absurd h (by decide)
theorem jump_f (c : Int) : bf.f c = some (jmB c) := by
 cases h : kn c
 · rw [(sZ h).1]; exact (mG h 0).2.2.2.2.1
 exact (lG 0 c (of_decide_eq_true h)).2.2.2.1
theorem Bv (c : Int) : dA.f c = some (reB c) := by
 cases h : kn c
 · rw [(sZ h).2.1]; exact (mG h 0).2.2.2.2.2.2
 exact (lG 0 c (of_decide_eq_true h)).2.2.2.2.1
theorem gT (c : Int) (k : Nat) : aD.f (k + 8) c = some (aN c) ∧ bQ.f (k + 8) c = some (aN c) := by
 unfold aD.f bQ.f
 rw [(lD c k).1, (lD c k).2]
 unfold aN
 rw [Option.bind_some]
 constructor <;> split <;> rfl
theorem vv (c : Int) (k : Nat) : (∃ u2 u3, fe.f (k + 8) c = some (usK c, u2, u3)) ∧ (∃ u2 u3, bB.f (k + 8) c = some (usK c, u2, u3)) := by
 cases h : kn c
 · rw [(sZ h).2.2]
   unfold fe.f bB.f
   rw [(lD c k).1, (lD c k).2, h]
   exact ⟨⟨_, _, rfl⟩, ⟨_, _, rfl⟩⟩
 exact (lG k c (of_decide_eq_true h)).2.2.2.2.2
theorem mi : ∀ c ∈ knL, aN c ≠ -1 ∧ ¬ aN c < 0 ∧ (aN c = 5 ↔ c = 5 ∨ jmB c = true) ∧ (aN c = 6 ↔ reB c = true) := by
 decide +kernel
theorem rD {c : Int} (h : kn c = false) : aN c = -1 := by unfold aN; rw [h]; rfl
theorem oJ (c : Int) : aN c = 6 ↔ reB c = true := by
 cases h : kn c
 · rw [rD h, (sZ h).2.1]; decide
 exact (mi c (of_decide_eq_true h)).2.2.2
theorem mh (c : Int) : aN c = 5 ↔ c = 5 ∨ jmB c = true := by
 cases h : kn c
 · rw [rD h, (sZ h).1]
   have := kn_no h 5 (by decide)
   constructor
   · intro h; exact absurd h (by decide)
   rintro (h | h)
   · exact absurd h this
   exact absurd h (by decide)
 exact (mi c (of_decide_eq_true h)).2.2.1
def flF (c K : Int) : Int := if kn c then (if (c = 2 ∨ c = 3 ∨ c = 96 ∨ c = 97) ∧ K ≥ 16 then 43 else if (c = 52 ∨ c = 148) ∧ K = 0 then 44 else if (c = 100 ∨ c = 116) ∧ K > 31 then 45 else 0) else 42
theorem fault_f (c jt jf K : Int) (k : Nat) : aI.f (k + 8) c jt jf K = some (flF c K) := by
 unfold aI.f
 rw [(lD c k).2]
 unfold flF
 cases h : kn c
 · rfl
 simp only [Option.bind_some, if_true]
 by_cases a : c = 2 ∨ c = 3 ∨ c = 96 ∨ c = 97
 · rcases a with rfl | rfl | rfl | rfl <;> by_cases b : K ≥ 16 <;> simp [aI.j0, aI.j1, b] <;> omega
 have a1 : c ≠ 2 := fun e => a (.inl e)
 have a2 : c ≠ 3 := fun e => a (.inr (.inl e))
 have a3 : c ≠ 96 := fun e => a (.inr (.inr (.inl e)))
 have a4 : c ≠ 97 := fun e => a (.inr (.inr (.inr e)))
 by_cases b : c = 52 ∨ c = 148
 · rcases b with rfl | rfl <;> by_cases d : K = 0 <;> simp [aI.j0, aI.j1, d]
 have b1 : c ≠ 52 := fun e => b (.inl e)
 have b2 : c ≠ 148 := fun e => b (.inr e)
 by_cases d : c = 100 ∨ c = 116
 · rcases d with rfl | rfl <;> by_cases e : K > 31 <;> simp [aI.j0, aI.j1, e] <;> omega
 have d1 : c ≠ 100 := fun e => d (.inl e)
 have d2 : c ≠ 116 := fun e => d (.inr e)
 simp [aI.j0, aI.j1, a1, a2, a3, a4, b1, b2, d1, d2]
theorem mW (c K : Int) : stB c K = (!decide (aN c < 0) && !decide (aN c = 5) && !decide (aN c = 6) && decide (flF c K = 0)) := by
 cases h : kn c
 · rw [rD h]; unfold stB; rw [h]; rfl
 have h1 := (mi c (of_decide_eq_true h)).2.1
 have e5 : decide (aN c = 5) = (decide (c = 5) || jmB c) := by
  rw [Bool.eq_iff_iff]; simp only [decide_eq_true_eq, Bool.or_eq_true]; exact mh c
 have e6 : decide (aN c = 6) = reB c := by
  rw [Bool.eq_iff_iff]; simp only [decide_eq_true_eq]; exact oJ c
 rw [e5, e6, decide_eq_false h1]
 unfold stB flF
 rw [h]
 by_cases a : c = 2 ∨ c = 3 ∨ c = 96 ∨ c = 97 <;> by_cases a1 : c = 52 ∨ c = 148 <;> by_cases a2 : c = 100 ∨ c = 116 <;> by_cases b1 : K ≥ 16 <;> by_cases b2 : K = 0 <;> by_cases b3 : K > 31 <;> simp [a, a1, a2, b1, b2, b3] <;> first | omega | (cases jmB c <;> cases reB c <;> cases decide (c = 5) <;> simp <;> omega)
theorem uZ (c jt jf K : Int) (k : Nat) : aU.f (k + 8) c jt jf K = some (stB c K) := by
 unfold aU.f
 rw [(gT c k).1]
 simp only [Option.bind_some]
 cases h : kn c
 · rw [rD h, if_pos rfl]; unfold stB; rw [h]; rfl
 have h1 := (mi c (of_decide_eq_true h)).1
 rw [if_neg h1]
 by_cases h5 : aN c = 5
 · rw [if_pos h5, mW, h5]; simp
 rw [if_neg h5]
 by_cases h6 : aN c = 6
 · rw [if_pos h6, mW, h6]; simp
 rw [if_neg h6]
 have h0 := (mi c (of_decide_eq_true h)).2.1
 have es : stB c K = decide (flF c K = 0) := by rw [mW]; simp [h0, h5, h6]
 rw [es]
 unfold flF
 rw [h]
 by_cases a : c = 2 ∨ c = 3 ∨ c = 96 ∨ c = 97
 · rcases a with rfl | rfl | rfl | rfl <;> by_cases b : K ≥ 16 <;> simp [aU.j0, aU.j1, b] <;> omega
 have a1 : c ≠ 2 := fun e => a (.inl e)
 have a2 : c ≠ 3 := fun e => a (.inr (.inl e))
 have a3 : c ≠ 96 := fun e => a (.inr (.inr (.inl e)))
 have a4 : c ≠ 97 := fun e => a (.inr (.inr (.inr e)))
 by_cases b : c = 52 ∨ c = 148
 · rcases b with rfl | rfl <;> by_cases d : K = 0 <;> simp [aU.j0, aU.j1, d]
 have b1 : c ≠ 52 := fun e => b (.inl e)
 have b2 : c ≠ 148 := fun e => b (.inr e)
 by_cases d : c = 100 ∨ c = 116
 · rcases d with rfl | rfl <;> by_cases e : K > 31 <;> simp [aU.j0, aU.j1, e] <;> omega
 have d1 : c ≠ 100 := fun e => d (.inl e)
 have d2 : c ≠ 116 := fun e => d (.inr e)
 simp [aU.j0, aU.j1, a1, a2, a3, a4, b1, b2, d1, d2]
theorem stB_not {c K : Int} (h : stB c K = true) : c ≠ 6 ∧ c ≠ 22 ∧ c ≠ 5 ∧ jmB c = false ∧ flF c K = 0 := by
 have h2 := h
 rw [mW] at h2
 simp only [Bool.and_eq_true, Bool.not_eq_true', decide_eq_false_iff_not, decide_eq_true_eq] at h2
 have e6 := mt (oJ c).2 h2.1.2
 have e5 := mt (mh c).2 h2.1.1.2
 unfold reB at e6
 simp only [decide_eq_true_eq, not_or] at e6 e5
 refine ⟨e6.1, e6.2, e5.1, by simpa using e5.2, h2.2⟩
theorem w64 {n : Int} (h0 : -9223372036854775808 ≤ n) (h1 : n < 9223372036854775808) : wrap64 n = n := by
 unfold wrap64; omega
def fE (c : List S45) : Bool := c.all (fun i => stB i.f0 i.f3)
def lT (i : S45) : Bool := decide (i.f1 = 0) && decide (i.f2 = 0) && (usK i.f0 || decide (i.f3 = 0))
def jB (b : S47) : Bool :=
 if b.f1 = 1 then reB b.f2.f0 && lT b.f2 && decide (b.f3 = 0) && decide (b.f4 = 0)
 else if b.f1 = 2 then decide (b.f2.f0 = 0 ∧ b.f2.f1 = 0 ∧ b.f2.f2 = 0 ∧ b.f2.f3 = 0) && decide (b.f4 = 0)
 else if b.f1 = 3 then jmB b.f2.f0 && lT b.f2 else false
def ig (b : S47) (at_ n : Int) : Bool := (decide (b.f1 = 1) || decide (at_ < b.f3 ∧ b.f3 < n)) && (!decide (b.f1 = 3) || decide (at_ < b.f4 ∧ b.f4 < n))
def tkL (n : Int) : List S47 → Int → Int → Bool
 | [], _, _ => true
 | b :: r, i, left => decide ((b.f0.length : Int) ≤ left) && fE b.f0 && jB b && ig b i n && tkL n r (i + 1) (left - b.f0.length)
def TkB (g : List S47) : Bool := decide (0 < g.length) && decide (g.length ≤ 4096) && tkL g.length g 0 4096
def msL : List S47 → Int
 | [] => 0
 | b :: r => (b.f0.length : Int) + 1 + (if b.f1 = 3 then 2 else 0) + msL r
def Fit (g : List S47) : Prop := ∀ b ∈ g, (b.f0.length : Int) ≤ 140737488351232
theorem nL {c : List S45} {j : Nat} (h : j < c.length) : aM c (j : Int) = c[j] := by
 unfold aM
 rw [Int.toNat_natCast, List.getD_eq_getElem?_getD, List.getElem?_eq_getElem h]
 rfl
theorem iN {g : List S47} {j : Nat} (h : j < g.length) : af g (j : Int) = g[j] := by
 unfold af
 rw [Int.toNat_natCast, List.getD_eq_getElem?_getD, List.getElem?_eq_getElem h]
 rfl
theorem code_l (c : List S45) (hl : (c.length : Int) ≤ 140737488351232) : ∀ (d j : Nat), c.length - j = d → j ≤ c.length → ∀ k, d + 9 ≤ k → bI.l0 k c (j : Int) = some ((c.drop j).all (fun i => stB i.f0 i.f3)) := by
 intro d
 induction d with
 | zero =>
  intro j hd hj k hk
  obtain ⟨k, rfl⟩ : ∃ m, k = m + 1 := ⟨k - 1, by omega⟩
  have : j = c.length := by omega
  subst this
  rw [bI.l0]
  rw [if_neg (by omega), List.drop_length]
  rfl
 | succ d ih =>
  intro j hd hj k hk
  obtain ⟨k, rfl⟩ : ∃ m, k = m + 9 := ⟨k - 9, by omega⟩
  have hlt : j < c.length := by omega
  show bI.l0 (k + 8 + 1) _ _ = _
  rw [bI.l0]
  rw [if_pos (by omega), if_pos (by omega), nL hlt, (gT _ k).2, fault_f, List.drop_eq_getElem_cons hlt, List.all_cons, mW, w64 (n := (j : Int) + 1) (by omega) (by omega)]
  have := ih (j + 1) (by omega) (by omega) (k + 8) (by omega)
  rw [show ((j + 1 : Nat) : Int) = (j : Int) + 1 by omega] at this
  rw [this]
  simp only [Option.bind_some]
  by_cases a : aN (c[j]).f0 < 0
  · rw [if_pos a]; simp [a]
  rw [if_neg a]
  by_cases a5 : aN (c[j]).f0 = 5
  · rw [if_pos a5]; simp [a5]
  rw [if_neg a5]
  by_cases a6 : aN (c[j]).f0 = 6
  · rw [if_pos a6]; simp [a6]
  rw [if_neg a6]
  by_cases f : flF (c[j]).f0 (c[j]).f3 = 0
  · rw [if_pos f]; simp [a, a5, a6, f]
  rw [if_neg f]; simp [f]
theorem code_f (c : List S45) (hl : (c.length : Int) ≤ 140737488351232) (k : Nat) (hk : c.length + 9 ≤ k) : bI.f k c = some (fE c) := by
 have := code_l c hl c.length 0 rfl (by omega) k hk
 unfold bI.f
 rw [show ((0 : Nat) : Int) = 0 from rfl] at this
 rw [this]
 rfl
theorem end_f (b : S47) (k : Nat) : bq.f (k + 8) b.f0 b.f1 b.f2.f0 b.f2.f1 b.f2.f2 b.f2.f3 b.f3 b.f4 = some (jB b) := by
 have hu : lT b.f2 = (decide (b.f2.f1 = 0) && decide (b.f2.f2 = 0) && (usK b.f2.f0 || decide (b.f2.f3 = 0))) := rfl
 obtain ⟨u2, u3, e⟩ := (vv b.f2.f0 k).2
 have hj : ∀ x, bq.j0 (k + 8) x b.f0 b.f1 b.f2.f0 b.f2.f1 b.f2.f2 b.f2.f3 b.f3 b.f4 = some (!x && (if b.f1 = 1 then reB b.f2.f0 && decide (b.f3 = 0) && decide (b.f4 = 0)
  else if b.f1 = 2 then decide (b.f2.f0 = 0 ∧ b.f2.f1 = 0 ∧ b.f2.f2 = 0 ∧ b.f2.f3 = 0) && decide (b.f4 = 0) else if b.f1 = 3 then jmB b.f2.f0 else false)) := by
  intro x
  show bq.j0 (k + 7 + 1) x _ _ _ _ _ _ _ _ = _
  rw [bq.j0]; simp only [Bv, jump_f, Option.bind_some]
  cases x
  · rw [if_neg (by decide)]
    by_cases e1 : b.f1 = 1
    · rw [if_pos e1, if_pos e1]
      cases reB b.f2.f0 <;> simp
      by_cases e3 : b.f3 = 0 <;> simp [e3]
      exact rfl
    rw [if_neg e1, if_neg e1]
    by_cases e2 : b.f1 = 2
    · rw [if_pos e2, if_pos e2]
      by_cases q : b.f2.f0 = 0 ∧ b.f2.f1 = 0 ∧ b.f2.f2 = 0 ∧ b.f2.f3 = 0
      · rw [if_pos (by simp [q])]; simp [q]; exact rfl
      rw [if_neg (by simpa using q)]; rw [decide_eq_false q]; rfl
    rw [if_neg e2, if_neg e2]
    by_cases e3 : b.f1 = 3
    · rw [if_pos e3, if_pos e3]; rfl
    rw [if_neg e3, if_neg e3]; rfl
  rw [if_pos rfl]; rfl
 unfold bq.f
 rw [e]
 simp only [Option.bind_some, hj]
 have hz : usK 0 = true := rfl
 unfold jB
 rw [hu]
 by_cases q1 : b.f2.f1 = 0 <;> by_cases q2 : b.f2.f2 = 0 <;> by_cases q3 : b.f2.f3 = 0 <;> cases u : usK b.f2.f0 <;> by_cases e1 : b.f1 = 1 <;> by_cases e2 : b.f1 = 2 <;> by_cases e3 : b.f1 = 3 <;> simp [q1, q2, q3, e1, e2, e3] <;> (try (intro h0; rw [h0] at u; exact absurd u (by decide)))
theorem goals_f (b : S47) (i n : Int) : eu.f b.f0 b.f1 b.f2.f0 b.f2.f1 b.f2.f2 b.f2.f3 b.f3 b.f4 i n = some (ig b i n) := by
 unfold eu.f ig
 by_cases e1 : b.f1 = 1
 · rw [if_pos e1, if_neg (by omega)]; simp [e1]
 rw [if_neg e1]
 by_cases a : b.f3 ≤ i
 · rw [if_pos a, decide_eq_false (by omega : ¬ (i < b.f3 ∧ b.f3 < n))]; simp [e1]
 rw [if_neg a]
 by_cases a2 : b.f3 ≥ n
 · rw [if_pos a2, decide_eq_false (by omega : ¬ (i < b.f3 ∧ b.f3 < n))]; simp [e1]
 rw [if_neg a2, decide_eq_true (by omega : i < b.f3 ∧ b.f3 < n)]
 by_cases e3 : b.f1 = 3
 · rw [if_pos e3]
   by_cases c : b.f4 > i
   · rw [if_pos c]; simp [e3, c]
   rw [if_neg c, decide_eq_false (by omega : ¬ (i < b.f4 ∧ b.f4 < n))]; simp [e3]
 rw [if_neg e3]; simp [e3]
theorem rck_l (g : List S47) (hg : g.length ≤ 4096) (hF : Fit g) : ∀ (d j : Nat), g.length - j = d → j ≤ g.length → ∀ left : Int, 0 ≤ left → left ≤ 4096 → ∀ k, d + 5000 ≤ k →
 ∃ r : Int × Int, bS.l0 k g left (j : Int) = some r ∧ (r.2 = 0 ↔ tkL g.length (g.drop j) (j : Int) left = true) := by
 intro d
 induction d with
 | zero =>
  intro j hd hj left h0 h1 k hk
  obtain ⟨k, rfl⟩ : ∃ m, k = m + 1 := ⟨k - 1, by omega⟩
  rw [bS.l0, if_neg (by omega), List.drop_of_length_le (by omega)]
  exact ⟨_, rfl, by simp [tkL]⟩
 | succ d ih =>
  intro j hd hj left h0 h1 k hk
  obtain ⟨k, rfl⟩ : ∃ m, k = m + 9 := ⟨k - 9, by omega⟩
  have hlt : j < g.length := by omega
  have hf := hF (g[j]) (List.getElem_mem hlt)
  rw [bS.l0, if_pos (by omega), if_pos (by omega), iN hlt, List.drop_eq_getElem_cons hlt, tkL]
  by_cases a : ((g[j]).f0.length : Int) > left
  · rw [if_pos a, decide_eq_false (by omega : ¬ ((g[j]).f0.length : Int) ≤ left)]
    exact ⟨_, rfl, by simp⟩
  rw [if_neg a, decide_eq_true (by omega : ((g[j]).f0.length : Int) ≤ left), code_f _ hf (k + 8) (by omega), Option.bind_some]
  cases hc : fE (g[j]).f0
  · rw [if_neg (by decide)]; exact ⟨_, rfl, by simp⟩
  rw [if_pos rfl, end_f, Option.bind_some]
  cases he : jB (g[j])
  · rw [if_neg (by decide)]; exact ⟨_, rfl, by simp⟩
  rw [if_pos rfl, goals_f, Option.bind_some]
  cases hgo : ig (g[j]) (j : Int) (g.length : Int)
  · rw [if_neg (by decide)]; exact ⟨_, rfl, by simp⟩
  rw [if_pos rfl, w64 (n := (j : Int) + 1) (by omega) (by omega), w64 (n := left - ((g[j]).f0.length : Int)) (by omega) (by omega)]
  obtain ⟨r, e, h⟩ := ih (j + 1) (by omega) (by omega) (left - ((g[j]).f0.length : Int)) (by omega) (by omega) (k + 8) (by omega)
  rw [show ((j + 1 : Nat) : Int) = (j : Int) + 1 by omega] at e h
  exact ⟨r, e, by simpa using h⟩
theorem uW (g : List S47) (hF : Fit g) (k : Nat) (hk : 10000 ≤ k) : dM.f k g = some (TkB g) := by
 unfold dM.f bS.f TkB
 by_cases a : (g.length : Int) = 0
 · rw [if_pos a, decide_eq_false (by omega : ¬ 0 < g.length)]; rfl
 rw [if_neg a, decide_eq_true (by omega : 0 < g.length)]
 by_cases b : (g.length : Int) > 4096
 · rw [if_pos b, decide_eq_false (by omega : ¬ g.length ≤ 4096)]; rfl
 rw [if_neg b, decide_eq_true (by omega : g.length ≤ 4096)]
 obtain ⟨r, e, h⟩ := rck_l g (by omega) hF g.length 0 rfl (by omega) 4096 (by omega) (by omega) k (by omega)
 rw [show ((0 : Nat) : Int) = 0 from rfl] at e h
 rw [e, Option.bind_some]
 congr 1
 rw [Bool.eq_iff_iff, beq_iff_eq, h]
 simp
theorem bare_f (i : S45) (k : Nat) : fu.f (k + 8) i.f0 i.f1 i.f2 i.f3 = some (lT i) := by
 obtain ⟨u2, u3, e⟩ := (vv i.f0 k).1
 unfold fu.f lT
 rw [e, Option.bind_some]
 by_cases q1 : i.f1 = 0 <;> by_cases q2 : i.f2 = 0 <;> cases u : usK i.f0 <;> by_cases q3 : i.f3 = 0 <;> simp [q1, q2, q3]
theorem ended_f (b : S47) (k : Nat) : iw.f (k + 8) b.f0 b.f1 b.f2.f0 b.f2.f1 b.f2.f2 b.f2.f3 b.f3 b.f4 = some (jB b) := by
 unfold iw.f jB
 rw [(gT _ k).1, bare_f]
 simp only [Option.bind_some]
 by_cases e1 : b.f1 = 1
 · rw [if_pos e1, if_pos e1]
   cases r : reB b.f2.f0
   · rw [if_neg (fun h => by have := (oJ _).1 h; rw [r] at this; cases this)]; rfl
   rw [if_pos ((oJ _).2 r)]
   cases lT b.f2
   · rfl
   rw [if_pos rfl]
   by_cases e3 : b.f3 = 0
   · rw [if_pos e3]; simp [e3]; exact rfl
   rw [if_neg e3]; simp [e3]
 rw [if_neg e1, if_neg e1]
 by_cases e2 : b.f1 = 2
 · rw [if_pos e2, if_pos e2]
   by_cases q : b.f2.f0 = 0 ∧ b.f2.f1 = 0 ∧ b.f2.f2 = 0 ∧ b.f2.f3 = 0
   · rw [if_pos (by simp [q]), decide_eq_true q]; simp; exact rfl
   rw [if_neg (by simpa using q), decide_eq_false q]; rfl
 rw [if_neg e2, if_neg e2]
 by_cases e3 : b.f1 = 3
 · rw [if_pos e3, if_pos e3]
   by_cases c5 : b.f2.f0 = 5
   · rw [if_pos ((mh _).2 (.inl c5)), if_pos c5, c5]; rfl
   cases j : jmB b.f2.f0
   · rw [if_neg (fun h => by rcases (mh _).1 h with h | h; exact c5 h; rw [j] at h; cases h)]; rfl
   rw [if_pos ((mh _).2 (.inr j)), if_neg c5]; rfl
 rw [if_neg e3, if_neg e3]
theorem zn (i n : Int) (gs : List Int) (hl : gs.length ≤ 4) : ∀ (d j : Nat), gs.length - j = d → j ≤ gs.length → ∀ k, d + 1 ≤ k → dn.l1 k i n gs (gs.length : Int) (j : Int) = some (if (gs.drop j).all (fun x => decide (i < x ∧ x < n)) then 0 else 154) := by
 intro d
 induction d with
 | zero =>
  intro j hd hj k hk
  obtain ⟨k, rfl⟩ : ∃ m, k = m + 1 := ⟨k - 1, by omega⟩
  rw [dn.l1, if_neg (by omega), List.drop_of_length_le (by omega)]
  rfl
 | succ d ih =>
  intro j hd hj k hk
  obtain ⟨k, rfl⟩ : ∃ m, k = m + 1 := ⟨k - 1, by omega⟩
  have hlt : j < gs.length := by omega
  have hrd : rd gs (j : Int) = gs[j] := by
   unfold rd
   rw [Int.toNat_natCast, List.getD_eq_getElem?_getD, List.getElem?_eq_getElem hlt]
   rfl
  rw [dn.l1, if_pos (by omega), if_pos (by omega), if_pos (by omega), hrd, w64 (n := (j : Int) + 1) (by omega) (by omega), List.drop_eq_getElem_cons hlt, List.all_cons]
  by_cases a : gs[j] ≤ i
  · rw [if_pos a, decide_eq_false (by omega : ¬ (i < gs[j] ∧ gs[j] < n))]; rfl
  rw [if_neg a]
  by_cases c : gs[j] ≥ n
  · rw [if_pos c, decide_eq_false (by omega : ¬ (i < gs[j] ∧ gs[j] < n))]; rfl
  rw [if_neg c, decide_eq_true (by omega : i < gs[j] ∧ gs[j] < n), Bool.true_and]
  have := ih (j + 1) (by omega) (by omega) k (by omega)
  rw [show ((j + 1 : Nat) : Int) = (j : Int) + 1 by omega] at this
  exact this
theorem gone_l1 (b : S47) (i n : Int) (h : jB b = true) (k : Nat) (gs : List Int) (hgs : gM.f b.f0 b.f1 b.f2.f0 b.f2.f1 b.f2.f2 b.f2.f3 b.f3 b.f4 = some gs) : dn.l1 (k + 4) i n gs (gs.length : Int) 0 = some (if ig b i n then 0 else 154) := by
 have H : gs.length ≤ 2 ∧ (gs.all (fun x => decide (i < x ∧ x < n))) = ig b i n := by
  unfold gM.f at hgs
  unfold ig
  by_cases e1 : b.f1 = 1
  · rw [if_neg (by omega), if_neg (by omega)] at hgs
    obtain rfl : [] = gs := by simpa using hgs
    simp [e1]
  by_cases e2 : b.f1 = 2
  · rw [if_pos e2] at hgs
    obtain rfl : [b.f3] = gs := by simpa using hgs
    simp [e1, e2]
  by_cases e3 : b.f1 = 3
  · rw [if_neg e2, if_pos e3] at hgs
    obtain rfl : [b.f3, b.f4] = gs := by simpa using hgs
    simp [e1, e3]
  unfold jB at h
  rw [if_neg e1, if_neg e2, if_neg e3] at h
  cases h
 have := zn i n gs (by omega) gs.length 0 rfl (by omega) (k + 4) (by omega)
 rw [List.drop_zero, H.2] at this
 exact this
theorem gone_l (b : S47) (hl : (b.f0.length : Int) ≤ 140737488351232) (i n : Int) : ∀ (d j : Nat), b.f0.length - j = d → j ≤ b.f0.length → ∀ k, d + 9 ≤ k →
 ∃ e : Int, dn.l0 k i n b.f0 (b.f0.length : Int) (j : Int) b.f0 b.f1 b.f2.f0 b.f2.f1 b.f2.f2 b.f2.f3 b.f3 b.f4 = some e ∧ (e = 0 ↔ ((b.f0.drop j).all (fun i => stB i.f0 i.f3) && jB b && ig b i n) = true) := by
 intro d
 induction d with
 | zero =>
  intro j hd hj k hk
  obtain ⟨k, rfl⟩ : ∃ m, k = m + 9 := ⟨k - 9, by omega⟩
  rw [dn.l0, if_neg (by omega), ended_f, Option.bind_some, List.drop_of_length_le (by omega)]
  cases he : jB b
  · rw [if_neg (by decide)]; exact ⟨_, rfl, by simp⟩
  rw [if_pos rfl]
  obtain ⟨gs, hgs⟩ : ∃ gs, gM.f b.f0 b.f1 b.f2.f0 b.f2.f1 b.f2.f2 b.f2.f3 b.f3 b.f4 = some gs := by
   unfold gM.f
   split
   · exact ⟨_, rfl⟩
   split <;> exact ⟨_, rfl⟩
  rw [hgs, Option.bind_some, gone_l1 b i n he (k + 4) gs hgs]
  refine ⟨_, rfl, ?_⟩
  cases ig b i n <;> simp
 | succ d ih =>
  intro j hd hj k hk
  obtain ⟨k, rfl⟩ : ∃ m, k = m + 9 := ⟨k - 9, by omega⟩
  have hlt : j < b.f0.length := by omega
  rw [dn.l0, if_pos (by omega), if_pos (by omega), if_pos (by omega), nL hlt, uZ, Option.bind_some, List.drop_eq_getElem_cons hlt, List.all_cons]
  cases hs : stB (b.f0[j]).f0 (b.f0[j]).f3
  · rw [if_neg (by decide)]; exact ⟨_, rfl, by simp⟩
  rw [if_pos rfl, w64 (n := (j : Int) + 1) (by omega) (by omega)]
  obtain ⟨e, h1, h2⟩ := ih (j + 1) (by omega) (by omega) (k + 8) (by omega)
  rw [show ((j + 1 : Nat) : Int) = (j : Int) + 1 by omega] at h1
  exact ⟨e, h1, by simpa using h2⟩
theorem gck_l (g : List S47) (hg : g.length ≤ 4096) (hF : Fit g) : ∀ (d j : Nat), g.length - j = d → j ≤ g.length → ∀ left : Int, 0 ≤ left → left ≤ 4096 → ∀ k, d + 5000 ≤ k →
 ∃ r : Int × Int, dx.l0 k g (4096 - left) g (g.length : Int) (j : Int) = some r ∧ (r.2 = 0 ↔ tkL g.length (g.drop j) (j : Int) left = true) := by
 intro d
 induction d with
 | zero =>
  intro j hd hj left h0 h1 k hk
  obtain ⟨k, rfl⟩ : ∃ m, k = m + 1 := ⟨k - 1, by omega⟩
  rw [dx.l0, if_neg (by omega), List.drop_of_length_le (by omega)]
  exact ⟨_, rfl, by simp [tkL]⟩
 | succ d ih =>
  intro j hd hj left h0 h1 k hk
  obtain ⟨k, rfl⟩ : ∃ m, k = m + 9 := ⟨k - 9, by omega⟩
  have hlt : j < g.length := by omega
  have hf := hF (g[j]) (List.getElem_mem hlt)
  rw [dx.l0, if_pos (by omega), if_pos (by omega), if_pos (by omega), iN hlt, List.drop_eq_getElem_cons hlt, tkL, w64 (n := 4096 - left + ((g[j]).f0.length : Int)) (by omega) (by omega)]
  unfold dn.f
  by_cases a : ((g[j]).f0.length : Int) > left
  · rw [if_pos (by omega), decide_eq_false (by omega : ¬ ((g[j]).f0.length : Int) ≤ left), Option.bind_some, if_neg (by decide)]
    exact ⟨_, rfl, by simp⟩
  obtain ⟨e, h2, h3⟩ := gone_l (g[j]) hf (j : Int) (g.length : Int) _ 0 rfl (by omega) (k + 8) (by omega)
  rw [show ((0 : Nat) : Int) = 0 from rfl] at h2
  rw [if_neg (by omega), decide_eq_true (by omega : ((g[j]).f0.length : Int) ≤ left), h2, Option.bind_some]
  rw [List.drop_zero] at h3
  by_cases e0 : e = 0
  · rw [if_pos e0]
    have h4 := h3.1 e0
    simp only [Bool.and_eq_true] at h4
    obtain ⟨r, e1, h5⟩ := ih (j + 1) (by omega) (by omega) (left - ((g[j]).f0.length : Int)) (by omega) (by omega) (k + 8) (by omega)
    rw [show ((j + 1 : Nat) : Int) = (j : Int) + 1 by omega] at e1 h5
    rw [w64 (n := (j : Int) + 1) (by omega) (by omega), show 4096 - left + ((g[j]).f0.length : Int) = 4096 - (left - ((g[j]).f0.length : Int)) by omega]
    refine ⟨r, e1, h5.trans ?_⟩
    rw [show fE (g[j]).f0 = true from h4.1.1, h4.1.2, h4.2]
    simp
  rw [if_neg e0]
  refine ⟨_, rfl, ?_⟩
  constructor
  · intro h; exact absurd h e0
  intro h
  simp only [Bool.and_eq_true] at h
  exact absurd (h3.2 (by rw [show (g[j]).f0.all (fun i => stB i.f0 i.f3) = true from h.1.1.1.2, h.1.1.2, h.1.2]; rfl)) e0
theorem AB (n : Int) : ∀ (g : List S47) (i left : Int), tkL n g i left = true → 0 ≤ left → 0 ≤ msL g ∧ msL g ≤ left + 3 * g.length
 | [], i, left, h, hl => by simp [msL]; omega
 | b :: r, i, left, h, hl => by
  simp only [tkL, Bool.and_eq_true, decide_eq_true_eq] at h
  have := AB n r (i + 1) _ h.2 (by omega)
  unfold msL
  rw [List.length_cons]
  split <;> omega
theorem rms_l (g : List S47) (hn : g.length ≤ 4096) (hm : 0 ≤ msL g) (hM : msL g ≤ 100000) : ∀ (d j : Nat), g.length - j = d → j ≤ g.length → ∀ acc : Int, acc + msL (g.drop j) = msL g → 0 ≤ acc → ∀ k, d + 2 ≤ k → bu.l0 k g acc (j : Int) = some (msL g) := by
 have hnn : ∀ l : List S47, 0 ≤ msL l := by
  intro l
  induction l with
  | nil => exact Int.le_refl _
  | cons b r ih => unfold msL; split <;> omega
 intro d
 induction d with
 | zero =>
  intro j hd hj acc ha h0 k hk
  obtain ⟨k, rfl⟩ : ∃ m, k = m + 1 := ⟨k - 1, by omega⟩
  rw [bu.l0, if_neg (by omega)]
  rw [List.drop_of_length_le (by omega)] at ha
  simp only [msL] at ha
  rw [show acc = msL g by omega]
 | succ d ih =>
  intro j hd hj acc ha h0 k hk
  obtain ⟨k, rfl⟩ : ∃ m, k = m + 1 := ⟨k - 1, by omega⟩
  have hlt : j < g.length := by omega
  rw [List.drop_eq_getElem_cons hlt, msL] at ha
  have hd2 := hnn (g.drop (j + 1))
  rw [bu.l0, if_pos (by omega), if_pos (by omega), iN hlt, w64 (n := (j : Int) + 1) (by omega) (by omega)]
  have hl0 : (0 : Int) ≤ ((g[j]).f0.length : Int) := by omega
  by_cases e3 : (g[j]).f1 = 3
  · rw [if_pos e3] at ha
    rw [if_pos e3, w64 (n := acc + ((g[j]).f0.length : Int)) (by omega) (by omega), w64 (n := acc + ((g[j]).f0.length : Int) + 1) (by omega) (by omega), w64 (n := acc + ((g[j]).f0.length : Int) + 1 + 2) (by omega) (by omega)]
    have := ih (j + 1) (by omega) (by omega) (acc + ((g[j]).f0.length : Int) + 1 + 2) (by omega) (by omega) k (by omega)
    rw [show ((j + 1 : Nat) : Int) = (j : Int) + 1 by omega] at this
    exact this
  rw [if_neg e3] at ha
  rw [if_neg e3, w64 (n := acc + ((g[j]).f0.length : Int)) (by omega) (by omega), w64 (n := acc + ((g[j]).f0.length : Int) + 1) (by omega) (by omega)]
  have := ih (j + 1) (by omega) (by omega) (acc + ((g[j]).f0.length : Int) + 1) (by omega) (by omega) k (by omega)
  rw [show ((j + 1 : Nat) : Int) = (j : Int) + 1 by omega] at this
  exact this
theorem sI {g : List S47} (h : TkB g = true) : 0 < g.length ∧ g.length ≤ 4096 ∧ tkL g.length g 0 4096 = true := by
 unfold TkB at h
 simp only [Bool.and_eq_true, decide_eq_true_eq] at h
 exact ⟨h.1.1, h.1.2, h.2⟩
theorem tk_ms {g : List S47} (h : TkB g = true) : 0 ≤ msL g ∧ msL g ≤ 100000 := by
 have := AB _ g 0 4096 (sI h).2.2 (by omega)
 have h2 := (sI h).2.1
 omega
theorem Bw {g : List S47} (h : TkB g = true) (k : Nat) (hk : 10000 ≤ k) : bu.f k g = some (msL g) := by
 have := rms_l g (sI h).2.1 (tk_ms h).1 (tk_ms h).2 g.length 0 rfl (by omega) 0 (by rw [List.drop_zero]; omega) (by omega) k (by have := (sI h).2.1; omega)
 rw [show ((0 : Nat) : Int) = 0 from rfl] at this
 exact this
structure GS (w wr : World) (gv gm : Nat) (M : cK) : Prop where
 below : Below w.heap.size w wr
 res : wr.heap[gv]? = some (.cells #[.int .u32 0, .int .i64 0, .int .i64 0] 59 (0, 0))
 mach : wr.heap[gm]? = some (.cells (rQ M) 97 (0, 0))
 len : M.m.length = 16
 hv : w.heap.size ≤ gv
 hm : w.heap.size ≤ gm
theorem GS.fin {w wr : World} {gv gm : Nat} {M : cK} (h : GS w wr gv gm M) (a b c : Value) :
 (((wr.setCell ⟨gv, 0, none⟩ a).setCell ⟨gv, 1, none⟩ b).setCell ⟨gv, 2, none⟩ c).heap[gv]? = some (.cells #[a, b, c] 59 (0, 0)) ∧ Below w.heap.size w (((wr.setCell ⟨gv, 0, none⟩ a).setCell ⟨gv, 1, none⟩ b).setCell ⟨gv, 2, none⟩ c) :=
 ⟨aQ (aQ (aQ h.res 0 _ rfl) 1 _ rfl) 2 _ rfl, cZ (cZ (cZ h.below h.hv) h.hv) h.hv⟩
theorem GS.step {w wr w1 : World} {gv gm : Nat} {M M1 : cK} (h : GS w wr gv gm M) (kp : Kp (fun k => k = gm) wr w1) (hM : w1.heap[gm]? = some (.cells (rQ M1) 97 (0, 0))) (hl : M1.m.length = 16) : GS w w1 gv gm M1 :=
 ⟨kp.fK h.below h.below.size (fun k e => e ▸ h.hm), (kp.block gv (av h.res) (bR h.res h.mach (by decide))).trans h.res, hM, hl, h.hv, h.hm⟩
def bM (pk : List Int) : List S45 → cK → cK × Int × Nat
 | [], M => (M, 0, 0)
 | i :: r, M => if (dh i pk M).2 = 0 then ((bM pk r (dh i pk M).1).1, (bM pk r (dh i pk M).1).2.1, (bM pk r (dh i pk M).1).2.2 + 1)
  else ((dh i pk M).1, (dh i pk M).2, 1)
inductive Out where
 | fin (v f : Int) (s : Nat)
 | go (j : Nat) (M : cK) (s : Nat)
def fU (b : S47) (M : cK) (s : Nat) : Out :=
 if b.f1 = 1 then .fin (if b.f2.f0 = 6 then b.f2.f3 else M.a) 0 (s + 1)
 else if b.f1 = 2 then .go b.f3.toNat M s
 else .go (if hoP b.f2 M.a M.x = true then b.f3.toNat else b.f4.toNat) M (s + 1)
def gz (pk : List Int) (b : S47) (M : cK) : Out :=
 if (bM pk b.f0 M).2.1 = 0 then fU b (bM pk b.f0 M).1 (bM pk b.f0 M).2.2
 else .fin 0 (bM pk b.f0 M).2.1 (bM pk b.f0 M).2.2
inductive Rn (g : List S47) (pk : List Int) : Nat → cK → Int → Int → Nat → Prop
 | fin {j : Nat} {M : cK} {b : S47} {v f : Int} {s : Nat} : g[j]? = some b → gz pk b M = .fin v f s → Rn g pk j M v f s
 | go {j : Nat} {M : cK} {b : S47} {j1 : Nat} {M1 : cK} {s : Nat} {v f : Int} {t : Nat} : g[j]? = some b → gz pk b M = .go j1 M1 s → Rn g pk j1 M1 v f t → Rn g pk j M v f (s + t)
structure BOk (b : S47) (i n : Int) : Prop where
 code : fE b.f0 = true
 ends : jB b = true
 goal : ig b i n = true
 rg : ∀ x ∈ b.f0, Rg x.f3
 rl : Rg b.f2.f3
structure GOk (g : List S47) : Prop where
 some_ : 0 < g.length
 few : g.length ≤ 4096
 all : ∀ (j : Nat) (b : S47), g[j]? = some b → BOk b j g.length
 sum : (g.map (fun b => b.f0.length)).sum ≤ 4096
theorem eF {b : S47} (h : jB b = true) : (b.f1 = 1 ∧ reB b.f2.f0 = true ∧ lT b.f2 = true ∧ b.f3 = 0 ∧ b.f4 = 0) ∨ (b.f1 = 2 ∧ b.f2 = ⟨0, 0, 0, 0⟩ ∧ b.f4 = 0) ∨ (b.f1 = 3 ∧ jmB b.f2.f0 = true ∧ lT b.f2 = true) := by
 unfold jB at h
 by_cases e1 : b.f1 = 1
 · rw [if_pos e1] at h
   simp only [Bool.and_eq_true, decide_eq_true_eq] at h
   exact .inl ⟨e1, h.1.1.1, h.1.1.2, h.1.2, h.2⟩
 rw [if_neg e1] at h
 by_cases e2 : b.f1 = 2
 · rw [if_pos e2] at h
   simp only [Bool.and_eq_true, decide_eq_true_eq] at h
   refine .inr (.inl ⟨e2, ?_, h.2⟩)
   obtain ⟨⟨a, b, c, d⟩, _⟩ := h
   cases hq : (‹S47› : S47).f2
   simp_all
 rw [if_neg e2] at h
 by_cases e3 : b.f1 = 3
 · rw [if_pos e3] at h
   simp only [Bool.and_eq_true] at h
   exact .inr (.inr ⟨e3, h.1, h.2⟩)
 rw [if_neg e3] at h; cases h
theorem bD {b : S47} {i n : Int} (h : ig b i n = true) (h1 : b.f1 ≠ 1) : i < b.f3 ∧ b.f3 < n := by
 unfold ig at h
 simp only [Bool.and_eq_true, Bool.or_eq_true, decide_eq_true_eq] at h
 rcases h.1 with h | h
 · exact absurd h h1
 exact h
theorem dL {b : S47} {i n : Int} (h : ig b i n = true) (h1 : b.f1 = 3) : i < b.f4 ∧ b.f4 < n := by
 unfold ig at h
 simp only [Bool.and_eq_true, Bool.or_eq_true, decide_eq_true_eq, Bool.not_eq_true', decide_eq_false_iff_not] at h
 rcases h.2 with h | h
 · exact absurd h1 h
 exact h
theorem mE (pk : List Int) : ∀ (c : List S45) (M : cK), MB M → (∀ x ∈ c, Rg x.f3) → MB (bM pk c M).1 := by
 intro c
 induction c with
 | nil => intro M h _; exact h
 | cons i r ih =>
  intro M h hc
  have h1 := ll i pk M h (hc i (List.mem_cons_self ..))
  unfold bM
  split
  · exact ih _ h1 (fun x hx => hc x (List.mem_cons_of_mem _ hx))
  exact h1
theorem GOk.at_ {g : List S47} (h : GOk g) {j : Nat} (hj : j < g.length) : ∃ b, g[j]? = some b ∧ BOk b j g.length :=
 ⟨g[j], List.getElem?_eq_getElem hj, h.all j _ (List.getElem?_eq_getElem hj)⟩
theorem wu {l : List Nat} {x : Nat} (h : x ∈ l) : x ≤ l.sum := by
 induction l with
 | nil => cases h
 | cons a r ih =>
  rw [List.sum_cons]
  rcases List.mem_cons.1 h with rfl | h
  · omega
  have := ih h; omega
theorem GOk.len {g : List S47} (h : GOk g) {j : Nat} {b : S47} (hb : g[j]? = some b) : b.f0.length ≤ 4096 := by
 have h1 := h.sum
 have := wu (List.mem_map_of_mem (f := fun b : S47 => b.f0.length) (List.mem_of_getElem? hb))
 omega
theorem lK {pk : List Int} {b : S47} {M M1 : cK} {i n : Int} {j s : Nat} (h : BOk b i n) (hi : 0 ≤ i) (e : gz pk b M = .go j M1 s) :
 (bM pk b.f0 M).2.1 = 0 ∧ M1 = (bM pk b.f0 M).1 ∧ i < j ∧ (j : Int) < n ∧ ((b.f1 = 2 ∧ (j : Int) = b.f3 ∧ s = (bM pk b.f0 M).2.2) ∨ (b.f1 = 3 ∧ (j : Int) = (if hoP b.f2 M1.a M1.x = true then b.f3 else b.f4) ∧ s = (bM pk b.f0 M).2.2 + 1)) := by
 unfold gz at e
 by_cases h0 : (bM pk b.f0 M).2.1 = 0
 · rw [if_pos h0] at e
   unfold fU at e
   rcases eF h.ends with ⟨e1, _⟩ | ⟨e2, _⟩ | ⟨e3, _⟩
   · rw [if_pos e1] at e; cases e
   · have hy := bD h.goal (by omega)
     rw [if_neg (by omega), if_pos e2] at e
     injection e with a1 a2 a3
     refine ⟨h0, a2.symm, by omega, by omega, .inl ⟨e2, by omega, a3.symm⟩⟩
   have hy := bD h.goal (by omega)
   have hn := dL h.goal e3
   rw [if_neg (by omega), if_neg (by omega)] at e
   injection e with a1 a2 a3
   subst a2
   by_cases ho : hoP b.f2 (bM pk b.f0 M).1.a (bM pk b.f0 M).1.x = true
   · rw [if_pos ho] at a1
     refine ⟨h0, rfl, by omega, by omega, .inr ⟨e3, by rw [if_pos ho]; omega, a3.symm⟩⟩
   rw [if_neg ho] at a1
   refine ⟨h0, rfl, by omega, by omega, .inr ⟨e3, by rw [if_neg ho]; omega, a3.symm⟩⟩
 rw [if_neg h0] at e; cases e
theorem wz (n : Int) : ∀ (l : List S47) (i left : Int), tkL n l i left = true ↔
 ((∀ (j : Nat) (b : S47), l[j]? = some b → fE b.f0 = true ∧ jB b = true ∧ ig b (i + j) n = true) ∧ (l = [] ∨ (((l.map (fun b => b.f0.length)).sum : Nat) : Int) ≤ left)) := by
 intro l
 induction l with
 | nil => intro i left; exact ⟨fun _ => ⟨fun j b h => by simp at h, .inl rfl⟩, fun _ => rfl⟩
 | cons a r ih =>
  intro i left
  unfold tkL
  simp only [Bool.and_eq_true, decide_eq_true_eq]
  rw [ih]
  constructor
  · rintro ⟨⟨⟨⟨h1, h2⟩, h3⟩, h4⟩, h5, h6⟩
    refine ⟨?_, .inr ?_⟩
    · intro j b hb
      cases j with
      | zero => cases hb; exact ⟨h2, h3, by simpa using h4⟩
      | succ j =>
       have := h5 j b hb
       rw [show i + ((j + 1 : Nat) : Int) = i + 1 + (j : Int) by omega]
       exact this
    rw [List.map_cons, List.sum_cons]
    rcases h6 with rfl | h6
    · simpa using h1
    omega
  rintro ⟨h1, h2⟩
  have h0 := h1 0 a rfl
  rcases h2 with h2 | h2
  · cases h2
  rw [List.map_cons, List.sum_cons] at h2
  refine ⟨⟨⟨⟨by omega, h0.1⟩, h0.2.1⟩, by simpa using h0.2.2⟩, ?_, .inr (by omega)⟩
  intro j b hb
  have := h1 (j + 1) b hb
  rw [show i + ((j + 1 : Nat) : Int) = i + 1 + (j : Int) by omega] at this
  exact this
def KR (g : List S47) : Prop := ∀ b ∈ g, (∀ x ∈ b.f0, Rg x.f3) ∧ Rg b.f2.f3
theorem zm {g : List S47} (h : TkB g = true) (hk : KR g) : GOk g := by
 unfold TkB at h
 simp only [Bool.and_eq_true, decide_eq_true_eq] at h
 obtain ⟨⟨h1, h2⟩, h3⟩ := h
 obtain ⟨h4, h5⟩ := (wz _ _ _ _).1 h3
 refine ⟨h1, h2, ?_, ?_⟩
 · intro j b hb
   obtain ⟨a1, a2, a3⟩ := h4 j b hb
   have := hk b (List.mem_of_getElem? hb)
   exact ⟨a1, a2, by simpa using a3, this.1, this.2⟩
 rcases h5 with rfl | h5
 · exact absurd h1 (by simp)
 omega
theorem GOk.tk {g : List S47} (h : GOk g) : TkB g = true := by
 unfold TkB
 simp only [Bool.and_eq_true, decide_eq_true_eq]
 refine ⟨⟨h.some_, h.few⟩, (wz _ _ _ _).2 ⟨?_, .inr (by have := h.sum; omega)⟩⟩
 intro j b hb
 have := h.all j b hb
 exact ⟨this.code, this.ends, by simpa using this.goal⟩
def msB (b : S47) : Nat := b.f0.length + 1 + (if b.f1 = 3 then 2 else 0)
theorem msL_eq : ∀ g : List S47, msL g = (((g.map msB).sum : Nat) : Int) := by
 intro g
 induction g with
 | nil => rfl
 | cons b r ih =>
  unfold msL
  rw [ih, List.map_cons, List.sum_cons]
  unfold msB
  split <;> omega
theorem yI {a : Int} (h : Rg a) : ((BitVec.ofInt 32 a).toNat : Int) = a := by
 rw [BitVec.toNat_ofInt]
 have h1 := h.1
 have h2 := h.2
 have : (2 ^ 32 : Nat) = 4294967296 := by decide
 rw [this]
 omega
theorem or_z {a : Int} (h : Rg a) : Go.bits .or .u32 a 0 = a := by
 show IntKind.u32.wrap ((BitVec.ofInt 32 a ||| BitVec.ofInt 32 0).toNat : Int) = a
 rw [show BitVec.ofInt 32 0 = 0#32 from rfl, BitVec.or_zero, yI h, tQ h]
theorem xor_z {a : Int} (h : Rg a) : Go.bits .xor .u32 a 0 = a := by
 show IntKind.u32.wrap ((BitVec.ofInt 32 a ^^^ BitVec.ofInt 32 0).toNat : Int) = a
 rw [show BitVec.ofInt 32 0 = 0#32 from rfl, BitVec.xor_zero, yI h, tQ h]
theorem and_z (a : Int) : Go.bits .and .u32 a 0 = 0 := by
 show IntKind.u32.wrap ((BitVec.ofInt 32 a &&& BitVec.ofInt 32 0).toNat : Int) = 0
 rw [show BitVec.ofInt 32 0 = 0#32 from rfl, BitVec.and_zero]
 rfl
theorem and_o {a : Int} (h : Rg a) : Go.bits .and .u32 a 4294967295 = a := by
 show IntKind.u32.wrap ((BitVec.ofInt 32 a &&& BitVec.ofInt 32 4294967295).toNat : Int) = a
 rw [show BitVec.ofInt 32 4294967295 = BitVec.allOnes 32 from by decide, BitVec.and_allOnes, yI h, tQ h]
theorem uJ {c d : Int} (h : Go.bits .andNot .u16 c 8 = Go.bits .andNot .u16 d 8) (a b : Int) : opP c a b = opP d a b := by
 unfold opP gU.f
 rw [h]
theorem op_4 (a b : Int) : opP 4 a b = ((a + b) % 4294967296, 0) := rfl
theorem op_20 (a b : Int) : opP 20 a b = ((a - b) % 4294967296, 0) := rfl
theorem op_36 (a b : Int) : opP 36 a b = ((a * b) % 4294967296, 0) := rfl
theorem op_68 (a b : Int) : opP 68 a b = (Go.bits .or .u32 a b, 0) := rfl
theorem op_84 (a b : Int) : opP 84 a b = (Go.bits .and .u32 a b, 0) := rfl
theorem op_164 (a b : Int) : opP 164 a b = (Go.bits .xor .u32 a b, 0) := rfl
theorem rV {a b : Int} (hb : 0 ≤ b) : opP 100 a b = (if b > 31 then 0 else shl .u32 a b, 0) := by
 show ((dR.f a b true).bind fun t => some (t, (0 : Int))).getD (0, 0) = _
 unfold dR.f
 by_cases h : b > 31
 · rw [if_pos h, if_pos h]; rfl
 rw [if_neg h, if_neg h, if_pos rfl, if_pos hb]; rfl
theorem rW {a b : Int} (hb : 0 ≤ b) : opP 116 a b = (if b > 31 then 0 else shr .u32 a b, 0) := by
 show ((dR.f a b false).bind fun t => some (t, (0 : Int))).getD (0, 0) = _
 unfold dR.f
 by_cases h : b > 31
 · rw [if_pos h, if_pos h]; rfl
 rw [if_neg h, if_neg h, if_neg (by decide), if_pos hb]; rfl
theorem AU (a b : Int) : opP 52 a b = (if b = 0 then (0, 2) else ((Int.tdiv a b) % 4294967296, 0)) := by
 show (if b = 0 then some ((0 : Int), (2 : Int)) else some ((Int.tdiv a b) % 4294967296, 0)).getD (0, 0) = _
 by_cases h : b = 0
 · rw [if_pos h, if_pos h]; rfl
 rw [if_neg h, if_neg h]; rfl
theorem AR (a b : Int) : opP 148 a b = (if b = 0 then (0, 2) else (Int.tmod a b, 0)) := by
 show (if b = 0 then some ((0 : Int), (2 : Int)) else some (Int.tmod a b, 0)).getD (0, 0) = _
 by_cases h : b = 0
 · rw [if_pos h, if_pos h]; rfl
 rw [if_neg h, if_neg h]; rfl
def eQ : List Int := [4, 20, 36, 52, 68, 84, 100, 116, 148, 164]
def gB : List Int := [12, 28, 44, 60, 76, 92, 108, 124, 156, 172]
theorem uK {c a b : Int} (hc : c ∈ eQ) (hb : 0 ≤ b) (h : (c = 52 ∨ c = 148) → b ≠ 0) : (opP c a b).2 = 0 := by
 simp only [eQ, List.mem_cons, List.not_mem_nil, or_false] at hc
 rcases hc with rfl | rfl | rfl | rfl | rfl | rfl | rfl | rfl | rfl | rfl
 · rfl
 · rfl
 · rfl
 · rw [AU, if_neg (h (.inl rfl))]
 · rfl
 · rfl
 · rw [rV hb]
 · rw [rW hb]
 · rw [AR, if_neg (h (.inr rfl))]
 rfl
theorem op_idle {c a k : Int} (ha : Rg a) (h : ((c = 4 ∨ c = 20 ∨ c = 68 ∨ c = 164 ∨ c = 100 ∨ c = 116) ∧ k = 0) ∨ ((c = 36 ∨ c = 52) ∧ k = 1) ∨ (c = 84 ∧ k = 4294967295)) : opP c a k = (a, 0) := by
 have h1 := ha.1
 have h2 := ha.2
 rcases h with ⟨h, rfl⟩ | ⟨h, rfl⟩ | ⟨rfl, rfl⟩
 · rcases h with rfl | rfl | rfl | rfl | rfl | rfl
   · rw [op_4, Int.add_zero, Int.emod_eq_of_lt h1 h2]
   · rw [op_20, Int.sub_zero, Int.emod_eq_of_lt h1 h2]
   · rw [op_68, or_z ha]
   · rw [op_164, xor_z ha]
   · rw [rV (Int.le_refl 0), if_neg (by decide)]
     have : shl .u32 a 0 = IntKind.u32.wrap (a * 1) := rfl
     rw [this, Int.mul_one, tQ ha]
   rw [rW (Int.le_refl 0), if_neg (by decide)]
   have : shr .u32 a 0 = a / 1 := rfl
   rw [this, Int.ediv_one]
 · rcases h with rfl | rfl
   · rw [op_36, Int.mul_one, Int.emod_eq_of_lt h1 h2]
   rw [AU, if_neg (by decide), Int.tdiv_one, Int.emod_eq_of_lt h1 h2]
 rw [op_84, and_o ha]
theorem qR (a : Int) : opP 84 a 0 = (0, 0) ∧ opP 36 a 0 = (0, 0) := by
 rw [op_84, op_36, and_z, Int.mul_zero]; exact ⟨rfl, rfl⟩
theorem AV {a y : Int} (h : y > 31) : opP 108 a y = (0, 0) ∧ opP 124 a y = (0, 0) := by
 rw [uJ (c := 108) (d := 100) (by decide), uJ (c := 124) (d := 116) (by decide), rV (by omega), rW (by omega), if_pos h]
 exact ⟨rfl, by rw [if_pos h]⟩
abbrev St := List (Option Int)
def gS (s : St) (i : Nat) : Option Int := s.getD i none
def wd (M : cK) : Nat → Int
 | 0 => M.a
 | 1 => M.x
 | n + 2 => M.m.getD n 0
structure Snd (s : St) (M : cK) : Prop where
 len : s.length = 18
 wd : ∀ i v, gS s i = some v → wd M i = v
def ldL : List Int := [0, 32, 40, 48, 64, 72, 80, 96, 128, 1, 97, 129, 177]
def stL : List Int := [0, 32, 40, 48, 64, 72, 80, 96, 128, 1, 97, 129, 177, 2, 3, 132, 7, 135, 4, 20, 36, 52, 68, 84, 100, 116, 148, 164, 12, 28, 44, 60, 76, 92, 108, 124, 156, 172]
def nY (s : St) (i : S45) : S45 :=
 if i.f0 = 96 then (match gS s (2 + i.f3.toNat) with | some v => ⟨0, 0, 0, v⟩ | none => i)
 else if i.f0 = 97 then (match gS s (2 + i.f3.toNat) with | some v => ⟨1, 0, 0, v⟩ | none => i)
 else if i.f0 = 64 ∨ i.f0 = 72 ∨ i.f0 = 80 then (match gS s 1 with | some x => if x + i.f3 ≤ 4294967295 then ⟨i.f0 - 32, 0, 0, x + i.f3⟩ else i | none => i)
 else i
def jF (s : St) (i : S45) : S45 :=
 match gS s 0 with
 | some a => ⟨0, 0, 0, (opP i.f0 a i.f3).1⟩
 | none => if i.f3 = 0 ∧ (i.f0 = 84 ∨ i.f0 = 36) then ⟨0, 0, 0, 0⟩ else i
def qZ (s : St) (i : S45) : S45 :=
 if i.f0 = 132 then (match gS s 0 with | some a => ⟨0, 0, 0, IntKind.u32.wrap (-a)⟩ | none => i)
 else if i.f0 ∈ gB then (match gS s 1 with
  | none => i
  | some y => if (i.f0 = 108 ∨ i.f0 = 124) ∧ y > 31 then ⟨0, 0, 0, 0⟩ else if y = 0 ∧ (i.f0 = 60 ∨ i.f0 = 156) then i else jF s ⟨i.f0 - 8, 0, 0, y⟩)
 else jF s i
def nZ (s : St) (i : S45) : S45 :=
 if i.f0 = 7 then (match gS s 0 with | some a => ⟨1, 0, 0, a⟩ | none => i)
 else (match gS s 1 with | some x => ⟨0, 0, 0, x⟩ | none => i)
def df (s : St) (i : S45) : S45 :=
 if i.f0 ∈ ldL then nY s i
 else if i.f0 = 7 ∨ i.f0 = 135 then nZ s i
 else if i.f0 = 132 ∨ i.f0 ∈ eQ ∨ i.f0 ∈ gB then qZ s i
 else i
def ik (s : St) (i : S45) : Bool :=
 if i.f0 = 0 then decide (gS s 0 = some i.f3)
 else if i.f0 = 1 then decide (gS s 1 = some i.f3)
 else if i.f0 = 2 then (gS s 0).isSome && decide (gS s (2 + i.f3.toNat) = gS s 0)
 else if i.f0 = 3 then (gS s 1).isSome && decide (gS s (2 + i.f3.toNat) = gS s 1)
 else if i.f0 = 4 ∨ i.f0 = 20 ∨ i.f0 = 68 ∨ i.f0 = 164 ∨ i.f0 = 100 ∨ i.f0 = 116 then decide (i.f3 = 0)
 else if i.f0 = 36 ∨ i.f0 = 52 then decide (i.f3 = 1)
 else if i.f0 = 84 then decide (i.f3 = 4294967295)
 else false
def dJ (s : St) (i : S45) : St :=
 if i.f0 = 0 then s.set 0 (some i.f3)
 else if i.f0 = 1 then s.set 1 (some i.f3)
 else if i.f0 = 2 then s.set (2 + i.f3.toNat) (gS s 0)
 else if i.f0 = 3 then s.set (2 + i.f3.toNat) (gS s 1)
 else if i.f0 = 7 then s.set 1 (gS s 0)
 else if i.f0 = 135 then s.set 0 (gS s 1)
 else if i.f0 = 97 ∨ i.f0 = 129 ∨ i.f0 = 177 then s.set 1 none
 else s.set 0 none
theorem gL {c K : Int} (h : stB c K = true) : c ∈ stL ∧ ((c = 2 ∨ c = 3 ∨ c = 96 ∨ c = 97) → K < 16) ∧ ((c = 52 ∨ c = 148) → K ≠ 0) ∧ ((c = 100 ∨ c = 116) → K ≤ 31) := by
 have hn := stB_not h
 unfold stB at h
 simp only [Bool.and_eq_true, Bool.or_eq_true, Bool.not_eq_true', decide_eq_true_eq, decide_eq_false_iff_not] at h
 obtain ⟨⟨⟨⟨⟨⟨h1, h2⟩, h3⟩, h4⟩, h5⟩, h6⟩, h7⟩ := h
 refine ⟨?_, ?_, ?_, ?_⟩
 · have H : ∀ x ∈ knL, x = 6 ∨ x = 22 ∨ x = 5 ∨ jmB x = true ∨ x ∈ stL := by decide
   rcases zW (P := fun x => x = 6 ∨ x = 22 ∨ x = 5 ∨ jmB x = true ∨ x ∈ stL) h1 H with e | e | e | e | e
   · exact absurd e hn.1
   · exact absurd e hn.2.1
   · exact absurd e hn.2.2.1
   · rw [h2] at e; cases e
   exact e
 · intro e; rcases h5 with h5 | h5
   · exact absurd e h5
   exact h5
 · intro e; rcases h6 with h6 | h6
   · exact absurd e h6
   exact h6
 intro e; rcases h7 with h7 | h7
 · exact absurd e h7
 exact h7
theorem kN {c K : Int} (hm : c ∈ stL) (h1 : (c = 2 ∨ c = 3 ∨ c = 96 ∨ c = 97) → K < 16) (h2 : (c = 52 ∨ c = 148) → K ≠ 0) (h3 : (c = 100 ∨ c = 116) → K ≤ 31) : stB c K = true := by
 have H : ∀ x ∈ stL, kn x = true ∧ jmB x = false ∧ reB x = false ∧ x ≠ 5 := by decide
 obtain ⟨a, b, d, e⟩ := H c hm
 have e5 : decide (c = 5) = false := decide_eq_false e
 have e6 : (!decide (c = 2 ∨ c = 3 ∨ c = 96 ∨ c = 97) || decide (K < 16)) = true := by
  by_cases q : c = 2 ∨ c = 3 ∨ c = 96 ∨ c = 97
  · rw [decide_eq_true (h1 q), Bool.or_true]
  rw [decide_eq_false q]; rfl
 have e7 : (!decide (c = 52 ∨ c = 148) || decide (K ≠ 0)) = true := by
  by_cases q : c = 52 ∨ c = 148
  · rw [decide_eq_true (h2 q), Bool.or_true]
  rw [decide_eq_false q]; rfl
 have e8 : (!decide (c = 100 ∨ c = 116) || decide (K ≤ 31)) = true := by
  by_cases q : c = 100 ∨ c = 116
  · rw [decide_eq_true (h3 q), Bool.or_true]
  rw [decide_eq_false q]; rfl
 unfold stB
 rw [a, b, d, e5, e6, e7, e8]
 rfl
theorem kM {k : Int} (h0 : 0 ≤ k) (h1 : k < 16) : ix k = k.toNat := by
 have : k = 0 ∨ k = 1 ∨ k = 2 ∨ k = 3 ∨ k = 4 ∨ k = 5 ∨ k = 6 ∨ k = 7 ∨ k = 8 ∨ k = 9 ∨ k = 10 ∨ k = 11 ∨ k = 12 ∨ k = 13 ∨ k = 14 ∨ k = 15 := by omega
 rcases this with rfl | rfl | rfl | rfl | rfl | rfl | rfl | rfl | rfl | rfl | rfl | rfl | rfl | rfl | rfl | rfl <;> decide
theorem qV (c jt jf k : Int) (hc : c ∈ eQ ∨ c ∈ gB) (pk : List Int) (M : cK) : dh ⟨c, jt, jf, k⟩ pk M = ({ M with a := (opP c M.a (if byX c then M.x else k)).1 }, (opP c M.a (if byX c then M.x else k)).2) := by
 simp only [eQ, gB, List.mem_cons, List.not_mem_nil, or_false] at hc
 rcases hc with h | h <;> rcases h with rfl | rfl | rfl | rfl | rfl | rfl | rfl | rfl | rfl | rfl <;> rfl
theorem tZ (c jt jf k : Int) (hc : c ∈ eQ) (pk : List Int) (M : cK) : dh ⟨c, jt, jf, k⟩ pk M = ({ M with a := (opP c M.a k).1 }, (opP c M.a k).2) := by
 have H : ∀ x ∈ eQ, byX x = false := by decide +kernel
 rw [qV c jt jf k (.inl hc), H c hc]
 rfl
theorem stepX (c jt jf k : Int) (hc : c ∈ gB) (pk : List Int) (M : cK) : dh ⟨c, jt, jf, k⟩ pk M = ({ M with a := (opP (c - 8) M.a M.x).1 }, (opP (c - 8) M.a M.x).2) ∧ c - 8 ∈ eQ ∧ (c = 60 ∨ c = 156 ∨ (c - 8 ≠ 52 ∧ c - 8 ≠ 148)) ∧ opP c M.a M.x = opP (c - 8) M.a M.x := by
 have H : ∀ x ∈ gB, byX x = true ∧ Go.bits .andNot .u16 x 8 = Go.bits .andNot .u16 (x - 8) 8 ∧ x - 8 ∈ eQ ∧ (x = 60 ∨ x = 156 ∨ (x - 8 ≠ 52 ∧ x - 8 ≠ 148)) := by decide +kernel
 obtain ⟨h1, h2, h3, h4⟩ := H c hc
 rw [qV c jt jf k (.inr hc), h1, if_pos rfl, uJ h2]
 exact ⟨rfl, h3, h4, rfl⟩
theorem Snd.at0 {s : St} {M : cK} (h : Snd s M) {v : Int} (e : gS s 0 = some v) : M.a = v := h.wd 0 v e
theorem Snd.at1 {s : St} {M : cK} (h : Snd s M) {v : Int} (e : gS s 1 = some v) : M.x = v := h.wd 1 v e
theorem Snd.atM {s : St} {M : cK} (h : Snd s M) {n : Nat} {v : Int} (e : gS s (2 + n) = some v) : M.m.getD n 0 = v := by
 rw [Nat.add_comm] at e; exact h.wd (n + 2) v e
theorem pg (s : St) (M : cK) (i : S45) (pk : List Int) (hs : Snd s M) (hM : MB M) (hc : i.f0 ∈ eQ) (hk : Rg i.f3) (h52 : (i.f0 = 52 ∨ i.f0 = 148) → i.f3 ≠ 0) (h31 : (i.f0 = 100 ∨ i.f0 = 116) → i.f3 ≤ 31) :
 dh (jF s i) pk M = dh i pk M ∧ stB (jF s i).f0 (jF s i).f3 = true ∧ Rg (jF s i).f3 := by
 obtain ⟨c, jt, jf, k⟩ := i
 dsimp only at hc hk h52 h31
 have hsub : c ∈ stL ∧ c ≠ 2 ∧ c ≠ 3 ∧ c ≠ 96 ∧ c ≠ 97 := by
  have : ∀ x ∈ eQ, x ∈ stL ∧ x ≠ 2 ∧ x ≠ 3 ∧ x ≠ 96 ∧ x ≠ 97 := by decide
  exact this c hc
 rw [tZ c jt jf k hc]
 unfold jF
 cases e : gS s 0 with
 | some a =>
  have ha := hs.at0 e
  subst ha
  dsimp only
  refine ⟨?_, kN (by decide) (by omega) (by omega) (by omega), AQ c _ k hM.a hk⟩
  rw [uK hc hk.1 h52]
  rfl
 | none =>
  dsimp only
  by_cases q : k = 0 ∧ (c = 84 ∨ c = 36)
  · rw [if_pos q]
    obtain ⟨rfl, q⟩ := q
    refine ⟨?_, kN (by decide) (by decide) (by decide) (by decide), Rg.z⟩
    rcases q with rfl | rfl
    · rw [(qR M.a).1]; rfl
    rw [(qR M.a).2]; rfl
  rw [if_neg q]
  refine ⟨tZ c jt jf k hc pk M, kN hsub.1 (fun h => by rcases h with h | h | h | h <;> simp_all) h52 h31, hk⟩
theorem qU (s : St) (M : cK) (i : S45) (pk : List Int) (hs : Snd s M) (hM : MB M) (hc : stB i.f0 i.f3 = true) (hk : Rg i.f3) :
 dh (df s i) pk M = dh i pk M ∧ stB (df s i).f0 (df s i).f3 = true ∧ Rg (df s i).f3 := by
 obtain ⟨hm, h16, h52, h31⟩ := gL hc
 have same : dh i pk M = dh i pk M ∧ stB i.f0 i.f3 = true ∧ Rg i.f3 := ⟨rfl, hc, hk⟩
 unfold df
 by_cases q1 : i.f0 ∈ ldL
 · rw [if_pos q1]
   unfold nY
   by_cases c1 : i.f0 = 96
   · rw [if_pos c1]
     cases e : gS s (2 + i.f3.toNat) with
     | none => exact same
     | some v =>
      have hv := hs.atM e
      obtain ⟨c, jt, jf, k⟩ := i
      dsimp only at c1 hk h16 hv ⊢
      subst c1
      have hix := kM hk.1 (h16 (by omega))
      refine ⟨?_, kN (by decide) (by omega) (by omega) (by omega), hv ▸ hM.m _⟩
      show ({ M with a := v }, (0 : Int)) = ({ M with a := M.m.getD (ix k) 0 }, 0)
      rw [hix, hv]
   rw [if_neg c1]
   by_cases c2 : i.f0 = 97
   · rw [if_pos c2]
     cases e : gS s (2 + i.f3.toNat) with
     | none => exact same
     | some v =>
      have hv := hs.atM e
      obtain ⟨c, jt, jf, k⟩ := i
      dsimp only at c2 hk h16 hv ⊢
      subst c2
      have hix := kM hk.1 (h16 (by omega))
      refine ⟨?_, kN (by decide) (by omega) (by omega) (by omega), hv ▸ hM.m _⟩
      show ({ M with x := v }, (0 : Int)) = ({ M with x := M.m.getD (ix k) 0 }, 0)
      rw [hix, hv]
   rw [if_neg c2]
   by_cases c3 : i.f0 = 64 ∨ i.f0 = 72 ∨ i.f0 = 80
   · rw [if_pos c3]
     cases e : gS s 1 with
     | none => exact same
     | some x =>
      have hv := hs.at1 e
      subst hv
      dsimp only
      by_cases q : M.x + i.f3 ≤ 4294967295
      · rw [if_pos q]
        obtain ⟨c, jt, jf, k⟩ := i
        dsimp only at c3 hk q ⊢
        have hx := hM.x
        have hr : Rg (M.x + k) := ⟨by have := hx.1; have := hk.1; omega, by omega⟩
        have hw : IntKind.u64.wrap (IntKind.u64.wrap k + IntKind.u64.wrap M.x) = IntKind.u64.wrap (M.x + k) := by
         simp only [IntKind.wrap_u64]; omega
        rcases c3 with rfl | rfl | rfl
        · refine ⟨?_, kN (by decide) (by omega) (by omega) (by omega), hr⟩
          show ({ M with a := (rdP pk (IntKind.u64.wrap (M.x + k)) (szP 32)).1 }, (rdP pk (IntKind.u64.wrap (M.x + k)) (szP 32)).2) = ({ M with a := (rdP pk (IntKind.u64.wrap (IntKind.u64.wrap k + IntKind.u64.wrap M.x)) (szP 64)).1 }, (rdP pk (IntKind.u64.wrap (IntKind.u64.wrap k + IntKind.u64.wrap M.x)) (szP 64)).2)
          rw [hw, show szP 32 = szP 64 from rfl]
        · refine ⟨?_, kN (by decide) (by omega) (by omega) (by omega), hr⟩
          show ({ M with a := (rdP pk (IntKind.u64.wrap (M.x + k)) (szP 40)).1 }, (rdP pk (IntKind.u64.wrap (M.x + k)) (szP 40)).2) = ({ M with a := (rdP pk (IntKind.u64.wrap (IntKind.u64.wrap k + IntKind.u64.wrap M.x)) (szP 72)).1 }, (rdP pk (IntKind.u64.wrap (IntKind.u64.wrap k + IntKind.u64.wrap M.x)) (szP 72)).2)
          rw [hw, show szP 40 = szP 72 from rfl]
        refine ⟨?_, kN (by decide) (by omega) (by omega) (by omega), hr⟩
        show ({ M with a := (rdP pk (IntKind.u64.wrap (M.x + k)) (szP 48)).1 }, (rdP pk (IntKind.u64.wrap (M.x + k)) (szP 48)).2) = ({ M with a := (rdP pk (IntKind.u64.wrap (IntKind.u64.wrap k + IntKind.u64.wrap M.x)) (szP 80)).1 }, (rdP pk (IntKind.u64.wrap (IntKind.u64.wrap k + IntKind.u64.wrap M.x)) (szP 80)).2)
        rw [hw, show szP 48 = szP 80 from rfl]
      rw [if_neg q]; exact same
   rw [if_neg c3]
   exact same
 rw [if_neg q1]
 by_cases q2 : i.f0 = 7 ∨ i.f0 = 135
 · rw [if_pos q2]
   unfold nZ
   by_cases c1 : i.f0 = 7
   · rw [if_pos c1]
     cases e : gS s 0 with
     | none => exact same
     | some v =>
      have hv := hs.at0 e
      subst hv
      obtain ⟨c, jt, jf, k⟩ := i
      dsimp only at c1 ⊢
      subst c1
      exact ⟨rfl, kN (by decide) (by omega) (by omega) (by omega), hM.a⟩
   rw [if_neg c1]
   cases e : gS s 1 with
   | none => exact same
   | some v =>
    have hv := hs.at1 e
    subst hv
    obtain ⟨c, jt, jf, k⟩ := i
    dsimp only at c1 q2 ⊢
    obtain rfl := q2.resolve_left c1
    exact ⟨rfl, kN (by decide) (by omega) (by omega) (by omega), hM.x⟩
 rw [if_neg q2]
 by_cases q3 : i.f0 = 132 ∨ i.f0 ∈ eQ ∨ i.f0 ∈ gB
 · rw [if_pos q3]
   unfold qZ
   by_cases c1 : i.f0 = 132
   · rw [if_pos c1]
     cases e : gS s 0 with
     | none => exact same
     | some v =>
      have hv := hs.at0 e
      subst hv
      obtain ⟨c, jt, jf, k⟩ := i
      dsimp only at c1 ⊢
      subst c1
      exact ⟨rfl, kN (by decide) (by omega) (by omega) (by omega), kI _⟩
   rw [if_neg c1]
   by_cases c2 : i.f0 ∈ gB
   · rw [if_pos c2]
     cases e : gS s 1 with
     | none => exact same
     | some y =>
      have hv := hs.at1 e
      subst hv
      obtain ⟨c, jt, jf, k⟩ := i
      dsimp only at c2 ⊢
      obtain ⟨sx, s8, s5, so⟩ := stepX c jt jf k c2 pk M
      by_cases d1 : (c = 108 ∨ c = 124) ∧ M.x > 31
      · rw [if_pos d1, sx]
        refine ⟨?_, kN (by decide) (by decide) (by decide) (by decide), Rg.z⟩
        rw [← so]
        rcases d1 with ⟨rfl | rfl, d⟩
        · rw [(AV d).1]; rfl
        rw [(AV d).2]; rfl
      rw [if_neg d1]
      by_cases d2 : M.x = 0 ∧ (c = 60 ∨ c = 156)
      · rw [if_pos d2]; exact same
      rw [if_neg d2]
      have := pg s M ⟨c - 8, 0, 0, M.x⟩ pk hs hM s8 hM.x (fun h h0 => d2 ⟨h0, by dsimp only at h; omega⟩) (fun h => by dsimp only at h ⊢; omega)
      rw [this.1, sx, tZ _ _ _ _ s8]
      exact ⟨rfl, this.2⟩
   rw [if_neg c2]
   exact pg s M i pk hs hM ((q3.resolve_left c1).resolve_right c2) hk h52 h31
 rw [if_neg q3]; exact same
theorem nG {s : St} {i j : Nat} {o : Option Int} (hi : i < s.length) : gS (s.set i o) j = if i = j then o else gS s j := by
 unfold gS
 rw [List.getD_eq_getElem?_getD, List.getElem?_set]
 by_cases h : i = j
 · subst h; rw [if_pos rfl, if_pos hi, if_pos rfl]; rfl
 rw [if_neg h, if_neg h, List.getD_eq_getElem?_getD]
theorem Snd.setA {s : St} {M : cK} (h : Snd s M) {o : Option Int} {v : Int} (ho : ∀ x, o = some x → v = x) : Snd (s.set 0 o) { M with a := v } := by
 have hl := h.len
 refine ⟨by rw [List.length_set]; exact hl, fun i x e => ?_⟩
 rw [nG (by omega)] at e
 by_cases q : 0 = i
 · subst q; rw [if_pos rfl] at e; exact ho x e
 rw [if_neg q] at e
 have := h.wd i x e
 match i, q with
 | 1, _ => exact this
 | n + 2, _ => exact this
theorem Snd.setX {s : St} {M : cK} (h : Snd s M) {o : Option Int} {v : Int} (ho : ∀ x, o = some x → v = x) : Snd (s.set 1 o) { M with x := v } := by
 have hl := h.len
 refine ⟨by rw [List.length_set]; exact hl, fun i x e => ?_⟩
 rw [nG (by omega)] at e
 by_cases q : 1 = i
 · subst q; rw [if_pos rfl] at e; exact ho x e
 rw [if_neg q] at e
 have := h.wd i x e
 match i, q with
 | 0, _ => exact this
 | n + 2, _ => exact this
theorem Snd.setM {s : St} {M : cK} (h : Snd s M) {o : Option Int} {v : Int} {n : Nat} (hn : n < 16) (hm : M.m.length = 16) (ho : ∀ x, o = some x → v = x) : Snd (s.set (2 + n) o) { M with m := M.m.set n v } := by
 have hl := h.len
 refine ⟨by rw [List.length_set]; exact hl, fun i x e => ?_⟩
 rw [nG (by omega)] at e
 by_cases q : 2 + n = i
 · subst q
   rw [if_pos rfl] at e
   have := ho x e
   rw [Nat.add_comm]
   show (M.m.set n v).getD n 0 = x
   rw [List.getD_eq_getElem?_getD, List.getElem?_set, if_pos rfl, if_pos (by omega)]
   exact this
 rw [if_neg q] at e
 have := h.wd i x e
 match i, q with
 | 0, _ => exact this
 | 1, _ => exact this
 | j + 2, q =>
  show (M.m.set n v).getD j 0 = x
  rw [List.getD_eq_getElem?_getD, List.getElem?_set, if_neg (by omega), ← List.getD_eq_getElem?_getD]
  exact this
structure Wst (s : St) : Prop where
 len : s.length = 18
 rg : ∀ i v, gS s i = some v → Rg v
theorem Wst.set {s : St} (h : Wst s) (i : Nat) {o : Option Int} (ho : ∀ v, o = some v → Rg v) : Wst (s.set i o) := by
 refine ⟨by rw [List.length_set]; exact h.len, fun j v e => ?_⟩
 by_cases hi : i < s.length
 · rw [nG hi] at e
   by_cases q : i = j
   · rw [if_pos q] at e; exact ho v e
   rw [if_neg q] at e; exact h.rg j v e
 rw [List.set_eq_of_length_le (by omega)] at e; exact h.rg j v e
def mkM (s : St) : cK := ⟨(gS s 0).getD 0, (gS s 1).getD 0, (List.range 16).map (fun i => (gS s (i + 2)).getD 0)⟩
theorem Wst.get {s : St} (h : Wst s) (i : Nat) : Rg ((gS s i).getD 0) := by
 cases e : gS s i with
 | none => exact Rg.z
 | some v => exact h.rg i v e
theorem mkM_m (s : St) (j : Nat) (hj : j < 16) : (mkM s).m.getD j 0 = (gS s (j + 2)).getD 0 := by
 unfold mkM
 rw [List.getD_eq_getElem?_getD, List.getElem?_map, List.getElem?_range hj]
 rfl
theorem Wst.mb {s : St} (h : Wst s) : MB (mkM s) := by
 refine ⟨h.get 0, h.get 1, fun j => ?_, by unfold mkM; rw [List.length_map, List.length_range]⟩
 by_cases hj : j < 16
 · rw [mkM_m s j hj]; exact h.get _
 have : (mkM s).m.length = 16 := by unfold mkM; rw [List.length_map, List.length_range]
 rw [List.getD_eq_getElem?_getD, List.getElem?_eq_none (by omega)]
 exact Rg.z
theorem Wst.snd {s : St} (h : Wst s) : Snd s (mkM s) := by
 refine ⟨h.len, fun i v e => ?_⟩
 match i with
 | 0 => show (gS s 0).getD 0 = v; rw [e]; rfl
 | 1 => show (gS s 1).getD 0 = v; rw [e]; rfl
 | j + 2 =>
  have hj : j < 16 := by
   refine Nat.lt_of_not_le fun hj => ?_
   have hl := h.len
   unfold gS at e
   rw [List.getD_eq_getElem?_getD, List.getElem?_eq_none (by omega)] at e
   cases e
  show (mkM s).m.getD j 0 = v
  rw [mkM_m s j hj, e]; rfl
theorem oW {s : St} (h : Wst s) {i : S45} (hc : stB i.f0 i.f3 = true) (hk : Rg i.f3) : stB (df s i).f0 (df s i).f3 = true ∧ Rg (df s i).f3 :=
 (qU s (mkM s) i [] h.snd h.mb hc hk).2
theorem nk {s : St} (h : Wst s) {i : S45} (hk : Rg i.f3) : Wst (dJ s i) := by
 have H : ∀ n v, gS s n = some v → Rg v := h.rg
 unfold dJ
 refine iq (fun _ => h.set _ (fun v e => by cases e; exact hk)) (fun _ => ?_)
 refine iq (fun _ => h.set _ (fun v e => by cases e; exact hk)) (fun _ => ?_)
 refine iq (fun _ => h.set _ (fun v e => H _ _ e)) (fun _ => ?_)
 refine iq (fun _ => h.set _ (fun v e => H _ _ e)) (fun _ => ?_)
 refine iq (fun _ => h.set _ (fun v e => H _ _ e)) (fun _ => ?_)
 refine iq (fun _ => h.set _ (fun v e => H _ _ e)) (fun _ => ?_)
 exact iq (fun _ => h.set _ (fun v e => by cases e)) (fun _ => h.set _ (fun v e => by cases e))
theorem wJ {s : St} {M : cK} (hs : Snd s M) (hM : MB M) {i : S45} (pk : List Int) (hc : stB i.f0 i.f3 = true) (hk : Rg i.f3) : Snd (dJ s i) (dh i pk M).1 := by
 obtain ⟨hm, h16, h52, h31⟩ := gL hc
 obtain ⟨c, jt, jf, k⟩ := i
 dsimp only at hm h16 hk
 have nA : ∀ v : Int, Snd (s.set 0 none) { M with a := v } := fun v => hs.setA (fun x e => by cases e)
 have nX : ∀ v : Int, Snd (s.set 1 none) { M with x := v } := fun v => hs.setX (fun x e => by cases e)
 have al : ∀ c, c ∈ eQ ∨ c ∈ gB → Snd (dJ s ⟨c, jt, jf, k⟩) (dh ⟨c, jt, jf, k⟩ pk M).1 := by
  intro c h
  have e : dJ s ⟨c, jt, jf, k⟩ = s.set 0 none := by
   simp only [eQ, gB, List.mem_cons, List.not_mem_nil, or_false] at h
   rcases h with h | h <;> rcases h with rfl | rfl | rfl | rfl | rfl | rfl | rfl | rfl | rfl | rfl <;> rfl
  rw [qV c jt jf k h, e]
  exact nA _
 simp only [stL, List.mem_cons, List.not_mem_nil, or_false] at hm
 rcases hm with rfl | rfl | rfl | rfl | rfl | rfl | rfl | rfl | rfl | rfl | rfl | rfl | rfl | rfl | rfl | rfl | rfl | rfl | hm
 · exact hs.setA (fun x e => by cases e; rfl)
 · exact nA _
 · exact nA _
 · exact nA _
 · exact nA _
 · exact nA _
 · exact nA _
 · exact nA _
 · exact nA _
 · exact hs.setX (fun x e => by cases e; rfl)
 · exact nX _
 · exact nX _
 · exact nX _
 · show Snd (s.set (2 + k.toNat) (gS s 0)) { M with m := M.m.set (ix k) M.a }
   have := h16 (by omega)
   rw [kM hk.1 this]
   exact hs.setM (by omega) hM.len (fun x e => hs.at0 e)
 · show Snd (s.set (2 + k.toNat) (gS s 1)) { M with m := M.m.set (ix k) M.x }
   have := h16 (by omega)
   rw [kM hk.1 this]
   exact hs.setM (by omega) hM.len (fun x e => hs.at1 e)
 · exact nA _
 · exact hs.setX (fun x e => hs.at0 e)
 · exact hs.setA (fun x e => hs.at1 e)
 refine al c ?_
 simp only [eQ, gB, List.mem_cons, List.not_mem_nil, or_false]
 omega
theorem mU {l : List Int} {n : Nat} {v : Int} (hn : n < l.length) (h : l.getD n 0 = v) : l.set n v = l := by
 have : l[n] = v := by
  rw [List.getD_eq_getElem?_getD, List.getElem?_eq_getElem hn] at h; exact h
 rw [← this, List.set_getElem_self]
theorem idle_ok {s : St} {M : cK} (hs : Snd s M) (hM : MB M) {i : S45} (pk : List Int) (hc : stB i.f0 i.f3 = true) (hk : Rg i.f3) (h : ik s i = true) : dh i pk M = (M, 0) := by
 obtain ⟨hm, h16, h52, h31⟩ := gL hc
 have hlen := hM.len
 obtain ⟨c, jt, jf, k⟩ := i
 dsimp only at hm h16 hk
 unfold ik at h
 dsimp only at h
 by_cases c0 : c = 0
 · subst c0
   rw [if_pos rfl] at h
   have := hs.at0 (of_decide_eq_true h)
   subst this; rfl
 rw [if_neg c0] at h
 by_cases c1 : c = 1
 · subst c1
   rw [if_pos rfl] at h
   have := hs.at1 (of_decide_eq_true h)
   subst this; rfl
 rw [if_neg c1] at h
 by_cases c2 : c = 2
 · subst c2
   rw [if_pos rfl] at h
   simp only [Bool.and_eq_true, decide_eq_true_eq] at h
   have hk6 := h16 (by omega)
   obtain ⟨v, hv⟩ := Option.isSome_iff_exists.1 h.1
   have ha := hs.at0 hv
   have hmm := hs.atM (h.2.trans hv)
   show ({ M with m := M.m.set (ix k) M.a }, (0 : Int)) = (M, 0)
   rw [kM hk.1 hk6, mU (by omega) (hmm.trans ha.symm)]
 rw [if_neg c2] at h
 by_cases c3 : c = 3
 · subst c3
   rw [if_pos rfl] at h
   simp only [Bool.and_eq_true, decide_eq_true_eq] at h
   have hk6 := h16 (by omega)
   obtain ⟨v, hv⟩ := Option.isSome_iff_exists.1 h.1
   have ha := hs.at1 hv
   have hmm := hs.atM (h.2.trans hv)
   show ({ M with m := M.m.set (ix k) M.x }, (0 : Int)) = (M, 0)
   rw [kM hk.1 hk6, mU (by omega) (hmm.trans ha.symm)]
 rw [if_neg c3] at h
 have al : c ∈ eQ → ((c = 4 ∨ c = 20 ∨ c = 68 ∨ c = 164 ∨ c = 100 ∨ c = 116) ∧ k = 0) ∨ ((c = 36 ∨ c = 52) ∧ k = 1) ∨ (c = 84 ∧ k = 4294967295) → dh ⟨c, jt, jf, k⟩ pk M = (M, 0) := by
  intro hc h
  rw [tZ c jt jf k hc, op_idle hM.a h]
 by_cases c4 : c = 4 ∨ c = 20 ∨ c = 68 ∨ c = 164 ∨ c = 100 ∨ c = 116
 · rw [if_pos c4] at h
   refine al ?_ (.inl ⟨c4, of_decide_eq_true h⟩)
   simp only [eQ, List.mem_cons, List.not_mem_nil, or_false]; omega
 rw [if_neg c4] at h
 by_cases c5 : c = 36 ∨ c = 52
 · rw [if_pos c5] at h
   refine al ?_ (.inr (.inl ⟨c5, of_decide_eq_true h⟩))
   simp only [eQ, List.mem_cons, List.not_mem_nil, or_false]; omega
 rw [if_neg c5] at h
 by_cases c6 : c = 84
 · rw [if_pos c6] at h
   refine al ?_ (.inr (.inr ⟨c6, of_decide_eq_true h⟩))
   simp only [eQ, List.mem_cons, List.not_mem_nil, or_false]; omega
 rw [if_neg c6] at h
 cases h
def neI (a b : S45) : Bool := !(decide (a.f0 = b.f0) && decide (a.f1 = b.f1) && decide (a.f2 = b.f2) && decide (a.f3 = b.f3))
theorem AJ {a b : S45} (h : neI a b = false) : a = b := by
 unfold neI at h
 simp only [Bool.not_eq_false', Bool.and_eq_true, decide_eq_true_eq] at h
 obtain ⟨a0, a1, a2, a3⟩ := a
 obtain ⟨b0, b1, b2, b3⟩ := b
 obtain ⟨⟨⟨rfl, rfl⟩, rfl⟩, rfl⟩ := h
 rfl
def bU : St → List S45 → List S45 × St × Bool
 | s, [] => ([], s, false)
 | s, i :: r =>
  if ik s (df s i) = true then ((bU s r).1, (bU s r).2.1, true)
  else (df s i :: (bU (dJ s (df s i)) r).1, (bU (dJ s (df s i)) r).2.1, neI (df s i) i || (bU (dJ s (df s i)) r).2.2)
theorem lL : ∀ (c : List S45) (s : St), Wst s → fE c = true → (∀ x ∈ c, Rg x.f3) → fE (bU s c).1 = true ∧ (∀ x ∈ (bU s c).1, Rg x.f3) ∧ Wst (bU s c).2.1 ∧ (bU s c).1.length ≤ c.length := by
 intro c
 induction c with
 | nil => intro s h _ _; exact ⟨rfl, (fun x hx => absurd hx List.not_mem_nil), h, Nat.le_refl _⟩
 | cons i r ih =>
  intro s h hc hk
  unfold fE at hc
  rw [List.all_cons, Bool.and_eq_true] at hc
  have hk1 := hk i (List.mem_cons_self ..)
  have hk2 : ∀ x ∈ r, Rg x.f3 := fun x hx => hk x (List.mem_cons_of_mem _ hx)
  have hj := oW h hc.1 hk1
  unfold bU
  by_cases q : ik s (df s i) = true
  · rw [if_pos q]
    obtain ⟨a, b, d, e⟩ := ih s h hc.2 hk2
    exact ⟨a, b, d, Nat.le_succ_of_le e⟩
  rw [if_neg q]
  obtain ⟨a, b, d, e⟩ := ih _ (nk h hj.2) hc.2 hk2
  refine ⟨?_, ?_, d, Nat.succ_le_succ e⟩
  · unfold fE
    rw [List.all_cons, Bool.and_eq_true]
    exact ⟨hj.1, a⟩
  intro x hx
  rcases List.mem_cons.1 hx with rfl | hx
  · exact hj.2
  exact b x hx
theorem BP : ∀ (c : List S45) (s : St), (bU s c).2.2 = false → (bU s c).1 = c := by
 intro c
 induction c with
 | nil => intro s _; rfl
 | cons i r ih =>
  intro s h
  unfold bU at h ⊢
  by_cases q : ik s (df s i) = true
  · rw [if_pos q] at h; cases h
  rw [if_neg q] at h ⊢
  simp only [Bool.or_eq_false_iff] at h
  rw [ih _ h.2, AJ h.1]
theorem str_run (pk : List Int) : ∀ (c : List S45) (s : St) (M : cK), Snd s M → MB M → fE c = true → (∀ x ∈ c, Rg x.f3) →
 (bM pk (bU s c).1 M).2.1 = (bM pk c M).2.1 ∧ (bM pk (bU s c).1 M).2.2 ≤ (bM pk c M).2.2 ∧ ((bM pk c M).2.1 = 0 → (bM pk (bU s c).1 M).1 = (bM pk c M).1 ∧ Snd (bU s c).2.1 (bM pk c M).1) := by
 intro c
 induction c with
 | nil => intro s M hs _ _ _; exact ⟨rfl, Nat.le_refl _, fun _ => ⟨rfl, hs⟩⟩
 | cons i r ih =>
  intro s M hs hM hc hk
  unfold fE at hc
  rw [List.all_cons, Bool.and_eq_true] at hc
  have hk1 := hk i (List.mem_cons_self ..)
  have hk2 : ∀ x ∈ r, Rg x.f3 := fun x hx => hk x (List.mem_cons_of_mem _ hx)
  obtain ⟨j1, j2, j3⟩ := qU s M i pk hs hM hc.1 hk1
  have hM1 := ll i pk M hM hk1
  have hs1 := wJ hs hM pk j2 j3
  rw [j1] at hs1
  unfold bU
  by_cases q : ik s (df s i) = true
  · rw [if_pos q]
    have hi := idle_ok hs hM pk j2 j3 q
    rw [j1] at hi
    obtain ⟨a, b, d⟩ := ih s M hs hM hc.2 hk2
    show (bM pk (bU s r).1 M).2.1 = _ ∧ (bM pk (bU s r).1 M).2.2 ≤ _ ∧ (_ → (bM pk (bU s r).1 M).1 = _ ∧ Snd (bU s r).2.1 _)
    rw [show bM pk (i :: r) M = ((bM pk r M).1, (bM pk r M).2.1, (bM pk r M).2.2 + 1) by
     show (if (dh i pk M).2 = 0 then _ else _) = _
     rw [hi]; exact if_pos rfl]
    exact ⟨a, Nat.le_succ_of_le b, d⟩
  rw [if_neg q]
  obtain ⟨a, b, d⟩ := ih (dJ s (df s i)) (dh i pk M).1 hs1 hM1 hc.2 hk2
  show (bM pk (df s i :: (bU (dJ s (df s i)) r).1) M).2.1 = _ ∧ (bM pk (df s i :: (bU (dJ s (df s i)) r).1) M).2.2 ≤ _ ∧ (_ → (bM pk (df s i :: (bU (dJ s (df s i)) r).1) M).1 = _ ∧ Snd (bU (dJ s (df s i)) r).2.1 _)
  unfold bM
  rw [j1]
  by_cases f : (dh i pk M).2 = 0
  · rw [if_pos f, if_pos f]
    exact ⟨a, Nat.succ_le_succ b, d⟩
  rw [if_neg f, if_neg f]
  exact ⟨rfl, Nat.le_refl _, fun h => absurd h f⟩
def tX : List Int := [29, 45, 61, 77]
def hoK (c a k : Int) : Bool := if c = 21 then a == k else if c = 37 then decide (a > k) else if c = 53 then decide (a ≥ k) else Go.bits .and .u32 a k != 0
def jI (s : St) (l : S45) : Option Bool :=
 if l.f0 ∈ tX then none
 else match gS s 0 with
  | some a => some (hoK l.f0 a l.f3)
  | none => if l.f0 = 53 ∧ l.f3 = 0 then some true else if (l.f0 = 37 ∧ l.f3 = 4294967295) ∨ (l.f0 = 69 ∧ l.f3 = 0) then some false else none
def gK (s : St) (l : S45) : S45 × Bool :=
 if l.f0 ∈ tX then (match gS s 1 with | some x => (⟨l.f0 - 8, 0, 0, x⟩, true) | none => (l, false)) else (l, false)
def enF (s : St) (b : S47) : S47 × Bool :=
 if b.f1 = 1 ∧ b.f2.f0 = 22 then (match gS s 0 with | some a => (⟨b.f0, b.f1, ⟨6, 0, 0, a⟩, b.f3, b.f4⟩, true) | none => (b, false))
 else if b.f1 ≠ 3 then (b, false)
 else match jI s (gK s b.f2).1 with
  | none => (⟨b.f0, b.f1, (gK s b.f2).1, b.f3, b.f4⟩, (gK s b.f2).2)
  | some y => (⟨b.f0, 2, ⟨0, 0, 0, 0⟩, if y = true then b.f3 else b.f4, 0⟩, true)
def dF (s : St) (b : S47) : S47 × St × Bool :=
 ((enF (bU s b.f0).2.1 ⟨(bU s b.f0).1, b.f1, b.f2, b.f3, b.f4⟩).1, (bU s b.f0).2.1, (bU s b.f0).2.2 || (enF (bU s b.f0).2.1 ⟨(bU s b.f0).1, b.f1, b.f2, b.f3, b.f4⟩).2)
theorem vS (c jt jf k a x : Int) (b : Bool) (d : Int) (hb : cO.f 10 c = some b) (hd : Go.bits .andNot .u16 c 8 = d) : hoP ⟨c, jt, jf, k⟩ a x = hoK d a (if b = true then x else k) := by
 have hj : ∀ y, (eO.j0 (9 + 1) a y c jt jf k).getD false = hoK d a y := by
  intro y
  simp only [eO.j0, hd]
  unfold hoK
  by_cases h1 : d = 21
  · rw [if_pos h1, if_pos h1]; rfl
  rw [if_neg h1, if_neg h1]
  by_cases h2 : d = 37
  · rw [if_pos h2, if_pos h2]; rfl
  rw [if_neg h2, if_neg h2]
  by_cases h3 : d = 53
  · rw [if_pos h3, if_pos h3]; rfl
  rw [if_neg h3, if_neg h3]; rfl
 unfold hoP eO.f
 dsimp only
 rw [hb]
 cases b
 · exact hj k
 exact hj x
theorem sW (c jt jf k a x : Int) (hc : jmB c = true) (h : c ∉ tX) : hoP ⟨c, jt, jf, k⟩ a x = hoK c a k := by
 have hm : c ∈ ([21, 29, 37, 45, 53, 61, 69, 77] : List Int) := of_decide_eq_true hc
 simp only [tX, List.mem_cons, List.not_mem_nil, or_false] at hm h
 have H : c ∈ ([21, 37, 53, 69] : List Int) := by simp only [List.mem_cons, List.not_mem_nil, or_false]; omega
 have G : ∀ c ∈ ([21, 37, 53, 69] : List Int), cO.f 10 c = some false ∧ Go.bits .andNot .u16 c 8 = c := by decide +kernel
 exact vS c jt jf k a x false c (G c H).1 (G c H).2
theorem hoP_X (c jt jf k a x : Int) (h : c ∈ tX) : hoP ⟨c, jt, jf, k⟩ a x = hoK (c - 8) a x ∧ jmB (c - 8) = true ∧ c - 8 ∉ tX ∧ usK (c - 8) = true := by
 have G : ∀ c ∈ tX, cO.f 10 c = some true ∧ Go.bits .andNot .u16 c 8 = c - 8 ∧ jmB (c - 8) = true ∧ c - 8 ∉ tX ∧ usK (c - 8) = true := by decide +kernel
 exact ⟨vS c jt jf k a x true _ (G c h).1 (G c h).2.1, (G c h).2.2⟩
theorem rM {s : St} {l : S45} (hj : jmB l.f0 = true) (hb : lT l = true) (hr : Rg l.f3) (hw : Wst s) : jmB (gK s l).1.f0 = true ∧ lT (gK s l).1 = true ∧ Rg (gK s l).1.f3 ∧ ((gK s l).2 = false → (gK s l).1 = l) := by
 unfold gK
 by_cases h : l.f0 ∈ tX
 · rw [if_pos h]
   cases e : gS s 1 with
   | none => exact ⟨hj, hb, hr, fun _ => rfl⟩
   | some x =>
    obtain ⟨_, h1, h2, h3⟩ := hoP_X l.f0 0 0 0 0 0 h
    refine ⟨h1, ?_, hw.rg 1 x e, fun h => by cases h⟩
    show (decide ((0 : Int) = 0) && decide ((0 : Int) = 0) && (usK (l.f0 - 8) || decide (x = 0))) = true
    rw [h3]; rfl
 rw [if_neg h]; exact ⟨hj, hb, hr, fun _ => rfl⟩
theorem last_ho {s : St} {M : cK} {l : S45} (hs : Snd s M) (hj : jmB l.f0 = true) : hoP (gK s l).1 M.a M.x = hoP l M.a M.x := by
 unfold gK
 by_cases h : l.f0 ∈ tX
 · rw [if_pos h]
   cases e : gS s 1 with
   | none => rfl
   | some x =>
    have := hs.at1 e
    subst this
    obtain ⟨c, jt, jf, k⟩ := l
    obtain ⟨h0, h1, h2, h3⟩ := hoP_X c jt jf k M.a M.x h
    show hoP ⟨c - 8, 0, 0, M.x⟩ M.a M.x = _
    rw [h0, sW _ _ _ _ _ _ h1 h2]
 rw [if_neg h]
theorem dec_ho {s : St} {M : cK} {l : S45} (hs : Snd s M) (hM : MB M) (hr : Rg l.f3) (hj : jmB l.f0 = true) {y : Bool} (h : jI s l = some y) : hoP l M.a M.x = y := by
 obtain ⟨c, jt, jf, k⟩ := l
 dsimp only at hr hj
 unfold jI at h
 dsimp only at h
 by_cases hx : c ∈ tX
 · rw [if_pos hx] at h; cases h
 rw [if_neg hx] at h
 rw [sW c jt jf k M.a M.x hj hx]
 have ha := hM.a
 cases e : gS s 0 with
 | some a =>
  rw [e] at h
  have := hs.at0 e
  subst this
  exact Option.some.inj h
 | none =>
  rw [e] at h
  dsimp only at h
  by_cases q : c = 53 ∧ k = 0
  · rw [if_pos q] at h
    obtain ⟨rfl, rfl⟩ := q
    rw [← Option.some.inj h]
    exact decide_eq_true ha.1
  rw [if_neg q] at h
  by_cases q2 : (c = 37 ∧ k = 4294967295) ∨ (c = 69 ∧ k = 0)
  · rw [if_pos q2] at h
    rw [← Option.some.inj h]
    rcases q2 with ⟨rfl, rfl⟩ | ⟨rfl, rfl⟩
    · show decide (M.a > 4294967295) = false
      exact decide_eq_false (by have := ha.2; omega)
    show (Go.bits .and .u32 M.a 0 != 0) = false
    rw [and_z]; rfl
  rw [if_neg q2] at h; cases h
inductive OL : Out → Out → Prop
 | fin {v f : Int} {s s' : Nat} : s' ≤ s → OL (.fin v f s) (.fin v f s')
 | go {j : Nat} {M : cK} {s s' : Nat} : s' ≤ s → OL (.go j M s) (.go j M s')
theorem en_out {s : St} {M : cK} {b : S47} (hs : Snd s M) (hM : MB M) (hw : Wst s) (he : jB b = true) (hr : Rg b.f2.f3) {k k' : Nat} (hk : k' ≤ k) : OL (fU b M k) (fU (enF s b).1 M k') := by
 obtain ⟨c0, e1, l, y, n⟩ := b
 rcases eF he with ⟨h1, h2, h3, h4, h5⟩ | ⟨h1, h2, h3⟩ | ⟨h1, h2, h3⟩
 · dsimp only at h1 h2 h3 h4 h5 hr
   subst h1
   unfold enF
   dsimp only
   by_cases q : l.f0 = 22
   · rw [if_pos ⟨rfl, q⟩]
     cases e : gS s 0 with
     | none => exact .fin (by omega)
     | some a =>
      have := hs.at0 e
      subst this
      show OL (.fin (if l.f0 = 6 then l.f3 else M.a) 0 (k + 1)) (.fin M.a 0 (k' + 1))
      rw [if_neg (by omega)]
      exact .fin (by omega)
   rw [if_neg (fun h => q h.2), if_pos (by decide)]
   exact .fin (by omega)
 · dsimp only at h1 h2 h3
   subst h1
   unfold enF
   dsimp only
   rw [if_neg (by omega), if_pos (by decide)]
   exact .go (by omega)
 dsimp only at h1 h2 h3 hr
 subst h1
 unfold enF
 dsimp only
 rw [if_neg (by omega), if_neg (by decide)]
 obtain ⟨q1, q2, q3, _⟩ := rM h2 h3 hr hw
 have hh := last_ho hs h2
 cases e : jI s (gK s l).1 with
 | none =>
  show OL (.go (if hoP l M.a M.x = true then y.toNat else n.toNat) M (k + 1)) (.go (if hoP (gK s l).1 M.a M.x = true then y.toNat else n.toNat) M (k' + 1))
  rw [hh]
  exact .go (by omega)
 | some z =>
  have hz := dec_ho hs hM q3 q1 e
  rw [hh] at hz
  show OL (.go (if hoP l M.a M.x = true then y.toNat else n.toNat) M (k + 1)) (.go (if z = true then y else n).toNat M k')
  rw [hz]
  have : (if z = true then y else n).toNat = if z = true then y.toNat else n.toNat := by split <;> rfl
  rw [this]
  exact .go (by omega)
theorem mr (s : St) (b : S47) : (enF s b).1.f0 = b.f0 := by
 unfold enF
 repeat' split
 all_goals rfl
theorem en_same {s : St} {b : S47} (h : (enF s b).2 = false) (he : jB b = true) (hr : Rg b.f2.f3) (hw : Wst s) : (enF s b).1 = b := by
 have hx := eF he
 unfold enF at h ⊢
 by_cases q : b.f1 = 1 ∧ b.f2.f0 = 22
 · rw [if_pos q] at h ⊢
   cases e : gS s 0 with
   | none => rfl
   | some a => rw [e] at h; cases h
 rw [if_neg q] at h ⊢
 by_cases q3 : b.f1 ≠ 3
 · rw [if_pos q3]
 rw [if_neg q3] at h ⊢
 cases e : jI s (gK s b.f2).1 with
 | none =>
  rw [e] at h
  rcases hx with ⟨h1, _⟩ | ⟨h1, _⟩ | ⟨h1, h2, h3⟩
  · exact absurd (by omega) q3
  · exact absurd (by omega) q3
  show (⟨b.f0, b.f1, (gK s b.f2).1, b.f3, b.f4⟩ : S47) = b
  rw [(rM h2 h3 hr hw).2.2.2 h]
 | some z => rw [e] at h; cases h
theorem en_bok {s : St} {b : S47} {i n : Int} (h : BOk b i n) (hw : Wst s) : BOk (enF s b).1 i n := by
 have hc := mr s b
 refine ⟨by rw [hc]; exact h.code, ?_, ?_, by rw [hc]; exact h.rg, ?_⟩
 all_goals
  obtain ⟨c0, e1, l, y, z⟩ := b
  have hr := h.rl
  have hg := h.goal
  have he := h.ends
  rcases eF h.ends with ⟨h1, h2, h3, h4, h5⟩ | ⟨h1, h2, h3⟩ | ⟨h1, h2, h3⟩
 any_goals
  dsimp only at h1 h2 h3 h4 h5 hr
  subst h1 h4 h5
  unfold enF
  dsimp only
  by_cases q : l.f0 = 22
  · rw [if_pos ⟨rfl, q⟩]
    cases e : gS s 0 with
    | none => first | exact he | exact hg | exact hr
    | some a => first | exact rfl | exact hg | exact hw.rg 0 a e
  rw [if_neg (fun h => q h.2), if_pos (by decide)]
  first | exact he | exact hg | exact hr
 any_goals
  dsimp only at h1 h2 h3 hr
  subst h1 h2 h3
  unfold enF
  dsimp only
  rw [if_neg (by omega), if_pos (by decide)]
  first | exact he | exact hg | exact hr
 all_goals
  dsimp only at h1 h2 h3 hr
  subst h1
  have hy := bD hg (show (3 : Int) ≠ 1 by decide)
  have hn := dL hg rfl
  dsimp only at hy hn
  unfold enF
  dsimp only
  rw [if_neg (by omega), if_neg (by decide)]
  obtain ⟨q1, q2, q3, _⟩ := rM h2 h3 hr hw
  cases e : jI s (gK s l).1 with
  | none =>
   first
   | exact hg
   | exact q3
   | (show jB ⟨c0, 3, (gK s l).1, y, z⟩ = true
      unfold jB
      dsimp only
      rw [if_neg (by decide), if_neg (by decide), if_pos rfl, q1, q2]; rfl)
  | some u =>
   first
   | exact rfl
   | exact Rg.z
   | (show ig ⟨c0, 2, ⟨0, 0, 0, 0⟩, if u = true then y else z, 0⟩ i n = true
      unfold ig
      dsimp only
      have : i < (if u = true then y else z) ∧ (if u = true then y else z) < n := by split <;> assumption
      rw [decide_eq_true this]
      rfl)
theorem jN {s : St} {b : S47} {i n : Int} (h : BOk b i n) (hw : Wst s) : BOk (dF s b).1 i n ∧ Wst (dF s b).2.1 ∧ (dF s b).1.f0.length ≤ b.f0.length := by
 obtain ⟨a, c, d, e⟩ := lL b.f0 s hw h.code h.rg
 have : BOk ⟨(bU s b.f0).1, b.f1, b.f2, b.f3, b.f4⟩ i n := ⟨a, h.ends, h.goal, c, h.rl⟩
 refine ⟨en_bok this d, d, ?_⟩
 show (enF _ _).1.f0.length ≤ _
 rw [mr]
 exact e
theorem lC {s : St} {b : S47} {i n : Int} (h : BOk b i n) (hw : Wst s) (hf : (dF s b).2.2 = false) : (dF s b).1 = b := by
 unfold dF at hf ⊢
 rw [Bool.or_eq_false_iff] at hf
 obtain ⟨a, c, d, e⟩ := lL b.f0 s hw h.code h.rg
 rw [en_same hf.2 h.ends h.rl d, BP _ _ hf.1]
theorem zf {s : St} {M : cK} {b : S47} {i n : Int} (pk : List Int) (h : BOk b i n) (hs : Snd s M) (hM : MB M) (hw : Wst s) :
 OL (gz pk b M) (gz pk (dF s b).1 M) ∧ ((bM pk b.f0 M).2.1 = 0 → Snd (dF s b).2.1 (bM pk b.f0 M).1) := by
 obtain ⟨a, c, d, e⟩ := lL b.f0 s hw h.code h.rg
 obtain ⟨r1, r2, r3⟩ := str_run pk b.f0 s M hs hM h.code h.rg
 refine ⟨?_, fun h0 => (r3 h0).2⟩
 unfold gz
 rw [show (dF s b).1.f0 = (bU s b.f0).1 from mr _ _, r1]
 by_cases h0 : (bM pk b.f0 M).2.1 = 0
 · rw [if_pos h0, if_pos h0, (r3 h0).1]
   exact en_out (b := ⟨(bU s b.f0).1, b.f1, b.f2, b.f3, b.f4⟩) (r3 h0).2 (mE pk _ M hM h.rg) d h.ends h.rl r2
 rw [if_neg h0, if_neg h0]
 exact .fin r2
def kX (s t : St) : St := List.zipWith (fun x y => if x = y then x else none) s t
abbrev AC := List St × List Bool
def kU (A : AC) (tg : Nat) (s : St) : AC := (A.1.set tg (if A.2.getD tg false = true then kX s (A.1.getD tg []) else s), A.2.set tg true)
def sJ (b : S47) (s : St) : St := if b.f2.f0 = 21 then s.set 0 (some b.f2.f3) else s
def nxF (b : S47) (s : St) (A : AC) : AC :=
 if b.f1 = 2 then kU A b.f3.toNat s else if b.f1 = 3 then kU (kU A b.f3.toNat (sJ b s)) b.f4.toNat s else A
def fdL : List S47 → Nat → AC → List S47 × Bool
 | [], _, _ => ([], false)
 | b :: r, n, A =>
  if A.2.getD n false = true then ((dF (A.1.getD n []) b).1 :: (fdL r (n + 1) (nxF (dF (A.1.getD n []) b).1 (dF (A.1.getD n []) b).2.1 A)).1,
   (dF (A.1.getD n []) b).2.2 || (fdL r (n + 1) (nxF (dF (A.1.getD n []) b).1 (dF (A.1.getD n []) b).2.1 A)).2)
  else (b :: (fdL r (n + 1) A).1, (fdL r (n + 1) A).2)
def jm (g : List S47) : List S47 × Bool :=
 fdL g 0 ((List.replicate g.length (List.replicate 18 none)).set 0 (List.replicate 18 (some 0)), (List.replicate g.length false).set 0 true)
structure AOk (A : AC) (L : Nat) : Prop where
 at_ : A.1.length = L
 come : A.2.length = L
 wst : ∀ j, A.2.getD j false = true → Wst (A.1.getD j [])
def Cov (A : AC) (j : Nat) (M : cK) : Prop := A.2.getD j false = true ∧ Snd (A.1.getD j []) M
theorem dK {α : Type} {l : List α} {i j : Nat} {o d : α} (hi : i < l.length) : (l.set i o).getD j d = if i = j then o else l.getD j d := by
 rw [List.getD_eq_getElem?_getD, List.getElem?_set]
 by_cases h : i = j
 · subst h; rw [if_pos rfl, if_pos hi, if_pos rfl]; rfl
 rw [if_neg h, if_neg h, List.getD_eq_getElem?_getD]
theorem rT {s t : St} {i : Nat} {v : Int} (h : gS (kX s t) i = some v) : gS s i = some v ∧ gS t i = some v := by
 unfold gS kX at *
 rw [List.getD_eq_getElem?_getD] at *
 rw [List.getElem?_zipWith] at h
 rw [List.getD_eq_getElem?_getD]
 cases hs : s[i]? with
 | none => rw [hs] at h; simp at h
 | some a =>
  cases ht : t[i]? with
  | none => rw [hs, ht] at h; simp at h
  | some b =>
   rw [hs, ht] at h
   simp only [Option.getD_some] at h ⊢
   by_cases q : a = b
   · rw [if_pos q] at h; exact ⟨h, q ▸ h⟩
   rw [if_neg q] at h; cases h
theorem jJ {s t : St} (h1 : s.length = 18) (h2 : t.length = 18) : (kX s t).length = 18 := by
 unfold kX; rw [List.length_zipWith, h1, h2]; rfl
theorem kV {A : AC} {L : Nat} (h : AOk A L) {tg : Nat} (ht : tg < L) {s : St} (hs : Wst s) : AOk (kU A tg s) L := by
 refine ⟨(List.length_set ..).trans h.at_, (List.length_set ..).trans h.come, fun j hj => ?_⟩
 unfold kU at hj ⊢
 dsimp only at hj ⊢
 rw [dK (by rw [h.come]; exact ht)] at hj
 rw [dK (by rw [h.at_]; exact ht)]
 by_cases q : tg = j
 · rw [if_pos q]
   by_cases c : A.2.getD tg false = true
   · rw [if_pos c]
     have hw := h.wst tg c
     exact ⟨jJ hs.len hw.len, fun i v e => hs.rg i v (rT e).1⟩
   rw [if_neg c]; exact hs
 rw [if_neg q] at hj ⊢; exact h.wst j hj
theorem oN {A : AC} {L : Nat} (h : AOk A L) {tg : Nat} (ht : tg < L) {s : St} (hs : Wst s) {j : Nat} {M : cK} (hc : Cov A j M) : Cov (kU A tg s) j M := by
 unfold Cov kU
 dsimp only
 rw [dK (by rw [h.come]; exact ht), dK (by rw [h.at_]; exact ht)]
 by_cases q : tg = j
 · subst q
   rw [if_pos rfl, if_pos rfl, if_pos hc.1]
   exact ⟨rfl, jJ hs.len hc.2.len, fun i v e => hc.2.wd i v (rT e).2⟩
 rw [if_neg q, if_neg q]; exact hc
theorem rH {A : AC} {L : Nat} (h : AOk A L) {tg : Nat} (ht : tg < L) {s : St} {M : cK} (hs : Snd s M) : Cov (kU A tg s) tg M := by
 unfold Cov kU
 dsimp only
 rw [dK (by rw [h.come]; exact ht), dK (by rw [h.at_]; exact ht), if_pos rfl, if_pos rfl]
 refine ⟨rfl, ?_⟩
 by_cases c : A.2.getD tg false = true
 · rw [if_pos c]
   exact ⟨jJ hs.len (h.wst tg c).len, fun i v e => hs.wd i v (rT e).1⟩
 rw [if_neg c]; exact hs
theorem oZ {b : S47} {s : St} (h : Wst s) (hr : Rg b.f2.f3) : Wst (sJ b s) := by
 unfold sJ
 exact iq (fun _ => h.set _ (fun v e => by cases e; exact hr)) (fun _ => h)
theorem qQ {A : AC} {L : Nat} (h : AOk A L) {b : S47} {i : Nat} (hb : BOk b i L) {s : St} (hs : Wst s) : AOk (nxF b s A) L := by
 unfold nxF
 by_cases h2 : b.f1 = 2
 · rw [if_pos h2]
   have := bD hb.goal (by omega)
   exact kV h (by omega) hs
 rw [if_neg h2]
 by_cases h3 : b.f1 = 3
 · rw [if_pos h3]
   have := bD hb.goal (by omega)
   have := dL hb.goal h3
   exact kV (kV h (by omega) (oZ hs hb.rl)) (by omega) hs
 rw [if_neg h3]; exact h
theorem nx_old {A : AC} {L : Nat} (h : AOk A L) {b : S47} {i : Nat} (hb : BOk b i L) {s : St} (hs : Wst s) {j : Nat} {M : cK} (hc : Cov A j M) : Cov (nxF b s A) j M := by
 unfold nxF
 by_cases h2 : b.f1 = 2
 · rw [if_pos h2]
   have := bD hb.goal (by omega)
   exact oN h (by omega) hs hc
 rw [if_neg h2]
 by_cases h3 : b.f1 = 3
 · rw [if_pos h3]
   have := bD hb.goal (by omega)
   have := dL hb.goal h3
   have hy := oZ hs hb.rl
   exact oN (kV h (by omega) hy) (by omega) hs (oN h (by omega) hy hc)
 rw [if_neg h3]; exact hc
theorem nx_new {A : AC} {L : Nat} (h : AOk A L) {b : S47} {i : Nat} (hb : BOk b i L) {s : St} (hw : Wst s) {pk : List Int} {M M1 : cK} {j k : Nat} (e : gz pk b M = .go j M1 k) (hs : Snd s M1) : Cov (nxF b s A) j M1 := by
 obtain ⟨_, _, q1, q2, q3⟩ := lK hb (by omega) e
 unfold nxF
 rcases q3 with ⟨h2, hj, _⟩ | ⟨h3, hj, _⟩
 · rw [if_pos h2]
   have : j = b.f3.toNat := by omega
   subst this
   exact rH h (by omega) hs
 rw [if_neg (by omega), if_pos h3]
 have hy := bD hb.goal (by omega)
 have hn := dL hb.goal h3
 have hyw := oZ hw hb.rl
 by_cases ho : hoP b.f2 M1.a M1.x = true
 · rw [if_pos ho] at hj
   have : j = b.f3.toNat := by omega
   subst this
   refine oN (kV h (by omega) hyw) (by omega) hw (rH h (by omega) ?_)
   unfold sJ
   by_cases c : b.f2.f0 = 21
   · rw [if_pos c]
     have hk := sW b.f2.f0 b.f2.f1 b.f2.f2 b.f2.f3 M1.a M1.x (by rw [c]; rfl) (by rw [c]; decide)
     have hk2 : hoK b.f2.f0 M1.a b.f2.f3 = true := hk.symm.trans ho
     rw [c] at hk2
     have hae : M1.a = b.f2.f3 := by simpa [hoK] using hk2
     exact hs.setA (v := M1.a) (fun x e => by cases e; exact hae)
   rw [if_neg c]; exact hs
 rw [if_neg ho] at hj
 have : j = b.f4.toNat := by omega
 subst this
 exact rH (kV h (by omega) hyw) (by omega) hs
theorem y9 : ∀ (l : List S47) (n : Nat) (A : AC), (fdL l n A).1.length = l.length := by
 intro l
 induction l with
 | nil => intro n A; rfl
 | cons b r ih =>
  intro n A
  unfold fdL
  split
  · show _ + 1 = _ + 1; rw [ih]
  show _ + 1 = _ + 1; rw [ih]
theorem fd_at (L : Nat) : ∀ (l : List S47) (n : Nat) (A : AC), AOk A L → (∀ (j : Nat) (b : S47), l[j]? = some b → BOk b ((n + j : Nat) : Int) L) →
 ∀ (j : Nat) (b' : S47), (fdL l n A).1[j]? = some b' → ∃ b, l[j]? = some b ∧ (b' = b ∨ ∃ s, Wst s ∧ b' = (dF s b).1) := by
 intro l
 induction l with
 | nil => intro n A _ _ j b' h; simp [fdL] at h
 | cons b r ih =>
  intro n A hA hb j b' h
  have hb0 := hb 0 b rfl
  have hr : ∀ (j : Nat) (b : S47), r[j]? = some b → BOk b ((n + 1 + j : Nat) : Int) L := fun j c hc => by
   have := hb (j + 1) c hc
   rw [show n + 1 + j = n + (j + 1) by omega]; exact this
  unfold fdL at h
  by_cases c : A.2.getD n false = true
  · rw [if_pos c] at h
    have hw := hA.wst n c
    obtain ⟨f1, f2, _⟩ := jN hb0 hw
    cases j with
    | zero =>
     have : (dF (A.1.getD n []) b).1 = b' := Option.some.inj h
     exact ⟨b, rfl, .inr ⟨_, hw, this.symm⟩⟩
    | succ j => exact ih (n + 1) _ (qQ hA f1 f2) hr j b' h
  rw [if_neg c] at h
  cases j with
  | zero => exact ⟨b, rfl, .inl (Option.some.inj h).symm⟩
  | succ j => exact ih (n + 1) _ hA hr j b' h
theorem fd_same (L : Nat) : ∀ (l : List S47) (n : Nat) (A : AC), AOk A L → (∀ (j : Nat) (b : S47), l[j]? = some b → BOk b ((n + j : Nat) : Int) L) → (fdL l n A).2 = false → (fdL l n A).1 = l := by
 intro l
 induction l with
 | nil => intro n A _ _ _; rfl
 | cons b r ih =>
  intro n A hA hb h
  have hb0 := hb 0 b rfl
  have hr : ∀ (j : Nat) (b : S47), r[j]? = some b → BOk b ((n + 1 + j : Nat) : Int) L := fun j c hc => by
   have := hb (j + 1) c hc
   rw [show n + 1 + j = n + (j + 1) by omega]; exact this
  unfold fdL at h ⊢
  by_cases c : A.2.getD n false = true
  · rw [if_pos c] at h ⊢
    have hw := hA.wst n c
    obtain ⟨f1, f2, _⟩ := jN hb0 hw
    rw [Bool.or_eq_false_iff] at h
    show (dF (A.1.getD n []) b).1 :: _ = _
    rw [lC hb0 hw h.1]
    have := h.2
    rw [lC hb0 hw h.1] at this
    rw [lC hb0 hw h.1] at f1
    rw [ih (n + 1) _ (qQ hA f1 f2) hr this]
  rw [if_neg c] at h ⊢
  show b :: _ = _
  rw [ih (n + 1) _ hA hr h]
theorem fd_run {g : List S47} (hg : GOk g) (pk : List Int) : ∀ (d n : Nat) (A : AC), g.length - n = d → n ≤ g.length → AOk A g.length → ∀ g', g'.drop n = (fdL (g.drop n) n A).1 → ∀ (j : Nat) (M : cK) (v f : Int) (t : Nat), n ≤ j → Cov A j M → MB M → Rn g pk j M v f t → ∃ t', t' ≤ t ∧ Rn g' pk j M v f t' := by
 intro d
 induction d with
 | zero =>
  intro n A hd hn hA g' hg' j M v f t hj hc hM hr
  have : g[j]? = none := List.getElem?_eq_none (by omega)
  cases hr with
  | fin hb _ => rw [this] at hb; cases hb
  | go hb _ _ => rw [this] at hb; cases hb
 | succ d ih =>
  intro n A hd hn hA g' hg' j M v f t hj hc hM hr
  have hlt : n < g.length := by omega
  have hb := List.getElem?_eq_getElem hlt
  have hok := hg.all n _ hb
  rw [List.drop_eq_getElem_cons hlt] at hg'
  generalize hbe : g[n] = b at hb hok hg'
  unfold fdL at hg'
  have hhead : g'[n]? = (g'.drop n)[0]? := by rw [List.getElem?_drop, Nat.add_zero]
  have htail : g'.drop (n + 1) = (g'.drop n).drop 1 := by rw [List.drop_drop]
  by_cases cn : A.2.getD n false = true
  · rw [if_pos cn] at hg'
    have hw := hA.wst n cn
    obtain ⟨f1, f2, _⟩ := jN hok hw
    rw [hg'] at hhead htail
    have hA' := qQ hA f1 f2
    by_cases hjn : j = n
    · subst hjn
      obtain ⟨o1, o2⟩ := zf pk hok hc.2 hM hw
      cases hr with
      | fin hb' e =>
       rw [hb] at hb'; cases hb'
       rw [e] at o1
       generalize e' : gz pk (dF (A.1.getD j []) b).1 M = o' at o1
       cases o1 with
       | fin hle => exact ⟨_, hle, .fin hhead e'⟩
      | @go _ _ _ j1 M1 s1 _ _ t1 hb' e hr1 =>
       rw [hb] at hb'; cases hb'
       obtain ⟨q0, q1, q2, q3, _⟩ := lK hok (by omega) e
       rw [e] at o1
       generalize e' : gz pk (dF (A.1.getD j []) b).1 M = o' at o1
       cases o1 with
       | @go _ _ _ s1' hle =>
        have hs1 : Snd (dF (A.1.getD j []) b).2.1 M1 := by rw [q1]; exact o2 q0
        have hM1 : MB M1 := by rw [q1]; exact mE pk _ M hM hok.rg
        obtain ⟨t', ht', hr'⟩ := ih (j + 1) _ (by omega) (by omega) hA' g' htail j1 M1 v f t1 (by omega) (nx_new hA f1 f2 e' hs1) hM1 hr1
        exact ⟨s1' + t', by omega, .go hhead e' hr'⟩
    exact ih (n + 1) _ (by omega) (by omega) hA' g' htail j M v f t (by omega) (nx_old hA f1 f2 hc) hM hr
  rw [if_neg cn] at hg'
  rw [hg'] at hhead htail
  have hjn : j ≠ n := fun h => cn (h ▸ hc.1)
  exact ih (n + 1) _ (by omega) (by omega) hA g' htail j M v f t (by omega) hc hM hr
theorem vI {g : List S47} (h : 0 < g.length) : AOk ((List.replicate g.length (List.replicate 18 none)).set 0 (List.replicate 18 (some 0)), (List.replicate g.length false).set 0 true) g.length ∧ Cov ((List.replicate g.length (List.replicate 18 none)).set 0 (List.replicate 18 (some 0)), (List.replicate g.length false).set 0 true) 0 z16 := by
 have e1 : ((List.replicate g.length (List.replicate 18 (none : Option Int))).set 0 (List.replicate 18 (some 0))).getD 0 [] = List.replicate 18 (some 0) := by
  rw [dK (by rw [List.length_replicate]; exact h), if_pos rfl]
 have hs : ∀ i v, gS (List.replicate 18 (some 0)) i = some v → v = 0 := by
  intro i v e
  unfold gS at e
  rw [List.getD_eq_getElem?_getD, List.getElem?_replicate] at e
  split at e
  · exact (Option.some.inj e).symm
  cases e
 refine ⟨⟨by rw [List.length_set, List.length_replicate], by rw [List.length_set, List.length_replicate], fun j hj => ?_⟩, ?_, ?_⟩
 · dsimp only at hj ⊢
   rw [dK (by rw [List.length_replicate]; exact h)] at hj
   by_cases q : 0 = j
   · subst q
     rw [e1]
     exact ⟨by rw [List.length_replicate], fun i v e => hs i v e ▸ Rg.z⟩
   rw [if_neg q, List.getD_eq_getElem?_getD, List.getElem?_replicate] at hj
   split at hj <;> cases hj
 · dsimp only
   rw [dK (by rw [List.length_replicate]; exact h), if_pos rfl]
 dsimp only
 rw [e1]
 refine ⟨by rw [List.length_replicate], fun i v e => ?_⟩
 rw [hs i v e]
 match i with
 | 0 => rfl
 | 1 => rfl
 | n + 2 =>
  show (List.replicate 16 (0 : Int)).getD n 0 = 0
  rw [List.getD_eq_getElem?_getD, List.getElem?_replicate]
  split <;> rfl
def wI (i : S45) : Nat := if i.f0 ∈ gB ∨ i.f0 = 64 ∨ i.f0 = 72 ∨ i.f0 = 80 then 3 else if i.f0 ∈ eQ ∨ i.f0 = 96 ∨ i.f0 = 97 ∨ i.f0 = 7 ∨ i.f0 = 135 ∨ i.f0 = 132 then 2 else 1
def wC (c : List S45) : Nat := (c.map wI).sum
def wE (n : Int) (b : S47) : Nat :=
 if b.f1 = 1 then (if b.f2.f0 = 22 then 2 else 1) else if b.f1 = 2 then 1 + (n - b.f3).toNat else (if b.f2.f0 ∈ tX then 3 else 2) + (n - b.f3).toNat + (n - b.f4).toNat
def phB (n : Int) (b : S47) : Nat := 1 + wC b.f0 + wE n b
def szB (b : S47) : Nat := b.f0.length + (if b.f1 = 2 then 0 else 1)
def phG (g : List S47) : Nat := (g.map (phB g.length)).sum
def szG (g : List S47) : Nat := (g.map szB).sum
def msG (g : List S47) : Nat := (g.map msB).sum
theorem vz (i : S45) : 1 ≤ wI i := by unfold wI; split; omega; split <;> omega
structure jy (g g' : List S47) (found : Bool) : Prop where
 gok : GOk g'
 run : ∀ pk v f t, Rn g pk 0 z16 v f t → ∃ t', t' ≤ t ∧ Rn g' pk 0 z16 v f t'
 ms : msG g' ≤ msG g
 ph : phG g' ≤ phG g
 less : found = true → phG g' < phG g
 same : found = false → g' = g
theorem simp_w (s : St) (i : S45) (hc : stB i.f0 i.f3 = true) : df s i = i ∨ wI (df s i) < wI i := by
 obtain ⟨c, jt, jf, k⟩ := i
 have one : ∀ a, wI ⟨0, 0, 0, a⟩ = 1 := fun a => rfl
 have onx : ∀ a, wI ⟨1, 0, 0, a⟩ = 1 := fun a => rfl
 have kf : ∀ c jt jf k, c ∈ eQ → wI (jF s ⟨c, jt, jf, k⟩) ≤ 2 ∧ (jF s ⟨c, jt, jf, k⟩ = ⟨c, jt, jf, k⟩ ∨ wI (jF s ⟨c, jt, jf, k⟩) < 2) := by
  intro c jt jf k hc
  have H : ∀ x ∈ eQ, x ∉ gB ∧ x ≠ 64 ∧ x ≠ 72 ∧ x ≠ 80 := by decide
  have h2 : wI ⟨c, jt, jf, k⟩ = 2 := by
   have := H c hc
   unfold wI
   dsimp only
   rw [if_neg (by rintro (h | h | h | h); exact this.1 h; exact this.2.1 h; exact this.2.2.1 h; exact this.2.2.2 h), if_pos (.inl hc)]
  unfold jF
  cases gS s 0 with
  | some a => dsimp only; rw [one]; exact ⟨by omega, .inr (by omega)⟩
  | none =>
   dsimp only
   split
   · rw [one]; exact ⟨by omega, .inr (by omega)⟩
   rw [h2]; exact ⟨Nat.le_refl _, .inl rfl⟩
 unfold df
 dsimp only
 by_cases q1 : c ∈ ldL
 · rw [if_pos q1]
   unfold nY
   dsimp only
   by_cases c1 : c = 96
   · rw [if_pos c1]; subst c1
     cases gS s (2 + k.toNat) with
     | none => exact .inl rfl
     | some v => exact .inr (show (1 : Nat) < 2 by decide)
   rw [if_neg c1]
   by_cases c2 : c = 97
   · rw [if_pos c2]; subst c2
     cases gS s (2 + k.toNat) with
     | none => exact .inl rfl
     | some v => exact .inr (show (1 : Nat) < 2 by decide)
   rw [if_neg c2]
   by_cases c3 : c = 64 ∨ c = 72 ∨ c = 80
   · rw [if_pos c3]
     cases gS s 1 with
     | none => exact .inl rfl
     | some x =>
      dsimp only
      by_cases q : x + k ≤ 4294967295
      · rw [if_pos q]
        rcases c3 with rfl | rfl | rfl <;> exact .inr (show (1 : Nat) < 3 by decide)
      rw [if_neg q]; exact .inl rfl
   rw [if_neg c3]; exact .inl rfl
 rw [if_neg q1]
 by_cases q2 : c = 7 ∨ c = 135
 · rw [if_pos q2]
   unfold nZ
   dsimp only
   by_cases c1 : c = 7
   · rw [if_pos c1]; subst c1
     cases gS s 0 with
     | none => exact .inl rfl
     | some v => exact .inr (show (1 : Nat) < 2 by decide)
   rw [if_neg c1]
   obtain rfl := q2.resolve_left c1
   cases gS s 1 with
   | none => exact .inl rfl
   | some v => exact .inr (show (1 : Nat) < 2 by decide)
 rw [if_neg q2]
 by_cases q3 : c = 132 ∨ c ∈ eQ ∨ c ∈ gB
 · rw [if_pos q3]
   unfold qZ
   dsimp only
   by_cases c1 : c = 132
   · rw [if_pos c1]; subst c1
     cases gS s 0 with
     | none => exact .inl rfl
     | some v => exact .inr (show (1 : Nat) < 2 by decide)
   rw [if_neg c1]
   by_cases c2 : c ∈ gB
   · rw [if_pos c2]
     have h3 : wI ⟨c, jt, jf, k⟩ = 3 := by unfold wI; exact if_pos (.inl c2)
     have H : ∀ x ∈ gB, x - 8 ∈ eQ := by decide
     cases gS s 1 with
     | none => exact .inl rfl
     | some y =>
      dsimp only
      rw [h3]
      by_cases d1 : (c = 108 ∨ c = 124) ∧ y > 31
      · rw [if_pos d1, one]; exact .inr (by omega)
      rw [if_neg d1]
      by_cases d2 : y = 0 ∧ (c = 60 ∨ c = 156)
      · rw [if_pos d2]; exact .inl rfl
      rw [if_neg d2]
      have := (kf (c - 8) 0 0 y (H c c2)).1
      exact .inr (by omega)
   rw [if_neg c2]
   have hk := (q3.resolve_left c1).resolve_right c2
   rcases (kf c jt jf k hk).2 with h | h
   · exact .inl h
   refine .inr ?_
   have H : ∀ x ∈ eQ, x ∉ gB ∧ x ≠ 64 ∧ x ≠ 72 ∧ x ≠ 80 := by decide
   have h2 : wI ⟨c, jt, jf, k⟩ = 2 := by
    have := H c hk
    unfold wI
    dsimp only
    rw [if_neg (by rintro (h | h | h | h); exact this.1 h; exact this.2.1 h; exact this.2.2.1 h; exact this.2.2.2 h), if_pos (.inl hk)]
   omega
 rw [if_neg q3]; exact .inl rfl
theorem tH (a : S45) : neI a a = false := by
 unfold neI
 rw [decide_eq_true rfl, decide_eq_true rfl, decide_eq_true rfl, decide_eq_true rfl]; rfl
theorem str_w : ∀ (c : List S45) (s : St), Wst s → fE c = true → (∀ x ∈ c, Rg x.f3) → wC (bU s c).1 ≤ wC c ∧ ((bU s c).2.2 = true → wC (bU s c).1 < wC c) := by
 intro c
 induction c with
 | nil => intro s _ _ _; exact ⟨Nat.le_refl _, fun h => by cases h⟩
 | cons i r ih =>
  intro s hw hc hk
  unfold fE at hc
  rw [List.all_cons, Bool.and_eq_true] at hc
  have hk1 := hk i (List.mem_cons_self ..)
  have hk2 : ∀ x ∈ r, Rg x.f3 := fun x hx => hk x (List.mem_cons_of_mem _ hx)
  have hj := oW hw hc.1 hk1
  have e : wC (i :: r) = wI i + wC r := by unfold wC; rw [List.map_cons, List.sum_cons]
  have hp := vz i
  unfold bU
  by_cases q : ik s (df s i) = true
  · rw [if_pos q, e]
    have := (ih s hw hc.2 hk2).1
    dsimp only
    exact ⟨by omega, fun _ => by omega⟩
  rw [if_neg q, e]
  obtain ⟨a, b⟩ := ih _ (nk hw hj.2) hc.2 hk2
  have e2 : wC (df s i :: (bU (dJ s (df s i)) r).1) = wI (df s i) + wC (bU (dJ s (df s i)) r).1 := by unfold wC; rw [List.map_cons, List.sum_cons]
  dsimp only
  rw [e2]
  rcases simp_w s i hc.1 with h | h
  · rw [h] at a b ⊢
    refine ⟨by omega, fun hf => ?_⟩
    rw [tH, Bool.false_or] at hf
    have := b hf
    omega
  exact ⟨by omega, fun _ => by omega⟩
theorem en_w {n : Int} {s : St} {b : S47} {i : Int} (h : BOk b i n) (hw : Wst s) : wE n (enF s b).1 ≤ wE n b ∧ ((enF s b).2 = true → wE n (enF s b).1 < wE n b) ∧ msB (enF s b).1 ≤ msB b ∧ szB (enF s b).1 ≤ szB b := by
 obtain ⟨c0, e1, l, y, z⟩ := b
 have hg := h.goal
 rcases eF h.ends with ⟨h1, h2, h3, h4, h5⟩ | ⟨h1, h2, h3⟩ | ⟨h1, h2, h3⟩
 · dsimp only at h1
   subst h1
   unfold enF
   dsimp only
   by_cases q : l.f0 = 22
   · rw [if_pos ⟨rfl, q⟩]
     cases gS s 0 with
     | none => exact ⟨Nat.le_refl _, (fun h => by cases h), Nat.le_refl _, Nat.le_refl _⟩
     | some a =>
      have h1 : wE n ⟨c0, 1, ⟨6, 0, 0, a⟩, y, z⟩ = 1 := rfl
      have h2 : wE n ⟨c0, 1, l, y, z⟩ = 2 := by unfold wE; dsimp only; rw [if_pos rfl, if_pos q]
      dsimp only
      rw [h1, h2]
      exact ⟨by omega, fun _ => by omega, Nat.le_refl _, Nat.le_refl _⟩
   rw [if_neg (fun h => q h.2), if_pos (by decide)]
   exact ⟨Nat.le_refl _, (fun h => by cases h), Nat.le_refl _, Nat.le_refl _⟩
 · dsimp only at h1
   subst h1
   unfold enF
   dsimp only
   rw [if_neg (by omega), if_pos (by decide)]
   exact ⟨Nat.le_refl _, (fun h => by cases h), Nat.le_refl _, Nat.le_refl _⟩
 dsimp only at h1 h2
 subst h1
 unfold enF
 dsimp only
 have hy := bD hg (show (3 : Int) ≠ 1 by decide)
 have hn := dL hg rfl
 dsimp only at hy hn
 rw [if_neg (by omega), if_neg (by decide)]
 have e0 : ∀ l, wE n ⟨c0, 3, l, y, z⟩ = (if l.f0 ∈ tX then 3 else 2) + (n - y).toNat + (n - z).toNat := fun l => rfl
 have H : ∀ x ∈ tX, x - 8 ∉ tX := by decide
 have hl : (if (gK s l).1.f0 ∈ tX then 3 else 2) ≤ (if l.f0 ∈ tX then 3 else 2) ∧ ((gK s l).2 = true → (if (gK s l).1.f0 ∈ tX then 3 else 2) < (if l.f0 ∈ tX then 3 else 2)) := by
  unfold gK
  by_cases q : l.f0 ∈ tX
  · rw [if_pos q]
    cases gS s 1 with
    | none => exact ⟨Nat.le_refl _, fun h => by cases h⟩
    | some x =>
     dsimp only
     rw [if_neg (H _ q), if_pos q]
     exact ⟨by omega, fun _ => by omega⟩
  rw [if_neg q]; exact ⟨Nat.le_refl _, fun h => by cases h⟩
 cases jI s (gK s l).1 with
 | none =>
  dsimp only
  rw [e0, e0]
  exact ⟨by omega, fun h => by have := hl.2 h; omega, Nat.le_refl _, Nat.le_refl _⟩
 | some u =>
  dsimp only
  rw [e0]
  have e2 : wE n ⟨c0, 2, ⟨0, 0, 0, 0⟩, if u = true then y else z, 0⟩ = 1 + (n - (if u = true then y else z)).toNat := rfl
  rw [e2]
  have : (n - (if u = true then y else z)).toNat ≤ (n - y).toNat + (n - z).toNat := by split <;> omega
  have : 2 ≤ (if l.f0 ∈ tX then 3 else 2) := by split <;> omega
  refine ⟨by omega, fun _ => by omega, ?_, ?_⟩
  · unfold msB; dsimp only; rw [if_neg (by decide)]; omega
  unfold szB; dsimp only; rw [if_pos rfl]; omega
theorem zg {n : Int} {s : St} {b : S47} {i : Int} (h : BOk b i n) (hw : Wst s) : phB n (dF s b).1 ≤ phB n b ∧ ((dF s b).2.2 = true → phB n (dF s b).1 < phB n b) ∧ msB (dF s b).1 ≤ msB b ∧ szB (dF s b).1 ≤ szB b := by
 obtain ⟨a, c, d, e⟩ := lL b.f0 s hw h.code h.rg
 obtain ⟨w1, w2⟩ := str_w b.f0 s hw h.code h.rg
 have hb : BOk ⟨(bU s b.f0).1, b.f1, b.f2, b.f3, b.f4⟩ i n := ⟨a, h.ends, h.goal, c, h.rl⟩
 obtain ⟨u1, u2, u3, u4⟩ := en_w hb d
 have ec : (dF s b).1.f0 = (bU s b.f0).1 := mr _ _
 have ee : wE n ⟨(bU s b.f0).1, b.f1, b.f2, b.f3, b.f4⟩ = wE n b := rfl
 have p1 : phB n (dF s b).1 = 1 + wC (bU s b.f0).1 + wE n (dF s b).1 := by unfold phB; rw [ec]
 have p2 : phB n b = 1 + wC b.f0 + wE n b := rfl
 rw [ee] at u1 u2
 have u1' : wE n (dF s b).1 ≤ wE n b := u1
 have m1 : msB ⟨(bU s b.f0).1, b.f1, b.f2, b.f3, b.f4⟩ ≤ msB b := by unfold msB; dsimp only; omega
 have m2 : szB ⟨(bU s b.f0).1, b.f1, b.f2, b.f3, b.f4⟩ ≤ szB b := by unfold szB; dsimp only; omega
 refine ⟨by omega, fun hf => ?_, Nat.le_trans u3 m1, Nat.le_trans u4 m2⟩
 rcases Bool.or_eq_true_iff.1 (show ((bU s b.f0).2.2 || (enF (bU s b.f0).2.1 ⟨(bU s b.f0).1, b.f1, b.f2, b.f3, b.f4⟩).2) = true from hf) with hf | hf
 · have := w2 hf; omega
 have : wE n (dF s b).1 < wE n b := u2 hf
 omega
theorem fd_w (L : Nat) : ∀ (l : List S47) (n : Nat) (A : AC), AOk A L → (∀ (j : Nat) (b : S47), l[j]? = some b → BOk b ((n + j : Nat) : Int) L) →
 ((fdL l n A).1.map (phB L)).sum ≤ (l.map (phB L)).sum ∧ ((fdL l n A).2 = true → ((fdL l n A).1.map (phB L)).sum < (l.map (phB L)).sum) ∧ ((fdL l n A).1.map msB).sum ≤ (l.map msB).sum ∧ ((fdL l n A).1.map szB).sum ≤ (l.map szB).sum
   ∧ ((fdL l n A).1.map (fun b => b.f0.length)).sum ≤ (l.map (fun b => b.f0.length)).sum := by
 intro l
 induction l with
 | nil => intro n A _ _; exact ⟨Nat.le_refl _, (fun h => by cases h), Nat.le_refl _, Nat.le_refl _, Nat.le_refl _⟩
 | cons b r ih =>
  intro n A hA hb
  have hb0 : BOk b ((n : Nat) : Int) L := hb 0 b rfl
  have hr : ∀ (j : Nat) (b : S47), r[j]? = some b → BOk b ((n + 1 + j : Nat) : Int) L := fun j c hc => by
   have := hb (j + 1) c hc
   rw [show n + 1 + j = n + (j + 1) by omega]; exact this
  unfold fdL
  by_cases c : A.2.getD n false = true
  · rw [if_pos c]
    have hw := hA.wst n c
    obtain ⟨f1, f2, f3⟩ := jN hb0 hw
    obtain ⟨w1, w2, w3, w4⟩ := zg hb0 hw
    obtain ⟨i1, i2, i3, i4, i5⟩ := ih (n + 1) _ (qQ hA f1 f2) hr
    simp only [List.map_cons, List.sum_cons]
    refine ⟨by omega, fun hf => ?_, by omega, by omega, by omega⟩
    rcases Bool.or_eq_true_iff.1 hf with hf | hf
    · have := w2 hf; omega
    have := i2 hf; omega
  rw [if_neg c]
  obtain ⟨i1, i2, i3, i4, i5⟩ := ih (n + 1) _ hA hr
  simp only [List.map_cons, List.sum_cons]
  exact ⟨by omega, fun hf => by have := i2 hf; omega, by omega, by omega, by omega⟩
theorem j5 {g : List S47} (hg : GOk g) : jy g (jm g).1 (jm g).2 := by
 obtain ⟨a1, a2⟩ := vI hg.some_
 have hb : ∀ (j : Nat) (b : S47), g[j]? = some b → BOk b ((0 + j : Nat) : Int) g.length := fun j b h => by rw [Nat.zero_add]; exact hg.all j b h
 have hlen : (jm g).1.length = g.length := y9 g 0 _
 obtain ⟨i1, i2, i3, i4, i5⟩ := fd_w g.length g 0 _ a1 hb
 refine ⟨⟨by rw [hlen]; exact hg.some_, by rw [hlen]; exact hg.few, fun j b' h => ?_, Nat.le_trans i5 hg.sum⟩, ?_, i3, ?_, ?_, ?_⟩
 · rw [hlen]
   obtain ⟨b, hb1, h | ⟨s, hs, h⟩⟩ := fd_at g.length g 0 _ a1 hb j b' h
   · subst h; exact hg.all j _ hb1
   subst h; exact (jN (hg.all j _ hb1) hs).1
 · intro pk v f t hr
   exact fd_run hg pk g.length 0 _ (Nat.sub_zero _) (Nat.zero_le _) a1 (jm g).1 rfl 0 z16 v f t (Nat.le_refl _) a2 MB_z hr
 · unfold phG; rw [hlen]; exact i1
 · intro h; unfold phG; rw [hlen]; exact i2 h
 intro h; exact fd_same g.length g 0 _ a1 hb h
def setW (M : cK) (j : Nat) (v : Int) : cK := match j with
 | 0 => { M with a := v }
 | 1 => { M with x := v }
 | n + 2 => { M with m := M.m.set n v }
def wrF (i : S45) : Nat := if i.f0 = 1 ∨ i.f0 = 97 ∨ i.f0 = 129 ∨ i.f0 = 177 ∨ i.f0 = 7 then 1 else if i.f0 = 2 ∨ i.f0 = 3 then 2 + i.f3.toNat else 0
def mvF (i : S45) : Option (Nat × Nat) :=
 if i.f0 = 96 then some (2 + i.f3.toNat, 0) else if i.f0 = 97 then some (2 + i.f3.toNat, 1) else if i.f0 = 2 then some (0, 2 + i.f3.toNat)
 else if i.f0 = 3 then some (1, 2 + i.f3.toNat) else if i.f0 = 7 then some (0, 1) else if i.f0 = 135 then some (1, 0) else none
def flL : List Int := [32, 40, 48, 64, 72, 80, 177, 60, 156]
def rdB (i : S45) (j : Nat) : Bool :=
 (decide (j = 0) && decide (i.f0 = 2 ∨ i.f0 = 132 ∨ i.f0 ∈ eQ ∨ i.f0 ∈ gB ∨ i.f0 = 7 ∨ jmB i.f0 = true ∨ i.f0 = 22))
 || (decide (j = 1) && decide (i.f0 = 64 ∨ i.f0 = 72 ∨ i.f0 = 80 ∨ i.f0 = 3 ∨ i.f0 ∈ gB ∨ i.f0 = 135 ∨ i.f0 ∈ tX))
 || (decide (j = 2 + i.f3.toNat) && decide (i.f0 = 96 ∨ i.f0 = 97))
theorem l5 {M : cK} {i j : Nat} {v : Int} (hi : i < 18) (hm : M.m.length = 16) : wd (setW M i v) j = if i = j then v else wd M j := by
 match i, j with
 | 0, 0 => rfl
 | 0, 1 => rfl
 | 0, j + 2 => rfl
 | 1, 0 => rfl
 | 1, 1 => rfl
 | 1, j + 2 => show M.m.getD j 0 = _; rw [if_neg (by omega)]; rfl
 | i + 2, 0 => rfl
 | i + 2, 1 => show M.x = _; rw [if_neg (by omega)]; rfl
 | i + 2, j + 2 =>
  show (M.m.set i v).getD j 0 = _
  rw [dK (by omega)]
  by_cases q : i = j
  · rw [if_pos q, if_pos (by omega)]
  rw [if_neg q, if_neg (by omega)]; rfl
theorem wD {i : S45} (hc : stB i.f0 i.f3 = true) (hk : Rg i.f3) : wrF i < 18 := by
 have := (gL hc).2.1
 have := hk.1
 unfold wrF
 split
 · omega
 split
 · have := this; have := (gL hc).2.1 (by omega); omega
 omega
def vfF (i : S45) (pk : List Int) (M : cK) : Int × Int := (wd (dh i pk M).1 (wrF i), (dh i pk M).2)
theorem BM {i : S45} (pk : List Int) (M : cK) (hm : M.m.length = 16) (hc : stB i.f0 i.f3 = true) (hk : Rg i.f3) : (dh i pk M).1 = setW M (wrF i) (vfF i pk M).1 := by
 obtain ⟨hmem, h16, h52, h31⟩ := gL hc
 obtain ⟨c, jt, jf, k⟩ := i
 dsimp only at hmem h16 hk
 have al : ∀ c, c ∈ eQ ∨ c ∈ gB → (dh ⟨c, jt, jf, k⟩ pk M).1 = setW M (wrF ⟨c, jt, jf, k⟩) (vfF ⟨c, jt, jf, k⟩ pk M).1 := by
  intro c h
  have e : wrF ⟨c, jt, jf, k⟩ = 0 := by
   simp only [eQ, gB, List.mem_cons, List.not_mem_nil, or_false] at h
   rcases h with h | h <;> rcases h with rfl | rfl | rfl | rfl | rfl | rfl | rfl | rfl | rfl | rfl <;> rfl
  unfold vfF
  rw [e, qV c jt jf k h]
  rfl
 simp only [stL, List.mem_cons, List.not_mem_nil, or_false] at hmem
 rcases hmem with rfl | rfl | rfl | rfl | rfl | rfl | rfl | rfl | rfl | rfl | rfl | rfl | rfl | rfl | rfl | rfl | rfl | rfl | hmem
 · rfl
 · rfl
 · rfl
 · rfl
 · rfl
 · rfl
 · rfl
 · rfl
 · rfl
 · rfl
 · rfl
 · rfl
 · rfl
 · have := h16 (by omega)
   have hix := kM hk.1 this
   show { M with m := M.m.set (ix k) M.a } = setW M (2 + k.toNat) (wd { M with m := M.m.set (ix k) M.a } (2 + k.toNat))
   rw [hix, Nat.add_comm]
   show { M with m := M.m.set k.toNat M.a } = { M with m := M.m.set k.toNat ((M.m.set k.toNat M.a).getD k.toNat 0) }
   rw [dK (by omega), if_pos rfl]
 · have := h16 (by omega)
   have hix := kM hk.1 this
   show { M with m := M.m.set (ix k) M.x } = setW M (2 + k.toNat) (wd { M with m := M.m.set (ix k) M.x } (2 + k.toNat))
   rw [hix, Nat.add_comm]
   show { M with m := M.m.set k.toNat M.x } = { M with m := M.m.set k.toNat ((M.m.set k.toNat M.x).getD k.toNat 0) }
   rw [dK (by omega), if_pos rfl]
 · rfl
 · rfl
 · rfl
 refine al c ?_
 simp only [eQ, gB, List.mem_cons, List.not_mem_nil, or_false]
 omega
theorem jQ {i : S45} (pk : List Int) (M : cK) (hm : M.m.length = 16) (hc : stB i.f0 i.f3 = true) (hk : Rg i.f3) {f t : Nat} (h : mvF i = some (f, t)) : wrF i = t ∧ f < 18 ∧ t < 18 ∧ vfF i pk M = (wd M f, 0) := by
 have h16 := (gL hc).2.1
 obtain ⟨c, jt, jf, k⟩ := i
 dsimp only at h16 hk
 have hk0 := hk.1
 unfold mvF at h
 dsimp only at h
 by_cases c1 : c = 96
 · rw [if_pos c1] at h; subst c1; cases h
   have := h16 (by omega)
   refine ⟨rfl, by omega, by omega, ?_⟩
   show (M.m.getD (ix k) 0, (0 : Int)) = (wd M (2 + k.toNat), 0)
   rw [kM hk0 this, Nat.add_comm]; rfl
 rw [if_neg c1] at h
 by_cases c2 : c = 97
 · rw [if_pos c2] at h; subst c2; cases h
   have := h16 (by omega)
   refine ⟨rfl, by omega, by omega, ?_⟩
   show (M.m.getD (ix k) 0, (0 : Int)) = (wd M (2 + k.toNat), 0)
   rw [kM hk0 this, Nat.add_comm]; rfl
 rw [if_neg c2] at h
 by_cases c3 : c = 2
 · rw [if_pos c3] at h; subst c3; cases h
   have := h16 (by omega)
   refine ⟨rfl, by omega, by omega, ?_⟩
   show (wd { M with m := M.m.set (ix k) M.a } (2 + k.toNat), (0 : Int)) = (M.a, 0)
   rw [kM hk0 this, Nat.add_comm]
   show ((M.m.set k.toNat M.a).getD k.toNat 0, (0 : Int)) = _
   rw [dK (by omega), if_pos rfl]
 rw [if_neg c3] at h
 by_cases c4 : c = 3
 · rw [if_pos c4] at h; subst c4; cases h
   have := h16 (by omega)
   refine ⟨rfl, by omega, by omega, ?_⟩
   show (wd { M with m := M.m.set (ix k) M.x } (2 + k.toNat), (0 : Int)) = (M.x, 0)
   rw [kM hk0 this, Nat.add_comm]
   show ((M.m.set k.toNat M.x).getD k.toNat 0, (0 : Int)) = _
   rw [dK (by omega), if_pos rfl]
 rw [if_neg c4] at h
 by_cases c5 : c = 7
 · rw [if_pos c5] at h; subst c5; cases h; exact ⟨rfl, by omega, by omega, rfl⟩
 rw [if_neg c5] at h
 by_cases c6 : c = 135
 · rw [if_pos c6] at h; subst c6; cases h; exact ⟨rfl, by omega, by omega, rfl⟩
 rw [if_neg c6] at h; cases h
theorem nofault {i : S45} (pk : List Int) (M : cK) (hM : MB M) (hc : stB i.f0 i.f3 = true) (hk : Rg i.f3) (h : i.f0 ∉ flL) : (dh i pk M).2 = 0 := by
 obtain ⟨hmem, h16, h52, h31⟩ := gL hc
 obtain ⟨c, jt, jf, k⟩ := i
 dsimp only at hmem h52 hk h
 have h60 : c ≠ 60 ∧ c ≠ 156 := by simp only [flL, List.mem_cons, List.not_mem_nil, or_false] at h; omega
 by_cases ha : c ∈ eQ
 · rw [tZ c jt jf k ha]; exact uK ha hk.1 h52
 by_cases hx : c ∈ gB
 · obtain ⟨e, e1, e2, e3⟩ := stepX c jt jf k hx pk M
   rw [e]
   exact uK e1 hM.x.1 (fun q => by omega)
 have : c ∈ ([0, 96, 128, 1, 97, 129, 2, 3, 132, 7, 135] : List Int) := by
  have H : ∀ x ∈ stL, x ∈ flL ∨ x ∈ eQ ∨ x ∈ gB ∨ x ∈ ([0, 96, 128, 1, 97, 129, 2, 3, 132, 7, 135] : List Int) := by decide
  rcases H c hmem with q | q | q | q
  · exact absurd q h
  · exact absurd q ha
  · exact absurd q hx
  exact q
 simp only [List.mem_cons, List.not_mem_nil, or_false] at this
 rcases this with rfl | rfl | rfl | rfl | rfl | rfl | rfl | rfl | rfl | rfl | rfl <;> rfl
theorem vf_rd {i : S45} (pk : List Int) {M N : cK} (hm : M.m.length = 16) (hn : N.m.length = 16) (hc : stB i.f0 i.f3 = true) (hk : Rg i.f3) (h : ∀ j, rdB i j = true → wd M j = wd N j) : vfF i pk M = vfF i pk N := by
 obtain ⟨hmem, h16, h52, h31⟩ := gL hc
 have hk0 := hk.1
 obtain ⟨c, jt, jf, k⟩ := i
 dsimp only at hmem h16 hk hk0
 have al : ∀ c, c ∈ eQ ∨ c ∈ gB → (∀ j, rdB ⟨c, jt, jf, k⟩ j = true → wd M j = wd N j) → vfF ⟨c, jt, jf, k⟩ pk M = vfF ⟨c, jt, jf, k⟩ pk N := by
  intro c h hj
  have e : wrF ⟨c, jt, jf, k⟩ = 0 := by
   simp only [eQ, gB, List.mem_cons, List.not_mem_nil, or_false] at h
   rcases h with h | h <;> rcases h with rfl | rfl | rfl | rfl | rfl | rfl | rfl | rfl | rfl | rfl <;> rfl
  have ha : M.a = N.a := hj 0 (by
   unfold rdB; dsimp only
   rw [decide_eq_true (rfl : 0 = 0), decide_eq_true (by rcases h with h | h; exact .inr (.inr (.inl h)); exact .inr (.inr (.inr (.inl h))))]; rfl)
  unfold vfF
  rw [e, qV c jt jf k h, qV c jt jf k h]
  rcases h with h | h
  · have H : ∀ x ∈ eQ, byX x = false := by decide +kernel
    rw [H c h, ha]; rfl
  have hx : M.x = N.x := hj 1 (by
   unfold rdB; dsimp only
   rw [decide_eq_true (rfl : 1 = 1), decide_eq_true (show c = 64 ∨ c = 72 ∨ c = 80 ∨ c = 3 ∨ c ∈ gB ∨ c = 135 ∨ c ∈ tX from .inr (.inr (.inr (.inr (.inl h)))))]
   simp)
  rw [ha, hx]; rfl
 simp only [stL, List.mem_cons, List.not_mem_nil, or_false] at hmem
 have g0 : rdB ⟨c, jt, jf, k⟩ 0 = true → M.a = N.a := h 0
 have g1 : rdB ⟨c, jt, jf, k⟩ 1 = true → M.x = N.x := h 1
 rcases hmem with rfl | rfl | rfl | rfl | rfl | rfl | rfl | rfl | rfl | rfl | rfl | rfl | rfl | rfl | rfl | rfl | rfl | rfl | hmem
 · rfl
 · rfl
 · rfl
 · rfl
 · have hx := g1 rfl
   show ((rdP pk (IntKind.u64.wrap (IntKind.u64.wrap k + IntKind.u64.wrap M.x)) (szP 64)).1, _) = ((rdP pk (IntKind.u64.wrap (IntKind.u64.wrap k + IntKind.u64.wrap N.x)) (szP 64)).1, _)
   rw [hx]
   show _ = (_, (rdP pk (IntKind.u64.wrap (IntKind.u64.wrap k + IntKind.u64.wrap N.x)) (szP 64)).2)
   rw [← hx]; rfl
 · have hx := g1 rfl
   show ((rdP pk (IntKind.u64.wrap (IntKind.u64.wrap k + IntKind.u64.wrap M.x)) (szP 72)).1, _) = ((rdP pk (IntKind.u64.wrap (IntKind.u64.wrap k + IntKind.u64.wrap N.x)) (szP 72)).1, _)
   rw [hx]
   show _ = (_, (rdP pk (IntKind.u64.wrap (IntKind.u64.wrap k + IntKind.u64.wrap N.x)) (szP 72)).2)
   rw [← hx]; rfl
 · have hx := g1 rfl
   show ((rdP pk (IntKind.u64.wrap (IntKind.u64.wrap k + IntKind.u64.wrap M.x)) (szP 80)).1, _) = ((rdP pk (IntKind.u64.wrap (IntKind.u64.wrap k + IntKind.u64.wrap N.x)) (szP 80)).1, _)
   rw [hx]
   show _ = (_, (rdP pk (IntKind.u64.wrap (IntKind.u64.wrap k + IntKind.u64.wrap N.x)) (szP 80)).2)
   rw [← hx]; rfl
 · obtain ⟨_, _, _, e⟩ := jQ (i := ⟨96, jt, jf, k⟩) (f := 2 + k.toNat) (t := 0) pk M hm hc hk rfl
   obtain ⟨_, _, _, e2⟩ := jQ (i := ⟨96, jt, jf, k⟩) (f := 2 + k.toNat) (t := 0) pk N hn hc hk rfl
   rw [e, e2, h (2 + k.toNat) (by unfold rdB; simp)]
 · rfl
 · rfl
 · obtain ⟨_, _, _, e⟩ := jQ (i := ⟨97, jt, jf, k⟩) (f := 2 + k.toNat) (t := 1) pk M hm hc hk rfl
   obtain ⟨_, _, _, e2⟩ := jQ (i := ⟨97, jt, jf, k⟩) (f := 2 + k.toNat) (t := 1) pk N hn hc hk rfl
   rw [e, e2, h (2 + k.toNat) (by unfold rdB; simp)]
 · rfl
 · rfl
 · obtain ⟨_, _, _, e⟩ := jQ (i := ⟨2, jt, jf, k⟩) (f := 0) (t := 2 + k.toNat) pk M hm hc hk rfl
   obtain ⟨_, _, _, e2⟩ := jQ (i := ⟨2, jt, jf, k⟩) (f := 0) (t := 2 + k.toNat) pk N hn hc hk rfl
   rw [e, e2, h 0 (by unfold rdB; simp)]
 · obtain ⟨_, _, _, e⟩ := jQ (i := ⟨3, jt, jf, k⟩) (f := 1) (t := 2 + k.toNat) pk M hm hc hk rfl
   obtain ⟨_, _, _, e2⟩ := jQ (i := ⟨3, jt, jf, k⟩) (f := 1) (t := 2 + k.toNat) pk N hn hc hk rfl
   rw [e, e2, h 1 (by unfold rdB; simp)]
 · have := g0 rfl
   show (IntKind.u32.wrap (-M.a), (0 : Int)) = (IntKind.u32.wrap (-N.a), 0)
   rw [this]
 · have := g0 rfl
   show (M.a, (0 : Int)) = (N.a, 0)
   rw [this]
 · have := g1 rfl
   show (M.x, (0 : Int)) = (N.x, 0)
   rw [this]
 refine al c ?_ h
 simp only [eQ, gB, List.mem_cons, List.not_mem_nil, or_false]
 omega
end Go.Proofs.Ytdkalnkplgfgoaa.Ln
