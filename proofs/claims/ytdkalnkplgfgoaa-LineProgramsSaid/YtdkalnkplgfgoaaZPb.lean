/- Lemmas and walks for the statements of the texts ZPZ..: the declarations that they need, taken together by a program of this session. Conditions: as each says. -/
import Derived.Deep.RegionHeld3
import Derived.BigRegion
import Derived.Test.YtdkalnkplgfgoaaZPa
namespace Go.Proofs.Ytdkalnkplgfgoaa.Ln
open Go.RowKit Go.Maps Go.Proofs.YtdkalnkplgfgoaaW.PrintWords Go.Proofs.YtdkalnkplgfgoaaW.PrintLast Go.Proofs.YtdkalnkplgfgoaaW.PrintMore Go.Proofs.Ytdkalnkplgfgoaa.PA
set_option linter.unusedVariables false
set_option linter.unusedSimpArgs false
theorem lawI : Keyed Try.prog 3 := int_keyed Try.underlying3
theorem zeroI (w : World) : (zeroValue 3).run Try.prog w = .ok (.int .i64 0) w := by kernel_rfl
theorem zeroF (w : World) : (zeroValue 121).run Try.prog w = .ok (.agg #[.bool false, .bool false]) w := by kernel_rfl
abbrev MI (w : World) (b n : Nat) (f : Int → Int) : Prop := MapF Try.prog 3 (.int .i64 0) w b n (fun x => .int .i64 (f x))
def farV (p : Bool × Bool) : Value := .agg #[.bool p.1, .bool p.2]
abbrev MF (w : World) (b n : Nat) (f : Int → Bool × Bool) : Prop := MapF Try.prog 3 (.agg #[.bool false, .bool false]) w b n (fun x => farV (f x))
theorem MI_look {w : World} {b n : Nat} {f : Int → Int} (h : MI w b n f) (a : Int) (ha : (Lit.int .i64 a).wf = true) : (Instr.lookup 66 (.map (some b)) (.int .i64 a) false).run Try.prog w = .ok (.int .i64 (f a)) w :=
  h.look lawI Try.underlying3 Try.underlying66 zeroI a ha
theorem MF_look {w : World} {b n : Nat} {f : Int → Bool × Bool} (h : MF w b n f) (a : Int) (ha : (Lit.int .i64 a).wf = true) : (Instr.lookup 67 (.map (some b)) (.int .i64 a) false).run Try.prog w = .ok (.agg #[.bool (f a).1, .bool (f a).2]) w :=
  h.look lawI Try.underlying3 Try.underlying67 zeroF a ha
theorem far_f0 (x y : Bool) (w : World) : (Instr.field 121 (.agg #[.bool x, .bool y]) 0).run Try.prog w = .ok (.bool x) w := by kernel_rfl
theorem far_f1 (x y : Bool) (w : World) : (Instr.field 121 (.agg #[.bool x, .bool y]) 1).run Try.prog w = .ok (.bool y) w := by kernel_rfl
def tailF (b : S47) (a : Int) (f : Bool × Bool) : Int :=
  if b.f1 = 2 ∧ b.f3 = a then 0 else if b.f1 = 3 then 1 + (if f.1 then 1 else 0) + (if f.2 then 1 else 0) else 1
set_option maxHeartbeats 1000000 in
set_option maxRecDepth 100000 in
theorem tail_calls (g : List S47) (B c : Nat) (A : Option Addr) (vc vo vp : Value) (bA bF nA nF : Nat) (after : Int → Int) (fars : Int → Bool × Bool) (i : Int) (w : World)
    (hB : w.heap[B]? = some (.cells #[vc, .slice A g.length c, vo, .map (some bA), vp, .map (some bF)] 72 (0, 0))) (HG : Kd.C k47 w A g.length g)
    (h0 : 0 ≤ i) (h1 : i < (g.length : Int)) (hA : MI w bA nA after) (hF : MF w bF nF fars) :
    Calls Try.prog 77 #[.pointer (some ⟨B, 0, none⟩), .int .i64 i] w fun e w' => e = .returned (.int .i64 (tailF (rd_T47 g i) (after i) (fars i))) ∧ Below w.heap.size w w' := by
  have hlen := Kd.C_max HG
  have hwf : (Lit.int .i64 i).wf = true := WalkArith.wf_i64 (by omega)
  obtain ⟨ad, A0, c0, rfl, x0, x1, x2, x3, x4, x5, x6, x7, hl, hi⟩ := at_T47 HG i h0 h1
  have b1 : w.cell? ⟨B, 1, none⟩ = some (.slice (some ad) g.length c) := (blk_cell hB 1).trans rfl
  have b3 : w.cell? ⟨B, 3, none⟩ = some (.map (some bA)) := (blk_cell hB 3).trans rfl
  have b5 : w.cell? ⟨B, 5, none⟩ = some (.map (some bF)) := (blk_cell hB 5).trans rfl
  have lA : ∀ o n, (Instr.lookup 66 (.map (some bA)) (.int .i64 i) false).run Try.prog ((w.alloc o).drewN n) = .ok (.int .i64 (after i)) ((w.alloc o).drewN n) := fun o n => MI_look (hA.below (pw_below_drewN (below_alloc (Below.refl _ _) o) n)) i hwf
  have lF : ∀ o n, (Instr.lookup 67 (.map (some bF)) (.int .i64 i) false).run Try.prog ((w.alloc o).drewN n) = .ok (.agg #[.bool (fars i).1, .bool (fars i).2]) ((w.alloc o).drewN n) := fun o n => MF_look (hF.below (pw_below_drewN (below_alloc (Below.refl _ _) o) n)) i hwf
  have hBl := blk_lt hB
  clear hA hF HG hi hl hB
  generalize after i = aft at *
  generalize hp : fars i = p at *
  clear hp
  obtain ⟨fy, fn⟩ := p
  dsimp only at lF
  by_cases c1 : (rd_T47 g i).f1 = 2
  · have c1b : ((rd_T47 g i).f1 == 2) = true := beq_iff_eq.mpr c1
    have c3b : ((rd_T47 g i).f1 == 3) = false := beq_eq_false_iff_ne.mpr (by omega)
    by_cases c2 : (rd_T47 g i).f3 = aft
    · have e : tailF (rd_T47 g i) aft (fy, fn) = 0 := if_pos ⟨c1, c2⟩
      have c2b : ((rd_T47 g i).f3 == aft) = true := beq_iff_eq.mpr c2
      rw [e]
      clear c1 c2 e
      go_enter Try.func77, Try.ntmps77
      go_wp2
      go_quiet (fail)
      go_wp2
      go_ret
      exact ⟨rfl, pw_below_drewN (below_alloc (Below.refl _ _) _) _⟩
    · have e : tailF (rd_T47 g i) aft (fy, fn) = 1 := by unfold tailF; rw [if_neg (fun h => c2 h.2), if_neg (by omega)]
      have c2b : ((rd_T47 g i).f3 == aft) = false := beq_eq_false_iff_ne.mpr c2
      rw [e]
      clear c1 c2 e
      go_enter Try.func77, Try.ntmps77
      go_wp2
      go_quiet (fail)
      go_wp2
      go_ret
      exact ⟨rfl, pw_below_drewN (below_alloc (Below.refl _ _) _) _⟩
  · have c1b : ((rd_T47 g i).f1 == 2) = false := beq_eq_false_iff_ne.mpr c1
    by_cases c3 : (rd_T47 g i).f1 = 3
    · have c3b : ((rd_T47 g i).f1 == 3) = true := beq_iff_eq.mpr c3
      have e : tailF (rd_T47 g i) aft (fy, fn) = 1 + (if fy then 1 else 0) + (if fn then 1 else 0) := by unfold tailF; rw [if_neg (fun h => c1 h.1), if_pos c3]
      rw [e]
      clear c1 c3 e
      have k0 := far_f0
      have k1 := far_f1
      cases fy <;> cases fn
      all_goals
        go_enter Try.func77, Try.ntmps77
        go_wp2
        go_quiet (fail)
        go_wp2
        go_ret
        exact ⟨rfl, pw_below_drewN (below_alloc (Below.refl _ _) _) _⟩
    · have c3b : ((rd_T47 g i).f1 == 3) = false := beq_eq_false_iff_ne.mpr c3
      have e : tailF (rd_T47 g i) aft (fy, fn) = 1 := by unfold tailF; rw [if_neg (fun h => c1 h.1), if_neg c3]
      rw [e]
      clear c1 c3 e
      go_enter Try.func77, Try.ntmps77
      go_wp2
      go_quiet (fail)
      go_wp2
      go_ret
      exact ⟨rfl, pw_below_drewN (below_alloc (Below.refl _ _) _) _⟩
end Go.Proofs.Ytdkalnkplgfgoaa.Ln
namespace Go.Proofs.Ytdkalnkplgfgoaa.Ln
open Go.RowKit Go.Maps Go.Proofs.YtdkalnkplgfgoaaW.PrintWords Go.Proofs.YtdkalnkplgfgoaaW.PrintLast Go.Proofs.YtdkalnkplgfgoaaW.PrintMore Go.Proofs.Ytdkalnkplgfgoaa.PA
set_option linter.unusedVariables false
set_option linter.unusedSimpArgs false
/-- What was there is as it was, but for the blocks of S. -/
structure Kp (S : Nat → Prop) (w w1 : World) : Prop where
  os : w1.os = w.os
  tape : w1.tape = w.tape
  output : w1.output = w.output
  size : w.heap.size ≤ w1.heap.size
  block : ∀ k, k < w.heap.size → ¬ S k → w1.heap[k]? = w.heap[k]?
theorem Kp.refl (S : Nat → Prop) (w : World) : Kp S w w := ⟨rfl, rfl, rfl, Nat.le_refl _, fun _ _ _ => rfl⟩
theorem Kp.trans {S : Nat → Prop} {w w1 w2 : World} (h : Kp S w w1) (k : Kp S w1 w2) : Kp S w w2 :=
  ⟨k.os.trans h.os, k.tape.trans h.tape, k.output.trans h.output, Nat.le_trans h.size k.size, fun i hi hS => (k.block i (Nat.lt_of_lt_of_le hi h.size) hS).trans (h.block i hi hS)⟩
theorem Kp.below {S : Nat → Prop} {w w1 w2 : World} (h : Kp S w w1) (k : Below w1.heap.size w1 w2) : Kp S w w2 :=
  ⟨k.os.trans h.os, k.tape.trans h.tape, k.output.trans h.output, Nat.le_trans h.size k.size, fun i hi hS => (k.block i (Nat.lt_of_lt_of_le hi h.size)).trans (h.block i hi hS)⟩
theorem Kp.grown {S : Nat → Prop} {w w1 w2 : World} {r : Option Nat} (h : Kp S w w1) (k : w1.grownBy w2 r) (hr : ∀ b, r = some b → S b ∨ w.heap.size ≤ b) : Kp S w w2 :=
  ⟨k.os.trans h.os, k.tape.trans h.tape, k.output.trans h.output, Nat.le_trans h.size k.size, fun i hi hS => (k.block i (Nat.lt_of_lt_of_le hi h.size) (fun e => by rcases hr i e.symm with h1 | h1; exact hS h1; omega)).trans (h.block i hi hS)⟩
theorem Kp.set {S : Nat → Prop} {w w1 : World} {g : Nat} (h : Kp S w w1) (hg : S g ∨ w.heap.size ≤ g) (j : Nat) (u : Value) : Kp S w (w1.setCell ⟨g, j, none⟩ u) := by
  have b := (Below.refl g w1).setCell (Nat.le_refl g) (p := ⟨g, j, none⟩) u
  refine ⟨b.os.trans h.os, b.tape.trans h.tape, b.output.trans h.output, Nat.le_trans h.size b.size, fun i hi hS => ?_⟩
  have hne : i ≠ g := fun e => by subst e; rcases hg with h1 | h1; exact hS h1; omega
  exact (Below.heap_setCell w1 ⟨g, j, none⟩ u i hne).trans (h.block i hi hS)
theorem Kp.toBelow {S : Nat → Prop} {w0 w w1 : World} {B : Nat} (hb : Below B w0 w) (h : Kp S w w1) (hB : B ≤ w.heap.size) (hS : ∀ k, S k → B ≤ k) : Below B w0 w1 :=
  ⟨h.os.trans hb.os, h.tape.trans hb.tape, h.output.trans hb.output, Nat.le_trans hb.size h.size, fun i hi => (h.block i (by omega) (fun s => by have := hS i s; omega)).trans (hb.block i hi)⟩
/-- The places of the blocks of a list, from n on. -/
def plGo (g : List S47) (after : Int → Int) (fars : Int → Bool × Bool) : List Int → Int → (Int → Int) → (Int → Int)
  | [], _, p => p
  | i :: r, n, p => plGo g after fars r (wrap64 (n + wrap64 (((rd_T47 g i).f0.length : Int) + tailF (rd_T47 g i) (after i) (fars i)))) (upd p i n)
/-- .. and where it ends. -/
def frOf (b : S47) (pl : Int → Int) (i : Int) (f : Bool × Bool) : Bool × Bool :=
  (f.1 || decide (wrap64 (wrap64 (pl b.f3 - wrap64 (pl i + (b.f0.length : Int))) - 1) > 255), f.2 || decide (wrap64 (wrap64 (pl b.f4 - wrap64 (pl i + (b.f0.length : Int))) - 1) > 255))
def frGo (g : List S47) (pl : Int → Int) : List Int → (Int → Bool × Bool) → Bool → (Int → Bool × Bool) × Bool
  | [], f, b => (f, b)
  | i :: r, f, b => if (rd_T47 g i).f1 = 3 then (if frOf (rd_T47 g i) pl i (f i) = f i then frGo g pl r f b else frGo g pl r (upd f i (frOf (rd_T47 g i) pl i (f i))) true) else frGo g pl r f b
/-- The writer, as it lies in w: what was there ahead of the call (w0) is as it was. -/
structure Wr (w0 w : World) (g : List S47) (A : Option Addr) (c B : Nat) (vc vo vp : Value) (order : List Int) (bA bF nA nF : Nat) (after : Int → Int) (fars : Int → Bool × Bool) : Prop where
  below : Below w0.heap.size w0 w
  blk : w.heap[B]? = some (.cells #[vc, .slice A g.length c, vo, .map (some bA), vp, .map (some bF)] 72 (0, 0))
  graph : Kd.C k47 w0 A g.length g
  ord : (Kd.int .i64).R 3 w w0.heap.size (fun _ => True) vo order
  ordin : ∀ i, i ∈ order → 0 ≤ i ∧ i < (g.length : Int)
  goin : ∀ i, i ∈ order → (Lit.int .i64 (rd_T47 g i).f3).wf = true ∧ (Lit.int .i64 (rd_T47 g i).f4).wf = true
  mA : MI w bA nA after
  mF : MF w bF nF fars
  hB : w0.heap.size ≤ B
  hA : w0.heap.size ≤ bA
  hF : w0.heap.size ≤ bF
  ne : bA ≠ bF
theorem R_kp {α : Type} {d : Kd α} {e : Nat} {w wr : World} {base : Nat} {v : Value} {xs : List α} {S : Nat → Prop} (h : d.R e w base (fun _ => True) v xs)
    (hS : ∀ k, S k → (∃ cs t fr, w.heap[k]? = some (.cells cs t fr) ∧ ∀ q, q ∈ e :: d.E → q ≠ t) ∨ (∃ es c, w.heap[k]? = some (.map es c))) (kp : Kp S w wr) : d.R e wr base (fun _ => True) v xs := by
  refine Kd.R_mono (Kd.R_step (Kd.R_mono (ok' := fun k => ¬ S k) (Kd.R_bound h) ?_) (fun k hok hlt => kp.block k hlt hok)) (fun _ _ => trivial)
  rintro k ⟨_, _, _, q, hq, cells, hc⟩ hs
  rcases hS k hs with ⟨cs, t, fr, h1, h2⟩ | ⟨es, c, h1⟩
  · rw [hc] at h1
    injection h1 with h1
    injection h1 with _ h1
    exact h2 q hq h1
  · rw [hc] at h1
    cases h1
section
variable {w0 w wr : World} {g : List S47} {A : Option Addr} {c B : Nat} {vc vo vp vp' : Value} {order : List Int} {bA bF nA nF nF' : Nat} {after : Int → Int} {fars fars' : Int → Bool × Bool}
theorem Wr.kinds (H : Wr w0 w g A c B vc vo vp order bA bF nA nF after fars) {E : List Nat} (hE : ∀ q, q ∈ E → q ≠ 72) :
    ∀ k, (k = B ∨ k = bF) → (∃ cs t fr, w.heap[k]? = some (.cells cs t fr) ∧ ∀ q, q ∈ E → q ≠ t) ∨ (∃ es c, w.heap[k]? = some (.map es c)) := by
  rintro k (rfl | rfl)
  · exact .inl ⟨_, _, _, H.blk, hE⟩
  · exact .inr H.mF.ismap
theorem Wr.mA_ne (H : Wr w0 w g A c B vc vo vp order bA bF nA nF after fars) : bA ≠ B := by
  obtain ⟨es, c, h⟩ := H.mA.ismap
  rintro rfl
  rw [H.blk] at h
  cases h
theorem Wr.move (H : Wr w0 w g A c B vc vo vp order bA bF nA nF after fars) (kp : Kp (fun k => k = B ∨ k = bF) w wr)
    (blk : wr.heap[B]? = some (.cells #[vc, .slice A g.length c, vo, .map (some bA), vp', .map (some bF)] 72 (0, 0))) (mF : MF wr bF nF' fars') : Wr w0 wr g A c B vc vo vp' order bA bF nA nF' after fars' where
  below := kp.toBelow H.below H.below.size (by rintro k (rfl | rfl); exact H.hB; exact H.hF)
  blk := blk
  graph := H.graph
  ord := R_kp H.ord (H.kinds (by decide)) kp
  ordin := H.ordin
  goin := H.goin
  mA := H.mA.move (kp.block bA H.mA.lt (by rintro (h | h); exact H.mA_ne h; exact H.ne h))
  mF := mF
  hB := H.hB
  hA := H.hA
  hF := H.hF
  ne := H.ne
theorem Wr.stay (H : Wr w0 w g A c B vc vo vp order bA bF nA nF after fars) (hb : Below w.heap.size w wr) : Wr w0 wr g A c B vc vo vp order bA bF nA nF after fars :=
  H.move ((Kp.refl _ w).below hb) (blk_below H.blk hb) (H.mF.below hb)
theorem kp1 {w w1 : World} {B bF : Nat} (h : Kp (fun k => k = B) w w1) : Kp (fun k => k = B ∨ k = bF) w w1 :=
  ⟨h.os, h.tape, h.output, h.size, fun k hk hS => h.block k hk (fun e => hS (.inl e))⟩
theorem Wr.mF_ne (H : Wr w0 w g A c B vc vo vp order bA bF nA nF after fars) : ¬ bF = B := by
  obtain ⟨es, c, h⟩ := H.mF.ismap
  rintro rfl
  rw [H.blk] at h
  cases h
theorem Wr.tail (H : Wr w0 w g A c B vc vo vp order bA bF nA nF after fars) (i : Int) (hi : i ∈ order) :
    Calls Try.prog 77 #[.pointer (some ⟨B, 0, none⟩), .int .i64 i] w fun e w' => e = .returned (.int .i64 (tailF (rd_T47 g i) (after i) (fars i))) ∧ Below w.heap.size w w' :=
  tail_calls g B c A vc vo vp bA bF nA nF after fars i w H.blk (Kd.C_below H.graph H.below) (H.ordin i hi).1 (H.ordin i hi).2 H.mA H.mF
end
theorem upd_int (p : Int → Int) (a v : Int) : upd (fun x => Value.int .i64 (p x)) a (.int .i64 v) = fun x => Value.int .i64 (upd p a v x) := by
  funext x
  unfold upd
  split <;> rfl
theorem upd_far (p : Int → Bool × Bool) (a : Int) (v : Bool × Bool) : upd (fun x => farV (p x)) a (farV v) = fun x => farV (upd p a v x) := by
  funext x
  unfold upd
  split <;> rfl
theorem rd_mem {l : List Int} {k : Nat} (h : k < l.length) : rd l (k : Int) ∈ l := by
  unfold rd
  rw [Int.toNat_natCast, List.getD_eq_getElem?_getD, List.getElem?_eq_getElem h]
  exact List.getElem_mem h
theorem rd_drop {l : List Int} {k : Nat} (h : k < l.length) : l.drop k = rd l (k : Int) :: l.drop (k + 1) := by
  unfold rd
  rw [Int.toNat_natCast, List.getD_eq_getElem?_getD, List.getElem?_eq_getElem h]
  exact List.drop_eq_getElem_cons h
/-- In the second loop: k blocks have been looked at; PL: the places. -/
structure St2 (w0 w wr : World) (g : List S47) (A : Option Addr) (c B P k : Nat) (vc vo : Value) (order : List Int) (bA bF nA nF : Nat) (after PL : Int → Int) (f : Int → Bool × Bool) : Prop where
  me : Wr w0 wr g A c B vc vo (.map (some P)) order bA bF nA (nF + k) after f
  mP : MI wr P order.length PL
  kp : Kp (fun k => k = B ∨ k = bF) w wr
  pne : P ≠ B ∧ P ≠ bF
theorem Wr.mono {w0 w : World} {g : List S47} {A : Option Addr} {c B : Nat} {vc vo vp : Value} {order : List Int} {bA bF nA nF nF' : Nat} {after : Int → Int} {fars : Int → Bool × Bool}
    (H : Wr w0 w g A c B vc vo vp order bA bF nA nF after fars) (hn : nF ≤ nF') : Wr w0 w g A c B vc vo vp order bA bF nA nF' after fars :=
  ⟨H.below, H.blk, H.graph, H.ord, H.ordin, H.goin, H.mA, MapF.mono H.mF hn, H.hB, H.hA, H.hF, H.ne⟩
theorem St2.same {w0 w wr wr' : World} {g : List S47} {A : Option Addr} {c B P k : Nat} {vc vo : Value} {order : List Int} {bA bF nA nF : Nat} {after PL : Int → Int} {f : Int → Bool × Bool}
    (H : St2 w0 w wr g A c B P k vc vo order bA bF nA nF after PL f) (hb : Below wr.heap.size wr wr') : St2 w0 w wr' g A c B P (k + 1) vc vo order bA bF nA nF after PL f :=
  ⟨(H.me.stay hb).mono (by omega), H.mP.below hb, H.kp.below hb, H.pne⟩
theorem forget {P : Program} {code : Code} {Q : Exit → Act → World → Prop} {a : Act} {W : World} (F : World → Prop) (h : F W) (k : ∀ W', F W' → code.wp P Q a W') : code.wp P Q a W := k W h
theorem below_all {w w1 : World} (h : Below w.heap.size w w1) : Below w.heap.size w w1 := h
theorem St2.step {w0 w wr W w11 : World} {g : List S47} {A : Option Addr} {c B P k : Nat} {vc vo : Value} {order : List Int} {bA bF nA nF : Nat} {after PL : Int → Int} {f : Int → Bool × Bool} {i : Int} {v : Bool × Bool}
    (H : St2 w0 w wr g A c B P k vc vo order bA bF nA nF after PL f) (hb : Below wr.heap.size wr W) (hm : MapF Try.prog 3 (.agg #[.bool false, .bool false]) w11 bF (nF + k + 1) (upd (fun x => farV (f x)) i (farV v))) (hg : W.drew.grownBy w11 (some bF)) :
    St2 w0 w w11 g A c B P (k + 1) vc vo order bA bF nA nF after PL (upd f i v) := by
  have h1 : Below wr.heap.size wr W.drew := below_drew1 hb
  have h2 := H.me.stay h1
  rw [upd_far] at hm
  have kp : Kp (fun k => k = B ∨ k = bF) W.drew w11 := (Kp.refl _ _).grown hg (by intro b e; injection e with e; exact .inl (.inr e.symm))
  refine ⟨h2.move kp (blk_grown h2.blk hg (by intro e; injection e with e; exact h2.mF_ne e.symm)) hm, (H.mP.below h1).kept hg (by intro e; injection e with e; exact H.pne.2 e), (H.kp.below h1).trans ?_, H.pne⟩
  exact kp
theorem frGo_stay {g : List S47} {pl : Int → Int} {b : Bool} {r : List Int} {i : Int} {blk : S47} {f : Int → Bool × Bool} {q : Bool × Bool} (hb : rd_T47 g i = blk) (h3 : blk.f1 = 3) (hf : f i = q) (hN : q = frOf blk pl i q) :
    frGo g pl (i :: r) f b = frGo g pl r f b := by
  show (if (rd_T47 g i).f1 = 3 then (if frOf (rd_T47 g i) pl i (f i) = f i then _ else _) else _) = _
  rw [hb, if_pos h3, hf, ← hN, if_pos rfl]
theorem frGo_step {g : List S47} {pl : Int → Int} {b : Bool} {r : List Int} {i : Int} {blk : S47} {f : Int → Bool × Bool} {q n : Bool × Bool} (hb : rd_T47 g i = blk) (h3 : blk.f1 = 3) (hf : f i = q) (hN : n = frOf blk pl i q) (hne : ¬ n = q) :
    frGo g pl (i :: r) f b = frGo g pl r (upd f i n) true := by
  show (if (rd_T47 g i).f1 = 3 then (if frOf (rd_T47 g i) pl i (f i) = f i then _ else frGo g pl r (upd f i (frOf (rd_T47 g i) pl i (f i))) true) else _) = _
  rw [hb, if_pos h3, hf, ← hN, if_neg hne]
/-- In the first loop: k blocks are placed. -/
structure St1 (w wr : World) (B P k : Nat) (cs : Array Value) (p : Int → Int) : Prop where
  blk : wr.heap[B]? = some (.cells cs 72 (0, 0))
  mP : MI wr P k p
  kp : Kp (fun k => k = B) w wr
set_option maxHeartbeats 2000000 in
set_option maxRecDepth 100000 in
theorem place_calls (w0 w : World) (g : List S47) (A : Option Addr) (c B : Nat) (vc vo vp : Value) (order : List Int) (bA bF nA nF : Nat) (after : Int → Int) (fars : Int → Bool × Bool)
    (H : Wr w0 w g A c B vc vo vp order bA bF nA nF after fars) (hn : nF + order.length < maxLen) :
    Calls Try.prog 45 #[.pointer (some ⟨B, 0, none⟩)] w fun e w' =>
      e = .returned (.bool (frGo g (plGo g after fars order 0 (fun _ => 0)) order fars false).2) ∧
      Wr w0 w' g A c B vc vo (.map (some w.heap.size)) order bA bF nA (nF + order.length) after (frGo g (plGo g after fars order 0 (fun _ => 0)) order fars false).1 ∧
      MI w' w.heap.size order.length (plGo g after fars order 0 (fun _ => 0)) ∧ Kp (fun k => k = B ∨ k = bF) w w' := by
  have hmm := @run_makeMap Try.prog
  obtain ⟨Ao, co, rfl, hoc, HO⟩ := Kd.R_reads H.ord
  have b0 : w.cell? ⟨B, 0, none⟩ = some vc := (blk_cell H.blk 0).trans rfl
  have b1 : w.cell? ⟨B, 1, none⟩ = some (.slice A g.length c) := (blk_cell H.blk 1).trans rfl
  have b2 : w.cell? ⟨B, 2, none⟩ = some (.slice Ao order.length co) := (blk_cell H.blk 2).trans rfl
  have b4 : w.cell? ⟨B, 4, none⟩ = some vp := (blk_cell H.blk 4).trans rfl
  have f4 := blk_frozen H.blk 4
  have hBl := blk_lt H.blk
  have HH := Aside0.mk H
  clear H
  go_enter Try.func45, Try.ntmps45
  go_wp2
  have hW1 : Aside0 (St1 w ((w.setCell ⟨B, 4, none⟩ (.map (some w.heap.size))).alloc (.map #[] 0)) B w.heap.size 0 #[vc, .slice A g.length c, .slice Ao order.length co, .map (some bA), .map (some w.heap.size), .map (some bF)] (fun _ => 0)) := by
    have hs : (w.setCell ⟨B, 4, none⟩ (.map (some w.heap.size))).heap.size = w.heap.size := by simp [World.setCell]
    refine ⟨⟨blk_alloc (blk_put HH.out.blk 4 _ rfl) _, ?_, ((Kp.refl (fun k => k = B) w).set (.inl rfl) 4 _).below (below_alloc (Below.refl _ _) _)⟩⟩
    have := MapF.made (w.setCell ⟨B, 4, none⟩ (.map (some w.heap.size))) Try.prog 3 (.int .i64 0)
    rw [hs] at this
    exact this
  have hlen : order.length ≤ 9223372036854775807 := Kd.C_max HO
  go_loopw [3, 21] (fun v3 v21 wr => ∃ (k : Nat) (n : Int) (p : Int → Int), k ≤ order.length ∧ v21 = .int .i64 k ∧ v3 = .int .i64 n ∧ Aside0 (plGo g after fars (order.drop k) n p = plGo g after fars order 0 (fun _ => 0)) ∧ Aside0 (St1 w wr B w.heap.size k #[vc, .slice A g.length c, .slice Ao order.length co, .map (some bA), .map (some w.heap.size), .map (some bF)] p)) (fun _ v21 _ => order.length - (intOf v21).toNat)
  case atStart => exact ⟨0, 0, fun _ => 0, Nat.zero_le _, rfl, rfl, ⟨rfl⟩, hW1⟩
  case round =>
    obtain ⟨k, n, p, hk, rfl, rfl, HP, HS⟩ := hrel
    by_cases hlt : k < order.length
    · have HW : Aside0 (Wr w0 wr g A c B vc (.slice Ao order.length co) (.map (some w.heap.size)) order bA bF nA nF after fars) := ⟨HH.out.move (kp1 HS.out.kp) HS.out.blk (HH.out.mF.move (HS.out.kp.block bF HH.out.mF.lt HH.out.mF_ne))⟩
      obtain ⟨ado, rfl, hco⟩ := Kd.at_int (Kd.R_reads' HW.out.ord).2.2 (k : Int) (by omega) (by omega)
      rw [Int.toNat_natCast] at hco
      have hmem := rd_mem hlt
      have hdr := rd_drop hlt
      generalize hi : rd order (k : Int) = i at *
      clear hi
      obtain ⟨hi0, hi1⟩ := HW.out.ordin i hmem
      have hwf : (Lit.int .i64 i).wf = true := WalkArith.wf_i64 (by have := Kd.C_max HH.out.graph; omega)
      rw [hdr] at HP
      have Hmem := Aside0.mk hmem
      clear hdr hmem
      have c0 : wr.cell? ⟨B, 0, none⟩ = some vc := (blk_cell HS.out.blk 0).trans rfl
      have c1 : wr.cell? ⟨B, 1, none⟩ = some (.slice A g.length c) := (blk_cell HS.out.blk 1).trans rfl
      have c4 : wr.cell? ⟨B, 4, none⟩ = some (.map (some w.heap.size)) := (blk_cell HS.out.blk 4).trans rfl
      go_wp2_with (first | (at_mapUpdate; refine wpList_mapUpdate_F _ rfl _ _ _ 66 rfl 3 3 lawI Try.underlying3 Try.underlying66 (.int .i64 0) w.heap.size k (fun x => .int .i64 (p x)) rfl HS.out.mP (by unfold maxLen; omega) i (.int .i64 n) rfl rfl hwf ?_; intro w2 hm2 hg2; rw [upd_int] at hm2))
      have HS2 : Aside0 (St1 w w2 B w.heap.size (k + 1) #[vc, .slice A g.length c, .slice (some ado) order.length co, .map (some bA), .map (some w.heap.size), .map (some bF)] (upd p i n)) :=
        ⟨blk_grown HS.out.blk hg2 (by intro e; injection e with e; omega), hm2, HS.out.kp.grown hg2 (by intro b e; injection e with e; exact .inr (by omega))⟩
      have HW2 : Aside0 (Wr w0 w2 g A c B vc (.slice (some ado) order.length co) (.map (some w.heap.size)) order bA bF nA nF after fars) := ⟨HH.out.move (kp1 HS2.out.kp) HS2.out.blk (HH.out.mF.move (HS2.out.kp.block bF HH.out.mF.lt HH.out.mF_ne))⟩
      have hP2 : w.heap.size < w2.heap.size := hm2.lt
      clear hm2 hg2 hco c0 c1 c4 HW HS
      obtain ⟨ad, A0, c0, rfl, x0, x1, x2, x3, x4, x5, x6, x7, hl, hi⟩ := at_T47 (Kd.C_below HW2.out.graph HW2.out.below) i hi0 hi1
      clear x1 x2 x3 x4 x5 x6 x7 hl hi
      have c1 : w2.cell? ⟨B, 1, none⟩ = some (.slice (some ad) g.length c) := (blk_cell HS2.out.blk 1).trans rfl
      go_region_held3 (fun w' => Below w2.heap.size w2 w' ∧ w'.cell? ⟨B, 1, none⟩ = some (.slice (some ad) g.length c) ∧ w'.cell? (ad.add (i.toNat * 8)) = some (.slice A0 (rd_T47 g i).f0.length c0))
        (first
          | exact ⟨below_drew1 (Below.refl _ _), c1, x0⟩
          | exact ⟨below_step (below_drew1 (Below.refl _ _)) hb, pw_cell_below hb c1, pw_cell_below hb x0⟩)
        ((go_at_call 77; refine (Wr.tail (HW2.out.stay (below_drew1 (Below.refl _ _))) i Hmem.out).mono ?_; rintro e w' ⟨rfl, hb⟩))
      go_wp2
      have hb' : Below w2.heap.size w2 w' := below_step (below_drew1 (Below.refl _ _)) hb
      have HS3 : Aside0 (St1 w w' B w.heap.size (k + 1) #[vc, .slice (some ad) g.length c, .slice (some ado) order.length co, .map (some bA), .map (some w.heap.size), .map (some bF)] (upd p i n)) :=
        ⟨blk_below HS2.out.blk hb', HS2.out.mP.below hb', HS2.out.kp.below hb'⟩
      clear hb hb' HS2 HW2 HH hmm hW1
      go_roundw
      case rel => exact ⟨k + 1, _, upd p i n, by omega, by go_num, rfl, ⟨by simp only [i64_w]; exact HP.out⟩, HS3⟩
      case measure => simp [intOf]; omega
    · have hkl : k = order.length := by omega
      subst hkl
      clear hlt hk
      have hp : p = plGo g after fars order 0 (fun _ => 0) := by have := HP.out; rw [List.drop_length] at this; exact this
      have HPL := Aside0.mk hp
      clear HP hp
      have HW : Aside0 (Wr w0 wr g A c B vc (.slice Ao order.length co) (.map (some w.heap.size)) order bA bF nA nF after fars) := ⟨HH.out.move (kp1 HS.out.kp) HS.out.blk (HH.out.mF.move (HS.out.kp.block bF HH.out.mF.lt HH.out.mF_ne))⟩
      have hPB : w.heap.size ≠ B ∧ w.heap.size ≠ bF := ⟨by omega, by have := HH.out.mF.lt; omega⟩
      have HS2 : Aside0 (St2 w0 w wr g A c B w.heap.size 0 vc (.slice Ao order.length co) order bA bF nA nF after p fars) := ⟨⟨HW.out, HS.out.mP, kp1 HS.out.kp, hPB⟩⟩
      have c2 : wr.cell? ⟨B, 2, none⟩ = some (.slice Ao order.length co) := (blk_cell HS.out.blk 2).trans rfl
      clear hW1 HS HW b0 b1 b2 b4 f4 hBl
      go_wp2
      go_loopw [6, 52] (fun v6 v52 wq => ∃ (k : Nat) (f : Int → Bool × Bool) (b : Bool), k ≤ order.length ∧ v52 = .int .i64 k ∧ v6 = .bool b ∧ Aside0 (frGo g p (order.drop k) f b = frGo g p order fars false) ∧ Aside0 (St2 w0 w wq g A c B w.heap.size k vc (.slice Ao order.length co) order bA bF nA nF after p f)) (fun _ v52 _ => order.length - (intOf v52).toNat)
      case atStart => exact ⟨0, fars, false, Nat.zero_le _, rfl, rfl, ⟨rfl⟩, HS2⟩
      case round =>
        clear HS2 c2
        obtain ⟨k, f, b, hk, rfl, rfl, HP, HS⟩ := hrel
        by_cases hlt : k < order.length
        · obtain ⟨ado, rfl, hco⟩ := Kd.at_int (Kd.R_reads' HS.out.me.ord).2.2 (k : Int) (by omega) (by omega)
          rw [Int.toNat_natCast] at hco
          have hmem := rd_mem hlt
          have hdr := rd_drop hlt
          generalize hi : rd order (k : Int) = i at *
          clear hi
          obtain ⟨hi0, hi1⟩ := HS.out.me.ordin i hmem
          obtain ⟨hwy, hwn⟩ := HS.out.me.goin i hmem
          have hwf : (Lit.int .i64 i).wf = true := WalkArith.wf_i64 (by have := Kd.C_max HH.out.graph; omega)
          rw [hdr] at HP
          clear hdr hmem
          obtain ⟨ad, A0, c0, rfl, x0, x1, x2, x3, x4, x5, x6, x7, hl, hi⟩ := at_T47 (Kd.C_below HS.out.me.graph HS.out.me.below) i hi0 hi1
          clear hl hi
          have d1 : wr.cell? ⟨B, 1, none⟩ = some (.slice (some ad) g.length c) := (blk_cell HS.out.me.blk 1).trans rfl
          have d4 : wr.cell? ⟨B, 4, none⟩ = some (.map (some w.heap.size)) := (blk_cell HS.out.me.blk 4).trans rfl
          have d5 : wr.cell? ⟨B, 5, none⟩ = some (.map (some bF)) := (blk_cell HS.out.me.blk 5).trans rfl
          have hBq : B < wr.heap.size := blk_lt HS.out.me.blk
          generalize hblk : rd_T47 g i = blk at *
          have Hblk := Aside0.mk hblk
          clear hblk
          have hlP : ∀ o m, (Instr.lookup 66 (.map (some w.heap.size)) (.int .i64 i) false).run Try.prog ((wr.alloc o).drewN m) = .ok (.int .i64 (p i)) ((wr.alloc o).drewN m) := fun o m => MI_look (HS.out.mP.below (pw_below_drewN (below_alloc (Below.refl _ _) o) m)) i hwf
          have hlF : ∀ o m, (Instr.lookup 67 (.map (some bF)) (.int .i64 i) false).run Try.prog ((wr.alloc o).drewN m) = .ok (.agg #[.bool (f i).1, .bool (f i).2]) ((wr.alloc o).drewN m) := fun o m => MF_look (HS.out.me.mF.below (pw_below_drewN (below_alloc (Below.refl _ _) o) m)) i hwf
          by_cases c1 : blk.f1 = 3
          · have c1b : (blk.f1 != 3) = false := bne_eq_false_iff_eq.mpr c1
            have C1 := Aside0.mk c1
            clear c1
            generalize hfi : f i = fi at *
            have Hfi := Aside0.mk hfi
            clear hfi
            obtain ⟨fy, fn⟩ := fi
            dsimp only at hlF
            go_wp2
            go_quiet (fail)
            go_wp2
            refine forget (fun W => Below wr.heap.size wr W ∧ W.heap[wr.heap.size]? = some (.cells #[.slice A0 blk.f0.length c0, .int .i64 blk.f1, .int .u16 blk.f2.f0, .int .u8 blk.f2.f1, .int .u8 blk.f2.f2, .int .u32 blk.f2.f3, .int .i64 blk.f3, .int .i64 blk.f4] 47 (0, 0)) ∧ W.heap[wr.heap.size + 1]? = some (.cells #[.bool fy, .bool fn] 121 (0, 0))) ⟨below_alloc (pw_below_drewN (below_alloc (Below.refl _ _) _) _) _, blk_alloc (blk_drewN (blk_new _ _) _) _, ?_⟩ ?_
            · have := blk_new ((wr.alloc (.cells #[.slice A0 blk.f0.length c0, .int .i64 blk.f1, .int .u16 blk.f2.f0, .int .u8 blk.f2.f1, .int .u8 blk.f2.f2, .int .u32 blk.f2.f3, .int .i64 blk.f3, .int .i64 blk.f4] 47)).drewN nq) (.cells #[.bool fy, .bool fn] 121)
              rwa [show ((wr.alloc (.cells #[.slice A0 blk.f0.length c0, .int .i64 blk.f1, .int .u16 blk.f2.f0, .int .u8 blk.f2.f1, .int .u8 blk.f2.f2, .int .u32 blk.f2.f3, .int .i64 blk.f3, .int .i64 blk.f4] 47)).drewN nq).heap.size = wr.heap.size + 1 from World.size_alloc _ _] at this
            rintro W ⟨hb, hO, hF⟩
            have e4 := pw_cell_below hb d4
            clear hlP hlF d1 d4 d5 hco x0 x1 x2 x3 x4 x5 x6 x7
            have oy : W.cell? ⟨wr.heap.size, 6, none⟩ = some (.int .i64 blk.f3) := (blk_cell hO 6).trans rfl
            have on : W.cell? ⟨wr.heap.size, 7, none⟩ = some (.int .i64 blk.f4) := (blk_cell hO 7).trans rfl
            have fy0 : W.cell? ⟨wr.heap.size + 1, 0, none⟩ = some (.bool fy) := (blk_cell hF 0).trans rfl
            have fz0 := blk_frozen hF 0
            have lY : (Instr.lookup 66 (.map (some w.heap.size)) (.int .i64 blk.f3) false).run Try.prog W.drew = .ok (.int .i64 (p blk.f3)) W.drew := MI_look (HS.out.mP.below (below_drew1 hb)) blk.f3 hwy
            have HbW := Aside0.mk hb
            have HO7 := Aside0.mk hO
            have HF7 := Aside0.mk hF
            clear hb hO hF
            cases fy
            all_goals
              go_region
              go_wp2
            all_goals
              first
                | (refine forget (fun W => Below wr.heap.size wr W ∧ W.heap[wr.heap.size]? = some (.cells #[.slice A0 blk.f0.length c0, .int .i64 blk.f1, .int .u16 blk.f2.f0, .int .u8 blk.f2.f1, .int .u8 blk.f2.f2, .int .u32 blk.f2.f3, .int .i64 blk.f3, .int .i64 blk.f4] 47 (0, 0)) ∧ W.heap[wr.heap.size + 1]? = some (.cells #[.bool (frOf blk p i (false, fn)).1, .bool fn] 121 (0, 0))) ⟨below_drew1 (below_set HbW.out (Nat.le_succ _)), blk_drew (blk_far HO7.out (Nat.ne_of_lt (Nat.lt_succ_self _)) _), blk_drew (blk_put HF7.out 0 _ rfl)⟩ ?_)
                | (refine forget (fun W => Below wr.heap.size wr W ∧ W.heap[wr.heap.size]? = some (.cells #[.slice A0 blk.f0.length c0, .int .i64 blk.f1, .int .u16 blk.f2.f0, .int .u8 blk.f2.f1, .int .u8 blk.f2.f2, .int .u32 blk.f2.f3, .int .i64 blk.f3, .int .i64 blk.f4] 47 (0, 0)) ∧ W.heap[wr.heap.size + 1]? = some (.cells #[.bool (frOf blk p i (true, fn)).1, .bool fn] 121 (0, 0))) ⟨below_drew1 (below_set HbW.out (Nat.le_succ _)), blk_drew (blk_far HO7.out (Nat.ne_of_lt (Nat.lt_succ_self _)) _), blk_drew (blk_put HF7.out 0 _ rfl)⟩ ?_)
            all_goals
              clear HbW HO7 HF7 oy on fy0 fz0 lY
              rintro W8 ⟨hb, hO, hF⟩
              have on : W8.cell? ⟨wr.heap.size, 7, none⟩ = some (.int .i64 blk.f4) := (blk_cell hO 7).trans rfl
              have fn0 : W8.cell? ⟨wr.heap.size + 1, 1, none⟩ = some (.bool fn) := (blk_cell hF 1).trans rfl
              have fz1 := blk_frozen hF 1
              have g4 : W8.cell? ⟨B, 4, none⟩ = some (.map (some w.heap.size)) := pw_cell_below hb ((blk_cell HS.out.me.blk 4).trans rfl)
              have lN : (Instr.lookup 66 (.map (some w.heap.size)) (.int .i64 blk.f4) false).run Try.prog W8.drew = .ok (.int .i64 (p blk.f4)) W8.drew := MI_look (HS.out.mP.below (below_drew1 hb)) blk.f4 hwn
              have HbW := Aside0.mk hb
              have HO7 := Aside0.mk hO
              have HF7 := Aside0.mk hF
              clear hb hO hF
              cases fn
              all_goals
                go_region
                go_wp2
            all_goals
              refine forget (fun W => Below wr.heap.size wr W ∧ ∃ N, Aside0 (N = frOf blk p i (f i)) ∧ W.heap[wr.heap.size + 1]? = some (.cells #[.bool N.1, .bool N.2] 121 (0, 0))) ⟨below_drew1 (below_set HbW.out (Nat.le_succ _)), _, ⟨rfl⟩, by rw [Hfi.out]; exact blk_drew (blk_put HF7.out 1 _ rfl)⟩ ?_
            all_goals
              clear HbW HO7 HF7 on fn0 fz1 g4 lN Hfi
              rintro W9 ⟨hb, ⟨ny, nn⟩, HN, hF⟩
              have fy0 : W9.cell? ⟨wr.heap.size + 1, 0, none⟩ = some (.bool ny) := (blk_cell hF 0).trans rfl
              have fn0 : W9.cell? ⟨wr.heap.size + 1, 1, none⟩ = some (.bool nn) := (blk_cell hF 1).trans rfl
              have g5 : W9.cell? ⟨B, 5, none⟩ = some (.map (some bF)) := pw_cell_below hb ((blk_cell HS.out.me.blk 5).trans rfl)
              have lF9 : ∀ m, (Instr.lookup 67 (.map (some bF)) (.int .i64 i) false).run Try.prog (W9.drewN m) = .ok (.agg #[.bool (f i).1, .bool (f i).2]) (W9.drewN m) := fun m => MF_look (HS.out.me.mF.below (pw_below_drewN hb m)) i hwf
              have HbW := Aside0.mk hb
              have HF9 := Aside0.mk hF
              clear hb hF
              generalize hfi : f i = fi at *
              have Hfi := Aside0.mk hfi
              clear hfi
              obtain ⟨qy, qn⟩ := fi
              dsimp only at lF9
              by_cases ey : ny = qy
              · subst ey
                by_cases en : nn = qn
                · subst en
                  have HP' := frGo_stay (g := g) (pl := p) (b := b) (r := order.drop (k + 1)) Hblk.out C1.out Hfi.out HN.out
                  have HP2 := Aside0.mk (HP'.symm.trans HP.out)
                  clear HP' HP
                  go_quiet (fail)
                  go_wp2
                  have HS' := Aside0.mk (St2.same HS.out (below_all (pw_below_drewN HbW.out nq)))
                  go_roundw
                  case rel => exact ⟨k + 1, f, b, by omega, by go_num, rfl, HP2, HS'⟩
                  case measure => simp [intOf]; omega
                · go_quiet (fail)
                  go_wp2
                  refine forget (fun W => Below wr.heap.size wr W ∧ W.heap[wr.heap.size + 1]? = some (.cells #[.bool ny, .bool nn] 121 (0, 0))) ⟨pw_below_drewN HbW.out _, blk_drewN HF9.out _⟩ ?_
                  rintro W10 ⟨hb, hF⟩
                  obtain ⟨w11, hrun, hm, hg⟩ := MapF.store (HS.out.me.mF.below (below_drew1 hb)) lawI Try.underlying3 Try.underlying67 (by have := hn; omega) i hwf (farV (ny, nn))
                  have hrun' : (Instr.mapUpdate 67 (.map (some bF)) (.int .i64 i) (.agg #[.bool ny, .bool nn])).run Try.prog W10.drew = .ok () w11 := hrun
                  have k0 : W10.cell? ⟨wr.heap.size + 1, 0, none⟩ = some (.bool ny) := (blk_cell hF 0).trans rfl
                  have k1 : W10.cell? ⟨wr.heap.size + 1, 1, none⟩ = some (.bool nn) := (blk_cell hF 1).trans rfl
                  have k5 : W10.cell? ⟨B, 5, none⟩ = some (.map (some bF)) := pw_cell_below hb ((blk_cell HS.out.me.blk 5).trans rfl)
                  have hst := St2.step HS.out hb hm hg
                  have Hst := Aside0.mk hst
                  have HP' := frGo_step (g := g) (pl := p) (b := b) (r := order.drop (k + 1)) Hblk.out C1.out Hfi.out HN.out (fun e => en (Prod.mk.inj e).2)
                  have HP2 := Aside0.mk (HP'.symm.trans HP.out)
                  clear hst hb hF hm hg hrun HP' HP fy0 fn0 g5 lF9
                  go_region
                  go_wp2
                  go_roundw
                  case rel => exact ⟨k + 1, _, true, by omega, by go_num, rfl, HP2, Hst⟩
                  case measure => simp [intOf]; omega
              · go_quiet (fail)
                go_wp2
                refine forget (fun W => Below wr.heap.size wr W ∧ W.heap[wr.heap.size + 1]? = some (.cells #[.bool ny, .bool nn] 121 (0, 0))) ⟨pw_below_drewN HbW.out _, blk_drewN HF9.out _⟩ ?_
                rintro W10 ⟨hb, hF⟩
                obtain ⟨w11, hrun, hm, hg⟩ := MapF.store (HS.out.me.mF.below (below_drew1 hb)) lawI Try.underlying3 Try.underlying67 (by have := hn; omega) i hwf (farV (ny, nn))
                have hrun' : (Instr.mapUpdate 67 (.map (some bF)) (.int .i64 i) (.agg #[.bool ny, .bool nn])).run Try.prog W10.drew = .ok () w11 := hrun
                have k0 : W10.cell? ⟨wr.heap.size + 1, 0, none⟩ = some (.bool ny) := (blk_cell hF 0).trans rfl
                have k1 : W10.cell? ⟨wr.heap.size + 1, 1, none⟩ = some (.bool nn) := (blk_cell hF 1).trans rfl
                have k5 : W10.cell? ⟨B, 5, none⟩ = some (.map (some bF)) := pw_cell_below hb ((blk_cell HS.out.me.blk 5).trans rfl)
                have hst := St2.step HS.out hb hm hg
                have Hst := Aside0.mk hst
                have HP' := frGo_step (g := g) (pl := p) (b := b) (r := order.drop (k + 1)) Hblk.out C1.out Hfi.out HN.out (fun e => ey (Prod.mk.inj e).1)
                have HP2 := Aside0.mk (HP'.symm.trans HP.out)
                clear hst hb hF hm hg hrun HP' HP fy0 fn0 g5 lF9
                go_region
                go_wp2
                go_roundw
                case rel => exact ⟨k + 1, _, true, by omega, by go_num, rfl, HP2, Hst⟩
                case measure => simp [intOf]; omega
          · have c1b : (blk.f1 != 3) = true := bne_iff_ne.mpr c1
            have hb2 : frGo g p (i :: order.drop (k + 1)) f b = frGo g p (order.drop (k + 1)) f b := by show (if (rd_T47 g i).f1 = 3 then _ else _) = _; rw [Hblk.out, if_neg c1]
            have HP' := Aside0.mk (hb2.symm.trans HP.out)
            clear hb2 HP
            go_wp2
            have HS' := fun o => Aside0.mk (St2.same HS.out (below_alloc (Below.refl wr.heap.size wr) o))
            go_roundw
            case rel => exact ⟨k + 1, f, b, by omega, by go_num, rfl, HP', HS' _⟩
            case measure => simp [intOf]; omega
        · have hkl : k = order.length := by omega
          subst hkl
          have hp := HP.out
          rw [List.drop_length] at hp
          have hp1 : f = (frGo g p order fars false).1 := congrArg Prod.fst hp
          have hp2 : b = (frGo g p order fars false).2 := congrArg Prod.snd hp
          have Hp1 := Aside0.mk hp1
          have Hp2 := Aside0.mk hp2
          clear HP hp hp1 hp2
          go_wp2
          go_ret
          exact ⟨congrArg (fun x => Ending.returned (Value.bool x)) (Hp2.out.trans (by rw [← HPL.out])), by rw [← HPL.out, ← Hp1.out]; exact HS.out.me, by rw [← HPL.out]; exact HS.out.mP, HS.out.kp⟩
end Go.Proofs.Ytdkalnkplgfgoaa.Ln
namespace Go.Proofs.Ytdkalnkplgfgoaa.PA
open Go.RowKit Go.Proofs.YtdkalnkplgfgoaaW.PrintWords Go.Proofs.YtdkalnkplgfgoaaW.PrintLast Go.Proofs.YtdkalnkplgfgoaaW.PrintMore
attribute [local go_sem] max2_int min2_int max_two min_two max_three min_three max_four min_four   -- for this text's walks alone
set_option linter.unusedVariables false
set_option linter.unusedSimpArgs false
def riddleref15_Measure.l0 : Nat → List (S47) → Int → Int → Option (Int)
  | 0, _, _, _ => none
  | k + 1, x0, x3, x4 => if x4 < (x0.length : Int) then (if 0 ≤ x4 then (if ((rd_T47 x0 x4).f1) = 3 then (riddleref15_Measure.l0 k x0 (wrap64 ((wrap64 ((wrap64 (x3 + (((rd_T47 x0 x4).f0).length : Int))) + 1)) + 2)) (wrap64 (x4 + 1))) else (riddleref15_Measure.l0 k x0 (wrap64 ((wrap64 (x3 + (((rd_T47 x0 x4).f0).length : Int))) + 1)) (wrap64 (x4 + 1)))) else (none)) else (some x3)
def riddleref15_Measure.f (k : Nat) (l0 : List (S47)) : Option (Int) := riddleref15_Measure.l0 k l0 0 0
set_option maxHeartbeats 8000000 in
set_option maxRecDepth 100000 in
theorem riddleref15_Measure.calls (k : Nat) (A0 : Option Addr) (c0 : Nat) (l0 : List (S47)) (r : Int) (w : World) (hr0 : Kd.C k47 w A0 l0.length l0) (hc0 : l0.length ≤ c0) (h : riddleref15_Measure.f k l0 = some r) :
    Calls Try.prog 24 #[.slice A0 l0.length c0] w fun e w' => e = .returned (.int .i64 r) ∧ Drawn0 w w' := by
  have HR0 := Aside0.mk hr0
  have HC0 := Aside0.mk hc0
  clear hr0 hc0
  have H : (riddleref15_Measure.l0 k l0 0 0) = some r := h
  clear h
  have H' := Aside0.mk H
  clear H
  go_enter Try.func24, Try.ntmps24
  go_wp2
  go_loopg [3, 4] k (fun kq v3 v4 w' => ∃ (x3_1 : Int) (x4_1 : Int), v3 = .int .i64 x3_1 ∧ v4 = .int .i64 x4_1 ∧ Aside0 (riddleref15_Measure.l0 kq l0 x3_1 x4_1 = some r) ∧ Aside0 (kq ≤ k) ∧ Drawn0 w w')
  case atStart => exact ⟨(0), (0), (by first | rfl | (simp; done) | (simp [*]; done)), (by first | rfl | (simp; done) | (simp [*]; done)), H', ⟨Nat.le_refl _⟩, by repeat (first | exact Drawn0.refl _ | apply Drawn0.step)⟩
  case round =>
    clear H'
    obtain ⟨x3_1, x4_1, rfl, rfl, HA, HK1, ⟨m1, rfl⟩⟩ := hrel
    cases gk with
    | zero => exact absurd HA.out (by simp [riddleref15_Measure.l0])
    | succ k1 =>
      have H := HA.out
      clear HA
      simp only [riddleref15_Measure.l0] at H
      by_cases c2 : x4_1 < (l0.length : Int)
      · rw [if_pos c2] at H
        have c2b0 : decide (x4_1 < (l0.length : Int)) = true := decide_eq_true c2
        clear c2
        by_cases c3 : 0 ≤ x4_1
        · rw [if_pos c3] at H
          have c3b0 : decide (0 ≤ x4_1) = true := decide_eq_true c3
          clear c3
          by_cases c4 : ((rd_T47 l0 x4_1).f1) = 3
          · rw [if_pos c4] at H
            have c4b0 : (((rd_T47 l0 x4_1).f1) == 3) = true := beq_iff_eq.mpr c4
            have c4b1 : (((rd_T47 l0 x4_1).f1) != 3) = false := bne_eq_false_iff_eq.mpr c4
            clear c4
            have H' := Aside0.mk H
            clear H
            have p101 : 0 ≤ (x4_1 : Int) := of_decide_eq_true (by first | (with_reducible assumption) | assumption)
            have q101 : x4_1 < (l0.length : Int) := of_decide_eq_true (by first | (with_reducible assumption) | assumption)
            obtain ⟨ad101, A101_0, c101_0, e101, hx101_0, hx101_1, hx101_2, hx101_3, hx101_4, hx101_5, hx101_6, hx101_7, hl101_0, hi101_0⟩ := at_T47 HR0.out x4_1 p101 q101
            cases e101
            have HR101_0 := Aside0.mk hi101_0
            have HC101_0 := Aside0.mk hl101_0
            clear hi101_0 hl101_0
            replace p101 := eq_true p101
            replace q101 := eq_true q101
            have p102 : 0 ≤ (x4_1 : Int) := of_decide_eq_true (by first | (with_reducible assumption) | assumption)
            have q102 : x4_1 < (l0.length : Int) := of_decide_eq_true (by first | (with_reducible assumption) | assumption)
            obtain ⟨ad102, A102_0, c102_0, e102, hx102_0, hx102_1, hx102_2, hx102_3, hx102_4, hx102_5, hx102_6, hx102_7, hl102_0, hi102_0⟩ := at_T47 HR0.out x4_1 p102 q102
            obtain rfl : ad101 = ad102 := (by injection e102)
            have HR102_0 := Aside0.mk hi102_0
            have HC102_0 := Aside0.mk hl102_0
            clear hi102_0 hl102_0
            replace p102 := eq_true p102
            replace q102 := eq_true q102
            have ea_ := Option.some.inj (hx101_0.symm.trans hx102_0)
            injection ea_ with ea_ en_ ec_
            subst ea_
            subst ec_
            clear en_
            go_wp2
            go_roundg k1
            case measure => have := HK1.out; omega
            case rel => exact ⟨(wrap64 ((wrap64 ((wrap64 (x3_1 + (((rd_T47 l0 x4_1).f0).length : Int))) + 1)) + 2)), (wrap64 (x4_1 + 1)), (by first | rfl | (simp; done) | (simp [*]; done)), (by first | rfl | (simp; done) | (simp [*]; done)), H', ⟨by have := HK1.out; omega⟩, by repeat (first | exact Drawn0.refl _ | apply Drawn0.step)⟩
          · rw [if_neg c4] at H
            have c4b0 : (((rd_T47 l0 x4_1).f1) == 3) = false := beq_eq_false_iff_ne.mpr c4
            have c4b1 : (((rd_T47 l0 x4_1).f1) != 3) = true := bne_iff_ne.mpr c4
            have H' := Aside0.mk H
            clear H
            have p101 : 0 ≤ (x4_1 : Int) := of_decide_eq_true (by first | (with_reducible assumption) | assumption)
            have q101 : x4_1 < (l0.length : Int) := of_decide_eq_true (by first | (with_reducible assumption) | assumption)
            obtain ⟨ad101, A101_0, c101_0, e101, hx101_0, hx101_1, hx101_2, hx101_3, hx101_4, hx101_5, hx101_6, hx101_7, hl101_0, hi101_0⟩ := at_T47 HR0.out x4_1 p101 q101
            cases e101
            have HR101_0 := Aside0.mk hi101_0
            have HC101_0 := Aside0.mk hl101_0
            clear hi101_0 hl101_0
            replace p101 := eq_true p101
            replace q101 := eq_true q101
            have p102 : 0 ≤ (x4_1 : Int) := of_decide_eq_true (by first | (with_reducible assumption) | assumption)
            have q102 : x4_1 < (l0.length : Int) := of_decide_eq_true (by first | (with_reducible assumption) | assumption)
            obtain ⟨ad102, A102_0, c102_0, e102, hx102_0, hx102_1, hx102_2, hx102_3, hx102_4, hx102_5, hx102_6, hx102_7, hl102_0, hi102_0⟩ := at_T47 HR0.out x4_1 p102 q102
            obtain rfl : ad101 = ad102 := (by injection e102)
            have HR102_0 := Aside0.mk hi102_0
            have HC102_0 := Aside0.mk hl102_0
            clear hi102_0 hl102_0
            replace p102 := eq_true p102
            replace q102 := eq_true q102
            have ea_ := Option.some.inj (hx101_0.symm.trans hx102_0)
            injection ea_ with ea_ en_ ec_
            subst ea_
            subst ec_
            clear en_
            go_wp2
            go_roundg k1
            case measure => have := HK1.out; omega
            case rel => exact ⟨(wrap64 ((wrap64 (x3_1 + (((rd_T47 l0 x4_1).f0).length : Int))) + 1)), (wrap64 (x4_1 + 1)), (by first | rfl | (simp; done) | (simp [*]; done)), (by first | rfl | (simp; done) | (simp [*]; done)), H', ⟨by have := HK1.out; omega⟩, by repeat (first | exact Drawn0.refl _ | apply Drawn0.step)⟩
        · rw [if_neg c3] at H
          exact absurd H (by simp)
      · rw [if_neg c2] at H
        have c2b0 : decide (x4_1 < (l0.length : Int)) = false := decide_eq_false c2
        clear c2
        obtain rfl := Option.some.inj H
        go_wp2
        go_ret
        exact ⟨by first | rfl | (simp; done) | (simp [*]; done), by repeat (first | exact Drawn0.refl _ | apply Drawn0.step)⟩
def riddleref2_Jump.f (a0 : Int) : Option (Bool) := if a0 = 21 then (some true) else (if a0 = 29 then (some true) else (if a0 = 37 then (some true) else (if a0 = 45 then (some true) else (if a0 = 53 then (some true) else (if a0 = 61 then (some true) else (if a0 = 69 then (some true) else (if a0 = 77 then (some true) else (some false))))))))
set_option maxHeartbeats 8000000 in
set_option maxRecDepth 100000 in
theorem riddleref2_Jump.calls (a0 : Int) (r : Bool) (w : World) (h : riddleref2_Jump.f a0 = some r) :
    Calls Try.prog 50 #[.int .u16 a0] w fun e w' => e = .returned (.bool r) ∧ Drawn0 w w' := by
  have H : (if a0 = 21 then (some true) else (if a0 = 29 then (some true) else (if a0 = 37 then (some true) else (if a0 = 45 then (some true) else (if a0 = 53 then (some true) else (if a0 = 61 then (some true) else (if a0 = 69 then (some true) else (if a0 = 77 then (some true) else (some false))))))))) = some r := h
  clear h
  by_cases c2 : a0 = 21
  · rw [if_pos c2] at H
    have c2b0 : (a0 == 21) = true := beq_iff_eq.mpr c2
    have c2b1 : (a0 != 21) = false := bne_eq_false_iff_eq.mpr c2
    clear c2
    obtain rfl := Option.some.inj H
    go_enter Try.func50, Try.ntmps50
    go_wp2
    go_ret
    exact ⟨by first | rfl | (simp; done) | (simp [*]; done), by repeat (first | exact Drawn0.refl _ | apply Drawn0.step)⟩
  · rw [if_neg c2] at H
    have c2b0 : (a0 == 21) = false := beq_eq_false_iff_ne.mpr c2
    have c2b1 : (a0 != 21) = true := bne_iff_ne.mpr c2
    by_cases c3 : a0 = 29
    · rw [if_pos c3] at H
      have c3b0 : (a0 == 29) = true := beq_iff_eq.mpr c3
      have c3b1 : (a0 != 29) = false := bne_eq_false_iff_eq.mpr c3
      clear c3
      obtain rfl := Option.some.inj H
      go_enter Try.func50, Try.ntmps50
      go_wp2
      go_ret
      exact ⟨by first | rfl | (simp; done) | (simp [*]; done), by repeat (first | exact Drawn0.refl _ | apply Drawn0.step)⟩
    · rw [if_neg c3] at H
      have c3b0 : (a0 == 29) = false := beq_eq_false_iff_ne.mpr c3
      have c3b1 : (a0 != 29) = true := bne_iff_ne.mpr c3
      by_cases c4 : a0 = 37
      · rw [if_pos c4] at H
        have c4b0 : (a0 == 37) = true := beq_iff_eq.mpr c4
        have c4b1 : (a0 != 37) = false := bne_eq_false_iff_eq.mpr c4
        clear c4
        obtain rfl := Option.some.inj H
        go_enter Try.func50, Try.ntmps50
        go_wp2
        go_ret
        exact ⟨by first | rfl | (simp; done) | (simp [*]; done), by repeat (first | exact Drawn0.refl _ | apply Drawn0.step)⟩
      · rw [if_neg c4] at H
        have c4b0 : (a0 == 37) = false := beq_eq_false_iff_ne.mpr c4
        have c4b1 : (a0 != 37) = true := bne_iff_ne.mpr c4
        by_cases c5 : a0 = 45
        · rw [if_pos c5] at H
          have c5b0 : (a0 == 45) = true := beq_iff_eq.mpr c5
          have c5b1 : (a0 != 45) = false := bne_eq_false_iff_eq.mpr c5
          clear c5
          obtain rfl := Option.some.inj H
          go_enter Try.func50, Try.ntmps50
          go_wp2
          go_ret
          exact ⟨by first | rfl | (simp; done) | (simp [*]; done), by repeat (first | exact Drawn0.refl _ | apply Drawn0.step)⟩
        · rw [if_neg c5] at H
          have c5b0 : (a0 == 45) = false := beq_eq_false_iff_ne.mpr c5
          have c5b1 : (a0 != 45) = true := bne_iff_ne.mpr c5
          by_cases c6 : a0 = 53
          · rw [if_pos c6] at H
            have c6b0 : (a0 == 53) = true := beq_iff_eq.mpr c6
            have c6b1 : (a0 != 53) = false := bne_eq_false_iff_eq.mpr c6
            clear c6
            obtain rfl := Option.some.inj H
            go_enter Try.func50, Try.ntmps50
            go_wp2
            go_ret
            exact ⟨by first | rfl | (simp; done) | (simp [*]; done), by repeat (first | exact Drawn0.refl _ | apply Drawn0.step)⟩
          · rw [if_neg c6] at H
            have c6b0 : (a0 == 53) = false := beq_eq_false_iff_ne.mpr c6
            have c6b1 : (a0 != 53) = true := bne_iff_ne.mpr c6
            by_cases c7 : a0 = 61
            · rw [if_pos c7] at H
              have c7b0 : (a0 == 61) = true := beq_iff_eq.mpr c7
              have c7b1 : (a0 != 61) = false := bne_eq_false_iff_eq.mpr c7
              clear c7
              obtain rfl := Option.some.inj H
              go_enter Try.func50, Try.ntmps50
              go_wp2
              go_ret
              exact ⟨by first | rfl | (simp; done) | (simp [*]; done), by repeat (first | exact Drawn0.refl _ | apply Drawn0.step)⟩
            · rw [if_neg c7] at H
              have c7b0 : (a0 == 61) = false := beq_eq_false_iff_ne.mpr c7
              have c7b1 : (a0 != 61) = true := bne_iff_ne.mpr c7
              by_cases c8 : a0 = 69
              · rw [if_pos c8] at H
                have c8b0 : (a0 == 69) = true := beq_iff_eq.mpr c8
                have c8b1 : (a0 != 69) = false := bne_eq_false_iff_eq.mpr c8
                clear c8
                obtain rfl := Option.some.inj H
                go_enter Try.func50, Try.ntmps50
                go_wp2
                go_ret
                exact ⟨by first | rfl | (simp; done) | (simp [*]; done), by repeat (first | exact Drawn0.refl _ | apply Drawn0.step)⟩
              · rw [if_neg c8] at H
                have c8b0 : (a0 == 69) = false := beq_eq_false_iff_ne.mpr c8
                have c8b1 : (a0 != 69) = true := bne_iff_ne.mpr c8
                by_cases c9 : a0 = 77
                · rw [if_pos c9] at H
                  have c9b0 : (a0 == 77) = true := beq_iff_eq.mpr c9
                  have c9b1 : (a0 != 77) = false := bne_eq_false_iff_eq.mpr c9
                  clear c9
                  obtain rfl := Option.some.inj H
                  go_enter Try.func50, Try.ntmps50
                  go_wp2
                  go_ret
                  exact ⟨by first | rfl | (simp; done) | (simp [*]; done), by repeat (first | exact Drawn0.refl _ | apply Drawn0.step)⟩
                · rw [if_neg c9] at H
                  have c9b0 : (a0 == 77) = false := beq_eq_false_iff_ne.mpr c9
                  have c9b1 : (a0 != 77) = true := bne_iff_ne.mpr c9
                  obtain rfl := Option.some.inj H
                  go_enter Try.func50, Try.ntmps50
                  go_wp2
                  go_ret
                  exact ⟨by first | rfl | (simp; done) | (simp [*]; done), by repeat (first | exact Drawn0.refl _ | apply Drawn0.step)⟩
def riddleref2_Operation.j0 : Nat → Int → Bool → Option (Bool)
  | 0, _, _ => none
  | k + 1, x3, x4 => if x4 = true then (some true) else (if x3 = 100 then (some true) else (if x3 = 108 then (some true) else (if x3 = 116 then (some true) else (if x3 = 124 then (some true) else (if x3 = 148 then (some true) else (if x3 = 156 then (some true) else (if x3 = 164 then (some true) else (if x3 = 172 then (some true) else (some false)))))))))
def riddleref2_Operation.f (k : Nat) (a0 : Int) : Option (Bool) := if a0 = 4 then (riddleref2_Operation.j0 k a0 (a0 == 4)) else (if a0 = 12 then (riddleref2_Operation.j0 k a0 (a0 == 12)) else (if a0 = 20 then (riddleref2_Operation.j0 k a0 (a0 == 20)) else (if a0 = 28 then (riddleref2_Operation.j0 k a0 (a0 == 28)) else (if a0 = 36 then (riddleref2_Operation.j0 k a0 (a0 == 36)) else (if a0 = 44 then (riddleref2_Operation.j0 k a0 (a0 == 44)) else (if a0 = 52 then (riddleref2_Operation.j0 k a0 (a0 == 52)) else (if a0 = 60 then (riddleref2_Operation.j0 k a0 (a0 == 60)) else (if a0 = 68 then (riddleref2_Operation.j0 k a0 (a0 == 68)) else (if a0 = 76 then (riddleref2_Operation.j0 k a0 (a0 == 76)) else (if a0 = 84 then (riddleref2_Operation.j0 k a0 (a0 == 84)) else (riddleref2_Operation.j0 k a0 (a0 == 92))))))))))))
set_option maxHeartbeats 8000000 in
set_option maxRecDepth 100000 in
theorem riddleref2_Operation.calls (k : Nat) (a0 : Int) (r : Bool) (w : World) (h : riddleref2_Operation.f k a0 = some r) :
    Calls Try.prog 92 #[.int .u16 a0] w fun e w' => e = .returned (.bool r) ∧ Drawn0 w w' := by
  have H : (if a0 = 4 then (riddleref2_Operation.j0 k a0 (a0 == 4)) else (if a0 = 12 then (riddleref2_Operation.j0 k a0 (a0 == 12)) else (if a0 = 20 then (riddleref2_Operation.j0 k a0 (a0 == 20)) else (if a0 = 28 then (riddleref2_Operation.j0 k a0 (a0 == 28)) else (if a0 = 36 then (riddleref2_Operation.j0 k a0 (a0 == 36)) else (if a0 = 44 then (riddleref2_Operation.j0 k a0 (a0 == 44)) else (if a0 = 52 then (riddleref2_Operation.j0 k a0 (a0 == 52)) else (if a0 = 60 then (riddleref2_Operation.j0 k a0 (a0 == 60)) else (if a0 = 68 then (riddleref2_Operation.j0 k a0 (a0 == 68)) else (if a0 = 76 then (riddleref2_Operation.j0 k a0 (a0 == 76)) else (if a0 = 84 then (riddleref2_Operation.j0 k a0 (a0 == 84)) else (riddleref2_Operation.j0 k a0 (a0 == 92))))))))))))) = some r := h
  clear h
  have HC2 := Aside0.mk H
  clear H
  go_enter Try.func92, Try.ntmps92
  go_upto_if 4 with (fail)
  go_cut [4] (fun v4 wc => ∃ (kq : Nat) (x4_1 : Bool), v4 = .bool x4_1 ∧ Aside0 (riddleref2_Operation.j0 kq a0 x4_1 = some r) ∧ Aside0 (kq ≤ k) ∧ Drawn0 w wc)
  case first =>
    have H := HC2.out
    clear HC2
    by_cases c3 : a0 = 4
    · rw [if_pos c3] at H
      have c3b0 : (a0 == 4) = true := beq_iff_eq.mpr c3
      have c3b1 : (a0 != 4) = false := bne_eq_false_iff_eq.mpr c3
      clear c3
      (first | rw [c3b0] | (simp only [i64_w, i32_w]; rw [c3b0]) | skip)
      have H' := Aside0.mk H
      clear H
      go_wp2
      go_meet
      case rel => exact ⟨_, ((a0 == 4)), (by first | rfl | (simp; done) | (simp [*]; done)), H', ⟨by first | omega | exact Nat.le_refl _⟩, by repeat (first | exact Drawn0.refl _ | apply Drawn0.step)⟩
    · rw [if_neg c3] at H
      have c3b0 : (a0 == 4) = false := beq_eq_false_iff_ne.mpr c3
      have c3b1 : (a0 != 4) = true := bne_iff_ne.mpr c3
      (first | rw [c3b0] | (simp only [i64_w, i32_w]; rw [c3b0]) | skip)
      by_cases c4 : a0 = 12
      · rw [if_pos c4] at H
        have c4b0 : (a0 == 12) = true := beq_iff_eq.mpr c4
        have c4b1 : (a0 != 12) = false := bne_eq_false_iff_eq.mpr c4
        clear c4
        have H' := Aside0.mk H
        clear H
        go_wp2
        go_meet
        case rel => exact ⟨_, ((a0 == 12)), (by first | rfl | (simp; done) | (simp [*]; done)), H', ⟨by first | omega | exact Nat.le_refl _⟩, by repeat (first | exact Drawn0.refl _ | apply Drawn0.step)⟩
      · rw [if_neg c4] at H
        have c4b0 : (a0 == 12) = false := beq_eq_false_iff_ne.mpr c4
        have c4b1 : (a0 != 12) = true := bne_iff_ne.mpr c4
        by_cases c5 : a0 = 20
        · rw [if_pos c5] at H
          have c5b0 : (a0 == 20) = true := beq_iff_eq.mpr c5
          have c5b1 : (a0 != 20) = false := bne_eq_false_iff_eq.mpr c5
          clear c5
          have H' := Aside0.mk H
          clear H
          go_wp2
          go_meet
          case rel => exact ⟨_, ((a0 == 20)), (by first | rfl | (simp; done) | (simp [*]; done)), H', ⟨by first | omega | exact Nat.le_refl _⟩, by repeat (first | exact Drawn0.refl _ | apply Drawn0.step)⟩
        · rw [if_neg c5] at H
          have c5b0 : (a0 == 20) = false := beq_eq_false_iff_ne.mpr c5
          have c5b1 : (a0 != 20) = true := bne_iff_ne.mpr c5
          by_cases c6 : a0 = 28
          · rw [if_pos c6] at H
            have c6b0 : (a0 == 28) = true := beq_iff_eq.mpr c6
            have c6b1 : (a0 != 28) = false := bne_eq_false_iff_eq.mpr c6
            clear c6
            have H' := Aside0.mk H
            clear H
            go_wp2
            go_meet
            case rel => exact ⟨_, ((a0 == 28)), (by first | rfl | (simp; done) | (simp [*]; done)), H', ⟨by first | omega | exact Nat.le_refl _⟩, by repeat (first | exact Drawn0.refl _ | apply Drawn0.step)⟩
          · rw [if_neg c6] at H
            have c6b0 : (a0 == 28) = false := beq_eq_false_iff_ne.mpr c6
            have c6b1 : (a0 != 28) = true := bne_iff_ne.mpr c6
            by_cases c7 : a0 = 36
            · rw [if_pos c7] at H
              have c7b0 : (a0 == 36) = true := beq_iff_eq.mpr c7
              have c7b1 : (a0 != 36) = false := bne_eq_false_iff_eq.mpr c7
              clear c7
              have H' := Aside0.mk H
              clear H
              go_wp2
              go_meet
              case rel => exact ⟨_, ((a0 == 36)), (by first | rfl | (simp; done) | (simp [*]; done)), H', ⟨by first | omega | exact Nat.le_refl _⟩, by repeat (first | exact Drawn0.refl _ | apply Drawn0.step)⟩
            · rw [if_neg c7] at H
              have c7b0 : (a0 == 36) = false := beq_eq_false_iff_ne.mpr c7
              have c7b1 : (a0 != 36) = true := bne_iff_ne.mpr c7
              by_cases c8 : a0 = 44
              · rw [if_pos c8] at H
                have c8b0 : (a0 == 44) = true := beq_iff_eq.mpr c8
                have c8b1 : (a0 != 44) = false := bne_eq_false_iff_eq.mpr c8
                clear c8
                have H' := Aside0.mk H
                clear H
                go_wp2
                go_meet
                case rel => exact ⟨_, ((a0 == 44)), (by first | rfl | (simp; done) | (simp [*]; done)), H', ⟨by first | omega | exact Nat.le_refl _⟩, by repeat (first | exact Drawn0.refl _ | apply Drawn0.step)⟩
              · rw [if_neg c8] at H
                have c8b0 : (a0 == 44) = false := beq_eq_false_iff_ne.mpr c8
                have c8b1 : (a0 != 44) = true := bne_iff_ne.mpr c8
                by_cases c9 : a0 = 52
                · rw [if_pos c9] at H
                  have c9b0 : (a0 == 52) = true := beq_iff_eq.mpr c9
                  have c9b1 : (a0 != 52) = false := bne_eq_false_iff_eq.mpr c9
                  clear c9
                  have H' := Aside0.mk H
                  clear H
                  go_wp2
                  go_meet
                  case rel => exact ⟨_, ((a0 == 52)), (by first | rfl | (simp; done) | (simp [*]; done)), H', ⟨by first | omega | exact Nat.le_refl _⟩, by repeat (first | exact Drawn0.refl _ | apply Drawn0.step)⟩
                · rw [if_neg c9] at H
                  have c9b0 : (a0 == 52) = false := beq_eq_false_iff_ne.mpr c9
                  have c9b1 : (a0 != 52) = true := bne_iff_ne.mpr c9
                  by_cases c10 : a0 = 60
                  · rw [if_pos c10] at H
                    have c10b0 : (a0 == 60) = true := beq_iff_eq.mpr c10
                    have c10b1 : (a0 != 60) = false := bne_eq_false_iff_eq.mpr c10
                    clear c10
                    have H' := Aside0.mk H
                    clear H
                    go_wp2
                    go_meet
                    case rel => exact ⟨_, ((a0 == 60)), (by first | rfl | (simp; done) | (simp [*]; done)), H', ⟨by first | omega | exact Nat.le_refl _⟩, by repeat (first | exact Drawn0.refl _ | apply Drawn0.step)⟩
                  · rw [if_neg c10] at H
                    have c10b0 : (a0 == 60) = false := beq_eq_false_iff_ne.mpr c10
                    have c10b1 : (a0 != 60) = true := bne_iff_ne.mpr c10
                    by_cases c11 : a0 = 68
                    · rw [if_pos c11] at H
                      have c11b0 : (a0 == 68) = true := beq_iff_eq.mpr c11
                      have c11b1 : (a0 != 68) = false := bne_eq_false_iff_eq.mpr c11
                      clear c11
                      have H' := Aside0.mk H
                      clear H
                      go_wp2
                      go_meet
                      case rel => exact ⟨_, ((a0 == 68)), (by first | rfl | (simp; done) | (simp [*]; done)), H', ⟨by first | omega | exact Nat.le_refl _⟩, by repeat (first | exact Drawn0.refl _ | apply Drawn0.step)⟩
                    · rw [if_neg c11] at H
                      have c11b0 : (a0 == 68) = false := beq_eq_false_iff_ne.mpr c11
                      have c11b1 : (a0 != 68) = true := bne_iff_ne.mpr c11
                      by_cases c12 : a0 = 76
                      · rw [if_pos c12] at H
                        have c12b0 : (a0 == 76) = true := beq_iff_eq.mpr c12
                        have c12b1 : (a0 != 76) = false := bne_eq_false_iff_eq.mpr c12
                        clear c12
                        have H' := Aside0.mk H
                        clear H
                        go_wp2
                        go_meet
                        case rel => exact ⟨_, ((a0 == 76)), (by first | rfl | (simp; done) | (simp [*]; done)), H', ⟨by first | omega | exact Nat.le_refl _⟩, by repeat (first | exact Drawn0.refl _ | apply Drawn0.step)⟩
                      · rw [if_neg c12] at H
                        have c12b0 : (a0 == 76) = false := beq_eq_false_iff_ne.mpr c12
                        have c12b1 : (a0 != 76) = true := bne_iff_ne.mpr c12
                        by_cases c13 : a0 = 84
                        · rw [if_pos c13] at H
                          have c13b0 : (a0 == 84) = true := beq_iff_eq.mpr c13
                          have c13b1 : (a0 != 84) = false := bne_eq_false_iff_eq.mpr c13
                          clear c13
                          have H' := Aside0.mk H
                          clear H
                          go_wp2
                          go_meet
                          case rel => exact ⟨_, ((a0 == 84)), (by first | rfl | (simp; done) | (simp [*]; done)), H', ⟨by first | omega | exact Nat.le_refl _⟩, by repeat (first | exact Drawn0.refl _ | apply Drawn0.step)⟩
                        · rw [if_neg c13] at H
                          have c13b0 : (a0 == 84) = false := beq_eq_false_iff_ne.mpr c13
                          have c13b1 : (a0 != 84) = true := bne_iff_ne.mpr c13
                          have H' := Aside0.mk H
                          clear H
                          go_wp2
                          go_meet
                          case rel => exact ⟨_, ((a0 == 92)), (by first | rfl | (simp; done) | (simp [*]; done)), H', ⟨by first | omega | exact Nat.le_refl _⟩, by repeat (first | exact Drawn0.refl _ | apply Drawn0.step)⟩
  case rest =>
    clear HC2
    try clear c1
    try clear p2
    try clear c3
    try clear c3b0
    try clear c3b1
    try clear c4
    try clear c4b0
    try clear c4b1
    try clear c5
    try clear c5b0
    try clear c5b1
    try clear c6
    try clear c6b0
    try clear c6b1
    try clear c7
    try clear c7b0
    try clear c7b1
    try clear c8
    try clear c8b0
    try clear c8b1
    try clear c9
    try clear c9b0
    try clear c9b1
    try clear c10
    try clear c10b0
    try clear c10b1
    try clear c11
    try clear c11b0
    try clear c11b1
    try clear c12
    try clear c12b0
    try clear c12b1
    try clear c13
    try clear c13b0
    try clear c13b1
    obtain ⟨kq, x4_1, rfl, HA, HJ1, ⟨mc1, rfl⟩⟩ := hcut
    cases kq with
    | zero => exact absurd HA.out (by simp [riddleref2_Operation.j0])
    | succ kj1 =>
      have H := HA.out
      clear HA
      simp only [riddleref2_Operation.j0] at H
      by_cases c14 : x4_1 = true
      · subst c14
        have H1 : (some true) = some r := by rw [if_pos rfl] at H; exact H
        clear H
        have H := H1
        clear H1
        obtain rfl := Option.some.inj H
        go_wp2
        go_ret
        exact ⟨by first | rfl | (simp; done) | (simp [*]; done), by repeat (first | exact Drawn0.refl _ | apply Drawn0.step)⟩
      · replace c14 := Bool.eq_false_iff.mpr c14
        subst c14
        have H1 : (if a0 = 100 then (some true) else (if a0 = 108 then (some true) else (if a0 = 116 then (some true) else (if a0 = 124 then (some true) else (if a0 = 148 then (some true) else (if a0 = 156 then (some true) else (if a0 = 164 then (some true) else (if a0 = 172 then (some true) else (some false))))))))) = some r := by rw [if_neg (show ¬ (false = true) by decide)] at H; exact H
        clear H
        have H := H1
        clear H1
        by_cases c15 : a0 = 100
        · rw [if_pos c15] at H
          have c15b0 : (a0 == 100) = true := beq_iff_eq.mpr c15
          have c15b1 : (a0 != 100) = false := bne_eq_false_iff_eq.mpr c15
          clear c15
          obtain rfl := Option.some.inj H
          go_wp2
          go_ret
          exact ⟨by first | rfl | (simp; done) | (simp [*]; done), by repeat (first | exact Drawn0.refl _ | apply Drawn0.step)⟩
        · rw [if_neg c15] at H
          have c15b0 : (a0 == 100) = false := beq_eq_false_iff_ne.mpr c15
          have c15b1 : (a0 != 100) = true := bne_iff_ne.mpr c15
          by_cases c16 : a0 = 108
          · rw [if_pos c16] at H
            have c16b0 : (a0 == 108) = true := beq_iff_eq.mpr c16
            have c16b1 : (a0 != 108) = false := bne_eq_false_iff_eq.mpr c16
            clear c16
            obtain rfl := Option.some.inj H
            go_wp2
            go_ret
            exact ⟨by first | rfl | (simp; done) | (simp [*]; done), by repeat (first | exact Drawn0.refl _ | apply Drawn0.step)⟩
          · rw [if_neg c16] at H
            have c16b0 : (a0 == 108) = false := beq_eq_false_iff_ne.mpr c16
            have c16b1 : (a0 != 108) = true := bne_iff_ne.mpr c16
            by_cases c17 : a0 = 116
            · rw [if_pos c17] at H
              have c17b0 : (a0 == 116) = true := beq_iff_eq.mpr c17
              have c17b1 : (a0 != 116) = false := bne_eq_false_iff_eq.mpr c17
              clear c17
              obtain rfl := Option.some.inj H
              go_wp2
              go_ret
              exact ⟨by first | rfl | (simp; done) | (simp [*]; done), by repeat (first | exact Drawn0.refl _ | apply Drawn0.step)⟩
            · rw [if_neg c17] at H
              have c17b0 : (a0 == 116) = false := beq_eq_false_iff_ne.mpr c17
              have c17b1 : (a0 != 116) = true := bne_iff_ne.mpr c17
              by_cases c18 : a0 = 124
              · rw [if_pos c18] at H
                have c18b0 : (a0 == 124) = true := beq_iff_eq.mpr c18
                have c18b1 : (a0 != 124) = false := bne_eq_false_iff_eq.mpr c18
                clear c18
                obtain rfl := Option.some.inj H
                go_wp2
                go_ret
                exact ⟨by first | rfl | (simp; done) | (simp [*]; done), by repeat (first | exact Drawn0.refl _ | apply Drawn0.step)⟩
              · rw [if_neg c18] at H
                have c18b0 : (a0 == 124) = false := beq_eq_false_iff_ne.mpr c18
                have c18b1 : (a0 != 124) = true := bne_iff_ne.mpr c18
                by_cases c19 : a0 = 148
                · rw [if_pos c19] at H
                  have c19b0 : (a0 == 148) = true := beq_iff_eq.mpr c19
                  have c19b1 : (a0 != 148) = false := bne_eq_false_iff_eq.mpr c19
                  clear c19
                  obtain rfl := Option.some.inj H
                  go_wp2
                  go_ret
                  exact ⟨by first | rfl | (simp; done) | (simp [*]; done), by repeat (first | exact Drawn0.refl _ | apply Drawn0.step)⟩
                · rw [if_neg c19] at H
                  have c19b0 : (a0 == 148) = false := beq_eq_false_iff_ne.mpr c19
                  have c19b1 : (a0 != 148) = true := bne_iff_ne.mpr c19
                  by_cases c20 : a0 = 156
                  · rw [if_pos c20] at H
                    have c20b0 : (a0 == 156) = true := beq_iff_eq.mpr c20
                    have c20b1 : (a0 != 156) = false := bne_eq_false_iff_eq.mpr c20
                    clear c20
                    obtain rfl := Option.some.inj H
                    go_wp2
                    go_ret
                    exact ⟨by first | rfl | (simp; done) | (simp [*]; done), by repeat (first | exact Drawn0.refl _ | apply Drawn0.step)⟩
                  · rw [if_neg c20] at H
                    have c20b0 : (a0 == 156) = false := beq_eq_false_iff_ne.mpr c20
                    have c20b1 : (a0 != 156) = true := bne_iff_ne.mpr c20
                    by_cases c21 : a0 = 164
                    · rw [if_pos c21] at H
                      have c21b0 : (a0 == 164) = true := beq_iff_eq.mpr c21
                      have c21b1 : (a0 != 164) = false := bne_eq_false_iff_eq.mpr c21
                      clear c21
                      obtain rfl := Option.some.inj H
                      go_wp2
                      go_ret
                      exact ⟨by first | rfl | (simp; done) | (simp [*]; done), by repeat (first | exact Drawn0.refl _ | apply Drawn0.step)⟩
                    · rw [if_neg c21] at H
                      have c21b0 : (a0 == 164) = false := beq_eq_false_iff_ne.mpr c21
                      have c21b1 : (a0 != 164) = true := bne_iff_ne.mpr c21
                      by_cases c22 : a0 = 172
                      · rw [if_pos c22] at H
                        have c22b0 : (a0 == 172) = true := beq_iff_eq.mpr c22
                        have c22b1 : (a0 != 172) = false := bne_eq_false_iff_eq.mpr c22
                        clear c22
                        obtain rfl := Option.some.inj H
                        go_wp2
                        go_ret
                        exact ⟨by first | rfl | (simp; done) | (simp [*]; done), by repeat (first | exact Drawn0.refl _ | apply Drawn0.step)⟩
                      · rw [if_neg c22] at H
                        have c22b0 : (a0 == 172) = false := beq_eq_false_iff_ne.mpr c22
                        have c22b1 : (a0 != 172) = true := bne_iff_ne.mpr c22
                        obtain rfl := Option.some.inj H
                        go_wp2
                        go_ret
                        exact ⟨by first | rfl | (simp; done) | (simp [*]; done), by repeat (first | exact Drawn0.refl _ | apply Drawn0.step)⟩
end Go.Proofs.Ytdkalnkplgfgoaa.PA
namespace Go.Proofs.Ytdkalnkplgfgoaa.PA
open Go.RowKit Go.Proofs.YtdkalnkplgfgoaaW.PrintWords Go.Proofs.YtdkalnkplgfgoaaW.PrintLast Go.Proofs.YtdkalnkplgfgoaaW.PrintMore
attribute [local go_sem] max2_int min2_int max_two min_two max_three min_three max_four min_four   -- for this text's walks alone
set_option linter.unusedVariables false
set_option linter.unusedSimpArgs false
mutual
def riddleref2_Known.j0 : Nat → Int → Int → Bool → Option (Bool)
  | 0, _, _, _ => none
  | k + 1, x0, x3, x4 => if x4 = true then (some true) else (if x3 = 1 then (riddleref2_Known.j1 k x0 (x3 == 1)) else (if x3 = 97 then (riddleref2_Known.j1 k x0 (x3 == 97)) else (if x3 = 129 then (riddleref2_Known.j1 k x0 (x3 == 129)) else (if x3 = 177 then (riddleref2_Known.j1 k x0 (x3 == 177)) else (if x3 = 2 then (riddleref2_Known.j1 k x0 (x3 == 2)) else (if x3 = 3 then (riddleref2_Known.j1 k x0 (x3 == 3)) else (if x3 = 132 then (riddleref2_Known.j1 k x0 (x3 == 132)) else (if x3 = 6 then (riddleref2_Known.j1 k x0 (x3 == 6)) else (if x3 = 22 then (riddleref2_Known.j1 k x0 (x3 == 22)) else (if x3 = 7 then (riddleref2_Known.j1 k x0 (x3 == 7)) else (if x3 = 135 then (riddleref2_Known.j1 k x0 (x3 == 135)) else (riddleref2_Known.j1 k x0 (x3 == 5)))))))))))))
def riddleref2_Known.j1 : Nat → Int → Bool → Option (Bool)
  | 0, _, _ => none
  | k + 1, x0, x14 => if x14 = true then (some true) else ((riddleref2_Jump.f x0).bind fun t103 => (if t103 = true then (some true) else ((riddleref2_Operation.f k x0).bind fun t104 => (some t104))))
end
def riddleref2_Known.f (k : Nat) (a0 : Int) : Option (Bool) := if a0 = 0 then (riddleref2_Known.j0 k a0 a0 (a0 == 0)) else (if a0 = 32 then (riddleref2_Known.j0 k a0 a0 (a0 == 32)) else (if a0 = 40 then (riddleref2_Known.j0 k a0 a0 (a0 == 40)) else (if a0 = 48 then (riddleref2_Known.j0 k a0 a0 (a0 == 48)) else (if a0 = 64 then (riddleref2_Known.j0 k a0 a0 (a0 == 64)) else (if a0 = 72 then (riddleref2_Known.j0 k a0 a0 (a0 == 72)) else (if a0 = 80 then (riddleref2_Known.j0 k a0 a0 (a0 == 80)) else (if a0 = 96 then (riddleref2_Known.j0 k a0 a0 (a0 == 96)) else (riddleref2_Known.j0 k a0 a0 (a0 == 128)))))))))
set_option maxHeartbeats 8000000 in
set_option maxRecDepth 100000 in
theorem riddleref2_Known.calls (k : Nat) (a0 : Int) (r : Bool) (w : World) (h : riddleref2_Known.f k a0 = some r) :
    Calls Try.prog 81 #[.int .u16 a0] w fun e w' => e = .returned (.bool r) ∧ Drawn0 w w' := by
  have H : (if a0 = 0 then (riddleref2_Known.j0 k a0 a0 (a0 == 0)) else (if a0 = 32 then (riddleref2_Known.j0 k a0 a0 (a0 == 32)) else (if a0 = 40 then (riddleref2_Known.j0 k a0 a0 (a0 == 40)) else (if a0 = 48 then (riddleref2_Known.j0 k a0 a0 (a0 == 48)) else (if a0 = 64 then (riddleref2_Known.j0 k a0 a0 (a0 == 64)) else (if a0 = 72 then (riddleref2_Known.j0 k a0 a0 (a0 == 72)) else (if a0 = 80 then (riddleref2_Known.j0 k a0 a0 (a0 == 80)) else (if a0 = 96 then (riddleref2_Known.j0 k a0 a0 (a0 == 96)) else (riddleref2_Known.j0 k a0 a0 (a0 == 128)))))))))) = some r := h
  clear h
  have HC2 := Aside0.mk H
  clear H
  go_enter Try.func81, Try.ntmps81
  go_upto_if 4 with (fail)
  go_cut [4] (fun v4 wc => ∃ (kq : Nat) (x4_1 : Bool), v4 = .bool x4_1 ∧ Aside0 (riddleref2_Known.j0 kq a0 a0 x4_1 = some r) ∧ Aside0 (kq ≤ k) ∧ Drawn0 w wc)
  case first =>
    have H := HC2.out
    clear HC2
    by_cases c3 : a0 = 0
    · rw [if_pos c3] at H
      have c3b0 : (a0 == 0) = true := beq_iff_eq.mpr c3
      have c3b1 : (a0 != 0) = false := bne_eq_false_iff_eq.mpr c3
      clear c3
      (first | rw [c3b0] | (simp only [i64_w, i32_w]; rw [c3b0]) | skip)
      have H' := Aside0.mk H
      clear H
      go_wp2
      go_meet
      case rel => exact ⟨_, ((a0 == 0)), (by first | rfl | (simp; done) | (simp [*]; done)), H', ⟨by first | omega | exact Nat.le_refl _⟩, by repeat (first | exact Drawn0.refl _ | apply Drawn0.step)⟩
    · rw [if_neg c3] at H
      have c3b0 : (a0 == 0) = false := beq_eq_false_iff_ne.mpr c3
      have c3b1 : (a0 != 0) = true := bne_iff_ne.mpr c3
      (first | rw [c3b0] | (simp only [i64_w, i32_w]; rw [c3b0]) | skip)
      by_cases c4 : a0 = 32
      · rw [if_pos c4] at H
        have c4b0 : (a0 == 32) = true := beq_iff_eq.mpr c4
        have c4b1 : (a0 != 32) = false := bne_eq_false_iff_eq.mpr c4
        clear c4
        have H' := Aside0.mk H
        clear H
        go_wp2
        go_meet
        case rel => exact ⟨_, ((a0 == 32)), (by first | rfl | (simp; done) | (simp [*]; done)), H', ⟨by first | omega | exact Nat.le_refl _⟩, by repeat (first | exact Drawn0.refl _ | apply Drawn0.step)⟩
      · rw [if_neg c4] at H
        have c4b0 : (a0 == 32) = false := beq_eq_false_iff_ne.mpr c4
        have c4b1 : (a0 != 32) = true := bne_iff_ne.mpr c4
        by_cases c5 : a0 = 40
        · rw [if_pos c5] at H
          have c5b0 : (a0 == 40) = true := beq_iff_eq.mpr c5
          have c5b1 : (a0 != 40) = false := bne_eq_false_iff_eq.mpr c5
          clear c5
          have H' := Aside0.mk H
          clear H
          go_wp2
          go_meet
          case rel => exact ⟨_, ((a0 == 40)), (by first | rfl | (simp; done) | (simp [*]; done)), H', ⟨by first | omega | exact Nat.le_refl _⟩, by repeat (first | exact Drawn0.refl _ | apply Drawn0.step)⟩
        · rw [if_neg c5] at H
          have c5b0 : (a0 == 40) = false := beq_eq_false_iff_ne.mpr c5
          have c5b1 : (a0 != 40) = true := bne_iff_ne.mpr c5
          by_cases c6 : a0 = 48
          · rw [if_pos c6] at H
            have c6b0 : (a0 == 48) = true := beq_iff_eq.mpr c6
            have c6b1 : (a0 != 48) = false := bne_eq_false_iff_eq.mpr c6
            clear c6
            have H' := Aside0.mk H
            clear H
            go_wp2
            go_meet
            case rel => exact ⟨_, ((a0 == 48)), (by first | rfl | (simp; done) | (simp [*]; done)), H', ⟨by first | omega | exact Nat.le_refl _⟩, by repeat (first | exact Drawn0.refl _ | apply Drawn0.step)⟩
          · rw [if_neg c6] at H
            have c6b0 : (a0 == 48) = false := beq_eq_false_iff_ne.mpr c6
            have c6b1 : (a0 != 48) = true := bne_iff_ne.mpr c6
            by_cases c7 : a0 = 64
            · rw [if_pos c7] at H
              have c7b0 : (a0 == 64) = true := beq_iff_eq.mpr c7
              have c7b1 : (a0 != 64) = false := bne_eq_false_iff_eq.mpr c7
              clear c7
              have H' := Aside0.mk H
              clear H
              go_wp2
              go_meet
              case rel => exact ⟨_, ((a0 == 64)), (by first | rfl | (simp; done) | (simp [*]; done)), H', ⟨by first | omega | exact Nat.le_refl _⟩, by repeat (first | exact Drawn0.refl _ | apply Drawn0.step)⟩
            · rw [if_neg c7] at H
              have c7b0 : (a0 == 64) = false := beq_eq_false_iff_ne.mpr c7
              have c7b1 : (a0 != 64) = true := bne_iff_ne.mpr c7
              by_cases c8 : a0 = 72
              · rw [if_pos c8] at H
                have c8b0 : (a0 == 72) = true := beq_iff_eq.mpr c8
                have c8b1 : (a0 != 72) = false := bne_eq_false_iff_eq.mpr c8
                clear c8
                have H' := Aside0.mk H
                clear H
                go_wp2
                go_meet
                case rel => exact ⟨_, ((a0 == 72)), (by first | rfl | (simp; done) | (simp [*]; done)), H', ⟨by first | omega | exact Nat.le_refl _⟩, by repeat (first | exact Drawn0.refl _ | apply Drawn0.step)⟩
              · rw [if_neg c8] at H
                have c8b0 : (a0 == 72) = false := beq_eq_false_iff_ne.mpr c8
                have c8b1 : (a0 != 72) = true := bne_iff_ne.mpr c8
                by_cases c9 : a0 = 80
                · rw [if_pos c9] at H
                  have c9b0 : (a0 == 80) = true := beq_iff_eq.mpr c9
                  have c9b1 : (a0 != 80) = false := bne_eq_false_iff_eq.mpr c9
                  clear c9
                  have H' := Aside0.mk H
                  clear H
                  go_wp2
                  go_meet
                  case rel => exact ⟨_, ((a0 == 80)), (by first | rfl | (simp; done) | (simp [*]; done)), H', ⟨by first | omega | exact Nat.le_refl _⟩, by repeat (first | exact Drawn0.refl _ | apply Drawn0.step)⟩
                · rw [if_neg c9] at H
                  have c9b0 : (a0 == 80) = false := beq_eq_false_iff_ne.mpr c9
                  have c9b1 : (a0 != 80) = true := bne_iff_ne.mpr c9
                  by_cases c10 : a0 = 96
                  · rw [if_pos c10] at H
                    have c10b0 : (a0 == 96) = true := beq_iff_eq.mpr c10
                    have c10b1 : (a0 != 96) = false := bne_eq_false_iff_eq.mpr c10
                    clear c10
                    have H' := Aside0.mk H
                    clear H
                    go_wp2
                    go_meet
                    case rel => exact ⟨_, ((a0 == 96)), (by first | rfl | (simp; done) | (simp [*]; done)), H', ⟨by first | omega | exact Nat.le_refl _⟩, by repeat (first | exact Drawn0.refl _ | apply Drawn0.step)⟩
                  · rw [if_neg c10] at H
                    have c10b0 : (a0 == 96) = false := beq_eq_false_iff_ne.mpr c10
                    have c10b1 : (a0 != 96) = true := bne_iff_ne.mpr c10
                    have H' := Aside0.mk H
                    clear H
                    go_wp2
                    go_meet
                    case rel => exact ⟨_, ((a0 == 128)), (by first | rfl | (simp; done) | (simp [*]; done)), H', ⟨by first | omega | exact Nat.le_refl _⟩, by repeat (first | exact Drawn0.refl _ | apply Drawn0.step)⟩
  case rest =>
    clear HC2
    try clear c1
    try clear p2
    try clear c3
    try clear c3b0
    try clear c3b1
    try clear c4
    try clear c4b0
    try clear c4b1
    try clear c5
    try clear c5b0
    try clear c5b1
    try clear c6
    try clear c6b0
    try clear c6b1
    try clear c7
    try clear c7b0
    try clear c7b1
    try clear c8
    try clear c8b0
    try clear c8b1
    try clear c9
    try clear c9b0
    try clear c9b1
    try clear c10
    try clear c10b0
    try clear c10b1
    obtain ⟨kq, x4_1, rfl, HA, HJ1, ⟨mc1, rfl⟩⟩ := hcut
    cases kq with
    | zero => exact absurd HA.out (by simp [riddleref2_Known.j0])
    | succ kj1 =>
      have H := HA.out
      clear HA
      simp only [riddleref2_Known.j0] at H
      by_cases c11 : x4_1 = true
      · subst c11
        have H1 : (some true) = some r := by rw [if_pos rfl] at H; exact H
        clear H
        have H := H1
        clear H1
        obtain rfl := Option.some.inj H
        go_wp2
        go_ret
        exact ⟨by first | rfl | (simp; done) | (simp [*]; done), by repeat (first | exact Drawn0.refl _ | apply Drawn0.step)⟩
      · replace c11 := Bool.eq_false_iff.mpr c11
        subst c11
        have H1 : (if a0 = 1 then (riddleref2_Known.j1 kj1 a0 (a0 == 1)) else (if a0 = 97 then (riddleref2_Known.j1 kj1 a0 (a0 == 97)) else (if a0 = 129 then (riddleref2_Known.j1 kj1 a0 (a0 == 129)) else (if a0 = 177 then (riddleref2_Known.j1 kj1 a0 (a0 == 177)) else (if a0 = 2 then (riddleref2_Known.j1 kj1 a0 (a0 == 2)) else (if a0 = 3 then (riddleref2_Known.j1 kj1 a0 (a0 == 3)) else (if a0 = 132 then (riddleref2_Known.j1 kj1 a0 (a0 == 132)) else (if a0 = 6 then (riddleref2_Known.j1 kj1 a0 (a0 == 6)) else (if a0 = 22 then (riddleref2_Known.j1 kj1 a0 (a0 == 22)) else (if a0 = 7 then (riddleref2_Known.j1 kj1 a0 (a0 == 7)) else (if a0 = 135 then (riddleref2_Known.j1 kj1 a0 (a0 == 135)) else (riddleref2_Known.j1 kj1 a0 (a0 == 5))))))))))))) = some r := by rw [if_neg (show ¬ (false = true) by decide)] at H; exact H
        clear H
        have H := H1
        clear H1
        have HC12 := Aside0.mk H
        clear H
        go_upto_if 14 with (fail)
        go_cut [14] (fun v14 wc => ∃ (kq : Nat) (x14_11 : Bool), v14 = .bool x14_11 ∧ Aside0 (riddleref2_Known.j1 kq a0 x14_11 = some r) ∧ Aside0 (kq ≤ kj1) ∧ Drawn0 w wc)
        case first =>
          have H := HC12.out
          clear HC12
          by_cases c13 : a0 = 1
          · rw [if_pos c13] at H
            have c13b0 : (a0 == 1) = true := beq_iff_eq.mpr c13
            have c13b1 : (a0 != 1) = false := bne_eq_false_iff_eq.mpr c13
            clear c13
            (first | rw [c13b0] | (simp only [i64_w, i32_w]; rw [c13b0]) | skip)
            have H' := Aside0.mk H
            clear H
            go_wp2
            go_meet
            case rel => exact ⟨_, ((a0 == 1)), (by first | rfl | (simp; done) | (simp [*]; done)), H', ⟨by have := HJ1.out; first | omega | exact Nat.le_refl _⟩, by repeat (first | exact Drawn0.refl _ | apply Drawn0.step)⟩
          · rw [if_neg c13] at H
            have c13b0 : (a0 == 1) = false := beq_eq_false_iff_ne.mpr c13
            have c13b1 : (a0 != 1) = true := bne_iff_ne.mpr c13
            (first | rw [c13b0] | (simp only [i64_w, i32_w]; rw [c13b0]) | skip)
            by_cases c14 : a0 = 97
            · rw [if_pos c14] at H
              have c14b0 : (a0 == 97) = true := beq_iff_eq.mpr c14
              have c14b1 : (a0 != 97) = false := bne_eq_false_iff_eq.mpr c14
              clear c14
              have H' := Aside0.mk H
              clear H
              go_wp2
              go_meet
              case rel => exact ⟨_, ((a0 == 97)), (by first | rfl | (simp; done) | (simp [*]; done)), H', ⟨by have := HJ1.out; first | omega | exact Nat.le_refl _⟩, by repeat (first | exact Drawn0.refl _ | apply Drawn0.step)⟩
            · rw [if_neg c14] at H
              have c14b0 : (a0 == 97) = false := beq_eq_false_iff_ne.mpr c14
              have c14b1 : (a0 != 97) = true := bne_iff_ne.mpr c14
              by_cases c15 : a0 = 129
              · rw [if_pos c15] at H
                have c15b0 : (a0 == 129) = true := beq_iff_eq.mpr c15
                have c15b1 : (a0 != 129) = false := bne_eq_false_iff_eq.mpr c15
                clear c15
                have H' := Aside0.mk H
                clear H
                go_wp2
                go_meet
                case rel => exact ⟨_, ((a0 == 129)), (by first | rfl | (simp; done) | (simp [*]; done)), H', ⟨by have := HJ1.out; first | omega | exact Nat.le_refl _⟩, by repeat (first | exact Drawn0.refl _ | apply Drawn0.step)⟩
              · rw [if_neg c15] at H
                have c15b0 : (a0 == 129) = false := beq_eq_false_iff_ne.mpr c15
                have c15b1 : (a0 != 129) = true := bne_iff_ne.mpr c15
                by_cases c16 : a0 = 177
                · rw [if_pos c16] at H
                  have c16b0 : (a0 == 177) = true := beq_iff_eq.mpr c16
                  have c16b1 : (a0 != 177) = false := bne_eq_false_iff_eq.mpr c16
                  clear c16
                  have H' := Aside0.mk H
                  clear H
                  go_wp2
                  go_meet
                  case rel => exact ⟨_, ((a0 == 177)), (by first | rfl | (simp; done) | (simp [*]; done)), H', ⟨by have := HJ1.out; first | omega | exact Nat.le_refl _⟩, by repeat (first | exact Drawn0.refl _ | apply Drawn0.step)⟩
                · rw [if_neg c16] at H
                  have c16b0 : (a0 == 177) = false := beq_eq_false_iff_ne.mpr c16
                  have c16b1 : (a0 != 177) = true := bne_iff_ne.mpr c16
                  by_cases c17 : a0 = 2
                  · rw [if_pos c17] at H
                    have c17b0 : (a0 == 2) = true := beq_iff_eq.mpr c17
                    have c17b1 : (a0 != 2) = false := bne_eq_false_iff_eq.mpr c17
                    clear c17
                    have H' := Aside0.mk H
                    clear H
                    go_wp2
                    go_meet
                    case rel => exact ⟨_, ((a0 == 2)), (by first | rfl | (simp; done) | (simp [*]; done)), H', ⟨by have := HJ1.out; first | omega | exact Nat.le_refl _⟩, by repeat (first | exact Drawn0.refl _ | apply Drawn0.step)⟩
                  · rw [if_neg c17] at H
                    have c17b0 : (a0 == 2) = false := beq_eq_false_iff_ne.mpr c17
                    have c17b1 : (a0 != 2) = true := bne_iff_ne.mpr c17
                    by_cases c18 : a0 = 3
                    · rw [if_pos c18] at H
                      have c18b0 : (a0 == 3) = true := beq_iff_eq.mpr c18
                      have c18b1 : (a0 != 3) = false := bne_eq_false_iff_eq.mpr c18
                      clear c18
                      have H' := Aside0.mk H
                      clear H
                      go_wp2
                      go_meet
                      case rel => exact ⟨_, ((a0 == 3)), (by first | rfl | (simp; done) | (simp [*]; done)), H', ⟨by have := HJ1.out; first | omega | exact Nat.le_refl _⟩, by repeat (first | exact Drawn0.refl _ | apply Drawn0.step)⟩
                    · rw [if_neg c18] at H
                      have c18b0 : (a0 == 3) = false := beq_eq_false_iff_ne.mpr c18
                      have c18b1 : (a0 != 3) = true := bne_iff_ne.mpr c18
                      by_cases c19 : a0 = 132
                      · rw [if_pos c19] at H
                        have c19b0 : (a0 == 132) = true := beq_iff_eq.mpr c19
                        have c19b1 : (a0 != 132) = false := bne_eq_false_iff_eq.mpr c19
                        clear c19
                        have H' := Aside0.mk H
                        clear H
                        go_wp2
                        go_meet
                        case rel => exact ⟨_, ((a0 == 132)), (by first | rfl | (simp; done) | (simp [*]; done)), H', ⟨by have := HJ1.out; first | omega | exact Nat.le_refl _⟩, by repeat (first | exact Drawn0.refl _ | apply Drawn0.step)⟩
                      · rw [if_neg c19] at H
                        have c19b0 : (a0 == 132) = false := beq_eq_false_iff_ne.mpr c19
                        have c19b1 : (a0 != 132) = true := bne_iff_ne.mpr c19
                        by_cases c20 : a0 = 6
                        · rw [if_pos c20] at H
                          have c20b0 : (a0 == 6) = true := beq_iff_eq.mpr c20
                          have c20b1 : (a0 != 6) = false := bne_eq_false_iff_eq.mpr c20
                          clear c20
                          have H' := Aside0.mk H
                          clear H
                          go_wp2
                          go_meet
                          case rel => exact ⟨_, ((a0 == 6)), (by first | rfl | (simp; done) | (simp [*]; done)), H', ⟨by have := HJ1.out; first | omega | exact Nat.le_refl _⟩, by repeat (first | exact Drawn0.refl _ | apply Drawn0.step)⟩
                        · rw [if_neg c20] at H
                          have c20b0 : (a0 == 6) = false := beq_eq_false_iff_ne.mpr c20
                          have c20b1 : (a0 != 6) = true := bne_iff_ne.mpr c20
                          by_cases c21 : a0 = 22
                          · rw [if_pos c21] at H
                            have c21b0 : (a0 == 22) = true := beq_iff_eq.mpr c21
                            have c21b1 : (a0 != 22) = false := bne_eq_false_iff_eq.mpr c21
                            clear c21
                            have H' := Aside0.mk H
                            clear H
                            go_wp2
                            go_meet
                            case rel => exact ⟨_, ((a0 == 22)), (by first | rfl | (simp; done) | (simp [*]; done)), H', ⟨by have := HJ1.out; first | omega | exact Nat.le_refl _⟩, by repeat (first | exact Drawn0.refl _ | apply Drawn0.step)⟩
                          · rw [if_neg c21] at H
                            have c21b0 : (a0 == 22) = false := beq_eq_false_iff_ne.mpr c21
                            have c21b1 : (a0 != 22) = true := bne_iff_ne.mpr c21
                            by_cases c22 : a0 = 7
                            · rw [if_pos c22] at H
                              have c22b0 : (a0 == 7) = true := beq_iff_eq.mpr c22
                              have c22b1 : (a0 != 7) = false := bne_eq_false_iff_eq.mpr c22
                              clear c22
                              have H' := Aside0.mk H
                              clear H
                              go_wp2
                              go_meet
                              case rel => exact ⟨_, ((a0 == 7)), (by first | rfl | (simp; done) | (simp [*]; done)), H', ⟨by have := HJ1.out; first | omega | exact Nat.le_refl _⟩, by repeat (first | exact Drawn0.refl _ | apply Drawn0.step)⟩
                            · rw [if_neg c22] at H
                              have c22b0 : (a0 == 7) = false := beq_eq_false_iff_ne.mpr c22
                              have c22b1 : (a0 != 7) = true := bne_iff_ne.mpr c22
                              by_cases c23 : a0 = 135
                              · rw [if_pos c23] at H
                                have c23b0 : (a0 == 135) = true := beq_iff_eq.mpr c23
                                have c23b1 : (a0 != 135) = false := bne_eq_false_iff_eq.mpr c23
                                clear c23
                                have H' := Aside0.mk H
                                clear H
                                go_wp2
                                go_meet
                                case rel => exact ⟨_, ((a0 == 135)), (by first | rfl | (simp; done) | (simp [*]; done)), H', ⟨by have := HJ1.out; first | omega | exact Nat.le_refl _⟩, by repeat (first | exact Drawn0.refl _ | apply Drawn0.step)⟩
                              · rw [if_neg c23] at H
                                have c23b0 : (a0 == 135) = false := beq_eq_false_iff_ne.mpr c23
                                have c23b1 : (a0 != 135) = true := bne_iff_ne.mpr c23
                                have H' := Aside0.mk H
                                clear H
                                go_wp2
                                go_meet
                                case rel => exact ⟨_, ((a0 == 5)), (by first | rfl | (simp; done) | (simp [*]; done)), H', ⟨by have := HJ1.out; first | omega | exact Nat.le_refl _⟩, by repeat (first | exact Drawn0.refl _ | apply Drawn0.step)⟩
        case rest =>
          clear HC12
          try clear c1
          try clear c2
          try clear p2
          try clear c3
          try clear c3b0
          try clear c3b1
          try clear c4
          try clear c4b0
          try clear c4b1
          try clear c5
          try clear c5b0
          try clear c5b1
          try clear c6
          try clear c6b0
          try clear c6b1
          try clear c7
          try clear c7b0
          try clear c7b1
          try clear c8
          try clear c8b0
          try clear c8b1
          try clear c9
          try clear c9b0
          try clear c9b1
          try clear c10
          try clear c10b0
          try clear c10b1
          try clear c11
          try clear c13
          try clear c13b0
          try clear c13b1
          try clear c14
          try clear c14b0
          try clear c14b1
          try clear c15
          try clear c15b0
          try clear c15b1
          try clear c16
          try clear c16b0
          try clear c16b1
          try clear c17
          try clear c17b0
          try clear c17b1
          try clear c18
          try clear c18b0
          try clear c18b1
          try clear c19
          try clear c19b0
          try clear c19b1
          try clear c20
          try clear c20b0
          try clear c20b1
          try clear c21
          try clear c21b0
          try clear c21b1
          try clear c22
          try clear c22b0
          try clear c22b1
          try clear c23
          try clear c23b0
          try clear c23b1
          try clear p2
          obtain ⟨kq, x14_11, rfl, HA, HJ11, ⟨mc11, rfl⟩⟩ := hcut
          cases kq with
          | zero => exact absurd HA.out (by simp [riddleref2_Known.j1])
          | succ kj11 =>
            have H := HA.out
            clear HA
            simp only [riddleref2_Known.j1] at H
            by_cases c24 : x14_11 = true
            · subst c24
              have H1 : (some true) = some r := by rw [if_pos rfl] at H; exact H
              clear H
              have H := H1
              clear H1
              obtain rfl := Option.some.inj H
              go_wp2
              go_ret
              exact ⟨by first | rfl | (simp; done) | (simp [*]; done), by repeat (first | exact Drawn0.refl _ | apply Drawn0.step)⟩
            · replace c24 := Bool.eq_false_iff.mpr c24
              subst c24
              have H1 : ((riddleref2_Jump.f a0).bind fun t103 => (if t103 = true then (some true) else ((riddleref2_Operation.f kj11 a0).bind fun t104 => (some t104)))) = some r := by rw [if_neg (show ¬ (false = true) by decide)] at H; exact H
              clear H
              have H := H1
              clear H1
              replace H := Option.bind_eq_some_iff.mp H
              obtain ⟨t103, A250, H⟩ := H
              replace H : (if t103 = true then (some true) else ((riddleref2_Operation.f kj11 a0).bind fun t104 => (some t104))) = some r := H
              have A25 := Aside0.mk A250
              clear A250
              by_cases c26 : t103 = true
              · subst c26
                have H1 : (some true) = some r := by rw [if_pos rfl] at H; exact H
                clear H
                have H := H1
                clear H1
                obtain rfl := Option.some.inj H
                go_wp2_with (first | ((with_reducible refine gate_callee (f := 50) rfl ?_); refine goesL_ (some 28) rfl rfl Try.func50 (by kernel_rfl) rfl #[.int .u16 a0] rfl (by (try simp only [List.map_toArray, List.map_cons, List.map_nil]); first | done | rfl | (simp only [List.length_drop, List.length_take]; rfl)) ?_; (with_reducible refine (riddleref2_Jump.calls a0 true _ A25.out).mono ?_); rintro e w' ⟨rfl, ⟨nd, rfl⟩⟩; refine ⟨_, rfl, ?_⟩))
                go_ret
                exact ⟨by first | rfl | (simp; done) | (simp [*]; done), by repeat (first | exact Drawn0.refl _ | apply Drawn0.step)⟩
              · replace c26 := Bool.eq_false_iff.mpr c26
                subst c26
                have H1 : ((riddleref2_Operation.f kj11 a0).bind fun t104 => (some t104)) = some r := by rw [if_neg (show ¬ (false = true) by decide)] at H; exact H
                clear H
                have H := H1
                clear H1
                replace H := Option.bind_eq_some_iff.mp H
                obtain ⟨t104, A270, H⟩ := H
                replace H : (some t104) = some r := H
                have A27 := Aside0.mk A270
                clear A270
                obtain rfl := Option.some.inj H
                go_wp2_with (first | ((with_reducible refine gate_callee (f := 50) rfl ?_); refine goesL_ (some 28) rfl rfl Try.func50 (by kernel_rfl) rfl #[.int .u16 a0] rfl (by (try simp only [List.map_toArray, List.map_cons, List.map_nil]); first | done | rfl | (simp only [List.length_drop, List.length_take]; rfl)) ?_; (with_reducible refine (riddleref2_Jump.calls a0 false _ A25.out).mono ?_); rintro e w' ⟨rfl, ⟨nd, rfl⟩⟩; refine ⟨_, rfl, ?_⟩) | (go_at_call 92; (with_reducible refine (riddleref2_Operation.calls kj11 a0 t104 _ A27.out).mono ?_); rintro e w' ⟨rfl, ⟨nd, rfl⟩⟩))
                go_ret
                exact ⟨by first | rfl | (simp; done) | (simp [*]; done), by repeat (first | exact Drawn0.refl _ | apply Drawn0.step)⟩
end Go.Proofs.Ytdkalnkplgfgoaa.PA
namespace Go.Proofs.Ytdkalnkplgfgoaa.PA
open Go.RowKit Go.Proofs.YtdkalnkplgfgoaaW.PrintWords Go.Proofs.YtdkalnkplgfgoaaW.PrintLast Go.Proofs.YtdkalnkplgfgoaaW.PrintMore
attribute [local go_sem] max2_int min2_int max_two min_two max_three min_three max_four min_four   -- for this text's walks alone
set_option linter.unusedVariables false
set_option linter.unusedSimpArgs false
def riddleref2_ByX.f (k : Nat) (a0 : Int) : Option (Bool) := (riddleref2_Jump.f a0).bind fun t112 => (if t112 = true then (some ((Go.bits .and .u16 a0 8) != 0)) else ((riddleref2_Operation.f k a0).bind fun t113 => (if t113 = true then (some ((Go.bits .and .u16 a0 8) != 0)) else (some false))))
set_option maxHeartbeats 8000000 in
set_option maxRecDepth 100000 in
theorem riddleref2_ByX.calls (k : Nat) (a0 : Int) (r : Bool) (w : World) (h : riddleref2_ByX.f k a0 = some r) :
    Calls Try.prog 58 #[.int .u16 a0] w fun e w' => e = .returned (.bool r) ∧ Drawn0 w w' := by
  have H : ((riddleref2_Jump.f a0).bind fun t112 => (if t112 = true then (some ((Go.bits .and .u16 a0 8) != 0)) else ((riddleref2_Operation.f k a0).bind fun t113 => (if t113 = true then (some ((Go.bits .and .u16 a0 8) != 0)) else (some false))))) = some r := h
  clear h
  replace H := Option.bind_eq_some_iff.mp H
  obtain ⟨t112, A20, H⟩ := H
  replace H : (if t112 = true then (some ((Go.bits .and .u16 a0 8) != 0)) else ((riddleref2_Operation.f k a0).bind fun t113 => (if t113 = true then (some ((Go.bits .and .u16 a0 8) != 0)) else (some false)))) = some r := H
  have A2 := Aside0.mk A20
  clear A20
  by_cases c3 : t112 = true
  · subst c3
    have H1 : (some ((Go.bits .and .u16 a0 8) != 0)) = some r := by rw [if_pos rfl] at H; exact H
    clear H
    have H := H1
    clear H1
    obtain rfl := Option.some.inj H
    go_enter Try.func58, Try.ntmps58
    go_wp2_with (first | ((with_reducible refine gate_callee (f := 50) rfl ?_); refine goesL_ (some 4) rfl rfl Try.func50 (by kernel_rfl) rfl #[.int .u16 a0] rfl (by (try simp only [List.map_toArray, List.map_cons, List.map_nil]); first | done | rfl | (simp only [List.length_drop, List.length_take]; rfl)) ?_; (with_reducible refine (riddleref2_Jump.calls a0 true _ A2.out).mono ?_); rintro e w' ⟨rfl, ⟨nd, rfl⟩⟩; refine ⟨_, rfl, ?_⟩))
    go_ret
    exact ⟨by first | rfl | (simp; done) | (simp [*]; done), by repeat (first | exact Drawn0.refl _ | apply Drawn0.step)⟩
  · replace c3 := Bool.eq_false_iff.mpr c3
    subst c3
    have H1 : ((riddleref2_Operation.f k a0).bind fun t113 => (if t113 = true then (some ((Go.bits .and .u16 a0 8) != 0)) else (some false))) = some r := by rw [if_neg (show ¬ (false = true) by decide)] at H; exact H
    clear H
    have H := H1
    clear H1
    replace H := Option.bind_eq_some_iff.mp H
    obtain ⟨t113, A40, H⟩ := H
    replace H : (if t113 = true then (some ((Go.bits .and .u16 a0 8) != 0)) else (some false)) = some r := H
    have A4 := Aside0.mk A40
    clear A40
    by_cases c5 : t113 = true
    · subst c5
      have H1 : (some ((Go.bits .and .u16 a0 8) != 0)) = some r := by rw [if_pos rfl] at H; exact H
      clear H
      have H := H1
      clear H1
      obtain rfl := Option.some.inj H
      go_enter Try.func58, Try.ntmps58
      go_wp2_with (first | ((with_reducible refine gate_callee (f := 50) rfl ?_); refine goesL_ (some 4) rfl rfl Try.func50 (by kernel_rfl) rfl #[.int .u16 a0] rfl (by (try simp only [List.map_toArray, List.map_cons, List.map_nil]); first | done | rfl | (simp only [List.length_drop, List.length_take]; rfl)) ?_; (with_reducible refine (riddleref2_Jump.calls a0 false _ A2.out).mono ?_); rintro e w' ⟨rfl, ⟨nd, rfl⟩⟩; refine ⟨_, rfl, ?_⟩) | (go_at_call 92; (with_reducible refine (riddleref2_Operation.calls k a0 true _ A4.out).mono ?_); rintro e w' ⟨rfl, ⟨nd, rfl⟩⟩))
      go_ret
      exact ⟨by first | rfl | (simp; done) | (simp [*]; done), by repeat (first | exact Drawn0.refl _ | apply Drawn0.step)⟩
    · replace c5 := Bool.eq_false_iff.mpr c5
      subst c5
      have H1 : (some false) = some r := by rw [if_neg (show ¬ (false = true) by decide)] at H; exact H
      clear H
      have H := H1
      clear H1
      obtain rfl := Option.some.inj H
      go_enter Try.func58, Try.ntmps58
      go_wp2_with (first | ((with_reducible refine gate_callee (f := 50) rfl ?_); refine goesL_ (some 4) rfl rfl Try.func50 (by kernel_rfl) rfl #[.int .u16 a0] rfl (by (try simp only [List.map_toArray, List.map_cons, List.map_nil]); first | done | rfl | (simp only [List.length_drop, List.length_take]; rfl)) ?_; (with_reducible refine (riddleref2_Jump.calls a0 false _ A2.out).mono ?_); rintro e w' ⟨rfl, ⟨nd, rfl⟩⟩; refine ⟨_, rfl, ?_⟩) | (go_at_call 92; (with_reducible refine (riddleref2_Operation.calls k a0 false _ A4.out).mono ?_); rintro e w' ⟨rfl, ⟨nd, rfl⟩⟩))
      go_ret
      exact ⟨by first | rfl | (simp; done) | (simp [*]; done), by repeat (first | exact Drawn0.refl _ | apply Drawn0.step)⟩
def riddleref2_Load.f (a0 : Int) : Option (Bool) := if a0 = 32 then (some true) else (if a0 = 40 then (some true) else (if a0 = 48 then (some true) else (if a0 = 64 then (some true) else (if a0 = 72 then (some true) else (if a0 = 80 then (some true) else (if a0 = 177 then (some true) else (some false)))))))
set_option maxHeartbeats 8000000 in
set_option maxRecDepth 100000 in
theorem riddleref2_Load.calls (a0 : Int) (r : Bool) (w : World) (h : riddleref2_Load.f a0 = some r) :
    Calls Try.prog 138 #[.int .u16 a0] w fun e w' => e = .returned (.bool r) ∧ Drawn0 w w' := by
  have H : (if a0 = 32 then (some true) else (if a0 = 40 then (some true) else (if a0 = 48 then (some true) else (if a0 = 64 then (some true) else (if a0 = 72 then (some true) else (if a0 = 80 then (some true) else (if a0 = 177 then (some true) else (some false)))))))) = some r := h
  clear h
  by_cases c2 : a0 = 32
  · rw [if_pos c2] at H
    have c2b0 : (a0 == 32) = true := beq_iff_eq.mpr c2
    have c2b1 : (a0 != 32) = false := bne_eq_false_iff_eq.mpr c2
    clear c2
    obtain rfl := Option.some.inj H
    go_enter Try.func138, Try.ntmps138
    go_wp2
    go_ret
    exact ⟨by first | rfl | (simp; done) | (simp [*]; done), by repeat (first | exact Drawn0.refl _ | apply Drawn0.step)⟩
  · rw [if_neg c2] at H
    have c2b0 : (a0 == 32) = false := beq_eq_false_iff_ne.mpr c2
    have c2b1 : (a0 != 32) = true := bne_iff_ne.mpr c2
    by_cases c3 : a0 = 40
    · rw [if_pos c3] at H
      have c3b0 : (a0 == 40) = true := beq_iff_eq.mpr c3
      have c3b1 : (a0 != 40) = false := bne_eq_false_iff_eq.mpr c3
      clear c3
      obtain rfl := Option.some.inj H
      go_enter Try.func138, Try.ntmps138
      go_wp2
      go_ret
      exact ⟨by first | rfl | (simp; done) | (simp [*]; done), by repeat (first | exact Drawn0.refl _ | apply Drawn0.step)⟩
    · rw [if_neg c3] at H
      have c3b0 : (a0 == 40) = false := beq_eq_false_iff_ne.mpr c3
      have c3b1 : (a0 != 40) = true := bne_iff_ne.mpr c3
      by_cases c4 : a0 = 48
      · rw [if_pos c4] at H
        have c4b0 : (a0 == 48) = true := beq_iff_eq.mpr c4
        have c4b1 : (a0 != 48) = false := bne_eq_false_iff_eq.mpr c4
        clear c4
        obtain rfl := Option.some.inj H
        go_enter Try.func138, Try.ntmps138
        go_wp2
        go_ret
        exact ⟨by first | rfl | (simp; done) | (simp [*]; done), by repeat (first | exact Drawn0.refl _ | apply Drawn0.step)⟩
      · rw [if_neg c4] at H
        have c4b0 : (a0 == 48) = false := beq_eq_false_iff_ne.mpr c4
        have c4b1 : (a0 != 48) = true := bne_iff_ne.mpr c4
        by_cases c5 : a0 = 64
        · rw [if_pos c5] at H
          have c5b0 : (a0 == 64) = true := beq_iff_eq.mpr c5
          have c5b1 : (a0 != 64) = false := bne_eq_false_iff_eq.mpr c5
          clear c5
          obtain rfl := Option.some.inj H
          go_enter Try.func138, Try.ntmps138
          go_wp2
          go_ret
          exact ⟨by first | rfl | (simp; done) | (simp [*]; done), by repeat (first | exact Drawn0.refl _ | apply Drawn0.step)⟩
        · rw [if_neg c5] at H
          have c5b0 : (a0 == 64) = false := beq_eq_false_iff_ne.mpr c5
          have c5b1 : (a0 != 64) = true := bne_iff_ne.mpr c5
          by_cases c6 : a0 = 72
          · rw [if_pos c6] at H
            have c6b0 : (a0 == 72) = true := beq_iff_eq.mpr c6
            have c6b1 : (a0 != 72) = false := bne_eq_false_iff_eq.mpr c6
            clear c6
            obtain rfl := Option.some.inj H
            go_enter Try.func138, Try.ntmps138
            go_wp2
            go_ret
            exact ⟨by first | rfl | (simp; done) | (simp [*]; done), by repeat (first | exact Drawn0.refl _ | apply Drawn0.step)⟩
          · rw [if_neg c6] at H
            have c6b0 : (a0 == 72) = false := beq_eq_false_iff_ne.mpr c6
            have c6b1 : (a0 != 72) = true := bne_iff_ne.mpr c6
            by_cases c7 : a0 = 80
            · rw [if_pos c7] at H
              have c7b0 : (a0 == 80) = true := beq_iff_eq.mpr c7
              have c7b1 : (a0 != 80) = false := bne_eq_false_iff_eq.mpr c7
              clear c7
              obtain rfl := Option.some.inj H
              go_enter Try.func138, Try.ntmps138
              go_wp2
              go_ret
              exact ⟨by first | rfl | (simp; done) | (simp [*]; done), by repeat (first | exact Drawn0.refl _ | apply Drawn0.step)⟩
            · rw [if_neg c7] at H
              have c7b0 : (a0 == 80) = false := beq_eq_false_iff_ne.mpr c7
              have c7b1 : (a0 != 80) = true := bne_iff_ne.mpr c7
              by_cases c8 : a0 = 177
              · rw [if_pos c8] at H
                have c8b0 : (a0 == 177) = true := beq_iff_eq.mpr c8
                have c8b1 : (a0 != 177) = false := bne_eq_false_iff_eq.mpr c8
                clear c8
                obtain rfl := Option.some.inj H
                go_enter Try.func138, Try.ntmps138
                go_wp2
                go_ret
                exact ⟨by first | rfl | (simp; done) | (simp [*]; done), by repeat (first | exact Drawn0.refl _ | apply Drawn0.step)⟩
              · rw [if_neg c8] at H
                have c8b0 : (a0 == 177) = false := beq_eq_false_iff_ne.mpr c8
                have c8b1 : (a0 != 177) = true := bne_iff_ne.mpr c8
                obtain rfl := Option.some.inj H
                go_enter Try.func138, Try.ntmps138
                go_wp2
                go_ret
                exact ⟨by first | rfl | (simp; done) | (simp [*]; done), by repeat (first | exact Drawn0.refl _ | apply Drawn0.step)⟩
def riddleref2_Uses.j0 : Nat → Int → Bool → Bool → Option (Bool × Bool × Bool)
  | 0, _, _, _ => none
  | k + 1, x0, x5, x13 => if x13 = true then ((riddleref2_Jump.f x0).bind fun t116 => ((riddleref2_Load.f x0).bind fun t117 => (if t117 = true then (some (false, t116, true)) else (if x0 = 60 then (some (false, t116, true)) else (some (false, t116, (x0 == 156))))))) else ((riddleref2_Jump.f x0).bind fun t118 => ((riddleref2_Load.f x0).bind fun t119 => (if t119 = true then (some (x5, t118, true)) else (if x0 = 60 then (some (x5, t118, true)) else (some (x5, t118, (x0 == 156)))))))
def riddleref2_Uses.f (k : Nat) (a0 : Int) : Option (Bool × Bool × Bool) := (riddleref2_Known.f k a0).bind fun t114 => (if t114 = true then ((riddleref2_ByX.f k a0).bind fun t115 => (if a0 = 128 then (riddleref2_Uses.j0 k a0 (!t115) (a0 == 128)) else (if a0 = 129 then (riddleref2_Uses.j0 k a0 (!t115) (a0 == 129)) else (if a0 = 132 then (riddleref2_Uses.j0 k a0 (!t115) (a0 == 132)) else (if a0 = 22 then (riddleref2_Uses.j0 k a0 (!t115) (a0 == 22)) else (if a0 = 7 then (riddleref2_Uses.j0 k a0 (!t115) (a0 == 7)) else (riddleref2_Uses.j0 k a0 (!t115) (a0 == 135)))))))) else (some (false, false, false)))
set_option maxHeartbeats 8000000 in
set_option maxRecDepth 100000 in
theorem riddleref2_Uses.calls (k : Nat) (a0 : Int) (r1 : Bool) (r2 : Bool) (r3 : Bool) (w : World) (h : riddleref2_Uses.f k a0 = some (r1, r2, r3)) :
    Calls Try.prog 94 #[.int .u16 a0] w fun e w' => e = .returned (.tuple #[.bool r1, .bool r2, .bool r3]) ∧ Drawn0 w w' := by
  have H : ((riddleref2_Known.f k a0).bind fun t114 => (if t114 = true then ((riddleref2_ByX.f k a0).bind fun t115 => (if a0 = 128 then (riddleref2_Uses.j0 k a0 (!t115) (a0 == 128)) else (if a0 = 129 then (riddleref2_Uses.j0 k a0 (!t115) (a0 == 129)) else (if a0 = 132 then (riddleref2_Uses.j0 k a0 (!t115) (a0 == 132)) else (if a0 = 22 then (riddleref2_Uses.j0 k a0 (!t115) (a0 == 22)) else (if a0 = 7 then (riddleref2_Uses.j0 k a0 (!t115) (a0 == 7)) else (riddleref2_Uses.j0 k a0 (!t115) (a0 == 135)))))))) else (some (false, false, false)))) = some (r1, r2, r3) := h
  clear h
  replace H := Option.bind_eq_some_iff.mp H
  obtain ⟨t114, A20, H⟩ := H
  replace H : (if t114 = true then ((riddleref2_ByX.f k a0).bind fun t115 => (if a0 = 128 then (riddleref2_Uses.j0 k a0 (!t115) (a0 == 128)) else (if a0 = 129 then (riddleref2_Uses.j0 k a0 (!t115) (a0 == 129)) else (if a0 = 132 then (riddleref2_Uses.j0 k a0 (!t115) (a0 == 132)) else (if a0 = 22 then (riddleref2_Uses.j0 k a0 (!t115) (a0 == 22)) else (if a0 = 7 then (riddleref2_Uses.j0 k a0 (!t115) (a0 == 7)) else (riddleref2_Uses.j0 k a0 (!t115) (a0 == 135)))))))) else (some (false, false, false))) = some (r1, r2, r3) := H
  have A2 := Aside0.mk A20
  clear A20
  by_cases c3 : t114 = true
  · subst c3
    have H1 : ((riddleref2_ByX.f k a0).bind fun t115 => (if a0 = 128 then (riddleref2_Uses.j0 k a0 (!t115) (a0 == 128)) else (if a0 = 129 then (riddleref2_Uses.j0 k a0 (!t115) (a0 == 129)) else (if a0 = 132 then (riddleref2_Uses.j0 k a0 (!t115) (a0 == 132)) else (if a0 = 22 then (riddleref2_Uses.j0 k a0 (!t115) (a0 == 22)) else (if a0 = 7 then (riddleref2_Uses.j0 k a0 (!t115) (a0 == 7)) else (riddleref2_Uses.j0 k a0 (!t115) (a0 == 135)))))))) = some (r1, r2, r3) := by rw [if_pos rfl] at H; exact H
    clear H
    have H := H1
    clear H1
    replace H := Option.bind_eq_some_iff.mp H
    obtain ⟨t115, A40, H⟩ := H
    replace H : (if a0 = 128 then (riddleref2_Uses.j0 k a0 (!t115) (a0 == 128)) else (if a0 = 129 then (riddleref2_Uses.j0 k a0 (!t115) (a0 == 129)) else (if a0 = 132 then (riddleref2_Uses.j0 k a0 (!t115) (a0 == 132)) else (if a0 = 22 then (riddleref2_Uses.j0 k a0 (!t115) (a0 == 22)) else (if a0 = 7 then (riddleref2_Uses.j0 k a0 (!t115) (a0 == 7)) else (riddleref2_Uses.j0 k a0 (!t115) (a0 == 135))))))) = some (r1, r2, r3) := H
    have A4 := Aside0.mk A40
    clear A40
    have HC5 := Aside0.mk H
    clear H
    go_enter Try.func94, Try.ntmps94
    go_upto_if 13 with (first | ((with_reducible refine gate_callee (f := 81) rfl ?_); refine goesL_ (some 7) rfl rfl Try.func81 (by kernel_rfl) rfl #[.int .u16 a0] rfl (by (try simp only [List.map_toArray, List.map_cons, List.map_nil]); first | done | rfl | (simp only [List.length_drop, List.length_take]; rfl)) ?_; (with_reducible refine (riddleref2_Known.calls k a0 true _ A2.out).mono ?_); rintro e w' ⟨rfl, ⟨nd, rfl⟩⟩; refine ⟨_, rfl, ?_⟩) | ((with_reducible refine gate_callee (f := 58) rfl ?_); refine goesL_ (some 10) rfl rfl Try.func58 (by kernel_rfl) rfl #[.int .u16 a0] rfl (by (try simp only [List.map_toArray, List.map_cons, List.map_nil]); first | done | rfl | (simp only [List.length_drop, List.length_take]; rfl)) ?_; (with_reducible refine (riddleref2_ByX.calls k a0 t115 _ A4.out).mono ?_); rintro e w' ⟨rfl, ⟨nd, rfl⟩⟩; refine ⟨_, rfl, ?_⟩))
    (try simp only [Act.put, List.setIfInBounds_toArray, List.set_cons_zero, List.set_cons_succ])
    go_cut [13] (fun v13 wc => ∃ (kq : Nat) (x13_4 : Bool), v13 = .bool x13_4 ∧ Aside0 (riddleref2_Uses.j0 kq a0 (!t115) x13_4 = some (r1, r2, r3)) ∧ Aside0 (kq ≤ k) ∧ Drawn0 w wc)
    case first =>
      have H := HC5.out
      clear HC5
      by_cases c6 : a0 = 128
      · rw [if_pos c6] at H
        have c6b0 : (a0 == 128) = true := beq_iff_eq.mpr c6
        have c6b1 : (a0 != 128) = false := bne_eq_false_iff_eq.mpr c6
        clear c6
        (first | rw [c6b0] | (simp only [i64_w, i32_w]; rw [c6b0]) | skip)
        have H' := Aside0.mk H
        clear H
        go_wp2
        go_meet
        case rel => exact ⟨_, ((a0 == 128)), (by first | rfl | (simp; done) | (simp [*]; done)), H', ⟨by first | omega | exact Nat.le_refl _⟩, by repeat (first | exact Drawn0.refl _ | apply Drawn0.step)⟩
      · rw [if_neg c6] at H
        have c6b0 : (a0 == 128) = false := beq_eq_false_iff_ne.mpr c6
        have c6b1 : (a0 != 128) = true := bne_iff_ne.mpr c6
        (first | rw [c6b0] | (simp only [i64_w, i32_w]; rw [c6b0]) | skip)
        by_cases c7 : a0 = 129
        · rw [if_pos c7] at H
          have c7b0 : (a0 == 129) = true := beq_iff_eq.mpr c7
          have c7b1 : (a0 != 129) = false := bne_eq_false_iff_eq.mpr c7
          clear c7
          have H' := Aside0.mk H
          clear H
          go_wp2
          go_meet
          case rel => exact ⟨_, ((a0 == 129)), (by first | rfl | (simp; done) | (simp [*]; done)), H', ⟨by first | omega | exact Nat.le_refl _⟩, by repeat (first | exact Drawn0.refl _ | apply Drawn0.step)⟩
        · rw [if_neg c7] at H
          have c7b0 : (a0 == 129) = false := beq_eq_false_iff_ne.mpr c7
          have c7b1 : (a0 != 129) = true := bne_iff_ne.mpr c7
          by_cases c8 : a0 = 132
          · rw [if_pos c8] at H
            have c8b0 : (a0 == 132) = true := beq_iff_eq.mpr c8
            have c8b1 : (a0 != 132) = false := bne_eq_false_iff_eq.mpr c8
            clear c8
            have H' := Aside0.mk H
            clear H
            go_wp2
            go_meet
            case rel => exact ⟨_, ((a0 == 132)), (by first | rfl | (simp; done) | (simp [*]; done)), H', ⟨by first | omega | exact Nat.le_refl _⟩, by repeat (first | exact Drawn0.refl _ | apply Drawn0.step)⟩
          · rw [if_neg c8] at H
            have c8b0 : (a0 == 132) = false := beq_eq_false_iff_ne.mpr c8
            have c8b1 : (a0 != 132) = true := bne_iff_ne.mpr c8
            by_cases c9 : a0 = 22
            · rw [if_pos c9] at H
              have c9b0 : (a0 == 22) = true := beq_iff_eq.mpr c9
              have c9b1 : (a0 != 22) = false := bne_eq_false_iff_eq.mpr c9
              clear c9
              have H' := Aside0.mk H
              clear H
              go_wp2
              go_meet
              case rel => exact ⟨_, ((a0 == 22)), (by first | rfl | (simp; done) | (simp [*]; done)), H', ⟨by first | omega | exact Nat.le_refl _⟩, by repeat (first | exact Drawn0.refl _ | apply Drawn0.step)⟩
            · rw [if_neg c9] at H
              have c9b0 : (a0 == 22) = false := beq_eq_false_iff_ne.mpr c9
              have c9b1 : (a0 != 22) = true := bne_iff_ne.mpr c9
              by_cases c10 : a0 = 7
              · rw [if_pos c10] at H
                have c10b0 : (a0 == 7) = true := beq_iff_eq.mpr c10
                have c10b1 : (a0 != 7) = false := bne_eq_false_iff_eq.mpr c10
                clear c10
                have H' := Aside0.mk H
                clear H
                go_wp2
                go_meet
                case rel => exact ⟨_, ((a0 == 7)), (by first | rfl | (simp; done) | (simp [*]; done)), H', ⟨by first | omega | exact Nat.le_refl _⟩, by repeat (first | exact Drawn0.refl _ | apply Drawn0.step)⟩
              · rw [if_neg c10] at H
                have c10b0 : (a0 == 7) = false := beq_eq_false_iff_ne.mpr c10
                have c10b1 : (a0 != 7) = true := bne_iff_ne.mpr c10
                have H' := Aside0.mk H
                clear H
                go_wp2
                go_meet
                case rel => exact ⟨_, ((a0 == 135)), (by first | rfl | (simp; done) | (simp [*]; done)), H', ⟨by first | omega | exact Nat.le_refl _⟩, by repeat (first | exact Drawn0.refl _ | apply Drawn0.step)⟩
    case rest =>
      clear HC5
      try clear c1
      try clear p2
      try clear c3
      try clear c5
      try clear c6
      try clear c6b0
      try clear c6b1
      try clear c7
      try clear c7b0
      try clear c7b1
      try clear c8
      try clear c8b0
      try clear c8b1
      try clear c9
      try clear c9b0
      try clear c9b1
      try clear c10
      try clear c10b0
      try clear c10b1
      obtain ⟨kq, x13_4, rfl, HA, HJ4, ⟨mc4, rfl⟩⟩ := hcut
      cases kq with
      | zero => exact absurd HA.out (by simp [riddleref2_Uses.j0])
      | succ kj4 =>
        have H := HA.out
        clear HA
        simp only [riddleref2_Uses.j0] at H
        by_cases c11 : x13_4 = true
        · subst c11
          have H1 : ((riddleref2_Jump.f a0).bind fun t116 => ((riddleref2_Load.f a0).bind fun t117 => (if t117 = true then (some (false, t116, true)) else (if a0 = 60 then (some (false, t116, true)) else (some (false, t116, (a0 == 156))))))) = some (r1, r2, r3) := by rw [if_pos rfl] at H; exact H
          clear H
          have H := H1
          clear H1
          replace H := Option.bind_eq_some_iff.mp H
          obtain ⟨t116, A120, H⟩ := H
          replace H : ((riddleref2_Load.f a0).bind fun t117 => (if t117 = true then (some (false, t116, true)) else (if a0 = 60 then (some (false, t116, true)) else (some (false, t116, (a0 == 156)))))) = some (r1, r2, r3) := H
          have A12 := Aside0.mk A120
          clear A120
          replace H := Option.bind_eq_some_iff.mp H
          obtain ⟨t117, A130, H⟩ := H
          replace H : (if t117 = true then (some (false, t116, true)) else (if a0 = 60 then (some (false, t116, true)) else (some (false, t116, (a0 == 156))))) = some (r1, r2, r3) := H
          have A13 := Aside0.mk A130
          clear A130
          by_cases c14 : t117 = true
          · subst c14
            have H1 : (some (false, t116, true)) = some (r1, r2, r3) := by rw [if_pos rfl] at H; exact H
            clear H
            have H := H1
            clear H1
            simp only [Option.some.injEq, Prod.mk.injEq] at H
            obtain ⟨rfl, rfl, rfl⟩ := H
            go_wp2_with (first | ((with_reducible refine gate_callee (f := 50) rfl ?_); refine goesL_ (some 22) rfl rfl Try.func50 (by kernel_rfl) rfl #[.int .u16 a0] rfl (by (try simp only [List.map_toArray, List.map_cons, List.map_nil]); first | done | rfl | (simp only [List.length_drop, List.length_take]; rfl)) ?_; (with_reducible refine (riddleref2_Jump.calls a0 t116 _ A12.out).mono ?_); rintro e w' ⟨rfl, ⟨nd, rfl⟩⟩; refine ⟨_, rfl, ?_⟩) | ((with_reducible refine gate_callee (f := 138) rfl ?_); refine goesL_ (some 24) rfl rfl Try.func138 (by kernel_rfl) rfl #[.int .u16 a0] rfl (by (try simp only [List.map_toArray, List.map_cons, List.map_nil]); first | done | rfl | (simp only [List.length_drop, List.length_take]; rfl)) ?_; (with_reducible refine (riddleref2_Load.calls a0 true _ A13.out).mono ?_); rintro e w' ⟨rfl, ⟨nd, rfl⟩⟩; refine ⟨_, rfl, ?_⟩))
            go_ret3
            exact ⟨by first | rfl | (simp; done) | (simp [*]; done), by repeat (first | exact Drawn0.refl _ | apply Drawn0.step)⟩
          · replace c14 := Bool.eq_false_iff.mpr c14
            subst c14
            have H1 : (if a0 = 60 then (some (false, t116, true)) else (some (false, t116, (a0 == 156)))) = some (r1, r2, r3) := by rw [if_neg (show ¬ (false = true) by decide)] at H; exact H
            clear H
            have H := H1
            clear H1
            by_cases c15 : a0 = 60
            · rw [if_pos c15] at H
              have c15b0 : (a0 == 60) = true := beq_iff_eq.mpr c15
              have c15b1 : (a0 != 60) = false := bne_eq_false_iff_eq.mpr c15
              clear c15
              simp only [Option.some.injEq, Prod.mk.injEq] at H
              obtain ⟨rfl, rfl, rfl⟩ := H
              go_wp2_with (first | ((with_reducible refine gate_callee (f := 50) rfl ?_); refine goesL_ (some 22) rfl rfl Try.func50 (by kernel_rfl) rfl #[.int .u16 a0] rfl (by (try simp only [List.map_toArray, List.map_cons, List.map_nil]); first | done | rfl | (simp only [List.length_drop, List.length_take]; rfl)) ?_; (with_reducible refine (riddleref2_Jump.calls a0 t116 _ A12.out).mono ?_); rintro e w' ⟨rfl, ⟨nd, rfl⟩⟩; refine ⟨_, rfl, ?_⟩) | ((with_reducible refine gate_callee (f := 138) rfl ?_); refine goesL_ (some 24) rfl rfl Try.func138 (by kernel_rfl) rfl #[.int .u16 a0] rfl (by (try simp only [List.map_toArray, List.map_cons, List.map_nil]); first | done | rfl | (simp only [List.length_drop, List.length_take]; rfl)) ?_; (with_reducible refine (riddleref2_Load.calls a0 false _ A13.out).mono ?_); rintro e w' ⟨rfl, ⟨nd, rfl⟩⟩; refine ⟨_, rfl, ?_⟩))
              go_ret3
              exact ⟨by first | rfl | (simp; done) | (simp [*]; done), by repeat (first | exact Drawn0.refl _ | apply Drawn0.step)⟩
            · rw [if_neg c15] at H
              have c15b0 : (a0 == 60) = false := beq_eq_false_iff_ne.mpr c15
              have c15b1 : (a0 != 60) = true := bne_iff_ne.mpr c15
              simp only [Option.some.injEq, Prod.mk.injEq] at H
              obtain ⟨rfl, rfl, rfl⟩ := H
              go_wp2_with (first | ((with_reducible refine gate_callee (f := 50) rfl ?_); refine goesL_ (some 22) rfl rfl Try.func50 (by kernel_rfl) rfl #[.int .u16 a0] rfl (by (try simp only [List.map_toArray, List.map_cons, List.map_nil]); first | done | rfl | (simp only [List.length_drop, List.length_take]; rfl)) ?_; (with_reducible refine (riddleref2_Jump.calls a0 t116 _ A12.out).mono ?_); rintro e w' ⟨rfl, ⟨nd, rfl⟩⟩; refine ⟨_, rfl, ?_⟩) | ((with_reducible refine gate_callee (f := 138) rfl ?_); refine goesL_ (some 24) rfl rfl Try.func138 (by kernel_rfl) rfl #[.int .u16 a0] rfl (by (try simp only [List.map_toArray, List.map_cons, List.map_nil]); first | done | rfl | (simp only [List.length_drop, List.length_take]; rfl)) ?_; (with_reducible refine (riddleref2_Load.calls a0 false _ A13.out).mono ?_); rintro e w' ⟨rfl, ⟨nd, rfl⟩⟩; refine ⟨_, rfl, ?_⟩))
              go_ret3
              exact ⟨by first | rfl | (simp; done) | (simp [*]; done), by repeat (first | exact Drawn0.refl _ | apply Drawn0.step)⟩
        · replace c11 := Bool.eq_false_iff.mpr c11
          subst c11
          have H1 : ((riddleref2_Jump.f a0).bind fun t118 => ((riddleref2_Load.f a0).bind fun t119 => (if t119 = true then (some ((!t115), t118, true)) else (if a0 = 60 then (some ((!t115), t118, true)) else (some ((!t115), t118, (a0 == 156))))))) = some (r1, r2, r3) := by rw [if_neg (show ¬ (false = true) by decide)] at H; exact H
          clear H
          have H := H1
          clear H1
          replace H := Option.bind_eq_some_iff.mp H
          obtain ⟨t118, A160, H⟩ := H
          replace H : ((riddleref2_Load.f a0).bind fun t119 => (if t119 = true then (some ((!t115), t118, true)) else (if a0 = 60 then (some ((!t115), t118, true)) else (some ((!t115), t118, (a0 == 156)))))) = some (r1, r2, r3) := H
          have A16 := Aside0.mk A160
          clear A160
          replace H := Option.bind_eq_some_iff.mp H
          obtain ⟨t119, A170, H⟩ := H
          replace H : (if t119 = true then (some ((!t115), t118, true)) else (if a0 = 60 then (some ((!t115), t118, true)) else (some ((!t115), t118, (a0 == 156))))) = some (r1, r2, r3) := H
          have A17 := Aside0.mk A170
          clear A170
          by_cases c18 : t119 = true
          · subst c18
            have H1 : (some ((!t115), t118, true)) = some (r1, r2, r3) := by rw [if_pos rfl] at H; exact H
            clear H
            have H := H1
            clear H1
            simp only [Option.some.injEq, Prod.mk.injEq] at H
            obtain ⟨rfl, rfl, rfl⟩ := H
            go_wp2_with (first | ((with_reducible refine gate_callee (f := 50) rfl ?_); refine goesL_ (some 22) rfl rfl Try.func50 (by kernel_rfl) rfl #[.int .u16 a0] rfl (by (try simp only [List.map_toArray, List.map_cons, List.map_nil]); first | done | rfl | (simp only [List.length_drop, List.length_take]; rfl)) ?_; (with_reducible refine (riddleref2_Jump.calls a0 t118 _ A16.out).mono ?_); rintro e w' ⟨rfl, ⟨nd, rfl⟩⟩; refine ⟨_, rfl, ?_⟩) | ((with_reducible refine gate_callee (f := 138) rfl ?_); refine goesL_ (some 24) rfl rfl Try.func138 (by kernel_rfl) rfl #[.int .u16 a0] rfl (by (try simp only [List.map_toArray, List.map_cons, List.map_nil]); first | done | rfl | (simp only [List.length_drop, List.length_take]; rfl)) ?_; (with_reducible refine (riddleref2_Load.calls a0 true _ A17.out).mono ?_); rintro e w' ⟨rfl, ⟨nd, rfl⟩⟩; refine ⟨_, rfl, ?_⟩))
            go_ret3
            exact ⟨by first | rfl | (simp; done) | (simp [*]; done), by repeat (first | exact Drawn0.refl _ | apply Drawn0.step)⟩
          · replace c18 := Bool.eq_false_iff.mpr c18
            subst c18
            have H1 : (if a0 = 60 then (some ((!t115), t118, true)) else (some ((!t115), t118, (a0 == 156)))) = some (r1, r2, r3) := by rw [if_neg (show ¬ (false = true) by decide)] at H; exact H
            clear H
            have H := H1
            clear H1
            by_cases c19 : a0 = 60
            · rw [if_pos c19] at H
              have c19b0 : (a0 == 60) = true := beq_iff_eq.mpr c19
              have c19b1 : (a0 != 60) = false := bne_eq_false_iff_eq.mpr c19
              clear c19
              simp only [Option.some.injEq, Prod.mk.injEq] at H
              obtain ⟨rfl, rfl, rfl⟩ := H
              go_wp2_with (first | ((with_reducible refine gate_callee (f := 50) rfl ?_); refine goesL_ (some 22) rfl rfl Try.func50 (by kernel_rfl) rfl #[.int .u16 a0] rfl (by (try simp only [List.map_toArray, List.map_cons, List.map_nil]); first | done | rfl | (simp only [List.length_drop, List.length_take]; rfl)) ?_; (with_reducible refine (riddleref2_Jump.calls a0 t118 _ A16.out).mono ?_); rintro e w' ⟨rfl, ⟨nd, rfl⟩⟩; refine ⟨_, rfl, ?_⟩) | ((with_reducible refine gate_callee (f := 138) rfl ?_); refine goesL_ (some 24) rfl rfl Try.func138 (by kernel_rfl) rfl #[.int .u16 a0] rfl (by (try simp only [List.map_toArray, List.map_cons, List.map_nil]); first | done | rfl | (simp only [List.length_drop, List.length_take]; rfl)) ?_; (with_reducible refine (riddleref2_Load.calls a0 false _ A17.out).mono ?_); rintro e w' ⟨rfl, ⟨nd, rfl⟩⟩; refine ⟨_, rfl, ?_⟩))
              go_ret3
              exact ⟨by first | rfl | (simp; done) | (simp [*]; done), by repeat (first | exact Drawn0.refl _ | apply Drawn0.step)⟩
            · rw [if_neg c19] at H
              have c19b0 : (a0 == 60) = false := beq_eq_false_iff_ne.mpr c19
              have c19b1 : (a0 != 60) = true := bne_iff_ne.mpr c19
              simp only [Option.some.injEq, Prod.mk.injEq] at H
              obtain ⟨rfl, rfl, rfl⟩ := H
              go_wp2_with (first | ((with_reducible refine gate_callee (f := 50) rfl ?_); refine goesL_ (some 22) rfl rfl Try.func50 (by kernel_rfl) rfl #[.int .u16 a0] rfl (by (try simp only [List.map_toArray, List.map_cons, List.map_nil]); first | done | rfl | (simp only [List.length_drop, List.length_take]; rfl)) ?_; (with_reducible refine (riddleref2_Jump.calls a0 t118 _ A16.out).mono ?_); rintro e w' ⟨rfl, ⟨nd, rfl⟩⟩; refine ⟨_, rfl, ?_⟩) | ((with_reducible refine gate_callee (f := 138) rfl ?_); refine goesL_ (some 24) rfl rfl Try.func138 (by kernel_rfl) rfl #[.int .u16 a0] rfl (by (try simp only [List.map_toArray, List.map_cons, List.map_nil]); first | done | rfl | (simp only [List.length_drop, List.length_take]; rfl)) ?_; (with_reducible refine (riddleref2_Load.calls a0 false _ A17.out).mono ?_); rintro e w' ⟨rfl, ⟨nd, rfl⟩⟩; refine ⟨_, rfl, ?_⟩))
              go_ret3
              exact ⟨by first | rfl | (simp; done) | (simp [*]; done), by repeat (first | exact Drawn0.refl _ | apply Drawn0.step)⟩
  · replace c3 := Bool.eq_false_iff.mpr c3
    subst c3
    have H1 : (some (false, false, false)) = some (r1, r2, r3) := by rw [if_neg (show ¬ (false = true) by decide)] at H; exact H
    clear H
    have H := H1
    clear H1
    simp only [Option.some.injEq, Prod.mk.injEq] at H
    obtain ⟨rfl, rfl, rfl⟩ := H
    go_enter Try.func94, Try.ntmps94
    go_wp2_with (first | ((with_reducible refine gate_callee (f := 81) rfl ?_); refine goesL_ (some 7) rfl rfl Try.func81 (by kernel_rfl) rfl #[.int .u16 a0] rfl (by (try simp only [List.map_toArray, List.map_cons, List.map_nil]); first | done | rfl | (simp only [List.length_drop, List.length_take]; rfl)) ?_; (with_reducible refine (riddleref2_Known.calls k a0 false _ A2.out).mono ?_); rintro e w' ⟨rfl, ⟨nd, rfl⟩⟩; refine ⟨_, rfl, ?_⟩))
    go_ret3
    exact ⟨by first | rfl | (simp; done) | (simp [*]; done), by repeat (first | exact Drawn0.refl _ | apply Drawn0.step)⟩
end Go.Proofs.Ytdkalnkplgfgoaa.PA
namespace Go.Proofs.Ytdkalnkplgfgoaa.PA
open Go.RowKit Go.Proofs.YtdkalnkplgfgoaaW.PrintWords Go.Proofs.YtdkalnkplgfgoaaW.PrintLast Go.Proofs.YtdkalnkplgfgoaaW.PrintMore
attribute [local go_sem] max2_int min2_int max_two min_two max_three min_three max_four min_four   -- for this text's walks alone
set_option linter.unusedVariables false
set_option linter.unusedSimpArgs false
theorem eqA45 (d : Nat) (w : World) (x0 y0 : Int) (x1 y1 : Int) (x2 y2 : Int) (x3 y3 : Int) :
    (Op.equalIn (d + 2) 45 (.agg #[.int .u16 x0, .int .u8 x1, .int .u8 x2, .int .u32 x3]) (.agg #[.int .u16 y0, .int .u8 y1, .int .u8 y2, .int .u32 y3])).run Try.prog w = .ok (x0 == y0 && (x1 == y1 && (x2 == y2 && (x3 == y3)))) w := by
  refine eqA_of Try.underlying45 (by kernel_rfl) ?_
  refine eqf_cons (by rfl) (by go_simp; rfl) (by go_simp; rfl) (by go_simp) ?_
  refine eqf_cons (by rfl) (by go_simp; rfl) (by go_simp; rfl) (by go_simp) ?_
  refine eqf_cons (by rfl) (by go_simp; rfl) (by go_simp; rfl) (by go_simp) ?_
  exact eqf_last (by rfl) (by go_simp; rfl) (by go_simp; rfl) (by go_simp)
end Go.Proofs.Ytdkalnkplgfgoaa.PA
