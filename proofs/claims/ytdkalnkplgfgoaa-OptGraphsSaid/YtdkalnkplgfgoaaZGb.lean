/- Lemmas and walks for the statements of the texts ZGZ..: the declarations that they need, taken together by a program of this session. Conditions: as each says. -/
import Derived.Maps.OwnSet
import Derived.Maps.Views
import Derived.Below
import Derived.Deep.RegionHeld3
import Derived.BigRegion
import Derived.Test.YtdkalnkplgfgoaaZGa
set_option maxHeartbeats 8000000
set_option maxRecDepth 100000
set_option linter.unusedVariables false
set_option linter.unusedSimpArgs false
namespace Go.Proofs.Ytdkalnkplgfgoaa.PA
open Go.RowKit Go.Proofs.YtdkalnkplgfgoaaW.PrintWords Go.Proofs.YtdkalnkplgfgoaaW.PrintLast Go.Proofs.YtdkalnkplgfgoaaW.PrintMore
theorem bE {w W : World} (h : Below w.heap.size w W := by repeat (first | (with_reducible first | exact aa.out (by assumption) | apply ah | apply aA | apply au | refine cZ ?_ (aa.out (by assumption))) | exact aa.out (by assumption))) : Below w.heap.size w W := h
theorem di {w W0 W W2 : World} (_ : aa (Below w.heap.size w W0)) (hb : Below W.heap.size W W2) (h : Below w.heap.size w W := by exact bE) : aa (Below w.heap.size w W2) := ⟨ax h hb⟩
theorem geN {w W0 W : World} {g : Nat} (_ : aa (Below w.heap.size w W0)) (hg : g = W.heap.size) (h : Below w.heap.size w W := by exact bE) : aa (w.heap.size ≤ g) := ⟨hg ▸ gq h⟩
theorem iV {W : World} {g : Nat} {o : Obj} (h : W.heap[g]? = some o := by (with_reducible repeat (first | refine bg ?_ _ | refine bv ?_ | refine aG ?_ _)); exact aa.out (by assumption)) : W.heap[g]? = some o := h
theorem lM {W0 W W2 : World} {g : Nat} {o : Obj} (_ : aa (W0.heap[g]? = some o)) (hb : Below W.heap.size W W2) (h : W.heap[g]? = some o := by exact iV) : aa (W2.heap[g]? = some o) := ⟨ak h hb⟩
theorem nbN {W0 W : World} {g g' : Nat} {o : Obj} (_ : aa (W0.heap[g]? = some o)) (hg : g' = W.heap.size) (h : W.heap[g]? = some o := by exact iV) : aa (g ≠ g') := ⟨hg ▸ Nat.ne_of_lt (av h)⟩
theorem nbM {W0 W : World} {g g' : Nat} {o : Obj} (_ : aa (W0.heap[g]? = some o)) (hg : g' = W.heap.size) (h : W.heap[g]? = some o := by exact iV) : aa (g' ≠ g) := ⟨hg ▸ Nat.ne_of_gt (av h)⟩
theorem dB {α : Sort _} {a b : α} (h : a = b := by first | rfl | (simp [qI, qJ] <;> rfl) | (simp [*, qI, qJ] <;> rfl)) : a = b := h
theorem aZ {α : Sort _} {a b : α} (h : a = b := by first | rfl | (simp; done) | (simp [*]; done)) : a = b := h
theorem bJ {w W : World} (h : cz w W := by repeat (first | exact cz.refl _ | apply cz.step)) : cz w W := h
theorem le0 {a b : Nat} (h : a ≤ b := by first | omega | exact Nat.le_refl _) : a ≤ b := h
theorem sd1 {σ : Type} {K : Kd σ} {w W0 W : World} {A : Option Addr} {n : Nat} {l : List σ} (HR : aa (Kd.C K w A n l)) (_ : aa (Below w.heap.size w W0)) (h : Below w.heap.size w W := by exact bE) : Kd.C K W A n l := Kd.dN HR.out h
theorem dW {P : Program} {ops : Array Oper} {Q : Exit → Act → World → Prop} {o : Oper} {rest : List Oper} {a : Act} {W : World} {N : Tmp} {cs : Array Value} {t : TypeId}
    (h : ∀ g, g = W.heap.size → ∀ w1, w1.heap[g]? = some (.cells cs t (0, 0)) → Below W.heap.size W w1 → wpList P ops Q rest (a.put o.dst (.pointer (some ⟨g, 0, none⟩))) w1)
    (hgd : o.guard = none := by rfl) (hd : o.dst = some N := by rfl)
    (hrun : (execOp a.eval o).run P W = .ok (.value (.pointer (some ⟨W.heap.size, 0, none⟩))) (W.alloc (.cells cs t (0, 0))) := by first | (go_simp; done) | (go_simp; rfl)) : wpList P ops Q (o :: rest) a W := wM hgd hd hrun h
theorem nN {α : Sort _} {c : Prop} [Decidable c] {x y r : α} (h : (if c then x else y) = r) : (x = r ∧ c) ∨ (y = r ∧ ¬ c) := by
  by_cases hc : c
  · rw [if_pos hc] at h; exact .inl ⟨h, hc⟩
  · rw [if_neg hc] at h; exact .inr ⟨h, hc⟩
theorem fA {α : Sort _} {c : Prop} [Decidable c] {x y r : α} (h : (if c then x else y) = r) : (x = r ∧ c ∧ decide c = true) ∨ (y = r ∧ ¬ c ∧ decide c = false) := by
  rcases nN h with ⟨h, hc⟩ | ⟨h, hc⟩
  · exact .inl ⟨h, hc, decide_eq_true hc⟩
  · exact .inr ⟨h, hc, decide_eq_false hc⟩
theorem uY {α : Sort _} {a b : Int} {x y r : α} (h : (if a > b then x else y) = r) : (x = r ∧ b < a ∧ decide (b < a) = true) ∨ (y = r ∧ ¬ b < a ∧ decide (b < a) = false) := fA h
theorem sp_h {α : Sort _} {a b : Int} {x y r : α} (h : (if a ≥ b then x else y) = r) : (x = r ∧ b ≤ a ∧ decide (b ≤ a) = true) ∨ (y = r ∧ ¬ b ≤ a ∧ decide (b ≤ a) = false) := fA h
theorem bO {α : Sort _} {a b : Int} {x y r : α} (h : (if a = b then x else y) = r) : (x = r ∧ a = b ∧ (a == b) = true ∧ (a != b) = false) ∨ (y = r ∧ ¬ a = b ∧ (a == b) = false ∧ (a != b) = true) := by
  rcases nN h with ⟨h, hc⟩ | ⟨h, hc⟩
  · exact .inl ⟨h, hc, beq_iff_eq.mpr hc, bne_eq_false_iff_eq.mpr hc⟩
  · exact .inr ⟨h, hc, beq_eq_false_iff_ne.mpr hc, bne_iff_ne.mpr hc⟩
theorem jK {α : Sort _} {t : Bool} {x y r : α} (h : (if t = true then x else y) = r) : (t = true ∧ x = r) ∨ (t = false ∧ y = r) := by
  cases t
  · exact .inr ⟨rfl, h⟩
  · exact .inl ⟨rfl, h⟩
theorem bnd {α β : Type _} {x : Option α} {f : α → Option β} {r : β} (h : (x.bind f) = some r) : ∃ t, aa (x = some t) ∧ f t = some r := by
  obtain ⟨t, a, b⟩ := Option.bind_eq_some_iff.mp h
  exact ⟨t, ⟨a⟩, b⟩
theorem so2 {α β : Type _} {a c : α} {b d : β} (h : some (a, b) = some (c, d)) : a = c ∧ b = d := by
  cases h; exact ⟨rfl, rfl⟩
theorem so3 {α β γ : Type _} {a c : α} {b d : β} {x y : γ} (h : some (a, b, x) = some (c, d, y)) : a = c ∧ b = d ∧ x = y := by
  cases h; exact ⟨rfl, rfl, rfl⟩
theorem cz4 {w : World} {g : Nat} {t : TypeId} {a b c d : Value} (h : aa (w.heap[g]? = some (.cells #[a, b, c, d] t (0, 0)))) : w.cell? ⟨g, 0, none⟩ = some a ∧ w.cell? ⟨g, 1, none⟩ = some b ∧ w.cell? ⟨g, 2, none⟩ = some c ∧ w.cell? ⟨g, 3, none⟩ = some d ∧ w.frozen? ⟨g, 0, none⟩ = false ∧ w.frozen? ⟨g, 1, none⟩ = false ∧ w.frozen? ⟨g, 2, none⟩ = false ∧ w.frozen? ⟨g, 3, none⟩ = false :=
  ⟨(ae h.out 0).trans rfl, (ae h.out 1).trans rfl, (ae h.out 2).trans rfl, (ae h.out 3).trans rfl, aj h.out 0, aj h.out 1, aj h.out 2, aj h.out 3⟩
theorem cz8 {w : World} {g : Nat} {t : TypeId} {a b c d e f i j : Value} (h : aa (w.heap[g]? = some (.cells #[a, b, c, d, e, f, i, j] t (0, 0)))) : w.cell? ⟨g, 0, none⟩ = some a ∧ w.cell? ⟨g, 1, none⟩ = some b ∧ w.cell? ⟨g, 2, none⟩ = some c ∧ w.cell? ⟨g, 3, none⟩ = some d ∧ w.cell? ⟨g, 4, none⟩ = some e ∧ w.cell? ⟨g, 5, none⟩ = some f ∧ w.cell? ⟨g, 6, none⟩ = some i ∧ w.cell? ⟨g, 7, none⟩ = some j ∧ w.frozen? ⟨g, 0, none⟩ = false ∧ w.frozen? ⟨g, 1, none⟩ = false ∧ w.frozen? ⟨g, 2, none⟩ = false ∧ w.frozen? ⟨g, 3, none⟩ = false ∧ w.frozen? ⟨g, 4, none⟩ = false ∧ w.frozen? ⟨g, 5, none⟩ = false ∧ w.frozen? ⟨g, 6, none⟩ = false ∧ w.frozen? ⟨g, 7, none⟩ = false :=
  ⟨(ae h.out 0).trans rfl, (ae h.out 1).trans rfl, (ae h.out 2).trans rfl, (ae h.out 3).trans rfl, (ae h.out 4).trans rfl, (ae h.out 5).trans rfl, (ae h.out 6).trans rfl, (ae h.out 7).trans rfl, aj h.out 0, aj h.out 1, aj h.out 2, aj h.out 3, aj h.out 4, aj h.out 5, aj h.out 6, aj h.out 7⟩
theorem Be {w W : World} {ad : Addr} {n : Nat} {xs : List S45} (h : aa (Kd.C k45 w (some ad) n xs)) (HB : aa (Below w.heap.size w W)) (i : Int) (p : decide (0 ≤ i) = true) (q : decide (i < n) = true) : W.cell? (ad.add (i.toNat * 4)) = some (.int .u16 (aM xs i).f0) ∧ W.cell? ⟨(ad.add (i.toNat * 4)).block, (ad.add (i.toNat * 4)).off + 1, none⟩ = some (.int .u8 (aM xs i).f1) ∧ W.cell? ⟨(ad.add (i.toNat * 4)).block, (ad.add (i.toNat * 4)).off + 2, none⟩ = some (.int .u8 (aM xs i).f2) ∧ W.cell? ⟨(ad.add (i.toNat * 4)).block, (ad.add (i.toNat * 4)).off + 3, none⟩ = some (.int .u32 (aM xs i).f3) ∧ (0 ≤ i) = True ∧ (i < n) = True := by
  obtain ⟨ad, e, h0, h1, h2, h3⟩ := nu h.out i (of_decide_eq_true p) (of_decide_eq_true q)
  cases e
  have mv : ∀ {a : Addr} {v : Value}, w.cell? a = some v → W.cell? a = some v := fun h => (HB.out.cell (World.block_lt_of_cell? w _ h)).trans h
  exact ⟨mv h0, mv h1, mv h2, mv h3, eq_true (of_decide_eq_true p), eq_true (of_decide_eq_true q)⟩
theorem lg {w W : World} {A : Option Addr} {n : Nat} {xs : List S45} (h : aa (Kd.C k45 w A n xs)) (HB : aa (Below w.heap.size w W)) (i : Int) (p : decide (0 ≤ i) = true) (q : decide (i < n) = true) : ∃ ad, A = some ad ∧ W.cell? (ad.add (i.toNat * 4)) = some (.int .u16 (aM xs i).f0) ∧ W.cell? ⟨(ad.add (i.toNat * 4)).block, (ad.add (i.toNat * 4)).off + 1, none⟩ = some (.int .u8 (aM xs i).f1) ∧ W.cell? ⟨(ad.add (i.toNat * 4)).block, (ad.add (i.toNat * 4)).off + 2, none⟩ = some (.int .u8 (aM xs i).f2) ∧ W.cell? ⟨(ad.add (i.toNat * 4)).block, (ad.add (i.toNat * 4)).off + 3, none⟩ = some (.int .u32 (aM xs i).f3) ∧ (0 ≤ i) = True ∧ (i < n) = True := by
  obtain ⟨ad, e, _⟩ := nu h.out i (of_decide_eq_true p) (of_decide_eq_true q)
  cases e
  exact ⟨ad, rfl, Be h HB i p q⟩
theorem eY {w W : World} {ad : Addr} {n : Nat} {xs : List S47} (h : aa (Kd.C k47 w (some ad) n xs)) (HB : aa (Below w.heap.size w W)) (i : Int) (p : decide (0 ≤ i) = true) (q : decide (i < n) = true) : ∃ A0 c0, W.cell? (ad.add (i.toNat * 8)) = some (.slice A0 (af xs i).f0.length c0) ∧ W.cell? ⟨(ad.add (i.toNat * 8)).block, (ad.add (i.toNat * 8)).off + 1, none⟩ = some (.int .i64 (af xs i).f1) ∧ W.cell? ⟨(ad.add (i.toNat * 8)).block, (ad.add (i.toNat * 8)).off + 2, none⟩ = some (.int .u16 (af xs i).f2.f0) ∧ W.cell? ⟨(ad.add (i.toNat * 8)).block, (ad.add (i.toNat * 8)).off + 3, none⟩ = some (.int .u8 (af xs i).f2.f1) ∧ W.cell? ⟨(ad.add (i.toNat * 8)).block, (ad.add (i.toNat * 8)).off + 4, none⟩ = some (.int .u8 (af xs i).f2.f2) ∧ W.cell? ⟨(ad.add (i.toNat * 8)).block, (ad.add (i.toNat * 8)).off + 5, none⟩ = some (.int .u32 (af xs i).f2.f3) ∧ W.cell? ⟨(ad.add (i.toNat * 8)).block, (ad.add (i.toNat * 8)).off + 6, none⟩ = some (.int .i64 (af xs i).f3) ∧ W.cell? ⟨(ad.add (i.toNat * 8)).block, (ad.add (i.toNat * 8)).off + 7, none⟩ = some (.int .i64 (af xs i).f4) ∧ aa (k45.C w A0 (af xs i).f0.length (af xs i).f0) ∧ aa ((af xs i).f0.length ≤ c0) ∧ (0 ≤ i) = True ∧ (i < n) = True := by
  obtain ⟨ad, A0, c0, e, h0, h1, h2, h3, h4, h5, h6, h7, hl, hi⟩ := ib h.out i (of_decide_eq_true p) (of_decide_eq_true q)
  cases e
  have mv : ∀ {a : Addr} {v : Value}, w.cell? a = some v → W.cell? a = some v := fun h => (HB.out.cell (World.block_lt_of_cell? w _ h)).trans h
  exact ⟨A0, c0, mv h0, mv h1, mv h2, mv h3, mv h4, mv h5, mv h6, mv h7, ⟨hi⟩, ⟨hl⟩, eq_true (of_decide_eq_true p), eq_true (of_decide_eq_true q)⟩
theorem iJ {w : World} {A : Option Addr} {n : Nat} {xs : List S47} (h : aa (Kd.C k47 w A n xs)) (i : Int) (p : decide (0 ≤ i) = true) (q : decide (i < n) = true) : ∃ ad, A = some ad := by
  obtain ⟨ad, _, _, e, _⟩ := ib h.out i (of_decide_eq_true p) (of_decide_eq_true q)
  exact ⟨ad, e⟩
section
variable {P : Program} {ops : Array Oper} {Q : Exit → Act → World → Prop} {S : World → Prop} {ds : List Nat} {md : Region.Mode}
theorem fJ {id : Nat} {a : Act} {w : World} (n : Nat) (S : World → Prop) (ds : List Nat) (hS : S w.drew) (h : S w.drew → bL P .any ops Q S ds n (Array.replicate n false) a w.drew) (hm : P.follows .mixedOrders = true := by kernel_rfl) (hn : ops.size = n := by exact rfl) : (Code.region id ops true).wp P Q a w := start_ _ hm hn rfl hS h
theorem aX (i N : Nat) {oi : Oper} {v : Value} {fuel : Nat} {l : Array Bool} {a : Act} {w : World} {a' : Act} (h : bL P md ops Q S ds fuel (l.setIfInBounds i true) a' w) (hi : ops[i]? = some oi := by exact rfl) (hN : oi.dst = some N := by exact rfl) (hc : anyB md ops l (l.setIfInBounds i true) i = true := by kernel_rfl)
    (hQ : ∀ c a w, Q (.panic c) (a.put oi.dst v) w → Q (.panic c) a w := by exact fun _ _ _ h => h) (hy : Yields P ops oi v a := by refine Or.inl ⟨by rfl, ?_⟩; intro w'; go_simp; with_reducible rfl) (ha : a.put (some N) v = a' := by simp only [Act.put, List.setIfInBounds_toArray, List.set_cons_zero, List.set_cons_succ, dH, dG]; rfl) : bL P md ops Q S ds (fuel + 1) l a w := ko _ hi hN hc hQ hy ha h
theorem dV (i N : Nat) {oi : Oper} {v : Value} {fuel : Nat} {l : Array Bool} {a : Act} {w : World} {a' : Act} (hS : S w) (h : bL P md ops Q S ds fuel (l.setIfInBounds i true) a' w) (hi : ops[i]? = some oi := by exact rfl) (hN : oi.dst = some N := by exact rfl) (hc : takeB md ops ds l (l.setIfInBounds i true) i = true := by kernel_rfl)
    (hQ : ∀ c a w, Q (.panic c) (a.put oi.dst v) w → Q (.panic c) a w := by exact fun _ _ _ h => h) (hy : YieldsIf P ops S oi v a := by refine Or.inl ⟨by rfl, ?_⟩; intro w' hs; repeat (obtain ⟨_, hs⟩ := hs); go_simp; with_reducible rfl) (ha : a.put (some N) v = a' := by simp only [Act.put, List.setIfInBounds_toArray, List.set_cons_zero, List.set_cons_succ, dH, dG]; rfl) : bL P md ops Q S ds (fuel + 1) l a w := BR _ hi hN hc hQ hy hS ha h
theorem jR (i : Nat) (N : Option Tmp) {oi : Oper} {fuel : Nat} {l : Array Bool} {a : Act} {w : World} (h : ∀ K : Act → World → Prop, Shut (∀ a' w', S w' → (S w' → bL P md ops Q S ds fuel (l.setIfInBounds i true) a' w') → K a' w') → if Region.wanted oi (yielded ops a.tmps) = true then Oper.wp P oi a w K Q else K (a.put N undef) w)
    (hi : ops[i]? = some oi := by exact rfl) (hN : oi.dst = N := by exact rfl) (hc : nM md ops l (l.setIfInBounds i true) i = true := by kernel_rfl) (hd : i ∉ ds := by decide) : bL P md ops Q S ds (fuel + 1) l a w := one_ _ hi hN hc hd h
theorem iA (i : Nat) (N : Option Tmp) {oi : Oper} {fuel : Nat} {l : Array Bool} {a : Act} {w : World} (h : ∀ K : Act → World → Prop, Shut (∀ a' w', bL P md ops Q S ds fuel (l.setIfInBounds i true) a' w' → K a' w') → if Region.wanted oi (yielded ops a.tmps) = true then Oper.wp P oi a w K Q else K (a.put N undef) w)
    (hi : ops[i]? = some oi := by exact rfl) (hN : oi.dst = N := by exact rfl) (hc : nM md ops l (l.setIfInBounds i true) i = true := by kernel_rfl) (hd : i ∈ ds := by decide) : bL P md ops Q S ds (fuel + 1) l a w := last_ _ hi hN hc hd h
theorem ic (T : Nat) {fuel : Nat} {l : Array Bool} {a a' : Act} {v : Value} {w : World} (h : bL P md ops Q S ds fuel l a' w) (ha : a.put (some T) v = a' := by simp only [Act.put, List.setIfInBounds_toArray, List.set_cons_zero, List.set_cons_succ, dH, dG]; rfl) : bL P md ops Q S ds fuel l (a.put (some T) v) w := norm_ ha h
theorem iY {oi : Oper} {N : Option Tmp} {a : Act} {w : World} {K : Act → World → Prop} {f : FuncId} {fn : Func} {as_ : Array Operand} {ts : Array TypeId} (hf : P.funcs[f]? = some fn) (args : Array Value) (h : Calls P f args w fun e w' => ∃ v, e = .returned v ∧ K (a.put N v) w')
    (hname : (fn.name == "runtime.NumGoroutine") = false := by kernel_rfl) (hb : fn.body.isSome = true := by exact rfl) (hw : Region.wanted oi (yielded ops a.tmps) = true := by rfl) (hN : oi.dst = N := by exact rfl) (hop : oi.op = .call { callee := .value (.func f), args := as_, argTypes := ts } := by exact rfl) (hargs : as_.map a.eval = args := by simp only [List.map_toArray, List.map_cons, List.map_nil]; rfl) :
    if Region.wanted oi (yielded ops a.tmps) = true then Oper.wp P oi a w K Q else K (a.put N undef) w := goes_ hf hname hb args hw hN hop hargs h
theorem jb {oi : Oper} {a : Act} {w w1 : World} {K : Act → World → Prop} (h : K a w1) (hw : Region.wanted oi (yielded ops a.tmps) = true := by rfl) (hN : oi.dst = none := by exact rfl) (hrun : (execOp a.eval oi).run P w = .ok .skip w1 := by go_simp; rfl) : if Region.wanted oi (yielded ops a.tmps) = true then Oper.wp P oi a w K Q else K (a.put none undef) w := skip_ hw hN hrun h
end
theorem kD {B : Nat} {W V : World} (h : Below B W V := by repeat (first | (with_reducible exact Below.refl _ _) | apply aA | apply au)) : Below B W V := h
theorem bel2 {w V : World} (h : Below w.heap.size w V := by repeat (first | (with_reducible exact Below.refl _ _) | apply aA | apply au | apply ah)) : Below w.heap.size w V := h
abbrev SJ (gi : Nat) (j : S45) (V : World) : Prop := V.cell? ⟨gi, 0, none⟩ = some (.int .u16 j.f0) ∧ V.cell? ⟨gi, 1, none⟩ = some (.int .u8 j.f1) ∧ V.cell? ⟨gi, 2, none⟩ = some (.int .u8 j.f2) ∧ V.cell? ⟨gi, 3, none⟩ = some (.int .u32 j.f3) ∧ V.cell? ⟨gi + 1, 0, none⟩ = some (.int .u16 0) ∧ V.cell? ⟨gi + 1, 1, none⟩ = some (.int .u8 0) ∧ V.cell? ⟨gi + 1, 2, none⟩ = some (.int .u8 0) ∧ V.cell? ⟨gi + 1, 3, none⟩ = some (.int .u32 0) ∧ V.frozen? ⟨gi + 1, 0, none⟩ = false ∧ V.frozen? ⟨gi + 1, 1, none⟩ = false ∧ V.frozen? ⟨gi + 1, 2, none⟩ = false ∧ V.frozen? ⟨gi + 1, 3, none⟩ = false
theorem nQ {gi : Nat} {j : S45} {V : World} (hi : V.heap[gi]? = some (.cells #[.int .u16 j.f0, .int .u8 j.f1, .int .u8 j.f2, .int .u32 j.f3] 45 (0, 0))) (hr : V.heap[gi + 1]? = some (.cells #[.int .u16 0, .int .u8 0, .int .u8 0, .int .u32 0] 45 (0, 0))) (V' V'' : World) (h1 : Below V.heap.size V V') (h2 : Below V'.heap.size V' V'') : SJ gi j V'' := by
  obtain ⟨p0, p1, p2, p3, -, -, -, -⟩ := cz4 ⟨ak (ak hi h1) h2⟩
  obtain ⟨z0, z1, z2, z3, t0, t1, t2, t3⟩ := cz4 ⟨ak (ak hr h1) h2⟩
  exact ⟨p0, p1, p2, p3, z0, z1, z2, z3, t0, t1, t2, t3⟩
theorem ab0 {a : Addr} {b g : Nat} (hn : b ≠ g) (h : a.block = b := by first | exact add_block _ _ | rfl | (show (Addr.add _ _).block = _; exact add_block _ _)) : a.block ≠ g := h ▸ hn
end Go.Proofs.Ytdkalnkplgfgoaa.PA
namespace Go.Proofs.Ytdkalnkplgfgoaa.Ln
open Go.Maps Go.RowKit
def tok (v : Value) : Option (DataW Value × List MemPlace) := some (.held v, [])
def jA (P : Program) (k : TypeId) (z : Value) (w : World) (b n : Nat) (f : Int → Value) : Prop :=
 ∃ D, w.ownsMap P k tok b n D ∧ ∀ a, (Lit.int .i64 a).wf = true → D.atKey (.int .i64 a) (.held z) = .held (f a)
def upd {α : Type} (f : Int → α) (a : Int) (v : α) : Int → α := fun x => if x = a then v else f x
section
variable {P : Program} {k e t : TypeId} {z : Value} {w w1 : World} {b n : Nat} {f : Int → Value}
theorem jA.kept (h : jA P k z w b n f) {row : Option Nat} (hg : w.grownBy w1 row) (hne : some b ≠ row) : jA P k z w1 b n f := by
 obtain ⟨D, h1, h2⟩ := h
 exact ⟨D, h1.kept hg hne, h2⟩
theorem jA.move (h : jA P k z w b n f) (hm : w1.heap[b]? = w.heap[b]?) : jA P k z w1 b n f := by
 obtain ⟨D, ⟨es, c, hb, r⟩, h2⟩ := h
 exact ⟨D, ⟨es, c, hm.trans hb, r⟩, h2⟩
theorem jA.below (h : jA P k z w b n f) (hb : Below w.heap.size w w1) : jA P k z w1 b n f := by
 obtain ⟨D, h1, h2⟩ := h
 exact ⟨D, h1.kept ⟨hb.os, hb.tape, hb.output, hb.size, fun i hi _ => hb.block i hi⟩ (row := none) (by simp), h2⟩
theorem jA.mono (h : jA P k z w b n f) {m : Nat} (hn : n ≤ m) : jA P k z w b m f := by
 obtain ⟨D, h1, h2⟩ := h
 exact ⟨D, h1.mono hn, h2⟩
theorem jA.lt (h : jA P k z w b n f) : b < w.heap.size := by
 obtain ⟨D, h1, _⟩ := h
 exact h1.lt
theorem jA.zQ (h : jA P k z w b n f) : ∃ es c, w.heap[b]? = some (.map es c) := by
 obtain ⟨D, ⟨es, c, hb, _⟩, _⟩ := h
 exact ⟨es, c, hb⟩
theorem jA.look (h : jA P k z w b n f) (K : Keyed P k) (hk : P.underlying k = some (.int .i64)) (ht : P.underlying t = some (.map k e)) (hz : ∀ w, (zeroValue e).run P w = .ok z w)
 (a : Int) (ha : (Lit.int .i64 a).wf = true) : (Instr.lookup t (.map (some b)) (.int .i64 a) false).run P w = .ok (f a) w := by
 obtain ⟨D, h1, h2⟩ := h
 obtain ⟨v, ps, hrun, hv⟩ := h1.lookup K ht (hz w) (zd := .held z) (zp := []) rfl (keyOf_int_mk hk ha)
 rw [h2 a ha] at hv
 simp only [tok, Option.some.injEq, Prod.mk.injEq, DataW.held.injEq] at hv
 rw [hrun, hv.1]
theorem jA.store (h : jA P k z w b n f) (K : Keyed P k) (hk : P.underlying k = some (.int .i64)) (ht : P.underlying t = some (.map k e)) (hn : n < maxLen)
 (a : Int) (ha : (Lit.int .i64 a).wf = true) (v : Value) : ∃ w', (Instr.mapUpdate t (.map (some b)) (.int .i64 a) v).run P w = .ok () w' ∧ jA P k z w' b (n + 1) (upd f a v) ∧ w.grownBy w' (some b) := by
 obtain ⟨D, h1, h2⟩ := h
 obtain ⟨w', hrun, ho, hg⟩ := h1.update K ht hn (keyOf_int_mk hk ha) (d := .held v) (ps := []) (val := v) rfl
 refine ⟨w', hrun, ⟨_, ho, fun x hx => ?_⟩, hg⟩
 unfold upd
 by_cases e : x = a
 · subst e
   rw [if_pos rfl]
   exact atKey_put_same h1.isMap (K.key (keyOf_int_mk hk ha)) _ _
 rw [if_neg e]
 exact (atKey_put_other (by intro h; injection h with _ h; exact e h) _ _).trans (h2 x hx)
end
open Go.Proofs.YtdkalnkplgfgoaaW.PrintWords Go.Proofs.YtdkalnkplgfgoaaW.PrintLast Go.Proofs.YtdkalnkplgfgoaaW.PrintMore
theorem qc {B g : Nat} (W : World) (h : B ≤ g) (vs : List Value) : Below B W (W.setCells g 0 vs) :=
 let s := jg g vs 0 W
 ⟨s.1, s.2.1, s.2.2.1, Nat.le_of_eq s.2.2.2.symm, fun i hi => iQ vs 0 i (by omega)⟩
section
variable {P : Program} {ops : Array Oper} {rest : List Oper} {o o2 : Oper} {a : Act} {Q : Exit → Act → World → Prop} {W : World}
theorem xM {t : TypeId} {g : Nat} {cs cs' : Array Value} {T : TypeId} (hb : W.heap[g]? = some (.cells cs T (0, 0))) {u : Value} (hu : u.cells = cs') (hsz : cs'.size = cs.size) (ht : (P.info? t).map (·.size) = some cs.size) (h1 : ∀ q ∈ cs'.toList, q.oneCell' = true) :
 ∃ w1, (Instr.storeAt t (.pointer (some ⟨g, 0, none⟩)) u).run P W = .ok () w1 ∧ w1.heap[g]? = some (.cells cs' T (0, 0)) ∧ (∀ k, k ≠ g → w1.heap[k]? = W.heap[k]?) ∧ Below g W w1 := by
 have hl : cs'.toList.length = cs.size := by rw [Array.length_toList, hsz]
 have hst := qA (P := P) (o := 0) t u cs'.toList hb (by rw [hu]) (by rw [ht, hl]) (by rw [hl]; omega) h1
 obtain ⟨cur', h3, h4, h5⟩ := kK cs'.toList 0 W cs hb (by rw [hl]; omega)
 have he : cur' = cs' := by
  apply Array.ext'
  rw [h5, List.take_zero, List.nil_append, Nat.zero_add, hl, List.drop_eq_nil_of_le (by rw [Array.length_toList]; exact Nat.le_refl _), List.append_nil]
 rw [he] at h3
 exact ⟨_, hst, h3, fun k hk => iQ _ 0 k hk, qc W (Nat.le_refl _) _⟩
theorem jw (hgd : o.guard = none) (hN : o.dst = none) {t : TypeId} {p x : Operand} (ho : o.op = .store t p x) {g : Nat} {cs cs' : Array Value} {T : TypeId} (haddr : a.eval p = .pointer (some ⟨g, 0, none⟩))
 (hb : W.heap[g]? = some (.cells cs T (0, 0))) {u : Value} (hx : a.eval x = u) (hu : u.cells = cs') (hsz : cs'.size = cs.size) (ht : (P.info? t).map (·.size) = some cs.size) (h1 : ∀ q ∈ cs'.toList, q.oneCell' = true)
 (h : ∀ w1, w1.heap[g]? = some (.cells cs' T (0, 0)) → (∀ k, k ≠ g → w1.heap[k]? = W.heap[k]?) → Below g W w1 → wpList P ops Q rest a w1) : wpList P ops Q (o :: rest) a W := by
 obtain ⟨w1, hrun, r1, r2, r3⟩ := xM (P := P) (t := t) hb hu hsz ht h1
 refine wpList_plain hgd fun K hK => ?_
 unfold Oper.wp execOp
 simp only [ho, haddr, hx, Sem.run_bind, Sem.run_pure, Result.andThen_ok, hrun]
 show K (a.put o.dst undef) _
 rw [hN]
 exact hK a _ (h _ r1 r2 r3)
end
open Go.Proofs.Ytdkalnkplgfgoaa.PA
theorem lawI : Keyed Try.prog 3 := int_keyed Try.underlying3
theorem zeroI (w : World) : (zeroValue 3).run Try.prog w = .ok (.int .i64 0) w := by kernel_rfl
theorem zeroF (w : World) : (zeroValue 121).run Try.prog w = .ok (.agg #[.bool false, .bool false]) w := by kernel_rfl
abbrev MI (w : World) (b n : Nat) (f : Int → Int) : Prop := jA Try.prog 3 (.int .i64 0) w b n (fun x => .int .i64 (f x))
def wU (p : Bool × Bool) : Value := .agg #[.bool p.1, .bool p.2]
abbrev MF (w : World) (b n : Nat) (f : Int → Bool × Bool) : Prop := jA Try.prog 3 (.agg #[.bool false, .bool false]) w b n (fun x => wU (f x))
theorem MI_look {w : World} {b n : Nat} {f : Int → Int} (h : MI w b n f) (a : Int) (ha : (Lit.int .i64 a).wf = true) : (Instr.lookup 66 (.map (some b)) (.int .i64 a) false).run Try.prog w = .ok (.int .i64 (f a)) w :=
 h.look lawI Try.underlying3 Try.underlying66 zeroI a ha
theorem MF_look {w : World} {b n : Nat} {f : Int → Bool × Bool} (h : MF w b n f) (a : Int) (ha : (Lit.int .i64 a).wf = true) : (Instr.lookup 67 (.map (some b)) (.int .i64 a) false).run Try.prog w = .ok (.agg #[.bool (f a).1, .bool (f a).2]) w :=
 h.look lawI Try.underlying3 Try.underlying67 zeroF a ha
theorem far_f0 (x y : Bool) (w : World) : (Instr.field 121 (.agg #[.bool x, .bool y]) 0).run Try.prog w = .ok (.bool x) w := by kernel_rfl
theorem far_f1 (x y : Bool) (w : World) : (Instr.field 121 (.agg #[.bool x, .bool y]) 1).run Try.prog w = .ok (.bool y) w := by kernel_rfl
def mY (b : S47) (a : Int) (f : Bool × Bool) : Int :=
 if b.f1 = 2 ∧ b.f3 = a then 0 else if b.f1 = 3 then 1 + (if f.1 then 1 else 0) + (if f.2 then 1 else 0) else 1
theorem ve (g : List S47) (B c : Nat) (A : Option Addr) (vc vo vp : Value) (bA bF nA nF : Nat) (after : Int → Int) (fars : Int → Bool × Bool) (i : Int) (w : World)
 (hB : w.heap[B]? = some (.cells #[vc, .slice A g.length c, vo, .map (some bA), vp, .map (some bF)] 72 (0, 0))) (HG : Kd.C k47 w A g.length g)
 (h0 : 0 ≤ i) (h1 : i < (g.length : Int)) (hA : MI w bA nA after) (hF : MF w bF nF fars) :
 Calls Try.prog 77 #[.pointer (some ⟨B, 0, none⟩), .int .i64 i] w fun e w' => e = .returned (.int .i64 (mY (af g i) (after i) (fars i))) ∧ Below w.heap.size w w' := by
 have hlen := Kd.C_max HG
 have hwf : (Lit.int .i64 i).wf = true := WalkArith.wf_i64 (by omega)
 obtain ⟨ad, A0, c0, rfl, x0, x1, x2, x3, x4, x5, x6, x7, hl, hi⟩ := ib HG i h0 h1
 have b1 : w.cell? ⟨B, 1, none⟩ = some (.slice (some ad) g.length c) := (ae hB 1).trans rfl
 have b3 : w.cell? ⟨B, 3, none⟩ = some (.map (some bA)) := (ae hB 3).trans rfl
 have b5 : w.cell? ⟨B, 5, none⟩ = some (.map (some bF)) := (ae hB 5).trans rfl
 have lA : ∀ o n, (Instr.lookup 66 (.map (some bA)) (.int .i64 i) false).run Try.prog ((w.alloc o).drewN n) = .ok (.int .i64 (after i)) ((w.alloc o).drewN n) := fun o n => MI_look (hA.below (aA (ah (Below.refl _ _) o) n)) i hwf
 have lF : ∀ o n, (Instr.lookup 67 (.map (some bF)) (.int .i64 i) false).run Try.prog ((w.alloc o).drewN n) = .ok (.agg #[.bool (fars i).1, .bool (fars i).2]) ((w.alloc o).drewN n) := fun o n => MF_look (hF.below (aA (ah (Below.refl _ _) o) n)) i hwf
 have hBl := av hB
 clear hA hF HG hi hl hB
 generalize after i = aft at *
 generalize hp : fars i = p at *
 clear hp
 obtain ⟨fy, fn⟩ := p
 dsimp only at lF
 by_cases c1 : (af g i).f1 = 2
 · have c1b : ((af g i).f1 == 2) = true := beq_iff_eq.mpr c1
   have c3b : ((af g i).f1 == 3) = false := beq_eq_false_iff_ne.mpr (by omega)
   by_cases c2 : (af g i).f3 = aft
   · have e : mY (af g i) aft (fy, fn) = 0 := if_pos ⟨c1, c2⟩
     have c2b : ((af g i).f3 == aft) = true := beq_iff_eq.mpr c2
     rw [e]
     clear c1 c2 e
     go_enter Try.func77, Try.ntmps77
     go_wp2
     go_quiet (fail)
     go_wp2
     go_ret
     exact ⟨rfl, aA (ah (Below.refl _ _) _) _⟩
   have e : mY (af g i) aft (fy, fn) = 1 := by unfold mY; rw [if_neg (fun h => c2 h.2), if_neg (by omega)]
   have c2b : ((af g i).f3 == aft) = false := beq_eq_false_iff_ne.mpr c2
   rw [e]
   clear c1 c2 e
   go_enter Try.func77, Try.ntmps77
   go_wp2
   go_quiet (fail)
   go_wp2
   go_ret
   exact ⟨rfl, aA (ah (Below.refl _ _) _) _⟩
 have c1b : ((af g i).f1 == 2) = false := beq_eq_false_iff_ne.mpr c1
 by_cases c3 : (af g i).f1 = 3
 · have c3b : ((af g i).f1 == 3) = true := beq_iff_eq.mpr c3
   have e : mY (af g i) aft (fy, fn) = 1 + (if fy then 1 else 0) + (if fn then 1 else 0) := by unfold mY; rw [if_neg (fun h => c1 h.1), if_pos c3]
   rw [e]
   clear c1 c3 e
   have k0 := far_f0
   have k1 := far_f1
   cases fy <;> cases fn
   all_goals
    go_enter Try.func77, Try.ntmps77
    go_wp2
    go_quiet (fail)
    go_wp2
    go_ret
    exact ⟨rfl, aA (ah (Below.refl _ _) _) _⟩
 have c3b : ((af g i).f1 == 3) = false := beq_eq_false_iff_ne.mpr c3
 have e : mY (af g i) aft (fy, fn) = 1 := by unfold mY; rw [if_neg (fun h => c1 h.1), if_neg c3]
 rw [e]
 clear c1 c3 e
 go_enter Try.func77, Try.ntmps77
 go_wp2
 go_quiet (fail)
 go_wp2
 go_ret
 exact ⟨rfl, aA (ah (Below.refl _ _) _) _⟩
structure Kp (S : Nat → Prop) (w w1 : World) : Prop where
 os : w1.os = w.os
 tape : w1.tape = w.tape
 output : w1.output = w.output
 size : w.heap.size ≤ w1.heap.size
 block : ∀ k, k < w.heap.size → ¬ S k → w1.heap[k]? = w.heap[k]?
theorem Kp.refl (S : Nat → Prop) (w : World) : Kp S w w := ⟨rfl, rfl, rfl, Nat.le_refl _, fun _ _ _ => rfl⟩
theorem Kp.trans {S : Nat → Prop} {w w1 w2 : World} (h : Kp S w w1) (k : Kp S w1 w2) : Kp S w w2 :=
 ⟨k.os.trans h.os, k.tape.trans h.tape, k.output.trans h.output, Nat.le_trans h.size k.size, fun i hi hS => (k.block i (Nat.lt_of_lt_of_le hi h.size) hS).trans (h.block i hi hS)⟩
theorem Kp.below {S : Nat → Prop} {w w1 w2 : World} (h : Kp S w w1) (k : Below w1.heap.size w1 w2) : Kp S w w2 :=
 ⟨k.os.trans h.os, k.tape.trans h.tape, k.output.trans h.output, Nat.le_trans h.size k.size, fun i hi hS => (k.block i (Nat.lt_of_lt_of_le hi h.size)).trans (h.block i hi hS)⟩
theorem Kp.grown {S : Nat → Prop} {w w1 w2 : World} {r : Option Nat} (h : Kp S w w1) (k : w1.grownBy w2 r) (hr : ∀ b, r = some b → S b ∨ w.heap.size ≤ b) : Kp S w w2 :=
 ⟨k.os.trans h.os, k.tape.trans h.tape, k.output.trans h.output, Nat.le_trans h.size k.size, fun i hi hS => (k.block i (Nat.lt_of_lt_of_le hi h.size) (fun e => by rcases hr i e.symm with h1 | h1; exact hS h1; omega)).trans (h.block i hi hS)⟩
theorem Kp.set {S : Nat → Prop} {w w1 : World} {g : Nat} (h : Kp S w w1) (hg : S g ∨ w.heap.size ≤ g) (j : Nat) (u : Value) : Kp S w (w1.setCell ⟨g, j, none⟩ u) := by
 have b := (Below.refl g w1).setCell (Nat.le_refl g) (p := ⟨g, j, none⟩) u
 refine ⟨b.os.trans h.os, b.tape.trans h.tape, b.output.trans h.output, Nat.le_trans h.size b.size, fun i hi hS => ?_⟩
 have hne : i ≠ g := fun e => by subst e; rcases hg with h1 | h1; exact hS h1; omega
 exact (Below.heap_setCell w1 ⟨g, j, none⟩ u i hne).trans (h.block i hi hS)
theorem Kp.fK {S : Nat → Prop} {w0 w w1 : World} {B : Nat} (hb : Below B w0 w) (h : Kp S w w1) (hB : B ≤ w.heap.size) (hS : ∀ k, S k → B ≤ k) : Below B w0 w1 :=
 ⟨h.os.trans hb.os, h.tape.trans hb.tape, h.output.trans hb.output, Nat.le_trans hb.size h.size, fun i hi => (h.block i (by omega) (fun s => by have := hS i s; omega)).trans (hb.block i hi)⟩
structure Wr (w0 w : World) (g : List S47) (A : Option Addr) (c B : Nat) (vc vo vp : Value) (order : List Int) (bA bF nA nF : Nat) (after : Int → Int) (fars : Int → Bool × Bool) : Prop where
 below : Below w0.heap.size w0 w
 blk : w.heap[B]? = some (.cells #[vc, .slice A g.length c, vo, .map (some bA), vp, .map (some bF)] 72 (0, 0))
 graph : Kd.C k47 w0 A g.length g
 ord : (Kd.int .i64).R 3 w w0.heap.size (fun _ => True) vo order
 ordin : ∀ i, i ∈ order → 0 ≤ i ∧ i < (g.length : Int)
 goin : ∀ i, i ∈ order → (Lit.int .i64 (af g i).f3).wf = true ∧ (Lit.int .i64 (af g i).f4).wf = true
 mA : MI w bA nA after
 mF : MF w bF nF fars
 hB : w0.heap.size ≤ B
 hA : w0.heap.size ≤ bA
 hF : w0.heap.size ≤ bF
 ne : bA ≠ bF
theorem wF {α : Type} {d : Kd α} {e : Nat} {w wr : World} {base : Nat} {v : Value} {xs : List α} {S : Nat → Prop} (h : d.R e w base (fun _ => True) v xs)
 (hS : ∀ k, S k → (∃ cs t fr, w.heap[k]? = some (.cells cs t fr) ∧ ∀ q, q ∈ e :: d.E → q ≠ t) ∨ (∃ es c, w.heap[k]? = some (.map es c))) (kp : Kp S w wr) : d.R e wr base (fun _ => True) v xs := by
 refine Kd.gP (Kd.o8 (Kd.gP (ok' := fun k => ¬ S k) (Kd.jG h) ?_) (fun k hok hlt => kp.block k hlt hok)) (fun _ _ => trivial)
 rintro k ⟨_, _, _, q, hq, cells, hc⟩ hs
 rcases hS k hs with ⟨cs, t, fr, h1, h2⟩ | ⟨es, c, h1⟩
 · rw [hc] at h1
   injection h1 with h1
   injection h1 with _ h1
   exact h2 q hq h1
 rw [hc] at h1
 cases h1
section
variable {w0 w wr : World} {g : List S47} {A : Option Addr} {c B : Nat} {vc vo vp vp' : Value} {order : List Int} {bA bF nA nF nF' : Nat} {after : Int → Int} {fars fars' : Int → Bool × Bool}
theorem Wr.kinds (H : Wr w0 w g A c B vc vo vp order bA bF nA nF after fars) {E : List Nat} (hE : ∀ q, q ∈ E → q ≠ 72) :
 ∀ k, (k = B ∨ k = bF) → (∃ cs t fr, w.heap[k]? = some (.cells cs t fr) ∧ ∀ q, q ∈ E → q ≠ t) ∨ (∃ es c, w.heap[k]? = some (.map es c)) := by
 rintro k (rfl | rfl)
 · exact .inl ⟨_, _, _, H.blk, hE⟩
 exact .inr H.mF.zQ
theorem Wr.mA_ne (H : Wr w0 w g A c B vc vo vp order bA bF nA nF after fars) : bA ≠ B := by
 obtain ⟨es, c, h⟩ := H.mA.zQ
 rintro rfl
 rw [H.blk] at h
 cases h
theorem Wr.move (H : Wr w0 w g A c B vc vo vp order bA bF nA nF after fars) (kp : Kp (fun k => k = B ∨ k = bF) w wr)
 (blk : wr.heap[B]? = some (.cells #[vc, .slice A g.length c, vo, .map (some bA), vp', .map (some bF)] 72 (0, 0))) (mF : MF wr bF nF' fars') : Wr w0 wr g A c B vc vo vp' order bA bF nA nF' after fars' where
 below := kp.fK H.below H.below.size (by rintro k (rfl | rfl); exact H.hB; exact H.hF)
 blk := blk
 graph := H.graph
 ord := wF H.ord (H.kinds (by decide)) kp
 ordin := H.ordin
 goin := H.goin
 mA := H.mA.move (kp.block bA H.mA.lt (by rintro (h | h); exact H.mA_ne h; exact H.ne h))
 mF := mF
 hB := H.hB
 hA := H.hA
 hF := H.hF
 ne := H.ne
theorem Wr.stay (H : Wr w0 w g A c B vc vo vp order bA bF nA nF after fars) (hb : Below w.heap.size w wr) : Wr w0 wr g A c B vc vo vp order bA bF nA nF after fars :=
 H.move ((Kp.refl _ w).below hb) (ak H.blk hb) (H.mF.below hb)
theorem Wr.mF_ne (H : Wr w0 w g A c B vc vo vp order bA bF nA nF after fars) : ¬ bF = B := by
 obtain ⟨es, c, h⟩ := H.mF.zQ
 rintro rfl
 rw [H.blk] at h
 cases h
theorem Wr.tail (H : Wr w0 w g A c B vc vo vp order bA bF nA nF after fars) (i : Int) (hi : i ∈ order) :
 Calls Try.prog 77 #[.pointer (some ⟨B, 0, none⟩), .int .i64 i] w fun e w' => e = .returned (.int .i64 (mY (af g i) (after i) (fars i))) ∧ Below w.heap.size w w' :=
 ve g B c A vc vo vp bA bF nA nF after fars i w H.blk (Kd.dN H.graph H.below) (H.ordin i hi).1 (H.ordin i hi).2 H.mA H.mF
end
theorem upd_far (p : Int → Bool × Bool) (a : Int) (v : Bool × Bool) : upd (fun x => wU (p x)) a (wU v) = fun x => wU (upd p a v x) := by
 funext x
 unfold upd
 split <;> rfl
structure St2 (w0 w wr : World) (g : List S47) (A : Option Addr) (c B P k : Nat) (vc vo : Value) (order : List Int) (bA bF nA nF : Nat) (after PL : Int → Int) (f : Int → Bool × Bool) : Prop where
 me : Wr w0 wr g A c B vc vo (.map (some P)) order bA bF nA (nF + k) after f
 mP : MI wr P order.length PL
 kp : Kp (fun k => k = B ∨ k = bF) w wr
 pne : P ≠ B ∧ P ≠ bF
theorem Wr.mono {w0 w : World} {g : List S47} {A : Option Addr} {c B : Nat} {vc vo vp : Value} {order : List Int} {bA bF nA nF nF' : Nat} {after : Int → Int} {fars : Int → Bool × Bool}
 (H : Wr w0 w g A c B vc vo vp order bA bF nA nF after fars) (hn : nF ≤ nF') : Wr w0 w g A c B vc vo vp order bA bF nA nF' after fars :=
 ⟨H.below, H.blk, H.graph, H.ord, H.ordin, H.goin, H.mA, jA.mono H.mF hn, H.hB, H.hA, H.hF, H.ne⟩
theorem St2.same {w0 w wr wr' : World} {g : List S47} {A : Option Addr} {c B P k : Nat} {vc vo : Value} {order : List Int} {bA bF nA nF : Nat} {after PL : Int → Int} {f : Int → Bool × Bool}
 (H : St2 w0 w wr g A c B P k vc vo order bA bF nA nF after PL f) (hb : Below wr.heap.size wr wr') : St2 w0 w wr' g A c B P (k + 1) vc vo order bA bF nA nF after PL f :=
 ⟨(H.me.stay hb).mono (by omega), H.mP.below hb, H.kp.below hb, H.pne⟩
theorem forget {P : Program} {code : Code} {Q : Exit → Act → World → Prop} {a : Act} {W : World} (F : World → Prop) (h : F W) (k : ∀ W', F W' → code.wp P Q a W') : code.wp P Q a W := k W h
theorem St2.step {w0 w wr W w11 : World} {g : List S47} {A : Option Addr} {c B P k : Nat} {vc vo : Value} {order : List Int} {bA bF nA nF : Nat} {after PL : Int → Int} {f : Int → Bool × Bool} {i : Int} {v : Bool × Bool}
 (H : St2 w0 w wr g A c B P k vc vo order bA bF nA nF after PL f) (hb : Below wr.heap.size wr W) (hm : jA Try.prog 3 (.agg #[.bool false, .bool false]) w11 bF (nF + k + 1) (upd (fun x => wU (f x)) i (wU v))) (hg : W.drew.grownBy w11 (some bF)) :
 St2 w0 w w11 g A c B P (k + 1) vc vo order bA bF nA nF after PL (upd f i v) := by
 have h1 : Below wr.heap.size wr W.drew := au hb
 have h2 := H.me.stay h1
 rw [upd_far] at hm
 have kp : Kp (fun k => k = B ∨ k = bF) W.drew w11 := (Kp.refl _ _).grown hg (by intro b e; injection e with e; exact .inl (.inr e.symm))
 refine ⟨h2.move kp (ny h2.blk hg (by intro e; injection e with e; exact h2.mF_ne e.symm)) hm, (H.mP.below h1).kept hg (by intro e; injection e with e; exact H.pne.2 e), (H.kp.below h1).trans ?_, H.pne⟩
 exact kp
end Go.Proofs.Ytdkalnkplgfgoaa.Ln
namespace Go.Proofs.Ytdkalnkplgfgoaa.PA
open Go.RowKit Go.Proofs.YtdkalnkplgfgoaaW.PrintWords Go.Proofs.YtdkalnkplgfgoaaW.PrintLast Go.Proofs.YtdkalnkplgfgoaaW.PrintMore
attribute [local go_sem] dY d9 fC fD dP dQ dZ ek
def bu.l0 : Nat → List (S47) → Int → Int → Option (Int)
 | 0, _, _, _ => none
 | k + 1, x0, x3, x4 => if x4 < (x0.length : Int) then (if 0 ≤ x4 then (if ((af x0 x4).f1) = 3 then (bu.l0 k x0 (wrap64 ((wrap64 ((wrap64 (x3 + (((af x0 x4).f0).length : Int))) + 1)) + 2)) (wrap64 (x4 + 1))) else (bu.l0 k x0 (wrap64 ((wrap64 (x3 + (((af x0 x4).f0).length : Int))) + 1)) (wrap64 (x4 + 1)))) else (none)) else (some x3)
def bu.f (k : Nat) (l0 : List (S47)) : Option (Int) := bu.l0 k l0 0 0
theorem bu.calls (k : Nat) (A0 : Option Addr) (c0 : Nat) (l0 : List (S47)) (r : Int) (w : World) (hr0 : Kd.C k47 w A0 l0.length l0) (hc0 : l0.length ≤ c0) (h : bu.f k l0 = some r) :
 Calls Try.prog 24 #[.slice A0 l0.length c0] w fun e w' => e = .returned (.int .i64 r) ∧ cz w w' := by
 have HR0 := aa.mk hr0
 have HC0 := aa.mk hc0
 clear hr0 hc0
 have H : (bu.l0 k l0 0 0) = some r := h
 clear h
 replace H := aa.mk H
 go_enter Try.func24, Try.ntmps24
 go_wp2
 go_loopg [3, 4] k (fun kq v3 v4 w' => ∃ (x3_1 : Int) (x4_1 : Int), v3 = .int .i64 x3_1 ∧ v4 = .int .i64 x4_1 ∧ aa (bu.l0 kq l0 x3_1 x4_1 = some r) ∧ aa (kq ≤ k) ∧ cz w w')
 case atStart => exact ⟨_, _, aZ, aZ, H, ⟨Nat.le_refl _⟩, bJ⟩
 case round =>
  clear H
  obtain ⟨x3_1, x4_1, rfl, rfl, HA, HK1, ⟨m1, rfl⟩⟩ := hrel
  cases gk with
  | zero => exact absurd HA.out (by simp [bu.l0])
  | succ k1 =>
   have H := HA.out
   clear HA
   simp only [bu.l0] at H
   replace H := fA H
   obtain ⟨H, -, _⟩ | ⟨H, -, _⟩ := H
   · replace H := fA H
     obtain ⟨H, -, _⟩ | ⟨H, c3, -⟩ := H
     · replace H := bO H
       obtain ⟨H, -, _, _⟩ | ⟨H, c4, _, _⟩ := H
       · replace H := aa.mk H
         have p101 : 0 ≤ (x4_1 : Int) := of_decide_eq_true (by first | (with_reducible assumption) | assumption)
         have q101 : x4_1 < (l0.length : Int) := of_decide_eq_true (by first | (with_reducible assumption) | assumption)
         obtain ⟨ad101, A101_0, c101_0, e101, hx101_0, hx101_1, hx101_2, hx101_3, hx101_4, hx101_5, hx101_6, hx101_7, hl101_0, hi101_0⟩ := ib HR0.out x4_1 p101 q101
         cases e101
         have HR101_0 := aa.mk hi101_0
         have HC101_0 := aa.mk hl101_0
         clear hi101_0 hl101_0
         replace p101 := eq_true p101
         replace q101 := eq_true q101
         have p102 : 0 ≤ (x4_1 : Int) := of_decide_eq_true (by first | (with_reducible assumption) | assumption)
         have q102 : x4_1 < (l0.length : Int) := of_decide_eq_true (by first | (with_reducible assumption) | assumption)
         obtain ⟨ad102, A102_0, c102_0, e102, hx102_0, hx102_1, hx102_2, hx102_3, hx102_4, hx102_5, hx102_6, hx102_7, hl102_0, hi102_0⟩ := ib HR0.out x4_1 p102 q102
         obtain rfl : ad101 = ad102 := (by injection e102)
         have HR102_0 := aa.mk hi102_0
         have HC102_0 := aa.mk hl102_0
         clear hi102_0 hl102_0
         replace p102 := eq_true p102
         replace q102 := eq_true q102
         have ea_ := Option.some.inj (hx101_0.symm.trans hx102_0)
         injection ea_ with ea_ en_ ec_
         subst ea_
         subst ec_
         clear en_
         go_wp2
         go_roundg k1
         case measure => have := HK1.out; omega
         case rel => exact ⟨_, _, aZ, aZ, H, ⟨by have := HK1.out; omega⟩, bJ⟩
       replace H := aa.mk H
       have p101 : 0 ≤ (x4_1 : Int) := of_decide_eq_true (by first | (with_reducible assumption) | assumption)
       have q101 : x4_1 < (l0.length : Int) := of_decide_eq_true (by first | (with_reducible assumption) | assumption)
       obtain ⟨ad101, A101_0, c101_0, e101, hx101_0, hx101_1, hx101_2, hx101_3, hx101_4, hx101_5, hx101_6, hx101_7, hl101_0, hi101_0⟩ := ib HR0.out x4_1 p101 q101
       cases e101
       have HR101_0 := aa.mk hi101_0
       have HC101_0 := aa.mk hl101_0
       clear hi101_0 hl101_0
       replace p101 := eq_true p101
       replace q101 := eq_true q101
       have p102 : 0 ≤ (x4_1 : Int) := of_decide_eq_true (by first | (with_reducible assumption) | assumption)
       have q102 : x4_1 < (l0.length : Int) := of_decide_eq_true (by first | (with_reducible assumption) | assumption)
       obtain ⟨ad102, A102_0, c102_0, e102, hx102_0, hx102_1, hx102_2, hx102_3, hx102_4, hx102_5, hx102_6, hx102_7, hl102_0, hi102_0⟩ := ib HR0.out x4_1 p102 q102
       obtain rfl : ad101 = ad102 := (by injection e102)
       have HR102_0 := aa.mk hi102_0
       have HC102_0 := aa.mk hl102_0
       clear hi102_0 hl102_0
       replace p102 := eq_true p102
       replace q102 := eq_true q102
       have ea_ := Option.some.inj (hx101_0.symm.trans hx102_0)
       injection ea_ with ea_ en_ ec_
       subst ea_
       subst ec_
       clear en_
       go_wp2
       go_roundg k1
       case measure => have := HK1.out; omega
       case rel => exact ⟨_, _, aZ, aZ, H, ⟨by have := HK1.out; omega⟩, bJ⟩
     exact absurd H (by simp)
   cases H
   go_wp2
   go_ret
   exact ⟨aZ, bJ⟩
def bf.f (a0 : Int) : Option (Bool) := if a0 = 21 then (some true) else (if a0 = 29 then (some true) else (if a0 = 37 then (some true) else (if a0 = 45 then (some true) else (if a0 = 53 then (some true) else (if a0 = 61 then (some true) else (if a0 = 69 then (some true) else (if a0 = 77 then (some true) else (some false))))))))
theorem bf.calls (a0 : Int) (r : Bool) (w : World) (h : bf.f a0 = some r) :
 Calls Try.prog 50 #[.int .u16 a0] w fun e w' => e = .returned (.bool r) ∧ cz w w' := by
 have H : (if a0 = 21 then (some true) else (if a0 = 29 then (some true) else (if a0 = 37 then (some true) else (if a0 = 45 then (some true) else (if a0 = 53 then (some true) else (if a0 = 61 then (some true) else (if a0 = 69 then (some true) else (if a0 = 77 then (some true) else (some false))))))))) = some r := h
 clear h
 iterate 2
  replace H := bO H
  obtain ⟨H, -, _, _⟩ | ⟨H, c2, _, _⟩ := H
  · cases H
    go_enter Try.func50, Try.ntmps50
    go_wp2
    go_ret
    exact ⟨aZ, bJ⟩
 iterate 2
  replace H := bO H
  obtain ⟨H, -, _, _⟩ | ⟨H, c4, _, _⟩ := H
  · cases H
    go_enter Try.func50, Try.ntmps50
    go_wp2
    go_ret
    exact ⟨aZ, bJ⟩
 iterate 2
  replace H := bO H
  obtain ⟨H, -, _, _⟩ | ⟨H, c6, _, _⟩ := H
  · cases H
    go_enter Try.func50, Try.ntmps50
    go_wp2
    go_ret
    exact ⟨aZ, bJ⟩
 iterate 2
  replace H := bO H
  obtain ⟨H, -, _, _⟩ | ⟨H, c8, _, _⟩ := H
  · cases H
    go_enter Try.func50, Try.ntmps50
    go_wp2
    go_ret
    exact ⟨aZ, bJ⟩
 cases H
 go_enter Try.func50, Try.ntmps50
 go_wp2
 go_ret
 exact ⟨aZ, bJ⟩
def az.j0 : Nat → Int → Bool → Option (Bool)
 | 0, _, _ => none
 | k + 1, x3, x4 => if x4 = true then (some true) else (if x3 = 100 then (some true) else (if x3 = 108 then (some true) else (if x3 = 116 then (some true) else (if x3 = 124 then (some true) else (if x3 = 148 then (some true) else (if x3 = 156 then (some true) else (if x3 = 164 then (some true) else (if x3 = 172 then (some true) else (some false)))))))))
def az.f (k : Nat) (a0 : Int) : Option (Bool) := if a0 = 4 then (az.j0 k a0 (a0 == 4)) else (if a0 = 12 then (az.j0 k a0 (a0 == 12)) else (if a0 = 20 then (az.j0 k a0 (a0 == 20)) else (if a0 = 28 then (az.j0 k a0 (a0 == 28)) else (if a0 = 36 then (az.j0 k a0 (a0 == 36)) else (if a0 = 44 then (az.j0 k a0 (a0 == 44)) else (if a0 = 52 then (az.j0 k a0 (a0 == 52)) else (if a0 = 60 then (az.j0 k a0 (a0 == 60)) else (if a0 = 68 then (az.j0 k a0 (a0 == 68)) else (if a0 = 76 then (az.j0 k a0 (a0 == 76)) else (if a0 = 84 then (az.j0 k a0 (a0 == 84)) else (az.j0 k a0 (a0 == 92))))))))))))
theorem az.calls (k : Nat) (a0 : Int) (r : Bool) (w : World) (h : az.f k a0 = some r) :
 Calls Try.prog 92 #[.int .u16 a0] w fun e w' => e = .returned (.bool r) ∧ cz w w' := by
 have H : (if a0 = 4 then (az.j0 k a0 (a0 == 4)) else (if a0 = 12 then (az.j0 k a0 (a0 == 12)) else (if a0 = 20 then (az.j0 k a0 (a0 == 20)) else (if a0 = 28 then (az.j0 k a0 (a0 == 28)) else (if a0 = 36 then (az.j0 k a0 (a0 == 36)) else (if a0 = 44 then (az.j0 k a0 (a0 == 44)) else (if a0 = 52 then (az.j0 k a0 (a0 == 52)) else (if a0 = 60 then (az.j0 k a0 (a0 == 60)) else (if a0 = 68 then (az.j0 k a0 (a0 == 68)) else (if a0 = 76 then (az.j0 k a0 (a0 == 76)) else (if a0 = 84 then (az.j0 k a0 (a0 == 84)) else (az.j0 k a0 (a0 == 92))))))))))))) = some r := h
 clear h
 have HC2 := aa.mk H
 clear H
 go_enter Try.func92, Try.ntmps92
 go_upto_if 4 with (fail)
 go_cut [4] (fun v4 wc => ∃ (kq : Nat) (x4_1 : Bool), v4 = .bool x4_1 ∧ aa (az.j0 kq a0 x4_1 = some r) ∧ aa (kq ≤ k) ∧ cz w wc)
 case first =>
  have H := HC2.out
  clear HC2
  replace H := bO H
  obtain ⟨H, -, c3b0, _⟩ | ⟨H, c3, c3b0, _⟩ := H
  · (first | rw [c3b0] | (simp only [dH, dG]; rw [c3b0]) | skip)
    replace H := aa.mk H
    go_wp2
    go_meet
    case rel => exact ⟨_, _, aZ, H, ⟨le0⟩, bJ⟩
  (first | rw [c3b0] | (simp only [dH, dG]; rw [c3b0]) | skip)
  iterate 2
   replace H := bO H
   obtain ⟨H, -, _, _⟩ | ⟨H, c4, _, _⟩ := H
   · replace H := aa.mk H
     go_wp2
     go_meet
     case rel => exact ⟨_, _, aZ, H, ⟨le0⟩, bJ⟩
  iterate 2
   replace H := bO H
   obtain ⟨H, -, _, _⟩ | ⟨H, c6, _, _⟩ := H
   · replace H := aa.mk H
     go_wp2
     go_meet
     case rel => exact ⟨_, _, aZ, H, ⟨le0⟩, bJ⟩
  iterate 2
   replace H := bO H
   obtain ⟨H, -, _, _⟩ | ⟨H, c8, _, _⟩ := H
   · replace H := aa.mk H
     go_wp2
     go_meet
     case rel => exact ⟨_, _, aZ, H, ⟨le0⟩, bJ⟩
  iterate 2
   replace H := bO H
   obtain ⟨H, -, _, _⟩ | ⟨H, c10, _, _⟩ := H
   · replace H := aa.mk H
     go_wp2
     go_meet
     case rel => exact ⟨_, _, aZ, H, ⟨le0⟩, bJ⟩
  iterate 2
   replace H := bO H
   obtain ⟨H, -, _, _⟩ | ⟨H, c12, _, _⟩ := H
   · replace H := aa.mk H
     go_wp2
     go_meet
     case rel => exact ⟨_, _, aZ, H, ⟨le0⟩, bJ⟩
  replace H := aa.mk H
  go_wp2
  go_meet
  case rel => exact ⟨_, _, aZ, H, ⟨le0⟩, bJ⟩
 case rest =>
  clear HC2
  obtain ⟨kq, x4_1, rfl, HA, HJ1, ⟨mc1, rfl⟩⟩ := hcut
  cases kq with
  | zero => exact absurd HA.out (by simp [az.j0])
  | succ kj1 =>
   have H := HA.out
   clear HA
   simp only [az.j0] at H
   by_cases c14 : x4_1 = true
   · subst c14
     have H1 : (some true) = some r := by rw [if_pos rfl] at H; exact H
     clear H
     have H := H1
     clear H1
     cases H
     go_wp2
     go_ret
     exact ⟨aZ, bJ⟩
   replace c14 := Bool.eq_false_iff.mpr c14
   subst c14
   have H1 : (if a0 = 100 then (some true) else (if a0 = 108 then (some true) else (if a0 = 116 then (some true) else (if a0 = 124 then (some true) else (if a0 = 148 then (some true) else (if a0 = 156 then (some true) else (if a0 = 164 then (some true) else (if a0 = 172 then (some true) else (some false))))))))) = some r := by rw [if_neg (show ¬ (false = true) by decide)] at H; exact H
   clear H
   have H := H1
   clear H1
   iterate 2
    replace H := bO H
    obtain ⟨H, -, _, _⟩ | ⟨H, c15, _, _⟩ := H
    · cases H
      go_wp2
      go_ret
      exact ⟨aZ, bJ⟩
   iterate 2
    replace H := bO H
    obtain ⟨H, -, _, _⟩ | ⟨H, c17, _, _⟩ := H
    · cases H
      go_wp2
      go_ret
      exact ⟨aZ, bJ⟩
   iterate 2
    replace H := bO H
    obtain ⟨H, -, _, _⟩ | ⟨H, c19, _, _⟩ := H
    · cases H
      go_wp2
      go_ret
      exact ⟨aZ, bJ⟩
   iterate 2
    replace H := bO H
    obtain ⟨H, -, _, _⟩ | ⟨H, c21, _, _⟩ := H
    · cases H
      go_wp2
      go_ret
      exact ⟨aZ, bJ⟩
   cases H
   go_wp2
   go_ret
   exact ⟨aZ, bJ⟩
attribute [local go_sem] dY d9 fC fD dP dQ dZ ek
mutual
def ay.j0 : Nat → Int → Int → Bool → Option (Bool)
 | 0, _, _, _ => none
 | k + 1, x0, x3, x4 => if x4 = true then (some true) else (if x3 = 1 then (ay.j1 k x0 (x3 == 1)) else (if x3 = 97 then (ay.j1 k x0 (x3 == 97)) else (if x3 = 129 then (ay.j1 k x0 (x3 == 129)) else (if x3 = 177 then (ay.j1 k x0 (x3 == 177)) else (if x3 = 2 then (ay.j1 k x0 (x3 == 2)) else (if x3 = 3 then (ay.j1 k x0 (x3 == 3)) else (if x3 = 132 then (ay.j1 k x0 (x3 == 132)) else (if x3 = 6 then (ay.j1 k x0 (x3 == 6)) else (if x3 = 22 then (ay.j1 k x0 (x3 == 22)) else (if x3 = 7 then (ay.j1 k x0 (x3 == 7)) else (if x3 = 135 then (ay.j1 k x0 (x3 == 135)) else (ay.j1 k x0 (x3 == 5)))))))))))))
def ay.j1 : Nat → Int → Bool → Option (Bool)
 | 0, _, _ => none
 | k + 1, x0, x14 => if x14 = true then (some true) else ((bf.f x0).bind fun t103 => (if t103 = true then (some true) else ((az.f k x0).bind fun t104 => (some t104))))
end
def ay.f (k : Nat) (a0 : Int) : Option (Bool) := if a0 = 0 then (ay.j0 k a0 a0 (a0 == 0)) else (if a0 = 32 then (ay.j0 k a0 a0 (a0 == 32)) else (if a0 = 40 then (ay.j0 k a0 a0 (a0 == 40)) else (if a0 = 48 then (ay.j0 k a0 a0 (a0 == 48)) else (if a0 = 64 then (ay.j0 k a0 a0 (a0 == 64)) else (if a0 = 72 then (ay.j0 k a0 a0 (a0 == 72)) else (if a0 = 80 then (ay.j0 k a0 a0 (a0 == 80)) else (if a0 = 96 then (ay.j0 k a0 a0 (a0 == 96)) else (ay.j0 k a0 a0 (a0 == 128)))))))))
theorem ay.calls (k : Nat) (a0 : Int) (r : Bool) (w : World) (h : ay.f k a0 = some r) :
 Calls Try.prog 81 #[.int .u16 a0] w fun e w' => e = .returned (.bool r) ∧ cz w w' := by
 have H : (if a0 = 0 then (ay.j0 k a0 a0 (a0 == 0)) else (if a0 = 32 then (ay.j0 k a0 a0 (a0 == 32)) else (if a0 = 40 then (ay.j0 k a0 a0 (a0 == 40)) else (if a0 = 48 then (ay.j0 k a0 a0 (a0 == 48)) else (if a0 = 64 then (ay.j0 k a0 a0 (a0 == 64)) else (if a0 = 72 then (ay.j0 k a0 a0 (a0 == 72)) else (if a0 = 80 then (ay.j0 k a0 a0 (a0 == 80)) else (if a0 = 96 then (ay.j0 k a0 a0 (a0 == 96)) else (ay.j0 k a0 a0 (a0 == 128)))))))))) = some r := h
 clear h
 have HC2 := aa.mk H
 clear H
 go_enter Try.func81, Try.ntmps81
 go_upto_if 4 with (fail)
 go_cut [4] (fun v4 wc => ∃ (kq : Nat) (x4_1 : Bool), v4 = .bool x4_1 ∧ aa (ay.j0 kq a0 a0 x4_1 = some r) ∧ aa (kq ≤ k) ∧ cz w wc)
 case first =>
  have H := HC2.out
  clear HC2
  replace H := bO H
  obtain ⟨H, -, c3b0, _⟩ | ⟨H, c3, c3b0, _⟩ := H
  · (first | rw [c3b0] | (simp only [dH, dG]; rw [c3b0]) | skip)
    replace H := aa.mk H
    go_wp2
    go_meet
    case rel => exact ⟨_, _, aZ, H, ⟨le0⟩, bJ⟩
  (first | rw [c3b0] | (simp only [dH, dG]; rw [c3b0]) | skip)
  replace H := bO H
  obtain ⟨H, -, _, _⟩ | ⟨H, c4, _, _⟩ := H
  · replace H := aa.mk H
    go_wp2
    go_meet
    case rel => exact ⟨_, _, aZ, H, ⟨le0⟩, bJ⟩
  iterate 2
   replace H := bO H
   obtain ⟨H, -, _, _⟩ | ⟨H, c5, _, _⟩ := H
   · replace H := aa.mk H
     go_wp2
     go_meet
     case rel => exact ⟨_, _, aZ, H, ⟨le0⟩, bJ⟩
  iterate 2
   replace H := bO H
   obtain ⟨H, -, _, _⟩ | ⟨H, c7, _, _⟩ := H
   · replace H := aa.mk H
     go_wp2
     go_meet
     case rel => exact ⟨_, _, aZ, H, ⟨le0⟩, bJ⟩
  iterate 2
   replace H := bO H
   obtain ⟨H, -, _, _⟩ | ⟨H, c9, _, _⟩ := H
   · replace H := aa.mk H
     go_wp2
     go_meet
     case rel => exact ⟨_, _, aZ, H, ⟨le0⟩, bJ⟩
  replace H := aa.mk H
  go_wp2
  go_meet
  case rel => exact ⟨_, _, aZ, H, ⟨le0⟩, bJ⟩
 case rest =>
  clear HC2
  obtain ⟨kq, x4_1, rfl, HA, HJ1, ⟨mc1, rfl⟩⟩ := hcut
  cases kq with
  | zero => exact absurd HA.out (by simp [ay.j0])
  | succ kj1 =>
   have H := HA.out
   clear HA
   simp only [ay.j0] at H
   by_cases c11 : x4_1 = true
   · subst c11
     have H1 : (some true) = some r := by rw [if_pos rfl] at H; exact H
     clear H
     have H := H1
     clear H1
     cases H
     go_wp2
     go_ret
     exact ⟨aZ, bJ⟩
   replace c11 := Bool.eq_false_iff.mpr c11
   subst c11
   have H1 : (if a0 = 1 then (ay.j1 kj1 a0 (a0 == 1)) else (if a0 = 97 then (ay.j1 kj1 a0 (a0 == 97)) else (if a0 = 129 then (ay.j1 kj1 a0 (a0 == 129)) else (if a0 = 177 then (ay.j1 kj1 a0 (a0 == 177)) else (if a0 = 2 then (ay.j1 kj1 a0 (a0 == 2)) else (if a0 = 3 then (ay.j1 kj1 a0 (a0 == 3)) else (if a0 = 132 then (ay.j1 kj1 a0 (a0 == 132)) else (if a0 = 6 then (ay.j1 kj1 a0 (a0 == 6)) else (if a0 = 22 then (ay.j1 kj1 a0 (a0 == 22)) else (if a0 = 7 then (ay.j1 kj1 a0 (a0 == 7)) else (if a0 = 135 then (ay.j1 kj1 a0 (a0 == 135)) else (ay.j1 kj1 a0 (a0 == 5))))))))))))) = some r := by rw [if_neg (show ¬ (false = true) by decide)] at H; exact H
   clear H
   have H := H1
   clear H1
   have HC12 := aa.mk H
   clear H
   go_upto_if 14 with (fail)
   go_cut [14] (fun v14 wc => ∃ (kq : Nat) (x14_11 : Bool), v14 = .bool x14_11 ∧ aa (ay.j1 kq a0 x14_11 = some r) ∧ aa (kq ≤ kj1) ∧ cz w wc)
   case first =>
    have H := HC12.out
    clear HC12
    replace H := bO H
    obtain ⟨H, -, c13b0, _⟩ | ⟨H, c13, c13b0, _⟩ := H
    · (first | rw [c13b0] | (simp only [dH, dG]; rw [c13b0]) | skip)
      replace H := aa.mk H
      go_wp2
      go_meet
      case rel => exact ⟨_, _, aZ, H, ⟨by have := HJ1.out; first | omega | exact Nat.le_refl _⟩, bJ⟩
    (first | rw [c13b0] | (simp only [dH, dG]; rw [c13b0]) | skip)
    iterate 2
     replace H := bO H
     obtain ⟨H, -, _, _⟩ | ⟨H, c14, _, _⟩ := H
     · replace H := aa.mk H
       go_wp2
       go_meet
       case rel => exact ⟨_, _, aZ, H, ⟨by have := HJ1.out; first | omega | exact Nat.le_refl _⟩, bJ⟩
    iterate 2
     replace H := bO H
     obtain ⟨H, -, _, _⟩ | ⟨H, c16, _, _⟩ := H
     · replace H := aa.mk H
       go_wp2
       go_meet
       case rel => exact ⟨_, _, aZ, H, ⟨by have := HJ1.out; first | omega | exact Nat.le_refl _⟩, bJ⟩
    iterate 2
     replace H := bO H
     obtain ⟨H, -, _, _⟩ | ⟨H, c18, _, _⟩ := H
     · replace H := aa.mk H
       go_wp2
       go_meet
       case rel => exact ⟨_, _, aZ, H, ⟨by have := HJ1.out; first | omega | exact Nat.le_refl _⟩, bJ⟩
    iterate 2
     replace H := bO H
     obtain ⟨H, -, _, _⟩ | ⟨H, c20, _, _⟩ := H
     · replace H := aa.mk H
       go_wp2
       go_meet
       case rel => exact ⟨_, _, aZ, H, ⟨by have := HJ1.out; first | omega | exact Nat.le_refl _⟩, bJ⟩
    iterate 2
     replace H := bO H
     obtain ⟨H, -, _, _⟩ | ⟨H, c22, _, _⟩ := H
     · replace H := aa.mk H
       go_wp2
       go_meet
       case rel => exact ⟨_, _, aZ, H, ⟨by have := HJ1.out; first | omega | exact Nat.le_refl _⟩, bJ⟩
    replace H := aa.mk H
    go_wp2
    go_meet
    case rel => exact ⟨_, _, aZ, H, ⟨by have := HJ1.out; first | omega | exact Nat.le_refl _⟩, bJ⟩
   case rest =>
    clear HC12
    obtain ⟨kq, x14_11, rfl, HA, HJ11, ⟨mc11, rfl⟩⟩ := hcut
    cases kq with
    | zero => exact absurd HA.out (by simp [ay.j1])
    | succ kj11 =>
     have H := HA.out
     clear HA
     simp only [ay.j1] at H
     by_cases c24 : x14_11 = true
     · subst c24
       have H1 : (some true) = some r := by rw [if_pos rfl] at H; exact H
       clear H
       have H := H1
       clear H1
       cases H
       go_wp2
       go_ret
       exact ⟨aZ, bJ⟩
     replace c24 := Bool.eq_false_iff.mpr c24
     subst c24
     have H1 : ((bf.f a0).bind fun t103 => (if t103 = true then (some true) else ((az.f kj11 a0).bind fun t104 => (some t104)))) = some r := by rw [if_neg (show ¬ (false = true) by decide)] at H; exact H
     clear H
     have H := H1
     clear H1
     replace H := bnd H
     obtain ⟨t103, A25, H⟩ := H
     replace H := jK H
     obtain ⟨rfl, H⟩ | ⟨rfl, H⟩ := H
     · cases H
       go_wp2_with (go_at_call 50; (with_reducible refine (bf.calls _ _ _ A25.out).mono ?_); rintro e w' ⟨rfl, ⟨nd, rfl⟩⟩)
       go_ret
       exact ⟨aZ, bJ⟩
     replace H := bnd H
     obtain ⟨t104, A27, H⟩ := H
     cases H
     go_wp2_with (first | (go_at_call 50; (with_reducible refine (bf.calls _ _ _ A25.out).mono ?_); rintro e w' ⟨rfl, ⟨nd, rfl⟩⟩) | (go_at_call 92; (with_reducible refine (az.calls _ _ _ _ A27.out).mono ?_); rintro e w' ⟨rfl, ⟨nd, rfl⟩⟩))
     go_ret
     exact ⟨aZ, bJ⟩
attribute [local go_sem] dY d9 fC fD dP dQ dZ ek
def cO.f (k : Nat) (a0 : Int) : Option (Bool) := (bf.f a0).bind fun t112 => (if t112 = true then (some ((Go.bits .and .u16 a0 8) != 0)) else ((az.f k a0).bind fun t113 => (if t113 = true then (some ((Go.bits .and .u16 a0 8) != 0)) else (some false))))
theorem cO.calls (k : Nat) (a0 : Int) (r : Bool) (w : World) (h : cO.f k a0 = some r) :
 Calls Try.prog 58 #[.int .u16 a0] w fun e w' => e = .returned (.bool r) ∧ cz w w' := by
 have H : ((bf.f a0).bind fun t112 => (if t112 = true then (some ((Go.bits .and .u16 a0 8) != 0)) else ((az.f k a0).bind fun t113 => (if t113 = true then (some ((Go.bits .and .u16 a0 8) != 0)) else (some false))))) = some r := h
 clear h
 replace H := bnd H
 obtain ⟨t112, A2, H⟩ := H
 replace H := jK H
 obtain ⟨rfl, H⟩ | ⟨rfl, H⟩ := H
 · cases H
   go_enter Try.func58, Try.ntmps58
   go_wp2_with (go_at_call 50; (with_reducible refine (bf.calls _ _ _ A2.out).mono ?_); rintro e w' ⟨rfl, ⟨nd, rfl⟩⟩)
   go_ret
   exact ⟨aZ, bJ⟩
 replace H := bnd H
 obtain ⟨t113, A4, H⟩ := H
 replace H := jK H
 obtain ⟨rfl, H⟩ | ⟨rfl, H⟩ := H
 · cases H
   go_enter Try.func58, Try.ntmps58
   go_wp2_with (first | (go_at_call 50; (with_reducible refine (bf.calls _ _ _ A2.out).mono ?_); rintro e w' ⟨rfl, ⟨nd, rfl⟩⟩) | (go_at_call 92; (with_reducible refine (az.calls _ _ _ _ A4.out).mono ?_); rintro e w' ⟨rfl, ⟨nd, rfl⟩⟩))
   go_ret
   exact ⟨aZ, bJ⟩
 cases H
 go_enter Try.func58, Try.ntmps58
 go_wp2_with (first | (go_at_call 50; (with_reducible refine (bf.calls _ _ _ A2.out).mono ?_); rintro e w' ⟨rfl, ⟨nd, rfl⟩⟩) | (go_at_call 92; (with_reducible refine (az.calls _ _ _ _ A4.out).mono ?_); rintro e w' ⟨rfl, ⟨nd, rfl⟩⟩))
 go_ret
 exact ⟨aZ, bJ⟩
def dC.f (a0 : Int) : Option (Bool) := if a0 = 32 then (some true) else (if a0 = 40 then (some true) else (if a0 = 48 then (some true) else (if a0 = 64 then (some true) else (if a0 = 72 then (some true) else (if a0 = 80 then (some true) else (if a0 = 177 then (some true) else (some false)))))))
theorem dC.calls (a0 : Int) (r : Bool) (w : World) (h : dC.f a0 = some r) :
 Calls Try.prog 138 #[.int .u16 a0] w fun e w' => e = .returned (.bool r) ∧ cz w w' := by
 have H : (if a0 = 32 then (some true) else (if a0 = 40 then (some true) else (if a0 = 48 then (some true) else (if a0 = 64 then (some true) else (if a0 = 72 then (some true) else (if a0 = 80 then (some true) else (if a0 = 177 then (some true) else (some false)))))))) = some r := h
 clear h
 replace H := bO H
 obtain ⟨H, -, _, _⟩ | ⟨H, c2, _, _⟩ := H
 · cases H
   go_enter Try.func138, Try.ntmps138
   go_wp2
   go_ret
   exact ⟨aZ, bJ⟩
 iterate 2
  replace H := bO H
  obtain ⟨H, -, _, _⟩ | ⟨H, c3, _, _⟩ := H
  · cases H
    go_enter Try.func138, Try.ntmps138
    go_wp2
    go_ret
    exact ⟨aZ, bJ⟩
 iterate 2
  replace H := bO H
  obtain ⟨H, -, _, _⟩ | ⟨H, c5, _, _⟩ := H
  · cases H
    go_enter Try.func138, Try.ntmps138
    go_wp2
    go_ret
    exact ⟨aZ, bJ⟩
 iterate 2
  replace H := bO H
  obtain ⟨H, -, _, _⟩ | ⟨H, c7, _, _⟩ := H
  · cases H
    go_enter Try.func138, Try.ntmps138
    go_wp2
    go_ret
    exact ⟨aZ, bJ⟩
 cases H
 go_enter Try.func138, Try.ntmps138
 go_wp2
 go_ret
 exact ⟨aZ, bJ⟩
def bB.j0 : Nat → Int → Bool → Bool → Option (Bool × Bool × Bool)
 | 0, _, _, _ => none
 | k + 1, x0, x5, x13 => if x13 = true then ((bf.f x0).bind fun t116 => ((dC.f x0).bind fun t117 => (if t117 = true then (some (false, t116, true)) else (if x0 = 60 then (some (false, t116, true)) else (some (false, t116, (x0 == 156))))))) else ((bf.f x0).bind fun t118 => ((dC.f x0).bind fun t119 => (if t119 = true then (some (x5, t118, true)) else (if x0 = 60 then (some (x5, t118, true)) else (some (x5, t118, (x0 == 156)))))))
def bB.f (k : Nat) (a0 : Int) : Option (Bool × Bool × Bool) := (ay.f k a0).bind fun t114 => (if t114 = true then ((cO.f k a0).bind fun t115 => (if a0 = 128 then (bB.j0 k a0 (!t115) (a0 == 128)) else (if a0 = 129 then (bB.j0 k a0 (!t115) (a0 == 129)) else (if a0 = 132 then (bB.j0 k a0 (!t115) (a0 == 132)) else (if a0 = 22 then (bB.j0 k a0 (!t115) (a0 == 22)) else (if a0 = 7 then (bB.j0 k a0 (!t115) (a0 == 7)) else (bB.j0 k a0 (!t115) (a0 == 135)))))))) else (some (false, false, false)))
theorem bB.calls (k : Nat) (a0 : Int) (r1 : Bool) (r2 : Bool) (r3 : Bool) (w : World) (h : bB.f k a0 = some (r1, r2, r3)) :
 Calls Try.prog 94 #[.int .u16 a0] w fun e w' => e = .returned (.tuple #[.bool r1, .bool r2, .bool r3]) ∧ cz w w' := by
 have H : ((ay.f k a0).bind fun t114 => (if t114 = true then ((cO.f k a0).bind fun t115 => (if a0 = 128 then (bB.j0 k a0 (!t115) (a0 == 128)) else (if a0 = 129 then (bB.j0 k a0 (!t115) (a0 == 129)) else (if a0 = 132 then (bB.j0 k a0 (!t115) (a0 == 132)) else (if a0 = 22 then (bB.j0 k a0 (!t115) (a0 == 22)) else (if a0 = 7 then (bB.j0 k a0 (!t115) (a0 == 7)) else (bB.j0 k a0 (!t115) (a0 == 135)))))))) else (some (false, false, false)))) = some (r1, r2, r3) := h
 clear h
 replace H := bnd H
 obtain ⟨t114, A2, H⟩ := H
 replace H := jK H
 obtain ⟨rfl, H⟩ | ⟨rfl, H⟩ := H
 · replace H := bnd H
   obtain ⟨t115, A4, H⟩ := H
   have HC5 := aa.mk H
   clear H
   go_enter Try.func94, Try.ntmps94
   go_upto_if 13 with (first | (go_at_call 81; (with_reducible refine (ay.calls _ _ _ _ A2.out).mono ?_); rintro e w' ⟨rfl, ⟨nd, rfl⟩⟩) | (go_at_call 58; (with_reducible refine (cO.calls _ _ _ _ A4.out).mono ?_); rintro e w' ⟨rfl, ⟨nd, rfl⟩⟩))
   (try simp only [Act.put, List.setIfInBounds_toArray, List.set_cons_zero, List.set_cons_succ])
   go_cut [13] (fun v13 wc => ∃ (kq : Nat) (x13_4 : Bool), v13 = .bool x13_4 ∧ aa (bB.j0 kq a0 (!t115) x13_4 = some (r1, r2, r3)) ∧ aa (kq ≤ k) ∧ cz w wc)
   case first =>
    have H := HC5.out
    clear HC5
    replace H := bO H
    obtain ⟨H, -, c6b0, _⟩ | ⟨H, c6, c6b0, _⟩ := H
    · (first | rw [c6b0] | (simp only [dH, dG]; rw [c6b0]) | skip)
      replace H := aa.mk H
      go_wp2
      go_meet
      case rel => exact ⟨_, _, aZ, H, ⟨le0⟩, bJ⟩
    (first | rw [c6b0] | (simp only [dH, dG]; rw [c6b0]) | skip)
    iterate 2
     replace H := bO H
     obtain ⟨H, -, _, _⟩ | ⟨H, c7, _, _⟩ := H
     · replace H := aa.mk H
       go_wp2
       go_meet
       case rel => exact ⟨_, _, aZ, H, ⟨le0⟩, bJ⟩
    iterate 2
     replace H := bO H
     obtain ⟨H, -, _, _⟩ | ⟨H, c9, _, _⟩ := H
     · replace H := aa.mk H
       go_wp2
       go_meet
       case rel => exact ⟨_, _, aZ, H, ⟨le0⟩, bJ⟩
    replace H := aa.mk H
    go_wp2
    go_meet
    case rel => exact ⟨_, _, aZ, H, ⟨le0⟩, bJ⟩
   case rest =>
    clear HC5
    obtain ⟨kq, x13_4, rfl, HA, HJ4, ⟨mc4, rfl⟩⟩ := hcut
    cases kq with
    | zero => exact absurd HA.out (by simp [bB.j0])
    | succ kj4 =>
     have H := HA.out
     clear HA
     simp only [bB.j0] at H
     by_cases c11 : x13_4 = true
     · subst c11
       have H1 : ((bf.f a0).bind fun t116 => ((dC.f a0).bind fun t117 => (if t117 = true then (some (false, t116, true)) else (if a0 = 60 then (some (false, t116, true)) else (some (false, t116, (a0 == 156))))))) = some (r1, r2, r3) := by rw [if_pos rfl] at H; exact H
       clear H
       have H := H1
       clear H1
       replace H := bnd H
       obtain ⟨t116, A12, H⟩ := H
       replace H := bnd H
       obtain ⟨t117, A13, H⟩ := H
       replace H := jK H
       obtain ⟨rfl, H⟩ | ⟨rfl, H⟩ := H
       · obtain ⟨rfl, rfl, rfl⟩ := so3 H
         go_wp2_with (first | (go_at_call 50; (with_reducible refine (bf.calls _ _ _ A12.out).mono ?_); rintro e w' ⟨rfl, ⟨nd, rfl⟩⟩) | (go_at_call 138; (with_reducible refine (dC.calls _ _ _ A13.out).mono ?_); rintro e w' ⟨rfl, ⟨nd, rfl⟩⟩))
         go_ret3
         exact ⟨aZ, bJ⟩
       replace H := bO H
       obtain ⟨H, -, _, _⟩ | ⟨H, c15, _, _⟩ := H
       · obtain ⟨rfl, rfl, rfl⟩ := so3 H
         go_wp2_with (first | (go_at_call 50; (with_reducible refine (bf.calls _ _ _ A12.out).mono ?_); rintro e w' ⟨rfl, ⟨nd, rfl⟩⟩) | (go_at_call 138; (with_reducible refine (dC.calls _ _ _ A13.out).mono ?_); rintro e w' ⟨rfl, ⟨nd, rfl⟩⟩))
         go_ret3
         exact ⟨aZ, bJ⟩
       obtain ⟨rfl, rfl, rfl⟩ := so3 H
       go_wp2_with (first | (go_at_call 50; (with_reducible refine (bf.calls _ _ _ A12.out).mono ?_); rintro e w' ⟨rfl, ⟨nd, rfl⟩⟩) | (go_at_call 138; (with_reducible refine (dC.calls _ _ _ A13.out).mono ?_); rintro e w' ⟨rfl, ⟨nd, rfl⟩⟩))
       go_ret3
       exact ⟨aZ, bJ⟩
     replace c11 := Bool.eq_false_iff.mpr c11
     subst c11
     have H1 : ((bf.f a0).bind fun t118 => ((dC.f a0).bind fun t119 => (if t119 = true then (some ((!t115), t118, true)) else (if a0 = 60 then (some ((!t115), t118, true)) else (some ((!t115), t118, (a0 == 156))))))) = some (r1, r2, r3) := by rw [if_neg (show ¬ (false = true) by decide)] at H; exact H
     clear H
     have H := H1
     clear H1
     replace H := bnd H
     obtain ⟨t118, A16, H⟩ := H
     replace H := bnd H
     obtain ⟨t119, A17, H⟩ := H
     replace H := jK H
     obtain ⟨rfl, H⟩ | ⟨rfl, H⟩ := H
     · obtain ⟨rfl, rfl, rfl⟩ := so3 H
       go_wp2_with (first | (go_at_call 50; (with_reducible refine (bf.calls _ _ _ A16.out).mono ?_); rintro e w' ⟨rfl, ⟨nd, rfl⟩⟩) | (go_at_call 138; (with_reducible refine (dC.calls _ _ _ A17.out).mono ?_); rintro e w' ⟨rfl, ⟨nd, rfl⟩⟩))
       go_ret3
       exact ⟨aZ, bJ⟩
     replace H := bO H
     obtain ⟨H, -, _, _⟩ | ⟨H, c19, _, _⟩ := H
     · obtain ⟨rfl, rfl, rfl⟩ := so3 H
       go_wp2_with (first | (go_at_call 50; (with_reducible refine (bf.calls _ _ _ A16.out).mono ?_); rintro e w' ⟨rfl, ⟨nd, rfl⟩⟩) | (go_at_call 138; (with_reducible refine (dC.calls _ _ _ A17.out).mono ?_); rintro e w' ⟨rfl, ⟨nd, rfl⟩⟩))
       go_ret3
       exact ⟨aZ, bJ⟩
     obtain ⟨rfl, rfl, rfl⟩ := so3 H
     go_wp2_with (first | (go_at_call 50; (with_reducible refine (bf.calls _ _ _ A16.out).mono ?_); rintro e w' ⟨rfl, ⟨nd, rfl⟩⟩) | (go_at_call 138; (with_reducible refine (dC.calls _ _ _ A17.out).mono ?_); rintro e w' ⟨rfl, ⟨nd, rfl⟩⟩))
     go_ret3
     exact ⟨aZ, bJ⟩
 obtain ⟨rfl, rfl, rfl⟩ := so3 H
 go_enter Try.func94, Try.ntmps94
 go_wp2_with (go_at_call 81; (with_reducible refine (ay.calls _ _ _ _ A2.out).mono ?_); rintro e w' ⟨rfl, ⟨nd, rfl⟩⟩)
 go_ret3
 exact ⟨aZ, bJ⟩
attribute [local go_sem] dY d9 fC fD dP dQ dZ ek
theorem yY (d : Nat) (w : World) (x0 y0 : Int) (x1 y1 : Int) (x2 y2 : Int) (x3 y3 : Int) :
 (Op.equalIn (d + 2) 45 (.agg #[.int .u16 x0, .int .u8 x1, .int .u8 x2, .int .u32 x3]) (.agg #[.int .u16 y0, .int .u8 y1, .int .u8 y2, .int .u32 y3])).run Try.prog w = .ok (x0 == y0 && (x1 == y1 && (x2 == y2 && (x3 == y3)))) w := by
 refine eqA_of Try.underlying45 (by kernel_rfl) ?_
 refine pI (by rfl) (by go_simp; rfl) (by go_simp; rfl) (by go_simp) ?_
 refine pI (by rfl) (by go_simp; rfl) (by go_simp; rfl) (by go_simp) ?_
 refine pI (by rfl) (by go_simp; rfl) (by go_simp; rfl) (by go_simp) ?_
 exact yZ (by rfl) (by go_simp; rfl) (by go_simp; rfl) (by go_simp)
attribute [local go_sem] dY d9 fC fD dP dQ dZ ek
mutual
def aI.j0 : Nat → Bool → Int → Int → Int → Int → Option (Int)
 | 0, _, _, _, _, _ => none
 | k + 1, x8, x106000, x106001, x106002, x106003 => if x8 = true then (some 43) else (if x106000 = 52 then (aI.j1 k (x106003 == 0) x106000 x106001 x106002 x106003) else (if x106000 = 148 then (aI.j1 k (x106003 == 0) x106000 x106001 x106002 x106003) else (aI.j1 k false x106000 x106001 x106002 x106003)))
def aI.j1 : Nat → Bool → Int → Int → Int → Int → Option (Int)
 | 0, _, _, _, _, _ => none
 | k + 1, x32, x106000, x106001, x106002, x106003 => if x32 = true then (some 44) else (if x106000 = 100 then (if x106003 > 31 then (some 45) else (some 0)) else (if x106000 = 116 then (if x106003 > 31 then (some 45) else (some 0)) else (some 0)))
end
def aI.f (k : Nat) (a0_0 : Int) (a0_1 : Int) (a0_2 : Int) (a0_3 : Int) : Option (Int) := (ay.f k a0_0).bind fun t106 => (if t106 = true then (if a0_0 = 2 then (aI.j0 k (decide (a0_3 ≥ 16)) a0_0 a0_1 a0_2 a0_3) else (if a0_0 = 3 then (aI.j0 k (decide (a0_3 ≥ 16)) a0_0 a0_1 a0_2 a0_3) else (if a0_0 = 96 then (aI.j0 k (decide (a0_3 ≥ 16)) a0_0 a0_1 a0_2 a0_3) else (if a0_0 = 97 then (aI.j0 k (decide (a0_3 ≥ 16)) a0_0 a0_1 a0_2 a0_3) else (aI.j0 k false a0_0 a0_1 a0_2 a0_3))))) else (some 42))
theorem aI.calls (k : Nat) (a0_0 : Int) (a0_1 : Int) (a0_2 : Int) (a0_3 : Int) (r : Int) (w : World) (h : aI.f k a0_0 a0_1 a0_2 a0_3 = some r) :
 Calls Try.prog 49 #[.agg #[.int .u16 a0_0, .int .u8 a0_1, .int .u8 a0_2, .int .u32 a0_3]] w fun e w' => e = .returned (.int .i64 r) ∧ Below w.heap.size w w' := by
 have hu45 := Try.underlying45
 have HB := aa.mk (Below.refl w.heap.size w)
 have H : ((ay.f k a0_0).bind fun t106 => (if t106 = true then (if a0_0 = 2 then (aI.j0 k (decide (a0_3 ≥ 16)) a0_0 a0_1 a0_2 a0_3) else (if a0_0 = 3 then (aI.j0 k (decide (a0_3 ≥ 16)) a0_0 a0_1 a0_2 a0_3) else (if a0_0 = 96 then (aI.j0 k (decide (a0_3 ≥ 16)) a0_0 a0_1 a0_2 a0_3) else (if a0_0 = 97 then (aI.j0 k (decide (a0_3 ≥ 16)) a0_0 a0_1 a0_2 a0_3) else (aI.j0 k false a0_0 a0_1 a0_2 a0_3))))) else (some 42))) = some r := h
 clear h
 replace H := bnd H
 obtain ⟨t106, A2, H⟩ := H
 replace H := jK H
 obtain ⟨rfl, H⟩ | ⟨rfl, H⟩ := H
 · have HC4 := aa.mk H
   clear H
   go_enter Try.func49, Try.ntmps49
   go_upto_region 3 with (first | ((with_reducible refine aT (N := 1) rfl ?_); refine dW (N := 1) (cs := #[.int .u16 a0_0, .int .u8 a0_1, .int .u8 a0_2, .int .u32 a0_3]) (t := 45) ?_; intro gb105 hg w5 hbox hb; have GE105 := geN HB hg; have BK105 := aa.mk hbox; replace HB := di HB hb; clear hb hbox hg; obtain ⟨_, _, _, _, _, _, _, _⟩ := cz4 BK105) | (go_at_call 81; (with_reducible refine (ay.calls _ _ _ _ A2.out).mono ?_); rintro e w' ⟨rfl, ⟨nd, rfl⟩⟩))
   (try simp only [Act.put, List.setIfInBounds_toArray, List.set_cons_zero, List.set_cons_succ])
   go_cut [8] (fun v8 wc => ∃ (kq : Nat) (x8_3 : Bool), v8 = .bool x8_3 ∧ aa (aI.j0 kq x8_3 a0_0 a0_1 a0_2 a0_3 = some r) ∧ aa (kq ≤ k) ∧ aa (wc.heap[gb105]? = some (.cells #[.int .u16 a0_0, .int .u8 a0_1, .int .u8 a0_2, .int .u32 a0_3] 45 (0, 0))) ∧ aa (Below w.heap.size w wc))
   case first =>
    have H := HC4.out
    clear HC4
    replace H := bO H
    obtain ⟨H, -, c7b0, _⟩ | ⟨H, c7, c7b0, _⟩ := H
    · (first | rw [c7b0] | (simp only [dH, dG]; rw [c7b0]) | skip)
      replace H := aa.mk H
      obtain ⟨_, _, _, _, _, _, _, _⟩ := cz4 BK105
      go_wp2
      go_meet
      case rel => exact ⟨_, _, aZ, H, ⟨le0⟩, ⟨iV⟩, ⟨bE⟩⟩
    (first | rw [c7b0] | (simp only [dH, dG]; rw [c7b0]) | skip)
    replace H := bO H
    obtain ⟨H, -, _, _⟩ | ⟨H, c9, _, _⟩ := H
    · replace H := aa.mk H
      obtain ⟨_, _, _, _, _, _, _, _⟩ := cz4 BK105
      go_wp2
      go_meet
      case rel => exact ⟨_, _, aZ, H, ⟨le0⟩, ⟨iV⟩, ⟨bE⟩⟩
    iterate 2
     replace H := bO H
     obtain ⟨H, -, _, _⟩ | ⟨H, c11, _, _⟩ := H
     · replace H := aa.mk H
       obtain ⟨_, _, _, _, _, _, _, _⟩ := cz4 BK105
       go_wp2
       go_meet
       case rel => exact ⟨_, _, aZ, H, ⟨le0⟩, ⟨iV⟩, ⟨bE⟩⟩
    replace H := aa.mk H
    obtain ⟨_, _, _, _, _, _, _, _⟩ := cz4 BK105
    go_wp2
    go_meet
    case rel => exact ⟨_, _, aZ, H, ⟨le0⟩, ⟨iV⟩, ⟨bE⟩⟩
   case rest =>
    clear HC4
    obtain ⟨kq, x8_3, rfl, HA, HJ3, BK105, HB⟩ := hcut
    cases kq with
    | zero => exact absurd HA.out (by simp [aI.j0])
    | succ kj3 =>
     have H := HA.out
     clear HA
     simp only [aI.j0] at H
     by_cases c16 : x8_3 = true
     · subst c16
       have H1 : (some 43) = some r := by rw [if_pos rfl] at H; exact H
       clear H
       have H := H1
       clear H1
       cases H
       go_wp2
       go_ret
       exact ⟨dB, bE⟩
     replace c16 := Bool.eq_false_iff.mpr c16
     subst c16
     have H1 : (if a0_0 = 52 then (aI.j1 kj3 (a0_3 == 0) a0_0 a0_1 a0_2 a0_3) else (if a0_0 = 148 then (aI.j1 kj3 (a0_3 == 0) a0_0 a0_1 a0_2 a0_3) else (aI.j1 kj3 false a0_0 a0_1 a0_2 a0_3))) = some r := by rw [if_neg (show ¬ (false = true) by decide)] at H; exact H
     clear H
     have H := H1
     clear H1
     have HC17 := aa.mk H
     clear H
     go_upto_region 5 with (fail)
     go_cut [32] (fun v32 wc => ∃ (kq : Nat) (x32_16 : Bool), v32 = .bool x32_16 ∧ aa (aI.j1 kq x32_16 a0_0 a0_1 a0_2 a0_3 = some r) ∧ aa (kq ≤ kj3) ∧ aa (wc.heap[gb105]? = some (.cells #[.int .u16 a0_0, .int .u8 a0_1, .int .u8 a0_2, .int .u32 a0_3] 45 (0, 0))) ∧ aa (Below w.heap.size w wc))
     case first =>
      have H := HC17.out
      clear HC17
      replace H := bO H
      obtain ⟨H, -, c18b0, _⟩ | ⟨H, c18, c18b0, _⟩ := H
      · (first | rw [c18b0] | (simp only [dH, dG]; rw [c18b0]) | skip)
        replace H := aa.mk H
        obtain ⟨_, _, _, _, _, _, _, _⟩ := cz4 BK105
        go_wp2
        go_meet
        case rel => exact ⟨_, _, aZ, H, ⟨by have := HJ3.out; first | omega | exact Nat.le_refl _⟩, ⟨iV⟩, ⟨bE⟩⟩
      (first | rw [c18b0] | (simp only [dH, dG]; rw [c18b0]) | skip)
      replace H := bO H
      obtain ⟨H, -, _, _⟩ | ⟨H, c20, _, _⟩ := H
      · replace H := aa.mk H
        obtain ⟨_, _, _, _, _, _, _, _⟩ := cz4 BK105
        go_wp2
        go_meet
        case rel => exact ⟨_, _, aZ, H, ⟨by have := HJ3.out; first | omega | exact Nat.le_refl _⟩, ⟨iV⟩, ⟨bE⟩⟩
      replace H := aa.mk H
      obtain ⟨_, _, _, _, _, _, _, _⟩ := cz4 BK105
      go_wp2
      go_meet
      case rel => exact ⟨_, _, aZ, H, ⟨by have := HJ3.out; first | omega | exact Nat.le_refl _⟩, ⟨iV⟩, ⟨bE⟩⟩
     case rest =>
      clear HC17
      obtain ⟨kq, x32_16, rfl, HA, HJ16, BK105, HB⟩ := hcut
      cases kq with
      | zero => exact absurd HA.out (by simp [aI.j1])
      | succ kj16 =>
       have H := HA.out
       clear HA
       simp only [aI.j1] at H
       by_cases c23 : x32_16 = true
       · subst c23
         have H1 : (some 44) = some r := by rw [if_pos rfl] at H; exact H
         clear H
         have H := H1
         clear H1
         cases H
         go_wp2
         go_ret
         exact ⟨dB, bE⟩
       replace c23 := Bool.eq_false_iff.mpr c23
       subst c23
       have H1 : (if a0_0 = 100 then (if a0_3 > 31 then (some 45) else (some 0)) else (if a0_0 = 116 then (if a0_3 > 31 then (some 45) else (some 0)) else (some 0))) = some r := by rw [if_neg (show ¬ (false = true) by decide)] at H; exact H
       clear H
       have H := H1
       clear H1
       iterate 2
        replace H := bO H
        obtain ⟨H, -, _, _⟩ | ⟨H, c24, _, _⟩ := H
        · replace H := uY H
          obtain ⟨H, -, _⟩ | ⟨H, -, _⟩ := H
          · cases H
            obtain ⟨_, _, _, _, _, _, _, _⟩ := cz4 BK105
            go_wp2
            go_ret
            exact ⟨dB, bE⟩
          cases H
          obtain ⟨_, _, _, _, _, _, _, _⟩ := cz4 BK105
          go_wp2
          go_ret
          exact ⟨dB, bE⟩
       cases H
       obtain ⟨_, _, _, _, _, _, _, _⟩ := cz4 BK105
       go_wp2
       go_ret
       exact ⟨dB, bE⟩
 cases H
 go_enter Try.func49, Try.ntmps49
 go_wp2_with (first | ((with_reducible refine aT (N := 1) rfl ?_); refine dW (N := 1) (cs := #[.int .u16 a0_0, .int .u8 a0_1, .int .u8 a0_2, .int .u32 a0_3]) (t := 45) ?_; intro gb105 hg w33 hbox hb; have GE105 := geN HB hg; have BK105 := aa.mk hbox; replace HB := di HB hb; clear hb hbox hg; obtain ⟨_, _, _, _, _, _, _, _⟩ := cz4 BK105) | (go_at_call 81; (with_reducible refine (ay.calls _ _ _ _ A2.out).mono ?_); rintro e w' ⟨rfl, ⟨nd, rfl⟩⟩))
 go_ret
 exact ⟨dB, bE⟩
def bQ.f (k : Nat) (a0 : Int) : Option (Int) := (ay.f k a0).bind fun t107 => (if t107 = true then (some (wrap64 (Go.bits .and .u16 a0 7))) else (some (-1)))
theorem bQ.calls (k : Nat) (a0 : Int) (r : Int) (w : World) (h : bQ.f k a0 = some r) :
 Calls Try.prog 61 #[.int .u16 a0] w fun e w' => e = .returned (.int .i64 r) ∧ cz w w' := by
 have H : ((ay.f k a0).bind fun t107 => (if t107 = true then (some (wrap64 (Go.bits .and .u16 a0 7))) else (some (-1)))) = some r := h
 clear h
 replace H := bnd H
 obtain ⟨t107, A2, H⟩ := H
 replace H := jK H
 obtain ⟨rfl, H⟩ | ⟨rfl, H⟩ := H
 · cases H
   go_enter Try.func61, Try.ntmps61
   go_wp2_with (go_at_call 81; (with_reducible refine (ay.calls _ _ _ _ A2.out).mono ?_); rintro e w' ⟨rfl, ⟨nd, rfl⟩⟩)
   go_ret
   exact ⟨aZ, bJ⟩
 cases H
 go_enter Try.func61, Try.ntmps61
 go_wp2_with (go_at_call 81; (with_reducible refine (ay.calls _ _ _ _ A2.out).mono ?_); rintro e w' ⟨rfl, ⟨nd, rfl⟩⟩)
 go_ret
 exact ⟨aZ, bJ⟩
def bI.l0 : Nat → List (S45) → Int → Option (Bool)
 | 0, _, _ => none
 | k + 1, x0, x3 => if x3 < (x0.length : Int) then (if 0 ≤ x3 then ((bQ.f k ((aM x0 x3).f0)).bind fun t109 => (if t109 < 0 then (some false) else (if t109 = 5 then (some false) else (if t109 = 6 then (some false) else ((aI.f k ((aM x0 x3).f0) ((aM x0 x3).f1) ((aM x0 x3).f2) ((aM x0 x3).f3)).bind fun t111 => (if t111 = 0 then (bI.l0 k x0 (wrap64 (x3 + 1))) else (some false))))))) else (none)) else (some true)
def bI.f (k : Nat) (l0 : List (S45)) : Option (Bool) := bI.l0 k l0 0
theorem bI.calls (k : Nat) (A0 : Option Addr) (c0 : Nat) (l0 : List (S45)) (r : Bool) (w : World) (hr0 : Kd.C k45 w A0 l0.length l0) (hc0 : l0.length ≤ c0) (h : bI.f k l0 = some r) :
 Calls Try.prog 89 #[.slice A0 l0.length c0] w fun e w' => e = .returned (.bool r) ∧ Below w.heap.size w w' := by
 have hu45 := Try.underlying45
 have HR0 := aa.mk hr0
 have HC0 := aa.mk hc0
 clear hr0 hc0
 have HB := aa.mk (Below.refl w.heap.size w)
 have H : (bI.l0 k l0 0) = some r := h
 clear h
 replace H := aa.mk H
 go_enter Try.func89, Try.ntmps89
 go_wp2
 go_loopg [3] k (fun kq v3 w' => ∃ (x3_1 : Int), v3 = .int .i64 x3_1 ∧ aa (bI.l0 kq l0 x3_1 = some r) ∧ aa (kq ≤ k) ∧ aa (Below w.heap.size w w'))
 case atStart => exact ⟨_, aZ, H, ⟨Nat.le_refl _⟩, ⟨bE⟩⟩
 case round =>
  clear H
  obtain ⟨x3_1, rfl, HA, HK1, HB⟩ := hrel
  cases gk with
  | zero => exact absurd HA.out (by simp [bI.l0])
  | succ k1 =>
   have H := HA.out
   clear HA
   simp only [bI.l0] at H
   replace H := fA H
   obtain ⟨H, -, _⟩ | ⟨H, -, _⟩ := H
   · replace H := fA H
     obtain ⟨H, -, _⟩ | ⟨H, c3, -⟩ := H
     · replace H := bnd H
       obtain ⟨t109, A4, H⟩ := H
       replace H := fA H
       obtain ⟨H, -, _⟩ | ⟨H, -, _⟩ := H
       · cases H
         obtain ⟨ad108, rfl, _, _, _, _, _, _⟩ := lg HR0 HB x3_1 (by assumption) (by assumption)
         go_wp2_with (go_at_call 61; (with_reducible refine (bQ.calls _ _ _ _ A4.out).mono ?_); rintro e w' ⟨rfl, ⟨nd, rfl⟩⟩)
         go_ret
         exact ⟨dB, bE⟩
       iterate 2
        replace H := bO H
        obtain ⟨H, -, _, _⟩ | ⟨H, c6, _, _⟩ := H
        · cases H
          obtain ⟨ad108, rfl, _, _, _, _, _, _⟩ := lg HR0 HB x3_1 (by assumption) (by assumption)
          go_wp2_with (go_at_call 61; (with_reducible refine (bQ.calls _ _ _ _ A4.out).mono ?_); rintro e w' ⟨rfl, ⟨nd, rfl⟩⟩)
          go_ret
          exact ⟨dB, bE⟩
       replace H := bnd H
       obtain ⟨t111, A8, H⟩ := H
       replace H := bO H
       obtain ⟨H, -, _, _⟩ | ⟨H, c9, _, _⟩ := H
       · replace H := aa.mk H
         obtain ⟨ad108, rfl, _, _, _, _, _, _⟩ := lg HR0 HB x3_1 (by assumption) (by assumption)
         go_wp2_with (first | (go_at_call 61; (with_reducible refine (bQ.calls _ _ _ _ A4.out).mono ?_); rintro e w' ⟨rfl, ⟨nd, rfl⟩⟩; obtain ⟨_, _, _, _, _, _⟩ := Be HR0 HB x3_1 (by assumption) (by assumption)) | (go_at_call 49; (with_reducible refine (aI.calls _ _ _ _ _ _ _ A8.out).mono ?_); rintro e w10 ⟨rfl, hb⟩; replace HB := di HB hb))
         go_roundg k1
         case measure => have := HK1.out; omega
         case rel => exact ⟨_, aZ, H, ⟨by have := HK1.out; omega⟩, ⟨bE⟩⟩
       cases H
       obtain ⟨ad108, rfl, _, _, _, _, _, _⟩ := lg HR0 HB x3_1 (by assumption) (by assumption)
       go_wp2_with (first | (go_at_call 61; (with_reducible refine (bQ.calls _ _ _ _ A4.out).mono ?_); rintro e w' ⟨rfl, ⟨nd, rfl⟩⟩; obtain ⟨_, _, _, _, _, _⟩ := Be HR0 HB x3_1 (by assumption) (by assumption)) | (go_at_call 49; (with_reducible refine (aI.calls _ _ _ _ _ _ _ A8.out).mono ?_); rintro e w11 ⟨rfl, hb⟩; replace HB := di HB hb))
       go_ret
       exact ⟨dB, bE⟩
     exact absurd H (by simp)
   cases H
   go_wp2
   go_ret
   exact ⟨dB, bE⟩
def dA.f (a0 : Int) : Option (Bool) := if a0 = 6 then (some true) else (some (a0 == 22))
theorem dA.calls (a0 : Int) (r : Bool) (w : World) (h : dA.f a0 = some r) :
 Calls Try.prog 51 #[.int .u16 a0] w fun e w' => e = .returned (.bool r) ∧ cz w w' := by
 have H : (if a0 = 6 then (some true) else (some (a0 == 22))) = some r := h
 clear h
 replace H := bO H
 obtain ⟨H, -, _, _⟩ | ⟨H, c2, _, _⟩ := H
 · cases H
   go_enter Try.func51, Try.ntmps51
   go_wp2
   go_ret
   exact ⟨aZ, bJ⟩
 cases H
 go_enter Try.func51, Try.ntmps51
 go_wp2
 go_ret
 exact ⟨aZ, bJ⟩
attribute [local go_sem] dY d9 fC fD dP dQ dZ ek
attribute [local go_sem high] yY
def bq.j0 : Nat → Bool → List (S45) → Int → Int → Int → Int → Int → Int → Int → Option (Bool)
 | 0, _, _, _, _, _, _, _, _, _ => none
 | k + 1, x33, x121000, x121001, x121002, x121003, x121004, x121005, x121006, x121007 => if x33 = true then (some false) else (if x121001 = 1 then ((dA.f x121002).bind fun t124 => (if t124 = true then (if x121006 = 0 then (some (x121007 == 0)) else (some false)) else (some false))) else (if x121001 = 2 then (if (x121002 == 0 && (x121003 == 0 && (x121004 == 0 && (x121005 == 0)))) = true then (some (x121007 == 0)) else (some false)) else (if x121001 = 3 then ((bf.f x121002).bind fun t125 => (some t125)) else (some false))))
def bq.f (k : Nat) (l0_0 : List (S45)) (a0_1 : Int) (a0_2 : Int) (a0_3 : Int) (a0_4 : Int) (a0_5 : Int) (a0_6 : Int) (a0_7 : Int) : Option (Bool) := (bB.f k a0_2).bind fun bt121 => (if a0_3 = 0 then (if a0_4 = 0 then (if bt121.1 = true then (bq.j0 k false l0_0 a0_1 a0_2 a0_3 a0_4 a0_5 a0_6 a0_7) else (bq.j0 k (a0_5 != 0) l0_0 a0_1 a0_2 a0_3 a0_4 a0_5 a0_6 a0_7)) else (bq.j0 k true l0_0 a0_1 a0_2 a0_3 a0_4 a0_5 a0_6 a0_7)) else (bq.j0 k true l0_0 a0_1 a0_2 a0_3 a0_4 a0_5 a0_6 a0_7))
theorem bq.calls (k : Nat) (A0_0 : Option Addr) (c0_0 : Nat) (l0_0 : List (S45)) (a0_1 : Int) (a0_2 : Int) (a0_3 : Int) (a0_4 : Int) (a0_5 : Int) (a0_6 : Int) (a0_7 : Int) (r : Bool) (w : World) (hr0_0 : Kd.C k45 w A0_0 l0_0.length l0_0) (hc0_0 : l0_0.length ≤ c0_0) (h : bq.f k l0_0 a0_1 a0_2 a0_3 a0_4 a0_5 a0_6 a0_7 = some r) :
 Calls Try.prog 90 #[.agg #[.slice A0_0 l0_0.length c0_0, .int .i64 a0_1, .int .u16 a0_2, .int .u8 a0_3, .int .u8 a0_4, .int .u32 a0_5, .int .i64 a0_6, .int .i64 a0_7]] w fun e w' => e = .returned (.bool r) ∧ Below w.heap.size w w' := by
 have hu47 := Try.underlying47
 have hu45 := Try.underlying45
 have HR0_0 := aa.mk hr0_0
 have HC0_0 := aa.mk hc0_0
 clear hr0_0 hc0_0
 have HB := aa.mk (Below.refl w.heap.size w)
 have H : ((bB.f k a0_2).bind fun bt121 => (if a0_3 = 0 then (if a0_4 = 0 then (if bt121.1 = true then (bq.j0 k false l0_0 a0_1 a0_2 a0_3 a0_4 a0_5 a0_6 a0_7) else (bq.j0 k (a0_5 != 0) l0_0 a0_1 a0_2 a0_3 a0_4 a0_5 a0_6 a0_7)) else (bq.j0 k true l0_0 a0_1 a0_2 a0_3 a0_4 a0_5 a0_6 a0_7)) else (bq.j0 k true l0_0 a0_1 a0_2 a0_3 a0_4 a0_5 a0_6 a0_7))) = some r := h
 clear h
 replace H := Option.bind_eq_some_iff.mp H
 obtain ⟨⟨t121, t122, t123⟩, A20, H⟩ := H
 replace H : (if a0_3 = 0 then (if a0_4 = 0 then (if t121 = true then (bq.j0 k false l0_0 a0_1 a0_2 a0_3 a0_4 a0_5 a0_6 a0_7) else (bq.j0 k (a0_5 != 0) l0_0 a0_1 a0_2 a0_3 a0_4 a0_5 a0_6 a0_7)) else (bq.j0 k true l0_0 a0_1 a0_2 a0_3 a0_4 a0_5 a0_6 a0_7)) else (bq.j0 k true l0_0 a0_1 a0_2 a0_3 a0_4 a0_5 a0_6 a0_7)) = some r := H
 have A2 := aa.mk A20
 clear A20
 have HC3 := aa.mk H
 clear H
 go_enter Try.func90, Try.ntmps90
 go_upto_region 2 with (first | ((with_reducible refine aT (N := 1) rfl ?_); refine dW (N := 1) (cs := #[.slice A0_0 l0_0.length c0_0, .int .i64 a0_1, .int .u16 a0_2, .int .u8 a0_3, .int .u8 a0_4, .int .u32 a0_5, .int .i64 a0_6, .int .i64 a0_7]) (t := 47) ?_; intro gb120 hg w4 hbox hb; have GE120 := geN HB hg; have BK120 := aa.mk hbox; replace HB := di HB hb; clear hb hbox hg; obtain ⟨_, _, _, _, _, _, _, _, _, _, _, _, _, _, _, _⟩ := cz8 BK120) | (go_at_call 94; (with_reducible refine (bB.calls _ _ _ _ _ _ A2.out).mono ?_); rintro e w' ⟨rfl, ⟨nd, rfl⟩⟩))
 (try simp only [Act.put, List.setIfInBounds_toArray, List.set_cons_zero, List.set_cons_succ])
 go_cut [33] (fun v33 wc => ∃ (kq : Nat) (x33_2 : Bool), v33 = .bool x33_2 ∧ aa (bq.j0 kq x33_2 l0_0 a0_1 a0_2 a0_3 a0_4 a0_5 a0_6 a0_7 = some r) ∧ aa (kq ≤ k) ∧ aa (wc.heap[gb120]? = some (.cells #[(.slice A0_0 l0_0.length c0_0), .int .i64 a0_1, .int .u16 a0_2, .int .u8 a0_3, .int .u8 a0_4, .int .u32 a0_5, .int .i64 a0_6, .int .i64 a0_7] 47 (0, 0))) ∧ aa (Below w.heap.size w wc))
 case first =>
  have H := HC3.out
  clear HC3
  replace H := bO H
  obtain ⟨H, -, c6b0, _⟩ | ⟨H, c6, c6b0, _⟩ := H
  · (first | rw [c6b0] | (simp only [dH, dG]; rw [c6b0]) | skip)
    replace H := bO H
    obtain ⟨H, -, _, _⟩ | ⟨H, c7, _, _⟩ := H
    · replace H := jK H
      obtain ⟨rfl, H⟩ | ⟨rfl, H⟩ := H
      · replace H := aa.mk H
        obtain ⟨_, _, _, _, _, _, _, _, _, _, _, _, _, _, _, _⟩ := cz8 BK120
        go_wp2
        go_meet
        case rel => exact ⟨_, _, aZ, H, ⟨le0⟩, ⟨iV⟩, ⟨bE⟩⟩
      replace H := aa.mk H
      obtain ⟨_, _, _, _, _, _, _, _, _, _, _, _, _, _, _, _⟩ := cz8 BK120
      go_wp2
      go_meet
      case rel => exact ⟨_, _, aZ, H, ⟨le0⟩, ⟨iV⟩, ⟨bE⟩⟩
    replace H := aa.mk H
    obtain ⟨_, _, _, _, _, _, _, _, _, _, _, _, _, _, _, _⟩ := cz8 BK120
    go_wp2
    go_meet
    case rel => exact ⟨_, _, aZ, H, ⟨le0⟩, ⟨iV⟩, ⟨bE⟩⟩
  (first | rw [c6b0] | (simp only [dH, dG]; rw [c6b0]) | skip)
  replace H := aa.mk H
  obtain ⟨_, _, _, _, _, _, _, _, _, _, _, _, _, _, _, _⟩ := cz8 BK120
  go_wp2
  go_meet
  case rel => exact ⟨_, _, aZ, H, ⟨le0⟩, ⟨iV⟩, ⟨bE⟩⟩
 case rest =>
  clear HC3
  obtain ⟨kq, x33_2, rfl, HA, HJ2, BK120, HB⟩ := hcut
  cases kq with
  | zero => exact absurd HA.out (by simp [bq.j0])
  | succ kj2 =>
   have H := HA.out
   clear HA
   simp only [bq.j0] at H
   by_cases c13 : x33_2 = true
   · subst c13
     have H1 : (some false) = some r := by rw [if_pos rfl] at H; exact H
     clear H
     have H := H1
     clear H1
     cases H
     go_wp2
     go_ret
     exact ⟨dB, bE⟩
   replace c13 := Bool.eq_false_iff.mpr c13
   subst c13
   have H1 : (if a0_1 = 1 then ((dA.f a0_2).bind fun t124 => (if t124 = true then (if a0_6 = 0 then (some (a0_7 == 0)) else (some false)) else (some false))) else (if a0_1 = 2 then (if (a0_2 == 0 && (a0_3 == 0 && (a0_4 == 0 && (a0_5 == 0)))) = true then (some (a0_7 == 0)) else (some false)) else (if a0_1 = 3 then ((bf.f a0_2).bind fun t125 => (some t125)) else (some false)))) = some r := by rw [if_neg (show ¬ (false = true) by decide)] at H; exact H
   clear H
   have H := H1
   clear H1
   replace H := bO H
   obtain ⟨H, -, _, _⟩ | ⟨H, c14, _, _⟩ := H
   · replace H := bnd H
     obtain ⟨t124, A15, H⟩ := H
     replace H := jK H
     obtain ⟨rfl, H⟩ | ⟨rfl, H⟩ := H
     · replace H := bO H
       obtain ⟨H, -, _, _⟩ | ⟨H, c17, _, _⟩ := H
       · cases H
         obtain ⟨_, _, _, _, _, _, _, _, _, _, _, _, _, _, _, _⟩ := cz8 BK120
         go_wp2_with (go_at_call 51; (with_reducible refine (dA.calls _ _ _ A15.out).mono ?_); rintro e w' ⟨rfl, ⟨nd, rfl⟩⟩)
         go_ret
         exact ⟨dB, bE⟩
       cases H
       obtain ⟨_, _, _, _, _, _, _, _, _, _, _, _, _, _, _, _⟩ := cz8 BK120
       go_wp2_with (go_at_call 51; (with_reducible refine (dA.calls _ _ _ A15.out).mono ?_); rintro e w' ⟨rfl, ⟨nd, rfl⟩⟩)
       go_ret
       exact ⟨dB, bE⟩
     cases H
     obtain ⟨_, _, _, _, _, _, _, _, _, _, _, _, _, _, _, _⟩ := cz8 BK120
     go_wp2_with (go_at_call 51; (with_reducible refine (dA.calls _ _ _ A15.out).mono ?_); rintro e w' ⟨rfl, ⟨nd, rfl⟩⟩)
     go_ret
     exact ⟨dB, bE⟩
   replace H := bO H
   obtain ⟨H, -, _, _⟩ | ⟨H, c21, _, _⟩ := H
   · replace H := nN H
     obtain ⟨H, c22⟩ | ⟨H, c22⟩ := H
     · have c22b0 : (a0_2 == 0 && (a0_3 == 0 && (a0_4 == 0 && (a0_5 == 0)))) = true := c22
       (try (have c22b1 : decide (a0_2 = 0 && (a0_3 == 0 && (a0_4 == 0 && (a0_5 == 0)))) = true := by simpa using c22))
       (try (have c22b2 : (a0_2 == 0 && (a0_3 == 0 && (a0_4 == 0 && (a0_5 == 0)))) = true := by simpa using c22))
       clear c22
       cases H
       obtain ⟨_, _, _, _, _, _, _, _, _, _, _, _, _, _, _, _⟩ := cz8 BK120
       go_wp2
       go_ret
       exact ⟨dB, bE⟩
     have c22b0 : (a0_2 == 0 && (a0_3 == 0 && (a0_4 == 0 && (a0_5 == 0)))) = false := by simpa using c22
     (try (have c22b1 : decide (a0_2 = 0 && (a0_3 == 0 && (a0_4 == 0 && (a0_5 == 0)))) = false := by simpa using c22))
     (try (have c22b2 : (a0_2 == 0 && (a0_3 == 0 && (a0_4 == 0 && (a0_5 == 0)))) = false := by simpa using c22))
     (try (have c22b3 : ¬ (a0_2 = 0 && (a0_3 == 0 && (a0_4 == 0 && (a0_5 == 0)))) := by simpa using c22))
     clear c22
     cases H
     obtain ⟨_, _, _, _, _, _, _, _, _, _, _, _, _, _, _, _⟩ := cz8 BK120
     go_wp2
     go_ret
     exact ⟨dB, bE⟩
   replace H := bO H
   obtain ⟨H, -, _, _⟩ | ⟨H, c25, _, _⟩ := H
   · replace H := bnd H
     obtain ⟨t125, A26, H⟩ := H
     cases H
     obtain ⟨_, _, _, _, _, _, _, _, _, _, _, _, _, _, _, _⟩ := cz8 BK120
     go_wp2_with (go_at_call 50; (with_reducible refine (bf.calls _ _ _ A26.out).mono ?_); rintro e w' ⟨rfl, ⟨nd, rfl⟩⟩)
     go_ret
     exact ⟨dB, bE⟩
   cases H
   obtain ⟨_, _, _, _, _, _, _, _, _, _, _, _, _, _, _, _⟩ := cz8 BK120
   go_wp2
   go_ret
   exact ⟨dB, bE⟩
def eu.f (l0_0 : List (S45)) (a0_1 : Int) (a0_2 : Int) (a0_3 : Int) (a0_4 : Int) (a0_5 : Int) (a0_6 : Int) (a0_7 : Int) (a1 : Int) (a2 : Int) : Option (Bool) := if a0_1 = 1 then (if a0_1 = 3 then (if a0_7 > a1 then (some (decide (a0_7 < a2))) else (some false)) else (some true)) else (if a0_6 ≤ a1 then (some false) else (if a0_6 ≥ a2 then (some false) else (if a0_1 = 3 then (if a0_7 > a1 then (some (decide (a0_7 < a2))) else (some false)) else (some true))))
theorem eu.calls (A0_0 : Option Addr) (c0_0 : Nat) (l0_0 : List (S45)) (a0_1 : Int) (a0_2 : Int) (a0_3 : Int) (a0_4 : Int) (a0_5 : Int) (a0_6 : Int) (a0_7 : Int) (a1 : Int) (a2 : Int) (r : Bool) (w : World) (hr0_0 : Kd.C k45 w A0_0 l0_0.length l0_0) (hc0_0 : l0_0.length ≤ c0_0) (h : eu.f l0_0 a0_1 a0_2 a0_3 a0_4 a0_5 a0_6 a0_7 a1 a2 = some r) :
 Calls Try.prog 91 #[.agg #[.slice A0_0 l0_0.length c0_0, .int .i64 a0_1, .int .u16 a0_2, .int .u8 a0_3, .int .u8 a0_4, .int .u32 a0_5, .int .i64 a0_6, .int .i64 a0_7], .int .i64 a1, .int .i64 a2] w fun e w' => e = .returned (.bool r) ∧ Below w.heap.size w w' := by
 have hu47 := Try.underlying47
 have HR0_0 := aa.mk hr0_0
 have HC0_0 := aa.mk hc0_0
 clear hr0_0 hc0_0
 have HB := aa.mk (Below.refl w.heap.size w)
 have H : (if a0_1 = 1 then (if a0_1 = 3 then (if a0_7 > a1 then (some (decide (a0_7 < a2))) else (some false)) else (some true)) else (if a0_6 ≤ a1 then (some false) else (if a0_6 ≥ a2 then (some false) else (if a0_1 = 3 then (if a0_7 > a1 then (some (decide (a0_7 < a2))) else (some false)) else (some true))))) = some r := h
 clear h
 replace H := bO H
 obtain ⟨H, -, _, _⟩ | ⟨H, c4, _, _⟩ := H
 · replace H := bO H
   obtain ⟨H, -, _, _⟩ | ⟨H, c5, _, _⟩ := H
   · replace H := uY H
     obtain ⟨H, -, _⟩ | ⟨H, -, _⟩ := H
     · cases H
       go_enter Try.func91, Try.ntmps91
       go_wp2_with ((with_reducible refine aT (N := 3) rfl ?_); refine dW (N := 3) (cs := #[.slice A0_0 l0_0.length c0_0, .int .i64 a0_1, .int .u16 a0_2, .int .u8 a0_3, .int .u8 a0_4, .int .u32 a0_5, .int .i64 a0_6, .int .i64 a0_7]) (t := 47) ?_; intro gb126 hg w7 hbox hb; have GE126 := geN HB hg; have BK126 := aa.mk hbox; replace HB := di HB hb; clear hb hbox hg; obtain ⟨_, _, _, _, _, _, _, _, _, _, _, _, _, _, _, _⟩ := cz8 BK126)
       go_ret
       exact ⟨dB, bE⟩
     cases H
     go_enter Try.func91, Try.ntmps91
     go_wp2_with ((with_reducible refine aT (N := 3) rfl ?_); refine dW (N := 3) (cs := #[.slice A0_0 l0_0.length c0_0, .int .i64 a0_1, .int .u16 a0_2, .int .u8 a0_3, .int .u8 a0_4, .int .u32 a0_5, .int .i64 a0_6, .int .i64 a0_7]) (t := 47) ?_; intro gb126 hg w9 hbox hb; have GE126 := geN HB hg; have BK126 := aa.mk hbox; replace HB := di HB hb; clear hb hbox hg; obtain ⟨_, _, _, _, _, _, _, _, _, _, _, _, _, _, _, _⟩ := cz8 BK126)
     go_ret
     exact ⟨dB, bE⟩
   cases H
   go_enter Try.func91, Try.ntmps91
   go_wp2_with ((with_reducible refine aT (N := 3) rfl ?_); refine dW (N := 3) (cs := #[.slice A0_0 l0_0.length c0_0, .int .i64 a0_1, .int .u16 a0_2, .int .u8 a0_3, .int .u8 a0_4, .int .u32 a0_5, .int .i64 a0_6, .int .i64 a0_7]) (t := 47) ?_; intro gb126 hg w11 hbox hb; have GE126 := geN HB hg; have BK126 := aa.mk hbox; replace HB := di HB hb; clear hb hbox hg; obtain ⟨_, _, _, _, _, _, _, _, _, _, _, _, _, _, _, _⟩ := cz8 BK126)
   go_ret
   exact ⟨dB, bE⟩
 replace H := fA H
 obtain ⟨H, -, _⟩ | ⟨H, -, _⟩ := H
 · cases H
   go_enter Try.func91, Try.ntmps91
   go_wp2_with ((with_reducible refine aT (N := 3) rfl ?_); refine dW (N := 3) (cs := #[.slice A0_0 l0_0.length c0_0, .int .i64 a0_1, .int .u16 a0_2, .int .u8 a0_3, .int .u8 a0_4, .int .u32 a0_5, .int .i64 a0_6, .int .i64 a0_7]) (t := 47) ?_; intro gb126 hg w14 hbox hb; have GE126 := geN HB hg; have BK126 := aa.mk hbox; replace HB := di HB hb; clear hb hbox hg; obtain ⟨_, _, _, _, _, _, _, _, _, _, _, _, _, _, _, _⟩ := cz8 BK126)
   go_ret
   exact ⟨dB, bE⟩
 replace H := sp_h H
 obtain ⟨H, -, _⟩ | ⟨H, -, _⟩ := H
 · cases H
   go_enter Try.func91, Try.ntmps91
   go_wp2_with ((with_reducible refine aT (N := 3) rfl ?_); refine dW (N := 3) (cs := #[.slice A0_0 l0_0.length c0_0, .int .i64 a0_1, .int .u16 a0_2, .int .u8 a0_3, .int .u8 a0_4, .int .u32 a0_5, .int .i64 a0_6, .int .i64 a0_7]) (t := 47) ?_; intro gb126 hg w17 hbox hb; have GE126 := geN HB hg; have BK126 := aa.mk hbox; replace HB := di HB hb; clear hb hbox hg; obtain ⟨_, _, _, _, _, _, _, _, _, _, _, _, _, _, _, _⟩ := cz8 BK126)
   go_ret
   exact ⟨dB, bE⟩
 replace H := bO H
 obtain ⟨H, -, _, _⟩ | ⟨H, c19, _, _⟩ := H
 · replace H := uY H
   obtain ⟨H, -, _⟩ | ⟨H, -, _⟩ := H
   · cases H
     go_enter Try.func91, Try.ntmps91
     go_wp2_with ((with_reducible refine aT (N := 3) rfl ?_); refine dW (N := 3) (cs := #[.slice A0_0 l0_0.length c0_0, .int .i64 a0_1, .int .u16 a0_2, .int .u8 a0_3, .int .u8 a0_4, .int .u32 a0_5, .int .i64 a0_6, .int .i64 a0_7]) (t := 47) ?_; intro gb126 hg w21 hbox hb; have GE126 := geN HB hg; have BK126 := aa.mk hbox; replace HB := di HB hb; clear hb hbox hg; obtain ⟨_, _, _, _, _, _, _, _, _, _, _, _, _, _, _, _⟩ := cz8 BK126)
     go_ret
     exact ⟨dB, bE⟩
   cases H
   go_enter Try.func91, Try.ntmps91
   go_wp2_with ((with_reducible refine aT (N := 3) rfl ?_); refine dW (N := 3) (cs := #[.slice A0_0 l0_0.length c0_0, .int .i64 a0_1, .int .u16 a0_2, .int .u8 a0_3, .int .u8 a0_4, .int .u32 a0_5, .int .i64 a0_6, .int .i64 a0_7]) (t := 47) ?_; intro gb126 hg w23 hbox hb; have GE126 := geN HB hg; have BK126 := aa.mk hbox; replace HB := di HB hb; clear hb hbox hg; obtain ⟨_, _, _, _, _, _, _, _, _, _, _, _, _, _, _, _⟩ := cz8 BK126)
   go_ret
   exact ⟨dB, bE⟩
 cases H
 go_enter Try.func91, Try.ntmps91
 go_wp2_with ((with_reducible refine aT (N := 3) rfl ?_); refine dW (N := 3) (cs := #[.slice A0_0 l0_0.length c0_0, .int .i64 a0_1, .int .u16 a0_2, .int .u8 a0_3, .int .u8 a0_4, .int .u32 a0_5, .int .i64 a0_6, .int .i64 a0_7]) (t := 47) ?_; intro gb126 hg w25 hbox hb; have GE126 := geN HB hg; have BK126 := aa.mk hbox; replace HB := di HB hb; clear hb hbox hg; obtain ⟨_, _, _, _, _, _, _, _, _, _, _, _, _, _, _, _⟩ := cz8 BK126)
 go_ret
 exact ⟨dB, bE⟩
attribute [local go_sem] dY d9 fC fD dP dQ dZ ek
def bS.l0 : Nat → List (S47) → Int → Int → Option (Int × Int)
 | 0, _, _, _ => none
 | k + 1, x0, x4, x5 => if x5 < (x0.length : Int) then (if 0 ≤ x5 then (if (((af x0 x5).f0).length : Int) > x4 then (some (x5, 151)) else ((bI.f k ((af x0 x5).f0)).bind fun t130 => (if t130 = true then ((bq.f k ((af x0 x5).f0) ((af x0 x5).f1) ((af x0 x5).f2.f0) ((af x0 x5).f2.f1) ((af x0 x5).f2.f2) ((af x0 x5).f2.f3) ((af x0 x5).f3) ((af x0 x5).f4)).bind fun t132 => (if t132 = true then ((eu.f ((af x0 x5).f0) ((af x0 x5).f1) ((af x0 x5).f2.f0) ((af x0 x5).f2.f1) ((af x0 x5).f2.f2) ((af x0 x5).f2.f3) ((af x0 x5).f3) ((af x0 x5).f4) x5 (x0.length : Int)).bind fun t134 => (if t134 = true then (bS.l0 k x0 (wrap64 (x4 - (((af x0 x5).f0).length : Int))) (wrap64 (x5 + 1))) else (some (x5, 154)))) else (some (x5, 153)))) else (some (x5, 152))))) else (none)) else (some (0, 0))
def bS.f (k : Nat) (l0 : List (S47)) : Option (Int × Int) := if (l0.length : Int) = 0 then (some (0, 150)) else (if (l0.length : Int) > 4096 then (some (4096, 151)) else (bS.l0 k l0 4096 0))
theorem bS.calls (k : Nat) (A0 : Option Addr) (c0 : Nat) (l0 : List (S47)) (r1 : Int) (r2 : Int) (w : World) (hr0 : Kd.C k47 w A0 l0.length l0) (hc0 : l0.length ≤ c0) (h : bS.f k l0 = some (r1, r2)) :
 Calls Try.prog 54 #[.slice A0 l0.length c0] w fun e w' => e = .returned (.tuple #[.int .i64 r1, .int .i64 r2]) ∧ Below w.heap.size w w' := by
 have hu47 := Try.underlying47
 have HR0 := aa.mk hr0
 have HC0 := aa.mk hc0
 clear hr0 hc0
 have HB := aa.mk (Below.refl w.heap.size w)
 have H : (if (l0.length : Int) = 0 then (some (0, 150)) else (if (l0.length : Int) > 4096 then (some (4096, 151)) else (bS.l0 k l0 4096 0))) = some (r1, r2) := h
 clear h
 replace H := bO H
 obtain ⟨H, -, _, _⟩ | ⟨H, c2, _, _⟩ := H
 · obtain ⟨rfl, rfl⟩ := so2 H
   go_enter Try.func54, Try.ntmps54
   go_wp2
   go_ret2
   exact ⟨dB, bE⟩
 have c2b2 : ¬ (l0 = []) := fun h_ => c2 (by rw [h_]; rfl)
 replace H := uY H
 obtain ⟨H, c3, _⟩ | ⟨H, c3, _⟩ := H
 · have c3b1 : decide (4096 < l0.length) = true := decide_eq_true (by omega)
   clear c3
   obtain ⟨rfl, rfl⟩ := so2 H
   go_enter Try.func54, Try.ntmps54
   go_wp2
   go_ret2
   exact ⟨dB, bE⟩
 have c3b1 : decide (4096 < l0.length) = false := decide_eq_false (by omega)
 clear c3
 replace H := aa.mk H
 go_enter Try.func54, Try.ntmps54
 go_wp2
 go_loopg [4, 5] k (fun kq v4 v5 w' => ∃ (x4_1 : Int) (x5_1 : Int), v4 = .int .i64 x4_1 ∧ v5 = .int .i64 x5_1 ∧ aa (bS.l0 kq l0 x4_1 x5_1 = some (r1, r2)) ∧ aa (kq ≤ k) ∧ aa (Below w.heap.size w w'))
 case atStart => exact ⟨_, _, aZ, aZ, H, ⟨Nat.le_refl _⟩, ⟨bE⟩⟩
 case round =>
  clear H
  obtain ⟨x4_1, x5_1, rfl, rfl, HA, HK1, HB⟩ := hrel
  cases gk with
  | zero => exact absurd HA.out (by simp [bS.l0])
  | succ k1 =>
   have H := HA.out
   clear HA
   simp only [bS.l0] at H
   replace H := fA H
   obtain ⟨H, -, _⟩ | ⟨H, -, _⟩ := H
   · replace H := fA H
     obtain ⟨H, -, _⟩ | ⟨H, c5, -⟩ := H
     · replace H := uY H
       obtain ⟨H, -, _⟩ | ⟨H, -, _⟩ := H
       · obtain ⟨rfl, rfl⟩ := so2 H
         obtain ⟨ad127, rfl⟩ := iJ HR0 x5_1 (by assumption) (by assumption)
         obtain ⟨A127_0, c127_0, _, _, _, _, _, _, _, _, HR127_0, HC127_0, _, _⟩ := eY HR0 HB x5_1 (by assumption) (by assumption)
         go_wp2
         go_ret2
         exact ⟨dB, bE⟩
       replace H := bnd H
       obtain ⟨t130, A7, H⟩ := H
       replace H := jK H
       obtain ⟨rfl, H⟩ | ⟨rfl, H⟩ := H
       · replace H := bnd H
         obtain ⟨t132, A9, H⟩ := H
         replace H := jK H
         obtain ⟨rfl, H⟩ | ⟨rfl, H⟩ := H
         · replace H := bnd H
           obtain ⟨t134, A11, H⟩ := H
           replace H := jK H
           obtain ⟨rfl, H⟩ | ⟨rfl, H⟩ := H
           · replace H := aa.mk H
             obtain ⟨ad127, rfl⟩ := iJ HR0 x5_1 (by assumption) (by assumption)
             obtain ⟨A127_0, c127_0, hx127_0, _, _, _, _, _, _, _, HR127_0, HC127_0, _, _⟩ := eY HR0 HB x5_1 (by assumption) (by assumption)
             obtain ⟨A128_0, c128_0, hx128_0, _, _, _, _, _, _, _, HR128_0, HC128_0, _, _⟩ := eY HR0 HB x5_1 (by assumption) (by assumption)
             have ea_ := Option.some.inj (hx127_0.symm.trans hx128_0)
             injection ea_ with ea_ en_ ec_
             subst ea_
             subst ec_
             clear en_
             obtain ⟨A129_0, c129_0, hx129_0, _, _, _, _, _, _, _, HR129_0, HC129_0, _, _⟩ := eY HR0 HB x5_1 (by assumption) (by assumption)
             have ea_ := Option.some.inj (hx127_0.symm.trans hx129_0)
             injection ea_ with ea_ en_ ec_
             subst ea_
             subst ec_
             clear en_
             go_wp2_with (first | (go_at_call 89; (with_reducible refine (bI.calls _ _ _ _ _ _ (sd1 HR129_0 HB) HC129_0.out A7.out).mono ?_); rintro e w13 ⟨rfl, hb⟩; replace HB := di HB hb; obtain ⟨A131_0, c131_0, _, _, _, _, _, _, _, _, HR131_0, HC131_0, _, _⟩ := eY HR0 HB x5_1 (by assumption) (by assumption)) | (go_at_call 90; (with_reducible refine (bq.calls _ _ _ _ _ _ _ _ _ _ _ _ _ (sd1 HR131_0 HB) HC131_0.out A9.out).mono ?_); rintro e w14 ⟨rfl, hb⟩; replace HB := di HB hb; obtain ⟨A133_0, c133_0, _, _, _, _, _, _, _, _, HR133_0, HC133_0, _, _⟩ := eY HR0 HB x5_1 (by assumption) (by assumption)) | (go_at_call 91; (with_reducible refine (eu.calls _ _ _ _ _ _ _ _ _ _ _ _ _ _ (sd1 HR133_0 HB) HC133_0.out A11.out).mono ?_); rintro e w15 ⟨rfl, hb⟩; replace HB := di HB hb))
             go_roundg k1
             case measure => have := HK1.out; omega
             case rel => exact ⟨_, _, aZ, aZ, H, ⟨by have := HK1.out; omega⟩, ⟨bE⟩⟩
           obtain ⟨rfl, rfl⟩ := so2 H
           obtain ⟨ad127, rfl⟩ := iJ HR0 x5_1 (by assumption) (by assumption)
           obtain ⟨A127_0, c127_0, hx127_0, _, _, _, _, _, _, _, HR127_0, HC127_0, _, _⟩ := eY HR0 HB x5_1 (by assumption) (by assumption)
           obtain ⟨A128_0, c128_0, hx128_0, _, _, _, _, _, _, _, HR128_0, HC128_0, _, _⟩ := eY HR0 HB x5_1 (by assumption) (by assumption)
           have ea_ := Option.some.inj (hx127_0.symm.trans hx128_0)
           injection ea_ with ea_ en_ ec_
           subst ea_
           subst ec_
           clear en_
           obtain ⟨A129_0, c129_0, hx129_0, _, _, _, _, _, _, _, HR129_0, HC129_0, _, _⟩ := eY HR0 HB x5_1 (by assumption) (by assumption)
           have ea_ := Option.some.inj (hx127_0.symm.trans hx129_0)
           injection ea_ with ea_ en_ ec_
           subst ea_
           subst ec_
           clear en_
           go_wp2_with (first | (go_at_call 89; (with_reducible refine (bI.calls _ _ _ _ _ _ (sd1 HR129_0 HB) HC129_0.out A7.out).mono ?_); rintro e w16 ⟨rfl, hb⟩; replace HB := di HB hb; obtain ⟨A131_0, c131_0, _, _, _, _, _, _, _, _, HR131_0, HC131_0, _, _⟩ := eY HR0 HB x5_1 (by assumption) (by assumption)) | (go_at_call 90; (with_reducible refine (bq.calls _ _ _ _ _ _ _ _ _ _ _ _ _ (sd1 HR131_0 HB) HC131_0.out A9.out).mono ?_); rintro e w17 ⟨rfl, hb⟩; replace HB := di HB hb; obtain ⟨A133_0, c133_0, _, _, _, _, _, _, _, _, HR133_0, HC133_0, _, _⟩ := eY HR0 HB x5_1 (by assumption) (by assumption)) | (go_at_call 91; (with_reducible refine (eu.calls _ _ _ _ _ _ _ _ _ _ _ _ _ _ (sd1 HR133_0 HB) HC133_0.out A11.out).mono ?_); rintro e w18 ⟨rfl, hb⟩; replace HB := di HB hb))
           go_ret2
           exact ⟨dB, bE⟩
         obtain ⟨rfl, rfl⟩ := so2 H
         obtain ⟨ad127, rfl⟩ := iJ HR0 x5_1 (by assumption) (by assumption)
         obtain ⟨A127_0, c127_0, hx127_0, _, _, _, _, _, _, _, HR127_0, HC127_0, _, _⟩ := eY HR0 HB x5_1 (by assumption) (by assumption)
         obtain ⟨A128_0, c128_0, hx128_0, _, _, _, _, _, _, _, HR128_0, HC128_0, _, _⟩ := eY HR0 HB x5_1 (by assumption) (by assumption)
         have ea_ := Option.some.inj (hx127_0.symm.trans hx128_0)
         injection ea_ with ea_ en_ ec_
         subst ea_
         subst ec_
         clear en_
         obtain ⟨A129_0, c129_0, hx129_0, _, _, _, _, _, _, _, HR129_0, HC129_0, _, _⟩ := eY HR0 HB x5_1 (by assumption) (by assumption)
         have ea_ := Option.some.inj (hx127_0.symm.trans hx129_0)
         injection ea_ with ea_ en_ ec_
         subst ea_
         subst ec_
         clear en_
         go_wp2_with (first | (go_at_call 89; (with_reducible refine (bI.calls _ _ _ _ _ _ (sd1 HR129_0 HB) HC129_0.out A7.out).mono ?_); rintro e w19 ⟨rfl, hb⟩; replace HB := di HB hb; obtain ⟨A131_0, c131_0, _, _, _, _, _, _, _, _, HR131_0, HC131_0, _, _⟩ := eY HR0 HB x5_1 (by assumption) (by assumption)) | (go_at_call 90; (with_reducible refine (bq.calls _ _ _ _ _ _ _ _ _ _ _ _ _ (sd1 HR131_0 HB) HC131_0.out A9.out).mono ?_); rintro e w20 ⟨rfl, hb⟩; replace HB := di HB hb))
         go_ret2
         exact ⟨dB, bE⟩
       obtain ⟨rfl, rfl⟩ := so2 H
       obtain ⟨ad127, rfl⟩ := iJ HR0 x5_1 (by assumption) (by assumption)
       obtain ⟨A127_0, c127_0, hx127_0, _, _, _, _, _, _, _, HR127_0, HC127_0, _, _⟩ := eY HR0 HB x5_1 (by assumption) (by assumption)
       obtain ⟨A128_0, c128_0, hx128_0, _, _, _, _, _, _, _, HR128_0, HC128_0, _, _⟩ := eY HR0 HB x5_1 (by assumption) (by assumption)
       have ea_ := Option.some.inj (hx127_0.symm.trans hx128_0)
       injection ea_ with ea_ en_ ec_
       subst ea_
       subst ec_
       clear en_
       obtain ⟨A129_0, c129_0, hx129_0, _, _, _, _, _, _, _, HR129_0, HC129_0, _, _⟩ := eY HR0 HB x5_1 (by assumption) (by assumption)
       have ea_ := Option.some.inj (hx127_0.symm.trans hx129_0)
       injection ea_ with ea_ en_ ec_
       subst ea_
       subst ec_
       clear en_
       go_wp2_with (go_at_call 89; (with_reducible refine (bI.calls _ _ _ _ _ _ (sd1 HR129_0 HB) HC129_0.out A7.out).mono ?_); rintro e w21 ⟨rfl, hb⟩; replace HB := di HB hb)
       go_ret2
       exact ⟨dB, bE⟩
     exact absurd H (by simp)
   obtain ⟨rfl, rfl⟩ := so2 H
   go_wp2
   go_ret2
   exact ⟨dB, bE⟩
def dM.f (k : Nat) (l0 : List (S47)) : Option (Bool) := (bS.f k l0).bind fun bt135 => (some (bt135.2 == 0))
theorem dM.calls (k : Nat) (A0 : Option Addr) (c0 : Nat) (l0 : List (S47)) (r : Bool) (w : World) (hr0 : Kd.C k47 w A0 l0.length l0) (hc0 : l0.length ≤ c0) (h : dM.f k l0 = some r) :
 Calls Try.prog 28 #[.slice A0 l0.length c0] w fun e w' => e = .returned (.bool r) ∧ Below w.heap.size w w' := by
 have HR0 := aa.mk hr0
 have HC0 := aa.mk hc0
 clear hr0 hc0
 have HB := aa.mk (Below.refl w.heap.size w)
 have H : ((bS.f k l0).bind fun bt135 => (some (bt135.2 == 0))) = some r := h
 clear h
 replace H := Option.bind_eq_some_iff.mp H
 obtain ⟨⟨t135, t136⟩, A20, H⟩ := H
 replace H : (some (t136 == 0)) = some r := H
 have A2 := aa.mk A20
 clear A20
 cases H
 go_enter Try.func28, Try.ntmps28
 go_wp2_with (go_at_call 54; (with_reducible refine (bS.calls _ _ _ _ _ _ _ ?side1 HC0.out A2.out).mono ?_); (case side1 => repeat (first | exact HR0.out | (with_reducible refine Kd.l6 ?_ _) | (with_reducible refine Kd.l7 ?_ _) | (with_reducible refine Kd.ug ?_))); rintro e w3 ⟨rfl, hb⟩; replace HB := di HB hb)
 go_ret
 exact ⟨dB, bE⟩
def dz.f (l0 : List (S45)) : Option ((List (S45))) := (some (([] : List (S45)) : List (S45))).bind fun y139 => (if y139.length + l0.length < 17592186044416 then (some (y139 ++ l0)) else (none))
theorem dz.calls (A0 : Option Addr) (c0 : Nat) (l0 : List (S45)) (r : List (S45)) (w : World) (hr0 : Kd.C k45 w A0 l0.length l0) (hc0 : l0.length ≤ c0) (h : dz.f l0 = some r) :
 Calls Try.prog 22 #[.slice A0 l0.length c0] w fun e w' => ∃ v0_ : Value, e = .returned (v0_) ∧ Kd.R k45 45 w' w.heap.size (fun _ => True) v0_ r ∧ Below w.heap.size w w' := by
 have HR0 := aa.mk hr0
 have HC0 := aa.mk hc0
 clear hr0 hc0
 have HB := aa.mk (Below.refl w.heap.size w)
 have H : ((some (([] : List (S45)) : List (S45))).bind fun y139 => (if y139.length + l0.length < 17592186044416 then (some (y139 ++ l0)) else (none))) = some r := h
 clear h
 obtain ⟨y139, hy139⟩ : ∃ y_ : List (S45), y_ = (([] : List (S45))) := ⟨_, rfl⟩
 replace H : (if y139.length + l0.length < 17592186044416 then (some (y139 ++ l0)) else (none)) = some r := by first | (rw [hy139]; with_reducible exact H) | (have H2_ := (Option.bind_some _ _).symm.trans H; rw [hy139]; with_reducible exact H2_) | (have H2_ := (Option.bind_some _ _).symm.trans H; with_reducible exact H2_) | with_reducible exact H | (rw [hy139]; exact H) | exact H
 have Ny139 := aa.mk hy139
 clear hy139
 replace H := nN H
 obtain ⟨H, c2⟩ | ⟨H, c2⟩ := H
 · have LMc2 := aa.mk c2
   clear c2
   obtain ⟨y142, hy142⟩ : ∃ y_ : List (S45), y_ = (y139 ++ l0) := ⟨_, rfl⟩
   replace H : (some y142) = some r := by first | (rw [hy142]; with_reducible exact H) | (have H2_ := (Option.bind_some _ _).symm.trans H; rw [hy142]; with_reducible exact H2_) | (have H2_ := (Option.bind_some _ _).symm.trans H; with_reducible exact H2_) | with_reducible exact H | (rw [hy142]; exact H) | exact H
   have Ny142 := aa.mk hy142
   clear hy142
   obtain rfl := Option.some.inj H
   go_enter Try.func22, Try.ntmps22
   go_wp2_with (first | ((with_reducible refine aT (N := 3) rfl ?_); refine Kd.vF k45 _ 45 ?hg (N := 3) ?hd (xs := ([] : List (S45))) (inner := []) (ok := fun _ => True) (okp := fun _ => True) ?hr ?hp (fun _ hk => hk) trivial (Below.refl _ _) (Nat.le_refl _) (by simp) ?_; (case hd => rfl); (case hg => rfl); (case hr => first | (go_simp; done) | (go_simp; rfl)); (case hp => exact (fB.none _ _)); intro v140 w3 ho4 hb hg_ hnew_; clear hg_ hnew_; (first | rw [← Ny139.out] at ho4 | (simp only [Int.reduceToNat] at ho4; rw [← Ny139.out] at ho4)); have HO141 := aa.mk (Kd.jH ho4 (gq bE)); replace HB := di HB hb; clear hb ho4) | ((with_reducible refine mD (b := .append) (xs := #[.tmp 3, .tmp 4]) rfl ?_); at_builtin; refine Kd.jd k45 (w0 := w) w.heap.size rfl (.tmp 3) (.tmp 4) 26 45 (.agg #[(.int .u16 0), (.int .u8 0), (.int .u8 0), (.int .u32 0)]) 8 rfl Try.underlying26 kH rfl (by decide) (by omega) v140 y139 l0 _ _ _ (fun _ => True) (fun _ => False) rfl rfl ?aO ?aR (fun _ _ h => h) (fun _ h => h.elim) ?aF ?aB ?aS ?aL ?_; (case aR => repeat (first | exact (Kd.dN HR0.out HB.out) | (with_reducible refine Kd.l6 ?_ _) | (with_reducible refine Kd.l7 ?_ _) | (with_reducible refine Kd.ug ?_))); (case aB => exact bE); (case aF => exact (fun _ _ => trivial)); (case aO => exact (by (with_reducible repeat (first | apply Kd.eD | apply Kd.eP | apply Kd.fZ)); exact HO141.out)); (case aS => exact (gq bE)); (case aL => have := LMc2.out; omega); intro v143 w5 ho hb hg hat; rw [← Ny142.out] at ho; have HO144 := aa.mk (ho); replace HB := aa.mk hb; clear HO141; clear ho hb hg hat))
   go_ret
   exact ⟨_, dB, by (with_reducible repeat (first | apply Kd.eD | apply Kd.eP | apply Kd.fZ)); exact HO144.out, bE⟩
 exact absurd H (by simp)
def gM.f (l0_0 : List (S45)) (a0_1 : Int) (a0_2 : Int) (a0_3 : Int) (a0_4 : Int) (a0_5 : Int) (a0_6 : Int) (a0_7 : Int) : Option (List Int) := if a0_1 = 2 then (some (([a0_6] : List Int))) else (if a0_1 = 3 then (some (([a0_6, a0_7] : List Int))) else (some ([] : List Int)))
theorem gM.calls (A0_0 : Option Addr) (c0_0 : Nat) (l0_0 : List (S45)) (a0_1 : Int) (a0_2 : Int) (a0_3 : Int) (a0_4 : Int) (a0_5 : Int) (a0_6 : Int) (a0_7 : Int) (r : List Int) (w : World) (hr0_0 : Kd.C k45 w A0_0 l0_0.length l0_0) (hc0_0 : l0_0.length ≤ c0_0) (h : gM.f l0_0 a0_1 a0_2 a0_3 a0_4 a0_5 a0_6 a0_7 = some r) :
 Calls Try.prog 76 #[.agg #[.slice A0_0 l0_0.length c0_0, .int .i64 a0_1, .int .u16 a0_2, .int .u8 a0_3, .int .u8 a0_4, .int .u32 a0_5, .int .i64 a0_6, .int .i64 a0_7]] w fun e w' => ∃ v0_ : Value, e = .returned (v0_) ∧ Kd.R (Kd.int .i64) 3 w' w.heap.size (fun _ => True) v0_ r ∧ Below w.heap.size w w' := by
 have hu47 := Try.underlying47
 have HR0_0 := aa.mk hr0_0
 have HC0_0 := aa.mk hc0_0
 clear hr0_0 hc0_0
 have HB := aa.mk (Below.refl w.heap.size w)
 have H : (if a0_1 = 2 then (some (([a0_6] : List Int))) else (if a0_1 = 3 then (some (([a0_6, a0_7] : List Int))) else (some ([] : List Int)))) = some r := h
 clear h
 replace H := bO H
 obtain ⟨H, -, _, _⟩ | ⟨H, c2, _, _⟩ := H
 · obtain ⟨y176, hy176⟩ : ∃ y_ : List Int, y_ = (([a0_6] : List Int)) := ⟨_, rfl⟩
   replace H : (some y176) = some r := by first | (rw [hy176]; with_reducible exact H) | (have H2_ := (Option.bind_some _ _).symm.trans H; rw [hy176]; with_reducible exact H2_) | (have H2_ := (Option.bind_some _ _).symm.trans H; with_reducible exact H2_) | with_reducible exact H | (rw [hy176]; exact H) | exact H
   have Ny176 := aa.mk hy176
   clear hy176
   obtain rfl := Option.some.inj H
   go_enter Try.func76, Try.ntmps76
   go_wp2_with (first | ((with_reducible refine aT (N := 1) rfl ?_); refine dW (N := 1) (cs := #[.slice A0_0 l0_0.length c0_0, .int .i64 a0_1, .int .u16 a0_2, .int .u8 a0_3, .int .u8 a0_4, .int .u32 a0_5, .int .i64 a0_6, .int .i64 a0_7]) (t := 47) ?_; intro gb175 hg w3 hbox hb; have GE175 := geN HB hg; have BK175 := aa.mk hbox; replace HB := di HB hb; clear hb hbox hg; obtain ⟨_, _, _, _, _, _, _, _, _, _, _, _, _, _, _, _⟩ := cz8 BK175) | ((with_reducible refine aT (N := 9) rfl ?_); refine Kd.vF (Kd.int .i64) _ 3 ?hg (N := 9) ?hd (xs := ([a0_6] : List Int)) (inner := [.int .i64 a0_6]) (ok := fun _ => True) (okp := fun _ => True) ?hr ?hp (fun _ hk => hk) trivial (Below.refl _ _) (Nat.le_refl _) (by simp) ?_; (case hd => rfl); (case hg => rfl); (case hr => first | (go_simp; done) | (go_simp; rfl)); (case hp => exact (fB.one (show Kd.M (Kd.int .i64) _ _ _ a0_6 [.int .i64 a0_6] from rfl) (fB.none _ _))); intro v177 w5 ho6 hb hg_ hnew_; clear hg_ hnew_; (first | rw [← Ny176.out] at ho6 | (simp only [Int.reduceToNat] at ho6; rw [← Ny176.out] at ho6)); have HO178 := aa.mk (Kd.jH ho6 (gq bE)); replace BK175 := lM BK175 hb; replace HB := di HB hb; clear hb ho6))
   go_ret
   exact ⟨_, dB, by (with_reducible repeat (first | apply Kd.eD | apply Kd.eP | apply Kd.fZ)); exact HO178.out, bE⟩
 replace H := bO H
 obtain ⟨H, -, _, _⟩ | ⟨H, c7, _, _⟩ := H
 · obtain ⟨y179, hy179⟩ : ∃ y_ : List Int, y_ = (([a0_6, a0_7] : List Int)) := ⟨_, rfl⟩
   replace H : (some y179) = some r := by first | (rw [hy179]; with_reducible exact H) | (have H2_ := (Option.bind_some _ _).symm.trans H; rw [hy179]; with_reducible exact H2_) | (have H2_ := (Option.bind_some _ _).symm.trans H; with_reducible exact H2_) | with_reducible exact H | (rw [hy179]; exact H) | exact H
   have Ny179 := aa.mk hy179
   clear hy179
   obtain rfl := Option.some.inj H
   go_enter Try.func76, Try.ntmps76
   go_wp2_with (first | ((with_reducible refine aT (N := 1) rfl ?_); refine dW (N := 1) (cs := #[.slice A0_0 l0_0.length c0_0, .int .i64 a0_1, .int .u16 a0_2, .int .u8 a0_3, .int .u8 a0_4, .int .u32 a0_5, .int .i64 a0_6, .int .i64 a0_7]) (t := 47) ?_; intro gb175 hg w8 hbox hb; have GE175 := geN HB hg; have BK175 := aa.mk hbox; replace HB := di HB hb; clear hb hbox hg; obtain ⟨_, _, _, _, _, _, _, _, _, _, _, _, _, _, _, _⟩ := cz8 BK175) | ((with_reducible refine aT (N := 16) rfl ?_); refine Kd.vF (Kd.int .i64) _ 3 ?hg (N := 16) ?hd (xs := ([a0_6, a0_7] : List Int)) (inner := [.int .i64 a0_6, .int .i64 a0_7]) (ok := fun _ => True) (okp := fun _ => True) ?hr ?hp (fun _ hk => hk) trivial (Below.refl _ _) (Nat.le_refl _) (by simp) ?_; (case hd => rfl); (case hg => rfl); (case hr => first | (go_simp; done) | (go_simp; rfl)); (case hp => exact (fB.one (show Kd.M (Kd.int .i64) _ _ _ a0_6 [.int .i64 a0_6] from rfl) (fB.one (show Kd.M (Kd.int .i64) _ _ _ a0_7 [.int .i64 a0_7] from rfl) (fB.none _ _)))); intro v180 w10 ho11 hb hg_ hnew_; clear hg_ hnew_; (first | rw [← Ny179.out] at ho11 | (simp only [Int.reduceToNat] at ho11; rw [← Ny179.out] at ho11)); have HO181 := aa.mk (Kd.jH ho11 (gq bE)); replace BK175 := lM BK175 hb; replace HB := di HB hb; clear hb ho11))
   go_ret
   exact ⟨_, dB, by (with_reducible repeat (first | apply Kd.eD | apply Kd.eP | apply Kd.fZ)); exact HO181.out, bE⟩
 obtain rfl := Option.some.inj H
 go_enter Try.func76, Try.ntmps76
 go_wp2_with ((with_reducible refine aT (N := 1) rfl ?_); refine dW (N := 1) (cs := #[.slice A0_0 l0_0.length c0_0, .int .i64 a0_1, .int .u16 a0_2, .int .u8 a0_3, .int .u8 a0_4, .int .u32 a0_5, .int .i64 a0_6, .int .i64 a0_7]) (t := 47) ?_; intro gb175 hg w12 hbox hb; have GE175 := geN HB hg; have BK175 := aa.mk hbox; replace HB := di HB hb; clear hb hbox hg; obtain ⟨_, _, _, _, _, _, _, _, _, _, _, _, _, _, _, _⟩ := cz8 BK175)
 go_ret
 exact ⟨_, dB, by first | exact Kd.kL _ _ _ _ _ | exact Kd.N_nil _ _ _ _ _ | exact Kd.V_nil _ _ _ _ _ | exact Kd.Q_nil _ _ _ _ _ | exact Kd.S_nil _ _ _ _ _, bE⟩
end Go.Proofs.Ytdkalnkplgfgoaa.PA
