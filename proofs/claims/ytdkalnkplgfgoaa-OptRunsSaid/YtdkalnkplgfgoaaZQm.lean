/- Lemmas and walks for the statements of the texts ZQZ..: the declarations that they need, taken together by a program of this session. Conditions: as each says. -/
import Derived.ChangeArms
import Derived.Deep.Slices
import Derived.Deep.Fields
import Derived.SizedLaws
import Derived.ChangeSame
import Derived.Test.YtdkalnkplgfgoaaZQa
import Derived.Test.YtdkalnkplgfgoaaZQb
import Derived.Test.YtdkalnkplgfgoaaZQl
set_option maxHeartbeats 8000000
set_option maxRecDepth 100000
set_option linter.unusedVariables false
set_option linter.unusedSimpArgs false
namespace Go.Proofs.Ytdkalnkplgfgoaa.Rd
open Go.RowKit Go.Proofs.YtdkalnkplgfgoaaW.PrintWords Go.Proofs.YtdkalnkplgfgoaaW.PrintLast Go.Proofs.YtdkalnkplgfgoaaW.PrintMore Go.Proofs.Ytdkalnkplgfgoaa.PA Go.ChangeShapes Go.WideShapes Go.Deep
section
variable {H : Type} (enc : TypeId × Value → H) (P : Program) (w : World) (base : Nat) (spare : Nat → Bool) (held : Bool)
def Reading {α : Type} (t : TypeId) (d : Kd α) (W : α → Prop) : Prop :=
 ∀ (n : Nat) (cs : List Value) (y : DataW H × List MemPlace), DataW.trod enc P w base spare held n t cs = some y → (y.1.weights P t).all (· ≤ reachBytes) = true → ∃ x, d.K w x cs ∧ W x
end
section
variable {H : Type} {enc : TypeId × Value → H} {P : Program} {w : World} {base : Nat} {spare : Nat → Bool} {held : Bool}
theorem zU {t : TypeId} {k : IntKind} (ht : P.underlying t = some (.int k)) : Reading enc P w base spare held t (Kd.int k) (fun x => (Lit.int k x).wf = true) := by
 intro n cs y h _
 obtain ⟨x, rfl, _, hx⟩ := DataW.trod_int ht h
 exact ⟨x, rfl, hx⟩
theorem ni {α : Type} {Q : Nat → α → Prop} : ∀ n : Nat, (∀ i, i < n → ∃ x, Q i x) → ∃ xs : List α, xs.length = n ∧ ∀ i x, xs[i]? = some x → Q i x
 | 0, _ => ⟨[], rfl, fun i x h => by simp at h⟩
 | n + 1, h => by
  obtain ⟨xs, hl, hq⟩ := ni n (fun i hi => h i (by omega))
  obtain ⟨x, hx⟩ := h n (by omega)
  refine ⟨xs ++ [x], by simp [hl], fun i z hz => ?_⟩
  by_cases e : i < xs.length
  · rw [List.getElem?_append_left e] at hz
    exact hq i z hz
  rw [List.getElem?_append_right (by omega)] at hz
  have h0 : i - xs.length = 0 := by
   have := (List.getElem?_eq_some_iff.1 hz).1
   simp at this
   omega
  rw [h0] at hz
  have hzx : x = z := by simpa using hz
  have hin : i = n := by omega
  rw [← hzx, hin]
  exact hx
theorem kK {t : TypeId} : ∀ {l : List (DataW H)} {d : DataW H}, d ∈ l → ∀ n ∈ d.weights P t, n ∈ DataW.weightsAll P t l
 | x :: l, d, h, n, hn => by
  simp only [DataW.weightsAll, List.mem_append]
  rcases List.mem_cons.1 h with rfl | h
  · exact .inl hn
  exact .inr (kK h n hn)
theorem sK {α : Type} {d : Kd α} {W : α → Prop} {t e : TypeId} {b : Nat} (ht : P.underlying t = some (.slice e)) (hC : P.cellsOf e = d.sz) (hb : P.bytesOf e = b) (h : Reading enc P w base spare held e d W) :
 Reading enc P w base spare held t (Kd.slice e d) (fun xs => (∀ x ∈ xs, W x) ∧ xs.length * b ≤ reachBytes) := by
 intro n cs y hy hw
 rcases DataW.trod_slice ht hy with ⟨rfl, rfl⟩ | ⟨a, len, cap, elems, rest, m, rfl, rfl, rfl, h1, h2, h3, h4, h5, h6, h7⟩
 · refine ⟨[], ⟨none, 0, rfl, Nat.le_refl _, Kd.xc _ _⟩, fun x hx => (by cases hx), by simp⟩
 have hwt : ∀ z ∈ elems, (z.1.weights P e).all (· ≤ reachBytes) = true := by
  intro z hz
  refine List.all_eq_true.2 fun q hq => ?_
  refine List.all_eq_true.1 hw q ?_
  simp only [DataW.weights, ht]
  refine List.mem_cons_of_mem _ (List.mem_append_left _ ?_)
  exact kK (List.mem_map.2 ⟨z, hz, rfl⟩) q hq
 obtain ⟨xs, hl, hq⟩ := ni (Q := fun i x => ∃ cs', w.cells? base (a.add (i * P.cellsOf e)) (P.cellsOf e) = some cs' ∧ d.K w x cs' ∧ W x) len (by
  intro i hi
  have he := h5 i hi
  have hei : i < elems.length := by omega
  rw [List.getElem?_eq_getElem hei] at he
  obtain ⟨cs', hc, ht'⟩ := Option.bind_eq_some_iff.1 he
  obtain ⟨x, hx, hW⟩ := h m cs' _ ht' (hwt _ (List.getElem_mem hei))
  exact ⟨x, cs', hc, hx, hW⟩)
 refine ⟨xs, ⟨some a, cap, by rw [hl], by omega, ⟨rfl, by unfold maxLen at h3; omega, fun _ => ⟨a, rfl, ?_⟩⟩⟩, ?_, ?_⟩
 · intro j p hj
   obtain ⟨cs', hc, hk, _⟩ := hq j p hj
   obtain ⟨_, hcl, hat⟩ := World.cells?_some hc
   refine ⟨cs', d.K_len hk, hk, fun i u hu => ?_⟩
   have hil : i < cs'.length := (List.getElem?_eq_some_iff.1 hu).1
   have := hat i (by omega)
   rw [← hC, ← Go.Deep.add_add, this, hu]
 · intro x hx
   obtain ⟨i, hi, rfl⟩ := List.getElem_of_mem hx
   obtain ⟨_, _, _, hW⟩ := hq i _ (List.getElem?_eq_getElem hi)
   exact hW
 have := List.all_eq_true.1 hw ((elems.length + rest.length) * P.bytesOf e) (by simp [DataW.weights, ht])
 rw [hb] at this
 have h9 : (elems.length + rest.length) * b ≤ reachBytes := by simpa using this
 have : xs.length * b ≤ (elems.length + rest.length) * b := Nat.mul_le_mul_right _ (by omega)
 omega
theorem fields_of {t : TypeId} {fs : Array Field} {n : Nat} {cs : List Value} {y : DataW H × List MemPlace} (hs : P.underlying t = some (.struct fs)) (h : DataW.trod enc P w base spare held n t cs = some y) (hw : (y.1.weights P t).all (· ≤ reachBytes) = true) :
 cs.length = P.cellsOf t ∧ ∃ m, ∀ (j : Nat) (f : Field), fs[j]? = some f → ∃ z : DataW H × List MemPlace, DataW.trod enc P w base spare held m f.type ((cs.drop f.offset).take (P.cellsOf f.type)) = some z ∧ (z.1.weights P f.type).all (· ≤ reachBytes) = true := by
 obtain ⟨xs, m, rfl, rfl, hl, hx, hf⟩ := DataW.trod_struct hs h
 refine ⟨hl, m, fun j f hj => ?_⟩
 have hjl : j < fs.size := (Array.getElem?_eq_some_iff.1 hj).1
 have hj2 : j < xs.length := by omega
 refine ⟨xs[j], by rw [hf j f hj, List.getElem?_eq_getElem hj2], ?_⟩
 refine List.all_eq_true.2 fun q hq => ?_
 refine List.all_eq_true.1 hw q ?_
 simp only [DataW.weights, hs]
 refine DataW.weights_mem_each (j := j) (t := f.type) (d := xs[j].1) ?_ ?_ q hq
 · rw [List.getElem?_map, Array.getElem?_toList, hj]; rfl
 rw [List.getElem?_map, List.getElem?_eq_getElem hj2]; rfl
end
def WI (x : S45) : Prop := 0 ≤ x.f0 ∧ x.f0 < 65536 ∧ 0 ≤ x.f1 ∧ x.f1 < 256 ∧ 0 ≤ x.f2 ∧ x.f2 < 256 ∧ 0 ≤ x.f3 ∧ x.f3 < 4294967296
def WB (x : S47) : Prop := (∀ i ∈ x.f0, WI i) ∧ x.f0.length * 8 ≤ reachBytes ∧ WI x.f2 ∧ (Lit.int .i64 x.f1).wf = true ∧ (Lit.int .i64 x.f3).wf = true ∧ (Lit.int .i64 x.f4).wf = true
theorem qD {k : IntKind} {x : Int} (h : (Lit.int k x).wf = true) : k.min ≤ x ∧ x ≤ k.max := by
 simpa [Lit.wf] using h
theorem u8_of {x : Int} (h : (Lit.int .u8 x).wf = true) : 0 ≤ x ∧ x < 256 := by
 have h1 : (0 : Int) ≤ x := (qD h).1
 have h2 : x ≤ (255 : Int) := (qD h).2
 omega
theorem u16_of {x : Int} (h : (Lit.int .u16 x).wf = true) : 0 ≤ x ∧ x < 65536 := by
 have h1 : (0 : Int) ≤ x := (qD h).1
 have h2 : x ≤ (65535 : Int) := (qD h).2
 omega
theorem u32_of {x : Int} (h : (Lit.int .u32 x).wf = true) : 0 ≤ x ∧ x < 4294967296 := by
 have h1 : (0 : Int) ≤ x := (qD h).1
 have h2 : x ≤ (4294967295 : Int) := (qD h).2
 omega
section
variable {H : Type} {enc : TypeId × Value → H} {w : World} {base : Nat} {spare : Nat → Bool} {held : Bool}
theorem vE : Reading enc Try.prog w base spare held 45 k45 WI := by
 intro n cs y h hw
 obtain ⟨hl, m, hf⟩ := fields_of Try.underlying45 h hw
 rw [show Try.prog.cellsOf 45 = 4 by kernel_rfl] at hl
 match cs, hl with
 | [c0, c1, c2, c3], _ =>
  obtain ⟨z0, t0, _⟩ := hf 0 _ rfl
  obtain ⟨z1, t1, _⟩ := hf 1 _ rfl
  obtain ⟨z2, t2, _⟩ := hf 2 _ rfl
  obtain ⟨z3, t3, _⟩ := hf 3 _ rfl
  replace t0 : DataW.trod enc Try.prog w base spare held m 43 (([c0, c1, c2, c3].drop 0).take (Try.prog.cellsOf 43)) = some z0 := t0
  rw [show Try.prog.cellsOf 43 = 1 by kernel_rfl] at t0
  replace t1 : DataW.trod enc Try.prog w base spare held m 5 (([c0, c1, c2, c3].drop 1).take (Try.prog.cellsOf 5)) = some z1 := t1
  rw [show Try.prog.cellsOf 5 = 1 by kernel_rfl] at t1
  replace t2 : DataW.trod enc Try.prog w base spare held m 5 (([c0, c1, c2, c3].drop 2).take (Try.prog.cellsOf 5)) = some z2 := t2
  rw [show Try.prog.cellsOf 5 = 1 by kernel_rfl] at t2
  replace t3 : DataW.trod enc Try.prog w base spare held m 41 (([c0, c1, c2, c3].drop 3).take (Try.prog.cellsOf 41)) = some z3 := t3
  rw [show Try.prog.cellsOf 41 = 1 by kernel_rfl] at t3
  simp only [List.drop_zero, List.drop_succ_cons, List.take_succ_cons, List.take_zero] at t0 t1 t2 t3
  obtain ⟨x0, e0, _, w0⟩ := DataW.trod_int Try.underlying43 t0
  obtain ⟨x1, e1, _, w1⟩ := DataW.trod_int Try.underlying5 t1
  obtain ⟨x2, e2, _, w2⟩ := DataW.trod_int Try.underlying5 t2
  obtain ⟨x3, e3, _, w3⟩ := DataW.trod_int Try.underlying41 t3
  simp only [List.cons.injEq, and_true] at e0 e1 e2 e3
  subst e0 e1 e2 e3
  have a0 := u16_of w0
  have a1 := u8_of w1
  have a2 := u8_of w2
  have a3 := u32_of w3
  exact ⟨⟨x0, x1, x2, x3⟩, y9 w ⟨x0, x1, x2, x3⟩, a0.1, a0.2, a1.1, a1.2, a2.1, a2.2, a3.1, a3.2⟩
theorem sJ : Reading enc Try.prog w base spare held 47 k47 WB := by
 intro n cs y h hw
 obtain ⟨hl, m, hf⟩ := fields_of Try.underlying47 h hw
 rw [show Try.prog.cellsOf 47 = 8 by kernel_rfl] at hl
 match cs, hl with
 | [c0, c1, c2, c3, c4, c5, c6, c7], _ =>
  obtain ⟨z0, t0, v0⟩ := hf 0 _ rfl
  obtain ⟨z1, t1, _⟩ := hf 1 _ rfl
  obtain ⟨z2, t2, v2⟩ := hf 2 _ rfl
  obtain ⟨z3, t3, _⟩ := hf 3 _ rfl
  obtain ⟨z4, t4, _⟩ := hf 4 _ rfl
  replace t0 : DataW.trod enc Try.prog w base spare held m 26 (([c0, c1, c2, c3, c4, c5, c6, c7].drop 0).take (Try.prog.cellsOf 26)) = some z0 := t0
  rw [show Try.prog.cellsOf 26 = 1 by kernel_rfl] at t0
  replace t1 : DataW.trod enc Try.prog w base spare held m 3 (([c0, c1, c2, c3, c4, c5, c6, c7].drop 1).take (Try.prog.cellsOf 3)) = some z1 := t1
  rw [show Try.prog.cellsOf 3 = 1 by kernel_rfl] at t1
  replace t2 : DataW.trod enc Try.prog w base spare held m 45 (([c0, c1, c2, c3, c4, c5, c6, c7].drop 2).take (Try.prog.cellsOf 45)) = some z2 := t2
  rw [show Try.prog.cellsOf 45 = 4 by kernel_rfl] at t2
  replace t3 : DataW.trod enc Try.prog w base spare held m 3 (([c0, c1, c2, c3, c4, c5, c6, c7].drop 6).take (Try.prog.cellsOf 3)) = some z3 := t3
  rw [show Try.prog.cellsOf 3 = 1 by kernel_rfl] at t3
  replace t4 : DataW.trod enc Try.prog w base spare held m 3 (([c0, c1, c2, c3, c4, c5, c6, c7].drop 7).take (Try.prog.cellsOf 3)) = some z4 := t4
  rw [show Try.prog.cellsOf 3 = 1 by kernel_rfl] at t4
  replace v0 : (z0.1.weights Try.prog 26).all (· ≤ reachBytes) = true := v0
  replace v2 : (z2.1.weights Try.prog 45).all (· ≤ reachBytes) = true := v2
  simp only [List.drop_zero, List.drop_succ_cons, List.take_succ_cons, List.take_zero] at t0 t1 t2 t3 t4
  obtain ⟨xs, ⟨A, c, e0, hlc, hC⟩, hws, hlen⟩ := sK (d := k45) (b := 8) Try.underlying26 (by kernel_rfl) (by kernel_rfl) vE m _ _ t0 v0
  obtain ⟨x1, e1, _, w1⟩ := DataW.trod_int Try.underlying3 t1
  obtain ⟨i, hi, wi⟩ := vE m _ _ t2 v2
  have e2 := jW hi
  obtain ⟨x3, e3, _, w3⟩ := DataW.trod_int Try.underlying3 t3
  obtain ⟨x4, e4, _, w4⟩ := DataW.trod_int Try.underlying3 t4
  simp only [List.cons.injEq, and_true] at e0 e1 e2 e3 e4
  obtain ⟨e20, e21, e22, e23⟩ := e2
  subst e0 e1 e20 e21 e22 e23 e3 e4
  exact ⟨⟨xs, x1, i, x3, x4⟩, za w ⟨xs, x1, i, x3, x4⟩ hlc hC, hws, hlen, wi, w1, w3, w4⟩
end
theorem nR {H : Type} {enc : TypeId × Value → H} {P : Program} {w : World} {base : Nat} {spare : Nat → Bool} {held : Bool} {α : Type} {d : Kd α} {W : α → Prop} {t e : TypeId} {b : Nat} {v : Value} {D : DataW H} {p : List MemPlace}
 (ht : P.underlying t = some (.slice e)) (hC : P.cellsOf e = d.sz) (hb : P.bytesOf e = b) (h : Reading enc P w base spare held e d W) (hv : ∃ A l c, v = .slice A l c) (h0 : DataW.Trod enc P w base spare held t v D p) (hw : (D.weights P t).all (· ≤ reachBytes) = true) :
 ∃ (A : Option Addr) (c : Nat) (xs : List α), v = .slice A xs.length c ∧ xs.length ≤ c ∧ d.C w A xs.length xs ∧ (∀ x ∈ xs, W x) ∧ xs.length * b ≤ reachBytes := by
 obtain ⟨A0, l0, c0, rfl⟩ := hv
 obtain ⟨n, hn⟩ := h0
 obtain ⟨xs, ⟨A, c, e0, hlc, hK⟩, hws, hl⟩ := sK ht hC hb h n _ _ hn hw
 have e1 : Value.slice A0 l0 c0 = .slice A xs.length c := by simpa [Value.cells] using e0
 exact ⟨A, c, xs, e1, hlc, hK, hws, hl⟩
theorem kv {H : Type} {P : Program} {ts : List TypeId} {ds : List (DataW H)} (h : (DataW.weightsEach P ts ds).all (· ≤ reachBytes) = true) {j : Nat} {t : TypeId} {d : DataW H} (ht : ts[j]? = some t) (hd : ds[j]? = some d) : (d.weights P t).all (· ≤ reachBytes) = true :=
 List.all_eq_true.2 fun q hq => List.all_eq_true.1 h q (DataW.weights_mem_each ht hd q hq)
end Go.Proofs.Ytdkalnkplgfgoaa.Rd
namespace Go.Proofs.Ytdkalnkplgfgoaa.PA
open Go.RowKit Go.Proofs.YtdkalnkplgfgoaaW.PrintWords Go.Proofs.YtdkalnkplgfgoaaW.PrintLast Go.Proofs.YtdkalnkplgfgoaaW.PrintMore
attribute [local go_sem] eO eQ gu gz dS dU eP eU
def ek.f (l0 : List Int) : Option (List Int) := (some (([] : List Int) : List Int)).bind fun y423 => (if y423.length + l0.length < 140737488355328 then (some (y423 ++ l0)) else (none))
theorem ek.calls (A0 : Option Addr) (c0 : Nat) (l0 : List Int) (r : List Int) (w : World) (hr0 : Kd.C (Kd.int .u8) w A0 l0.length l0) (hc0 : l0.length ≤ c0) (h : ek.f l0 = some r) :
 Calls Try.prog 35 #[.slice A0 l0.length c0] w fun e w' => ∃ v0_ : Value, e = .returned (v0_) ∧ Kd.R (Kd.int .u8) 5 w' w.heap.size (fun _ => True) v0_ r ∧ Below w.heap.size w w' := by
 have HR0 := aa.mk hr0
 have HC0 := aa.mk hc0
 clear hr0 hc0
 have HB := aa.mk (Below.refl w.heap.size w)
 have H : ((some (([] : List Int) : List Int)).bind fun y423 => (if y423.length + l0.length < 140737488355328 then (some (y423 ++ l0)) else (none))) = some r := h
 clear h
 obtain ⟨y423, hy423⟩ : ∃ y_ : List Int, y_ = (([] : List Int)) := ⟨_, rfl⟩
 replace H : (if y423.length + l0.length < 140737488355328 then (some (y423 ++ l0)) else (none)) = some r := by first | (rw [hy423]; with_reducible exact H) | (have H2_ := (Option.bind_some _ _).symm.trans H; rw [hy423]; with_reducible exact H2_) | (have H2_ := (Option.bind_some _ _).symm.trans H; with_reducible exact H2_) | with_reducible exact H | (rw [hy423]; exact H) | exact H
 have Ny423 := aa.mk hy423
 clear hy423
 replace H := pu H
 obtain ⟨H, c2⟩ | ⟨H, c2⟩ := H
 · have LMc2 := aa.mk c2
   clear c2
   obtain ⟨y426, hy426⟩ : ∃ y_ : List Int, y_ = (y423 ++ l0) := ⟨_, rfl⟩
   replace H : (some y426) = some r := by first | (rw [hy426]; with_reducible exact H) | (have H2_ := (Option.bind_some _ _).symm.trans H; rw [hy426]; with_reducible exact H2_) | (have H2_ := (Option.bind_some _ _).symm.trans H; with_reducible exact H2_) | with_reducible exact H | (rw [hy426]; exact H) | exact H
   have Ny426 := aa.mk hy426
   clear hy426
   obtain rfl := Option.some.inj H
   go_enter Try.func35, Try.ntmps35
   go_wp2_with (first | ((with_reducible refine bi (N := 3) rfl ?_); refine Kd.uM (Kd.int .u8) _ 5 ?hg (N := 3) ?hd (xs := ([] : List Int)) (inner := []) (ok := fun _ => True) (okp := fun _ => True) ?hr ?hp (fun _ hk => hk) trivial (Below.refl _ _) (Nat.le_refl _) (by simp) ?_; (case hd => rfl); (case hg => rfl); (case hr => first | (go_simp; done) | (go_simp; rfl)); (case hp => exact (fD.none _ _)); intro v424 w3 ho4 hb hg_ hnew_; clear hg_ hnew_; (first | rw [← Ny423.out] at ho4 | (simp only [Int.reduceToNat] at ho4; rw [← Ny423.out] at ho4)); have HO425 := aa.mk (Kd.jX ho4 (fK bO)); replace HB := dB HB hb; clear hb ho4) | ((with_reducible refine jZ (b := .append) (xs := #[.tmp 3, .tmp 4]) rfl ?_); at_builtin; refine Kd.jO (Kd.int .u8) (w0 := w) w.heap.size rfl (.tmp 3) (.tmp 4) 38 5 (.int .u8 0) 1 rfl Try.underlying38 info5 rfl (by decide) (by omega) v424 y423 l0 _ _ _ (fun _ => True) (fun _ => False) rfl rfl ?aO ?aR (fun _ _ h => h) (fun _ h => h.elim) ?aF ?aB ?aS ?aL ?_; (case aR => repeat (first | exact (Kd.dm HR0.out HB.out) | (with_reducible refine Kd.fU ?_ _) | (with_reducible refine Kd.lH ?_ _) | (with_reducible refine Kd.ou ?_))); (case aB => exact bO); (case aF => exact (fun _ _ => trivial)); (case aO => exact (by (with_reducible repeat (first | apply Kd.iZ | apply Kd.ja | apply Kd.jP)); exact HO425.out)); (case aS => exact (fK bO)); (case aL => have := LMc2.out; omega); intro v427 w5 ho hb hg hat; rw [← Ny426.out] at ho; have HO428 := aa.mk (ho); replace HB := aa.mk hb; clear HO425; clear ho hb hg hat))
   go_ret
   exact ⟨_, dA, by (with_reducible repeat (first | apply Kd.iZ | apply Kd.ja | apply Kd.jP)); exact HO428.out, bO⟩
 exact absurd H (by simp)
end Go.Proofs.Ytdkalnkplgfgoaa.PA
namespace Go.Proofs.Ytdkalnkplgfgoaa.Ln
open Go.RowKit Go.Maps Go.Proofs.YtdkalnkplgfgoaaW.PrintWords Go.Proofs.YtdkalnkplgfgoaaW.PrintLast Go.Proofs.YtdkalnkplgfgoaaW.PrintMore Go.Proofs.Ytdkalnkplgfgoaa.PA
theorem cpy7 (c : List Int) (h : c.length < 140737488355328) : ek.f c = some c := by
 unfold ek.f
 rw [Option.bind_some, if_pos (by simpa using h)]
 rfl
theorem ru (w : World) (g : List S47) (A : Option Addr) (c : Nat) (pk : List Int) (Ap : Option Addr) (cp : Nat) (y : Int) (HG : Kd.C k47 w A g.length g) (hc : g.length ≤ c)
 (HP : Kd.C (Kd.int .u8) w Ap pk.length pk) (hcp : pk.length ≤ cp) (hG : GOk g) (hpk : pk.length ≤ 40) :
 Calls Try.prog 9 #[.slice A g.length c, .slice Ap pk.length cp, .int .u8 y] w fun e w' => e = .returned (.bool true) ∧ Below w.heap.size w w' := by
 have h1 : decide (40 < pk.length) = false := decide_eq_false (by omega)
 have h2 : decide ((40 : Int) < (pk.length : Int)) = false := decide_eq_false (by omega)
 have HR := aa.mk (cz.calls 10000 A c g true w HG hc (by rw [mV g hG.fit 10000 (Nat.le_refl _), hG.tk]))
 have HGA := aa.mk HG
 have HCA := aa.mk hc
 have HP1 := aa.mk HP
 have HP2 := aa.mk hcp
 have HOK := aa.mk (And.intro hG hpk)
 clear HG hc HP hG
 go_enter Try.func9, Try.ntmps9
 go_upto_region 3 with (go_at_call 28; refine HR.out.mono ?_; rintro e w1 ⟨rfl, hb⟩; have HB1 := aa.mk hb; clear hb)
 go_upto_region 4 with (first
  | (go_at_call 18; refine (bu.calls 10000 A c g g w1 (Kd.dm HGA.out HB1.out) HCA.out (cpb7 HOK.out.1)).mono ?_; rintro e w2 ⟨v, rfl, hs, hb⟩; obtain ⟨Ac, cc, rfl⟩ := Kd.jE (Kd.S_R hs); have HS := aa.mk (Kd.iw (Kd.S_R hs)); have HB2 := aa.mk (ay HB1.out hb); clear hs hb)
  | (go_at_call 27; refine (oO w2 g Ac cc HS.out.2.2 HS.out.2.1 HOK.out.1).mono ?_; rintro e w3 ⟨gx, cx, x, rfl, hx, hcx, hI, hb⟩; have HX := aa.mk (And.intro hx (And.intro hcx hI)); have HB3 := aa.mk (ay HB2.out hb); clear hx hcx hI hb))
 go_wp2
 go_loopw [9] (fun v9 wr => ∃ i : Nat, i ≤ pk.length + 1 ∧ v9 = .int .i64 i ∧ aa (Below w.heap.size w wr) ∧ aa (Kd.C k47 wr (some ⟨gx, 0, none⟩) x.length x)) (fun v9 _ => pk.length + 1 - (intOf v9).toNat)
 case atStart => exact ⟨0, by omega, rfl, HB3, ⟨HX.out.1⟩⟩
 case round =>
  obtain ⟨i, hi, rfl, HB, HXC⟩ := hrel
  by_cases hlt : i ≤ pk.length
  · have i0 : (0 : Int) ≤ (i : Int) := by omega
    have i1 : (i : Int) ≤ (pk.length : Int) := by omega
    have i2 : (i : Int) ≤ (cp : Int) := by omega
    have htl : (pk.take i).length = i := by rw [List.length_take]; omega
    have HCT := Kd.xe (Kd.dm HP1.out HB.out) hlt
    have HSM := aa.mk (mW wr g A c x (some ⟨gx, 0, none⟩) cx (pk.take i) Ap cp (Kd.dm HGA.out HB.out) HCA.out HXC.out HX.out.2.1 HCT (by rw [htl]; omega) (by rw [htl]; omega) HOK.out.1 HX.out.2.2)
    rw [htl] at HSM
    clear htl HCT
    go_upto_region 11 with (go_at_call 34; refine HSM.out.mono ?_; rintro e w4 ⟨rfl, hb⟩; have HB4 := aa.mk hb; clear hb)
    by_cases hlt2 : i < pk.length
    · have HCY := aa.mk (ek.calls Ap cp pk pk w4 (Kd.dm HP1.out (ay HB.out HB4.out)) HP2.out (cpy7 pk (by omega)))
      have i3 : (i : Int) < (pk.length : Int) := by omega
      go_upto_region 13 with (go_at_call 35; refine HCY.out.mono ?_; rintro e w5 ⟨v, rfl, hr, hb⟩; obtain ⟨gq, cq, rfl, hge, _, _⟩ := Kd.R_form hr (by omega); have HQ := aa.mk (And.intro hr (And.intro hge hb)); clear hr hge hb)
      have hcell := Kd.R_cell (0 : Int) HQ.out.1 (i : Int) i0 i3
      rw [Int.toNat_natCast] at hcell
      obtain ⟨q0, qz⟩ := hcell
      obtain ⟨z, ez⟩ : ∃ z, z = rdOf (0 : Int) pk (i : Int) := ⟨_, rfl⟩
      rw [← ez] at q0
      clear ez
      go_upto_region 14 with (fail)
      have hput := Kd.R_put HQ.out.1 (i : Int) (Go.bits .xor .u8 z y)
      rw [Int.toNat_natCast] at hput
      have HPU := aa.mk hput.1
      have HBP : aa (Below w4.heap.size w4 (w5.setCell ⟨gq, i, none⟩ (.int .u8 (Go.bits .xor .u8 z y)))) := ⟨HQ.out.2.2.setCell HQ.out.2.1 _⟩
      clear hput q0 qz
      have HWX : aa (Below w.heap.size w (w5.setCell ⟨gq, i, none⟩ (.int .u8 (Go.bits .xor .u8 z y)))) := ⟨ay (ay HB.out HB4.out) HBP.out⟩
      have HRD := Kd.iw HPU.out
      have HSM2 := aa.mk (mW (w5.setCell ⟨gq, i, none⟩ (.int .u8 (Go.bits .xor .u8 z y))) g A c x (some ⟨gx, 0, none⟩) cx (pk.set i (Go.bits .xor .u8 z y)) (some ⟨gq, 0, none⟩) cq (Kd.dm HGA.out HWX.out) HCA.out (Kd.dm HXC.out (ay HB4.out HBP.out)) HX.out.2.1 HRD.2.2 (by rw [← HRD.1]; exact HRD.2.1) (by rw [List.length_set]; omega) HOK.out.1 HX.out.2.2)
      rw [List.length_set] at HSM2
      clear HRD hi
      go_wp2_with (go_at_call 34; refine HSM2.out.mono ?_; rintro e w6 ⟨rfl, hb⟩; have HB6 := aa.mk hb; clear hb)
      have HBN := aa.mk (ay HWX.out HB6.out)
      have HXN := aa.mk (Kd.dm HXC.out (ay (ay HB4.out HBP.out) HB6.out))
      clear HB HXC HSM HB4 HSM2 HBP HWX HPU HQ HCY
      go_roundw
      case rel => exact ⟨i + 1, by omega, by go_num, HBN, HXN⟩
      case measure => simp [intOf]; omega
    clear hi
    have HBN := aa.mk (ay HB.out HB4.out)
    have HXN := aa.mk (Kd.dm HXC.out HB4.out)
    have i4 : ¬ (i : Int) < (pk.length : Int) := by omega
    clear HB HXC HSM HB4
    go_wp2
    go_roundw
    case rel => exact ⟨i + 1, by omega, by go_num, HBN, HXN⟩
    case measure => simp [intOf]; omega
  have i5 : ¬ (i : Int) ≤ (pk.length : Int) := by omega
  clear hi
  go_wp2_with (go_at_call 29; refine (gP wr).mono ?_; rintro e w5 ⟨rfl, hb⟩; have HB5 := aa.mk (ay HB.out hb); clear hb)
  go_ret
  exact ⟨rfl, HB5.out⟩
theorem lY (w : World) (g : List S47) (A : Option Addr) (c : Nat) (pk : List Int) (Ap : Option Addr) (cp : Nat) (y : Int) (HG : Kd.C k47 w A g.length g) (hc : g.length ≤ c) (hF : Fit g) (hn : TkB g = false ∨ 40 < pk.length) :
 Calls Try.prog 9 #[.slice A g.length c, .slice Ap pk.length cp, .int .u8 y] w fun e w' => e = .returned (.bool true) ∧ Below w.heap.size w w' := by
 have HR := aa.mk (cz.calls 10000 A c g (TkB g) w HG hc (mV g hF 10000 (Nat.le_refl _)))
 obtain ⟨t, et⟩ : ∃ t, t = TkB g := ⟨_, rfl⟩
 rw [← et] at HR hn
 clear HG hc hF et
 cases t with
 | false =>
  clear hn
  go_enter Try.func9, Try.ntmps9
  go_wp2_with (first | (go_at_call 28; refine HR.out.mono ?_; rintro e w1 ⟨rfl, hb⟩; have HB1 := aa.mk hb; clear hb) | (go_at_call 29; refine (gP w1).mono ?_; rintro e w2 ⟨rfl, hb⟩; have HB2 := aa.mk hb; clear hb))
  go_ret
  exact ⟨rfl, ay HB1.out HB2.out⟩
 | true =>
  have h0 : 40 < pk.length := by rcases hn with h | h; cases h; exact h
  have h1 : decide (40 < pk.length) = true := decide_eq_true h0
  have h2 : decide ((40 : Int) < (pk.length : Int)) = true := decide_eq_true (by omega)
  clear hn
  go_enter Try.func9, Try.ntmps9
  go_wp2_with (first | (go_at_call 28; refine HR.out.mono ?_; rintro e w1 ⟨rfl, hb⟩; have HB1 := aa.mk hb; clear hb) | (go_at_call 29; refine (gP w1).mono ?_; rintro e w2 ⟨rfl, hb⟩; have HB2 := aa.mk hb; clear hb))
  go_ret
  exact ⟨rfl, ay HB1.out HB2.out⟩
theorem pO (w : World) (g : List S47) (A : Option Addr) (c : Nat) (pk : List Int) (Ap : Option Addr) (cp : Nat) (y : Int) (HG : Kd.C k47 w A g.length g) (hc : g.length ≤ c)
 (HP : Kd.C (Kd.int .u8) w Ap pk.length pk) (hcp : pk.length ≤ cp) (hF : Fit g) (hk : KR g) :
 Calls Try.prog 9 #[.slice A g.length c, .slice Ap pk.length cp, .int .u8 y] w fun e w' => e = .returned (.bool true) ∧ Below w.heap.size w w' := by
 cases htk : TkB g
 · exact lY w g A c pk Ap cp y HG hc hF (.inl htk)
 by_cases hpk : pk.length ≤ 40
 · exact ru w g A c pk Ap cp y HG hc HP hcp (tO htk hk) hpk
 exact lY w g A c pk Ap cp y HG hc hF (.inr (by omega))
end Go.Proofs.Ytdkalnkplgfgoaa.Ln
