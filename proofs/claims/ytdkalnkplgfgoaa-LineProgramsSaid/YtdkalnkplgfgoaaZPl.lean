/- Lemmas and walks for the statements of the texts ZPZ..: the declarations that they need, taken together by a program of this session. Conditions: as each says. -/
import Derived.ChangeArms
import Derived.Deep.Slices
import Derived.Deep.Fields
import Derived.SizedLaws
import Derived.ChangeSame
import Derived.Test.YtdkalnkplgfgoaaZPa
import Derived.Test.YtdkalnkplgfgoaaZPk
namespace Go.Proofs.Ytdkalnkplgfgoaa.Ln
open Go.RowKit Go.Maps Go.Proofs.YtdkalnkplgfgoaaW.PrintWords Go.Proofs.YtdkalnkplgfgoaaW.PrintLast Go.Proofs.YtdkalnkplgfgoaaW.PrintMore Go.Proofs.Ytdkalnkplgfgoaa.PA
set_option linter.unusedVariables false
set_option linter.unusedSimpArgs false
/-- The cells of a block that is lent: its code lies in block p.1, of p.2 places. -/
def rowC (b : S47) (p : Nat × Nat) : List Value := [.slice (some ⟨p.1, 0, none⟩) b.f0.length p.2, .int .i64 b.f1, .int .u16 b.f2.f0, .int .u8 b.f2.f1, .int .u8 b.f2.f2, .int .u32 b.f2.f3, .int .i64 b.f3, .int .i64 b.f4]
def rowE : List Value := [.slice none 0 0, .int .i64 77, .int .u16 0, .int .u8 0, .int .u8 0, .int .u32 0, .int .i64 0, .int .i64 0]
theorem rowC_one (b : S47) (p : Nat × Nat) : ∀ u ∈ rowC b p, u.oneCell' = true := by
  intro u hu
  simp only [rowC, List.mem_cons, List.not_mem_nil, or_false] at hu
  rcases hu with rfl | rfl | rfl | rfl | rfl | rfl | rfl | rfl <;> rfl
theorem rowE_one : ∀ u ∈ rowE, u.oneCell' = true := by
  intro u hu
  simp only [rowE, List.mem_cons, List.not_mem_nil, or_false] at hu
  rcases hu with rfl | rfl | rfl | rfl | rfl | rfl | rfl | rfl <;> rfl
/-- Blocks that are lent, in v; more rows behind them. -/
structure LentR (w : World) (base : Nat) (v : Value) (g : List S47) (bs : List (Nat × Nat)) (more : List (List Value)) : Prop where
  len : bs.length = g.length
  row : (Kd.raw 8).R 47 w base (fun _ => True) v (List.zipWith rowC g bs ++ more)
  inn : ∀ (i : Nat) (b : S47) (p : Nat × Nat), g[i]? = some b → bs[i]? = some p → Inner w p.1 b.f0 p.2
  sep : bs.Pairwise (fun p q => p.1 ≠ q.1)
  lo : ∀ p ∈ bs, base ≤ p.1
theorem Inner.typed {w : World} {g c : Nat} {code : List S45} (h : Inner w g code c) : ∃ cells, w.heap[g]? = some (.cells cells 45 (0, 0)) := Kd.R_typed h g rfl
theorem a1_lt {w : World} {a : Addr} {u : Value} (h : w.cell? a = some u) : a.block < w.heap.size := World.block_lt_of_cell? w _ h
theorem LentR.nil (w : World) (base : Nat) : LentR w base (.slice none 0 0) [] [] [] := ⟨rfl, Kd.R_nil _ _ _ _ _, fun i b p h => by simp at h, List.Pairwise.nil, fun p h => by cases h⟩
theorem LentR.ltb {w : World} {base : Nat} {v : Value} {g : List S47} {bs : List (Nat × Nat)} {more : List (List Value)} (H : LentR w base v g bs more) : ∀ p ∈ bs, p.1 < w.heap.size := by
  intro p hp
  obtain ⟨i, hi, rfl⟩ := List.getElem_of_mem hp
  have hl := H.len
  have hi2 : i < g.length := by omega
  exact (H.inn i g[i] bs[i] (List.getElem?_eq_getElem hi2) (List.getElem?_eq_getElem hi)).lt
theorem LentR.below {w w1 : World} {base : Nat} {v : Value} {g : List S47} {bs : List (Nat × Nat)} {more : List (List Value)} (H : LentR w base v g bs more) (hb : Below w.heap.size w w1) : LentR w1 base v g bs more :=
  ⟨H.len, Kd.R_below H.row hb, fun i b p h1 h2 => (H.inn i b p h1 h2).move (hb.block _ (H.inn i b p h1 h2).lt), H.sep, H.lo⟩
/-- Behind an append to the row. -/
theorem LentR.grown {w w1 : World} {base : Nat} {v v1 : Value} {g : List S47} {bs : List (Nat × Nat)} {more more1 : List (List Value)} (H : LentR w base v g bs more) (hg : w.grownBy w1 v.ownBlock)
    (ho : (Kd.raw 8).R 47 w1 base (fun _ => True) v1 (List.zipWith rowC g bs ++ more1)) : LentR w1 base v1 g bs more1 := by
  refine ⟨H.len, ho, fun i b p h1 h2 => ?_, H.sep, H.lo⟩
  have hi := H.inn i b p h1 h2
  obtain ⟨cells, hc⟩ := hi.typed
  exact hi.move (hg.block _ hi.lt (Kd.R_ne H.row hc (by decide)))
theorem LentR.snoc {w : World} {base : Nat} {v : Value} {g : List S47} {bs : List (Nat × Nat)} {b : S47} {p : Nat × Nat} (H : LentR w base v g bs [rowC b p]) (hi : Inner w p.1 b.f0 p.2) (hn : ∀ q ∈ bs, q.1 ≠ p.1) (hl : base ≤ p.1) : LentR w base v (g ++ [b]) (bs ++ [p]) [] := by
  refine ⟨by rw [List.length_append, List.length_append, H.len]; rfl, ?_, fun i b' p' h1 h2 => ?_, ?_, ?_⟩
  · rw [List.append_nil, List.zipWith_append H.len.symm]
    exact H.row
  · by_cases h : i < g.length
    · rw [List.getElem?_append_left h] at h1
      rw [List.getElem?_append_left (by have := H.len; omega)] at h2
      exact H.inn i b' p' h1 h2
    · have hl := H.len
      rw [List.getElem?_append_right (by omega)] at h1 h2
      rw [hl] at h2
      have h0 : i - g.length = 0 := by
        have := (List.getElem?_eq_some_iff.1 h1).1
        simp at this
        omega
      rw [h0] at h1 h2
      have e1 : b = b' := by simpa using h1
      have e2 : p = p' := by simpa using h2
      rw [← e1, ← e2]
      exact hi
  · refine List.pairwise_append.2 ⟨H.sep, List.pairwise_singleton _ _, fun q hq r hr => ?_⟩
    rw [List.mem_singleton.1 hr]
    exact hn q hq
  · intro q hq
    rcases List.mem_append.1 hq with h | h
    · exact H.lo q h
    · rw [List.mem_singleton.1 h]; exact hl
/-- One round of LendBlocks. -/
theorem LentR.round {w wr W w5 : World} {v v1 : Value} {g : List S47} {bs : List (Nat × Nat)} {b : S47} {g2 c2 : Nat} (H : LentR wr w.heap.size v g bs []) (hB : Below w.heap.size w wr) (hb : Below wr.heap.size wr W) (hi : Inner W g2 b.f0 c2) (hge : wr.heap.size ≤ g2)
    (ho : (Kd.raw 8).R 47 w5 w.heap.size (fun _ => True) v1 (List.zipWith rowC g bs ++ [rowC b (g2, c2)])) (hg : W.grownBy w5 v.ownBlock) : LentR w5 w.heap.size v1 (g ++ [b]) (bs ++ [(g2, c2)]) [] := by
  have h1 := H.below hb
  obtain ⟨cells, hc⟩ := hi.typed
  refine ((h1.grown hg ho)).snoc (hi.move (hg.block _ hi.lt (Kd.R_ne h1.row hc (by decide)))) (fun q hq => ?_) (by have := hB.size; show w.heap.size ≤ g2; omega)
  have := H.ltb q hq
  show q.1 ≠ g2
  omega
/-- A row that was just made, element by element. -/
theorem reads_new {α : Type} {R : α → List Value → Prop} {size : Nat} (hl : ∀ x cs, R x cs → cs.length = size) (W : World) (e : Nat) (xs : List α) (inner : List Value) (hrep : Reps R size xs inner) (hm : xs.length ≤ 9223372036854775807) :
    ReadsRow R size (W.alloc (.cells inner.toArray e)) (some ⟨W.heap.size, 0, none⟩) xs.length xs := by
  refine ⟨rfl, hm, fun _ => ⟨_, rfl, fun j p hj => ?_⟩⟩
  have hk := hrep.2 j p hj
  refine ⟨_, hl _ _ hk, hk, fun i u hu => ?_⟩
  have hil : i < size := by
    have := (List.getElem?_eq_some_iff.1 hu).1
    rw [hl _ _ hk] at this
    exact this
  rw [List.getElem?_take, if_pos hil, List.getElem?_drop] at hu
  have := blk_cell (blk_new W (.cells inner.toArray e)) (j * size + i)
  rw [List.getElem?_toArray, hu] at this
  have ha : (⟨W.heap.size, 0, none⟩ : Addr).add (j * size + i) = ⟨W.heap.size, j * size + i, none⟩ := by
    rw [Go.WideShapes.add_plain, Nat.zero_add]
  rw [ha]
  exact this
theorem rowE_reads (W : World) : ReadsRow ((Kd.raw 8).K W) 8 (W.alloc (.cells #[.slice none 0 0, .int .i64 77, .int .u16 0, .int .u8 0, .int .u8 0, .int .u32 0, .int .i64 0, .int .i64 0, .slice none 0 0, .int .i64 77, .int .u16 0, .int .u8 0, .int .u8 0, .int .u32 0, .int .i64 0, .int .i64 0] 47)) (some ⟨W.heap.size, 0, none⟩) 2 [rowE, rowE] :=
  reads_new (fun x cs h => (Kd.raw 8).K_len h) W 47 [rowE, rowE] (rowE ++ rowE) (by
    have := Reps.snoc (Reps.snoc (Reps.none ((Kd.raw 8).K W) 8) (p := rowE) (c := rowE) ⟨rfl, rfl, rowE_one⟩ rfl) (p := rowE) (c := rowE) ⟨rfl, rfl, rowE_one⟩ rfl
    simp only [List.nil_append, List.singleton_append] at this
    exact this) (by simp)
set_option maxHeartbeats 4000000 in
set_option maxRecDepth 100000 in
theorem lendb_calls (w : World) (g : List S47) (A : Option Addr) (c : Nat) (HG : Kd.C k47 w A g.length g) (hc : g.length ≤ c) (hF : ∀ b ∈ g, (b.f0.length + 4) * 8 ≤ 140737488355328) (hg : (g.length + 2) * 56 ≤ 140737488355328) :
    Calls Try.prog 15 #[.slice A g.length c] w fun e w' => ∃ gb cap bs, e = .returned (.slice (some ⟨gb, 0, none⟩) g.length cap) ∧ LentR w' w.heap.size (.slice (some ⟨gb, 0, none⟩) (g.length + 2) cap) g bs [rowE, rowE] ∧ Below w.heap.size w w' := by
  have hui := Try.underlying22
  have HA := Aside0.mk HG
  have HCA := Aside0.mk hc
  have HF := Aside0.mk hF
  clear HG hc hF
  go_enter Try.func15, Try.ntmps15
  go_wp2
  go_loopw [3, 4] (fun v3 v4 wr => ∃ (j : Nat) (bs : List (Nat × Nat)), j ≤ g.length ∧ v4 = .int .i64 j ∧ Aside0 (LentR wr w.heap.size v3 (g.take j) bs []) ∧ Aside0 (Below w.heap.size w wr)) (fun _ v4 _ => g.length - (intOf v4).toNat)
  case atStart => exact ⟨0, [], Nat.zero_le _, rfl, ⟨LentR.nil _ _⟩, ⟨Below.refl _ _⟩⟩
  case round =>
    obtain ⟨j, bs, hj, rfl, HL, HB⟩ := hrel
    by_cases hlt : j < g.length
    · have hltb : decide (j < g.length) = true := decide_eq_true hlt
      obtain ⟨a1, A1, c1, rfl, x0, x1, x2, x3, x4, x5, x6, x7, hl1, hi1⟩ := at_T47 HA.out (j : Int) (by omega) (by omega)
      have hbl := HB.out
      replace x0 := pw_cell_below hbl x0
      replace x1 := pw_cell_below hbl x1
      replace x2 := pw_cell_below hbl x2
      replace x3 := pw_cell_below hbl x3
      replace x4 := pw_cell_below hbl x4
      replace x5 := pw_cell_below hbl x5
      replace x6 := pw_cell_below hbl x6
      replace x7 := pw_cell_below hbl x7
      rw [Int.toNat_natCast] at x0 x1 x2 x3 x4 x5 x6 x7
      have hfl := HF.out _ (rdB_mem (i := (j : Int)) (by omega) (by omega))
      have htk : g.take j ++ [rd_T47 g (j : Int)] = g.take (j + 1) := by rw [List.take_succ_eq_append_getElem hlt, rdB_at hlt]
      have HT := Aside0.mk htk
      generalize rd_T47 g (j : Int) = b at *
      have HI := Aside0.mk (And.intro (Kd.C_below hi1 hbl) (And.intro hl1 hfl))
      have p0 : (0 : Int) ≤ (j : Int) := by omega
      have p1 : (j : Int) < (g.length : Int) := by omega
      have hlw := a1_lt x0
      clear hi1 hl1 hfl hbl htk
      go_wp2_with fail
      refine (lendi_calls _ b.f0 A1 c1 (Kd.C_alloc HI.out.1 _) HI.out.2.1 HI.out.2.2).mono ?_
      rintro e w2 ⟨g2, c2, rfl, hi2, hge, hb2⟩
      have hbx := blk_below (blk_new wr (.cells #[.slice A1 b.f0.length c1, .int .i64 b.f1, .int .u16 b.f2.f0, .int .u8 b.f2.f1, .int .u8 b.f2.f2, .int .u32 b.f2.f3, .int .i64 b.f3, .int .i64 b.f4] 47)) hb2
      have y0 : w2.cell? ⟨wr.heap.size, 0, none⟩ = some (.slice A1 b.f0.length c1) := (blk_cell hbx 0).trans rfl
      have y1 : w2.cell? ⟨wr.heap.size, 1, none⟩ = some (.int .i64 b.f1) := (blk_cell hbx 1).trans rfl
      have y2 : w2.cell? ⟨wr.heap.size, 2, none⟩ = some (.int .u16 b.f2.f0) := (blk_cell hbx 2).trans rfl
      have y3 : w2.cell? ⟨wr.heap.size, 3, none⟩ = some (.int .u8 b.f2.f1) := (blk_cell hbx 3).trans rfl
      have y4 : w2.cell? ⟨wr.heap.size, 4, none⟩ = some (.int .u8 b.f2.f2) := (blk_cell hbx 4).trans rfl
      have y5 : w2.cell? ⟨wr.heap.size, 5, none⟩ = some (.int .u32 b.f2.f3) := (blk_cell hbx 5).trans rfl
      have y6 : w2.cell? ⟨wr.heap.size, 6, none⟩ = some (.int .i64 b.f3) := (blk_cell hbx 6).trans rfl
      have y7 : w2.cell? ⟨wr.heap.size, 7, none⟩ = some (.int .i64 b.f4) := (blk_cell hbx 7).trans rfl
      have yf := blk_frozen hbx 0
      have HW := Aside0.mk (show Below wr.heap.size wr (w2.setCell ⟨wr.heap.size, 0, none⟩ (.slice (some ⟨g2, 0, none⟩) b.f0.length c2)) from below_set (below_step (below_alloc (Below.refl _ _) _) hb2) (Nat.le_refl _))
      have HI2 := Aside0.mk (show Inner (w2.setCell ⟨wr.heap.size, 0, none⟩ (.slice (some ⟨g2, 0, none⟩) b.f0.length c2)) g2 b.f0 c2 from hi2.move (Below.heap_setCell w2 ⟨wr.heap.size, 0, none⟩ _ g2 (by rw [World.size_alloc] at hge; show g2 ≠ wr.heap.size; omega)))
      have HGE := Aside0.mk (show wr.heap.size ≤ g2 by rw [World.size_alloc] at hge; omega)
      have HSZ := Aside0.mk (show (w2.setCell ⟨wr.heap.size, 0, none⟩ (.slice (some ⟨g2, 0, none⟩) b.f0.length c2)).heap.size = w2.heap.size by simp [World.setCell])
      have HLN := Aside0.mk (show (List.zipWith rowC (g.take j) bs).length = j by rw [List.length_zipWith, HL.out.len, List.length_take]; omega)
      clear hbx hb2 hi2 hge
      go_wp2_with (at_builtin; go_loud ((refine Kd.R_append (Kd.raw 8) (w0 := w) (W := w2.setCell ⟨wr.heap.size, 0, none⟩ (.slice (some ⟨g2, 0, none⟩) b.f0.length c2)) w.heap.size rfl (.tmp 23) (.tmp 25) 22 47 (.agg #[.slice none 0 0, .int .i64 0, .int .u16 0, .int .u8 0, .int .u8 0, .int .u32 0, .int .i64 0, .int .i64 0]) 56 rfl hui info47 rfl (by decide) (by decide) _ _ (rowC b (g2, c2)) (rowC b (g2, c2)) (fun _ => True) (fun _ => False) rfl (by rw [HSZ.out]; rfl) ⟨rfl, rfl, rowC_one _ _⟩ (fun _ h => h.elim) (fun _ _ => trivial) (HL.out.below HW.out).row (below_step HB.out HW.out) (below_step HB.out HW.out).size (by rw [List.append_nil, HLN.out]; omega) ?_); intro v1 w5 ho hb hg hat; rw [List.append_nil] at ho; have HN := Aside0.mk (HL.out.round HB.out HW.out HI2.out HGE.out ho hg); have HB5 := Aside0.mk hb; clear ho hb hg hat))
      rw [HT.out] at HN
      go_roundw
      case rel => exact ⟨j + 1, _, by omega, by go_num, HN, HB5⟩
      case measure => simp [intOf]; omega
    · have hltb : decide (j < g.length) = false := decide_eq_false hlt
      have hjl : j = g.length := by omega
      subst hjl
      rw [List.take_length] at HL
      have HE := Aside0.mk (rowE_reads wr)
      have HLN := Aside0.mk (show (List.zipWith rowC g bs).length = g.length by rw [List.length_zipWith, HL.out.len]; omega)
      go_wp2_with (at_builtin; go_loud ((refine Kd.R_append_rows (Kd.raw 8) (w0 := w) w.heap.size rfl (.tmp 27) (.tmp 30) 22 47 (.agg #[.slice none 0 0, .int .i64 0, .int .u16 0, .int .u8 0, .int .u8 0, .int .u32 0, .int .i64 0, .int .i64 0]) 56 rfl hui info47 rfl (by decide) (by decide) _ _ [rowE, rowE] _ 2 2 (fun _ => True) (fun _ => False) rfl rfl (Kd.R_alloc HL.out.row _) HE.out (fun x cs h => h) (fun _ h => h.elim) (fun _ _ => trivial) (below_alloc HB.out _) (below_alloc HB.out _).size (by rw [List.append_nil, HLN.out]; omega) ?_); intro v1 w5 ho hb hg hat; rw [List.append_nil] at ho; obtain ⟨g1, c1, e1, hge, _, _⟩ := Kd.R_form ho (by simp); rw [show (List.zipWith rowC g bs ++ [rowE, rowE]).length = g.length + 2 by rw [List.length_append, HLN.out]; rfl] at e1; subst e1; have hcb := (R_blk ho).2.2.1; have hcb2 : (g.length : Int) ≤ (c1 : Int) := (by omega); have HN := Aside0.mk ((HL.out.below (below_alloc (Below.refl _ _) _)).grown hg ho); have HB5 := Aside0.mk hb; clear ho hb hg hat))
      go_wp2
      go_ret
      exact ⟨g1, c1, bs, rfl, HN.out, HB5.out⟩
end Go.Proofs.Ytdkalnkplgfgoaa.Ln
namespace Go.Proofs.Ytdkalnkplgfgoaa.Ln
open Go.RowKit Go.Maps Go.Proofs.YtdkalnkplgfgoaaW.PrintWords Go.Proofs.YtdkalnkplgfgoaaW.PrintLast Go.Proofs.YtdkalnkplgfgoaaW.PrintMore Go.Proofs.Ytdkalnkplgfgoaa.PA
set_option linter.unusedVariables false
set_option linter.unusedSimpArgs false
theorem LentR.rowAt {w : World} {base gb n cap : Nat} {g : List S47} {bs : List (Nat × Nat)} {more : List (List Value)} (H : LentR w base (.slice (some ⟨gb, 0, none⟩) n cap) g bs more) {j : Nat} {r : List Value} (hj : (List.zipWith rowC g bs ++ more)[j]? = some r) :
    r.length = 8 ∧ ∀ i u, r[i]? = some u → w.cell? ⟨gb, j * 8 + i, none⟩ = some u := by
  have hC := (Kd.R_reads' H.row).2.2
  obtain ⟨_, _, hr⟩ := hC
  have hl := (List.getElem?_eq_some_iff.1 hj).1
  obtain ⟨ad, e, hc⟩ := hr (by omega)
  obtain rfl : (⟨gb, 0, none⟩ : Addr) = ad := by injection e
  obtain ⟨c, hcl, hk, hcc⟩ := hc j r hj
  obtain rfl : c = r := hk.1
  refine ⟨hcl, fun i u hu => ?_⟩
  have := hcc i u hu
  rw [Go.WideShapes.add_plain, Nat.zero_add] at this
  exact this
theorem LentR.at {w : World} {base gb n cap : Nat} {g : List S47} {bs : List (Nat × Nat)} {more : List (List Value)} (H : LentR w base (.slice (some ⟨gb, 0, none⟩) n cap) g bs more) {j : Nat} {b : S47} {p : Nat × Nat} (hb : g[j]? = some b) (hp : bs[j]? = some p) : (List.zipWith rowC g bs ++ more)[j]? = some (rowC b p) := by
  have h1 := (List.getElem?_eq_some_iff.1 hb).1
  have h2 := (List.getElem?_eq_some_iff.1 hp).1
  rw [List.getElem?_append_left (by rw [List.length_zipWith]; omega), List.getElem?_zipWith, hb, hp]
/-- What is lent, read as a graph. -/
theorem LentR.C {w : World} {base gb n cap : Nat} {g : List S47} {bs : List (Nat × Nat)} {more : List (List Value)} (H : LentR w base (.slice (some ⟨gb, 0, none⟩) n cap) g bs more) (hl : g.length ≤ 9223372036854775807) : Kd.C k47 w (some ⟨gb, 0, none⟩) g.length g := by
  refine ⟨rfl, hl, fun _ => ⟨_, rfl, fun j b hb => ?_⟩⟩
  have hjl := (List.getElem?_eq_some_iff.1 hb).1
  have hlen := H.len
  obtain ⟨p, hp⟩ : ∃ p, bs[j]? = some p := ⟨bs[j]'(by omega), List.getElem?_eq_getElem (by omega)⟩
  have hr := H.rowAt (H.at hb hp)
  have hi := (H.inn j b p hb hp).read
  refine ⟨rowC b p, rfl, k47_mk w b (by have := hi.2.1; omega) hi.1, fun i u hu => ?_⟩
  rw [Go.WideShapes.add_plain, Nat.zero_add]
  exact hr.2 i u hu
/-- KeptBlocks under way: from i on nothing has changed. -/
structure KB (w wr : World) (base h1 gb n cap : Nat) (g : List S47) (bs : List (Nat × Nat)) (i : Nat) : Prop where
  kp : Kp (fun k => base ≤ k ∧ k < h1) w wr
  row : (Kd.raw 8).R 47 wr base (fun _ => True) (.slice (some ⟨gb, 0, none⟩) n cap) (List.zipWith rowC g bs ++ [rowE, rowE])
  inn : ∀ (j : Nat) (b : S47) (p : Nat × Nat), i ≤ j → g[j]? = some b → bs[j]? = some p → Inner wr p.1 b.f0 p.2
theorem Kp.cell {S : Nat → Prop} {w w1 : World} (h : Kp S w w1) {a : Addr} {u : Value} (hc : w.cell? a = some u) (hS : ¬ S a.block) : w1.cell? a = some u :=
  (World.cell?_of_block (h.block a.block (World.block_lt_of_cell? w a hc) hS)).trans hc
theorem block_add' (a : Addr) (i : Nat) : (a.add i).block = a.block := by unfold Addr.add; split <;> rfl
theorem KB.cell {w wr : World} {base h1 gb n cap : Nat} {g : List S47} {bs : List (Nat × Nat)} {i : Nat} {b : S47} {p : Nat × Nat} (H : KB w wr base h1 gb n cap g bs i) (hb : g[i]? = some b) (hp : bs[i]? = some p) : wr.cell? ⟨gb, i * 8, none⟩ = some (.slice (some ⟨p.1, 0, none⟩) b.f0.length p.2) := by
  have hC := (Kd.R_reads' H.row).2.2
  obtain ⟨_, _, hr⟩ := hC
  have h1 := (List.getElem?_eq_some_iff.1 hb).1
  have h2 := (List.getElem?_eq_some_iff.1 hp).1
  obtain ⟨ad, e, hc⟩ := hr (by simp)
  obtain rfl : (⟨gb, 0, none⟩ : Addr) = ad := by injection e
  obtain ⟨c, hcl, hk, hcc⟩ := hc i (rowC b p) (by rw [List.getElem?_append_left (by rw [List.length_zipWith]; omega), List.getElem?_zipWith, hb, hp])
  obtain rfl : c = rowC b p := hk.1
  have := hcc 0 _ rfl
  rw [Go.WideShapes.add_plain, Nat.zero_add] at this
  exact this
theorem KB.next {w wr w2 : World} {base h1 gb n cap : Nat} {g : List S47} {bs : List (Nat × Nat)} {i : Nat} {b : S47} {p : Nat × Nat} (H : KB w wr base h1 gb n cap g bs i) (hsep : bs.Pairwise (fun p q => p.1 ≠ q.1)) (hb : g[i]? = some b) (hp : bs[i]? = some p) (hlo : base ≤ p.1) (hhi : p.1 < h1)
    (k : Kp (fun x => x = p.1) wr w2) : KB w w2 base h1 gb n cap g bs (i + 1) := by
  obtain ⟨cells, hc⟩ := (H.inn i b p (Nat.le_refl _) hb hp).typed
  refine ⟨H.kp.trans ⟨k.os, k.tape, k.output, k.size, fun x hx hS => k.block x hx (fun e => hS (by rw [e]; exact ⟨hlo, hhi⟩))⟩, ?_, fun j b' p' hj h1 h2 => ?_⟩
  · refine R_kp H.row (S := fun x => x = p.1) (fun x e => .inl ⟨_, _, _, e ▸ hc, by decide⟩) k
  · have hi := H.inn j b' p' (by omega) h1 h2
    refine hi.move (k.block _ hi.lt (fun e => ?_))
    have hne := List.pairwise_iff_getElem.1 hsep i j (List.getElem?_eq_some_iff.1 hp).1 (List.getElem?_eq_some_iff.1 h2).1 (by omega)
    rw [(List.getElem?_eq_some_iff.1 hp).2, (List.getElem?_eq_some_iff.1 h2).2] at hne
    exact hne e.symm
set_option maxHeartbeats 4000000 in
set_option maxRecDepth 100000 in
theorem keptb_calls (w00 w : World) (g : List S47) (A : Option Addr) (c gb cap : Nat) (bs : List (Nat × Nat)) (HL : LentR w w00.heap.size (.slice (some ⟨gb, 0, none⟩) (g.length + 2) cap) g bs [rowE, rowE]) (HG : Kd.C k47 w00 A g.length g) (hc : g.length ≤ c) (hb : Below w00.heap.size w00 w)
    (hF : ∀ b ∈ g, (b.f0.length + 4) * 8 ≤ 140737488355328) (hg : (g.length + 2) * 56 ≤ 140737488355328) (h1 : Nat) (hgb : gb < h1) (hbs : ∀ p ∈ bs, p.1 < h1) :
    Calls Try.prog 17 #[.slice (some ⟨gb, 0, none⟩) g.length cap, .slice A g.length c] w fun e w' => e = .returned (.bool true) ∧ Kp (fun k => w00.heap.size ≤ k ∧ k < h1) w w' := by
  have hcap := (R_blk HL.row).2.2
  have hcm := hcap.2
  have hgl := (R_blk HL.row).2.1
  unfold maxLen at hcm
  have HB0 := Aside0.mk (R_blk HL.row).1
  have q1 : (g.length : Int) + 2 ≤ (cap : Int) := by omega
  have hlen := HL.len
  have hlz : (List.zipWith rowC g bs).length = g.length := by rw [List.length_zipWith, hlen]; omega
  have e1 := HL.rowAt (j := g.length) (r := rowE) (by rw [List.getElem?_append_right (by omega), hlz, Nat.sub_self]; rfl)
  have e2 := HL.rowAt (j := g.length + 1) (r := rowE) (by rw [List.getElem?_append_right (by omega), hlz, Nat.add_sub_cancel_left]; rfl)
  have z1 := e1.2 1 (.int .i64 77) rfl
  have z2 := e2.2 1 (.int .i64 77) rfl
  clear e1 e2
  have HA := Aside0.mk HG
  have HCA := Aside0.mk hc
  have HLC := Aside0.mk (HL.C (by omega))
  have HBW := Aside0.mk hb
  have HFF := Aside0.mk hF
  have HBS := Aside0.mk hbs
  have HLL := Aside0.mk HL
  clear HG hc hb hF hbs HL
  go_enter Try.func17, Try.ntmps17
  go_wp2_with fail
  refine (sameb_calls _ g _ A cap c HLC.out (by omega) (Kd.C_below HA.out HBW.out) HCA.out (fun b hb => by have := HFF.out b hb; omega) (by omega)).mono ?_
  rintro e w1 ⟨rfl, ⟨nd, rfl⟩⟩
  go_wp2
  have HK0 := Aside0.mk (KB.mk (w := w) (wr := w.drewN nd) (base := w00.heap.size) (h1 := h1) (g := g) (bs := bs) (i := 0) ((Kp.refl _ w).below (pw_below_drewN (Below.refl _ _) _)) (Kd.R_drewN HLL.out.row _) (fun j b p _ h2 h3 => (HLL.out.inn j b p h2 h3).move rfl))
  have HSEP := Aside0.mk HLL.out.sep
  have HLO := Aside0.mk HLL.out.lo
  clear z1 z2 HLC HLL
  go_loopw [6, 7] (fun v6 v7 wr => ∃ i : Nat, i ≤ g.length ∧ v6 = .bool true ∧ v7 = .int .i64 i ∧ Aside0 (KB w wr w00.heap.size h1 gb (g.length + 2) cap g bs i)) (fun _ v7 _ => g.length - (intOf v7).toNat)
  case atStart => exact ⟨0, Nat.zero_le _, rfl, rfl, HK0⟩
  case round =>
    clear HK0
    obtain ⟨i, hi, rfl, rfl, HK⟩ := hrel
    by_cases hlt : i < g.length
    · have hltb : decide (i < g.length) = true := decide_eq_true hlt
      have hp : bs[i]? = some bs[i] := List.getElem?_eq_getElem (by omega)
      have hb : g[i]? = some g[i] := List.getElem?_eq_getElem hlt
      have hpm : bs[i] ∈ bs := List.getElem_mem _
      have HLi := Aside0.mk (fun (hh : LentR wr w00.heap.size (.slice (some ⟨gb, 0, none⟩) (g.length + 2) cap) g bs [rowE, rowE]) => hh)
      have hbw := HK.out.kp.toBelow HBW.out HBW.out.size (fun k hk => hk.1)
      obtain ⟨a1, A1, c1, e0, x0, _, _, _, _, _, _, _, hl1, hi1⟩ := at_T47 (Kd.C_below HA.out hbw) (i : Int) (by omega) (by omega)
      subst e0
      rw [Int.toNat_natCast] at x0
      rw [rdB_at hlt] at x0 hl1 hi1
      have y0 : wr.cell? ⟨gb, i * 8, none⟩ = some (.slice (some ⟨bs[i].1, 0, none⟩) g[i].f0.length bs[i].2) := KB.cell HK.out hb hp
      have hin := HK.out.inn i _ _ (Nat.le_refl _) hb hp
      have hfl := HFF.out _ (List.getElem_mem hlt)
      have HNX := Aside0.mk (fun w2 (k : Kp (fun x => x = bs[i].1) wr w2) => HK.out.next HSEP.out hb hp (HLO.out _ hpm) (HBS.out _ hpm) k)
      have hge := HLO.out _ hpm
      have hat : a1.block < w00.heap.size := by
        obtain ⟨a9, _, _, e9, z9, _⟩ := at_T47 HA.out (i : Int) (by omega) (by omega)
        injection e9 with e9
        subst e9
        have := World.block_lt_of_cell? _ _ z9
        rw [block_add'] at this
        exact this
      have hcl : ∀ w3, Kp (fun x => x = bs[i].1) wr.drew w3 → w3.cell? ⟨gb, i * 8, none⟩ = some (.slice (some ⟨bs[i].1, 0, none⟩) g[i].f0.length bs[i].2) ∧ w3.cell? (a1.add (i * 8)) = some (.slice A1 g[i].f0.length c1) := by
        intro w3 hk
        obtain ⟨cl, hcl⟩ := hin.typed
        obtain ⟨cr, hcr⟩ := Kd.R_typed HK.out.row gb rfl
        refine ⟨hk.cell (w := wr.drew) y0 (fun e => ?_), hk.cell (w := wr.drew) x0 (fun e => ?_)⟩
        · have e' : gb = bs[i].1 := e
          rw [e', hcl] at hcr
          cases hcr
        · rw [block_add'] at e
          omega
      have HCL := Aside0.mk hcl
      generalize g[i] = b at *
      generalize bs[i] = p at *
      have HI := Aside0.mk (And.intro hin (And.intro hi1 (And.intro hl1 hfl)))
      have p0 : (0 : Int) ≤ (i : Int) := by omega
      have p1 : (i : Int) < (g.length : Int) := by omega
      clear hcl hge hat hp hb hpm HLi hbw hin hi1 hl1 hfl HK
      go_wp2
      go_region_held3 (fun w' => w'.cell? ⟨gb, i * 8, none⟩ = some (.slice (some ⟨p.1, 0, none⟩) b.f0.length p.2) ∧ w'.cell? (a1.add (i * 8)) = some (.slice A1 b.f0.length c1)) (first | exact ⟨y0, x0⟩ | exact HCL.out _ hk) ((go_at_call 47; refine (keepi_calls wr.drew p.1 p.2 b.f0 A1 c1 (HI.out.1.move rfl) (Kd.C_drew HI.out.2.1) HI.out.2.2.1 HI.out.2.2.2).mono ?_; rintro e w3 ⟨rfl, hk⟩))
      have HK3 := Aside0.mk (HNX.out _ (Kp.trans (Kp.below (Kp.refl (fun x => x = p.1) wr) (below_drew1 (Below.refl _ _))) hk))
      clear hk
      go_wp2
      go_roundw
      case rel => exact ⟨i + 1, by omega, rfl, by go_num, HK3⟩
      case measure => simp [intOf]; omega
    · have hltb : decide (i < g.length) = false := decide_eq_false hlt
      have HG5 := Aside0.mk (show (fun k => w00.heap.size ≤ k ∧ k < h1) gb ∨ w.heap.size ≤ gb from .inl ⟨hgl, hgb⟩)
      have HS := Aside0.mk (And.intro HK.out.kp (show Blk wr gb 47 (cap * 8) from (R_blk HK.out.row).1))
      clear HK hlt hi
      obtain ⟨wo, rfl⟩ : ∃ wo : World, wo = wr := ⟨_, rfl⟩
      go_wp2
      go_loopw [8] (fun v8 wr => ∃ j : Nat, j ≤ g.length + 2 ∧ v8 = .int .i64 j ∧ Aside0 (Kp (fun k => w00.heap.size ≤ k ∧ k < h1) w wr ∧ Blk wr gb 47 (cap * 8))) (fun v8 _ => g.length + 2 - (intOf v8).toNat)
      case atStart => exact ⟨0, Nat.zero_le _, rfl, HS⟩
      case round =>
        clear HS hltb
        obtain ⟨j, hj, rfl, HS⟩ := hrel
        by_cases hlt : j < g.length + 2
        · have hlt2 : (j : Int) < (g.length : Int) + 2 := by omega
          obtain ⟨⟨u0, x0⟩, f0⟩ := HS.out.2.cell (j * 8) (by omega)
          obtain ⟨⟨u1, x1⟩, f1⟩ := HS.out.2.cell (j * 8 + 1) (by omega)
          obtain ⟨⟨u2, x2⟩, f2⟩ := HS.out.2.cell (j * 8 + 2) (by omega)
          obtain ⟨⟨u3, x3⟩, f3⟩ := HS.out.2.cell (j * 8 + 3) (by omega)
          obtain ⟨⟨u4, x4⟩, f4⟩ := HS.out.2.cell (j * 8 + 4) (by omega)
          obtain ⟨⟨u5, x5⟩, f5⟩ := HS.out.2.cell (j * 8 + 5) (by omega)
          obtain ⟨⟨u6, x6⟩, f6⟩ := HS.out.2.cell (j * 8 + 6) (by omega)
          obtain ⟨⟨u7, x7⟩, f7⟩ := HS.out.2.cell (j * 8 + 7) (by omega)
          go_wp2
          go_roundw
          case rel => exact ⟨j + 1, by omega, by go_num, ⟨((((((((HS.out.1.set HG5.out _ _).set HG5.out _ _).set HG5.out _ _).set HG5.out _ _).set HG5.out _ _).set HG5.out _ _).set HG5.out _ _).set HG5.out _ _), ((((((((HS.out.2.set _ _ _).set _ _ _).set _ _ _).set _ _ _).set _ _ _).set _ _ _).set _ _ _).set _ _ _)⟩⟩
          case measure => simp [intOf]; omega
        · have hlt2 : ¬ (j : Int) < (g.length : Int) + 2 := by omega
          go_wp2
          go_ret
          exact ⟨rfl, HS.out.1⟩
end Go.Proofs.Ytdkalnkplgfgoaa.Ln
namespace Go.Proofs.Ytdkalnkplgfgoaa.Ln
open Go.RowKit Go.Maps Go.Proofs.YtdkalnkplgfgoaaW.PrintWords Go.Proofs.YtdkalnkplgfgoaaW.PrintLast Go.Proofs.YtdkalnkplgfgoaaW.PrintMore Go.Proofs.Ytdkalnkplgfgoaa.PA
set_option linter.unusedVariables false
set_option linter.unusedSimpArgs false
/-- p is the program that Linear makes of g. -/
def IsProg (g : List S47) (p : List S45) : Prop := ∃ (R : List Bool) (PL : Int → Int) (f : Int → Bool × Bool), R.length = g.length ∧ (∀ i : Int, 0 ≤ i → i < g.length → (rdOf false R i = true ↔ Rch g i)) ∧
  plIt g (stepO R g.length).2 (stepO R g.length).1 10000 (fun _ => (false, false)) = some (PL, f) ∧ p = wrGo g (stepO R g.length).2 PL f (stepO R g.length).1 []
theorem isProg_one {g : List S47} {p q : List S45} (h1 : IsProg g p) (h2 : IsProg g q) : p = q := by
  obtain ⟨R, PL, f, a1, a2, a3, rfl⟩ := h1
  obtain ⟨R', PL', f', b1, b2, b3, rfl⟩ := h2
  have e : R = R' := by
    refine List.ext_getElem (by omega) (fun i hi hi' => ?_)
    have h3 := (a2 (i : Int) (by omega) (by omega)).trans (b2 (i : Int) (by omega) (by omega)).symm
    have r1 : ∀ (L : List Bool) (h : i < L.length), rdOf false L (i : Int) = L[i] := by
      intro L h
      unfold rdOf
      rw [Int.toNat_natCast, List.getD_eq_getElem?_getD, List.getElem?_eq_getElem h]
      rfl
    rw [r1 R hi, r1 R' hi'] at h3
    exact Bool.eq_iff_iff.2 h3
  subst e
  rw [a3] at b3
  injection b3 with b3
  injection b3 with e1 e2
  rw [e1, e2]
theorem isProg_lay {g : List S47} {p : List S45} (h : IsProg g p) (htk : TkB g = true) (hms : msL g ≤ 4096) : (∃ O after PL f, Lay g O after PL f p) ∧ (p.length : Int) ≤ msL g := by
  obtain ⟨R, PL, f, a1, a2, a3, rfl⟩ := h
  obtain ⟨L, hl⟩ := lay_of htk hms a1 a2 a3
  exact ⟨⟨_, _, _, _, L⟩, hl⟩
theorem linear_is (w : World) (g : List S47) (A : Option Addr) (c : Nat) (HG : Kd.C k47 w A g.length g) (hc : g.length ≤ c) (hF : Fit g) (htk : TkB g = true) (hms : msL g ≤ 4096) :
    Calls Try.prog 16 #[.slice A g.length c] w fun e w' => ∃ (p : List S45) (v : Value), e = .returned (.tuple #[v, .int .i64 0]) ∧ IsProg g p ∧ k45.R 45 w' w.heap.size (fun _ => True) v p ∧ Below w.heap.size w w' := by
  have ho : ∀ R : List Bool, sumS (mkF g) (stepO R g.length).1 ≤ 4096 := by
    intro R
    obtain ⟨h1, h2, _, _⟩ := stepO_ord R g.length
    have := ord_ms g g.length _ h1 (fun i hi => ⟨((h2 i).1 hi).1, ((h2 i).1 hi).2.1⟩) (Nat.le_refl _)
    rw [List.take_length] at this
    omega
  refine (linear_ok 10000 10000 w g A c HG hc (msL g) (gmeasure hF htk 10000 (Nat.le_refl _)) hms (by rw [gtaken g hF 10000 (Nat.le_refl _), htk]; rfl) (tk_out htk).1 (tk_out htk).2.1 ?_ ?_ ?_ (Nat.le_refl _) ?_ ?_).mono ?_
  · intro i h0 h1 x hx
    have := tk_goal htk h0 h1 x hx
    omega
  · intro i h0 h1
    exact end_kind (tk_mem htk (rd_T47_mem h0 h1)).2.2
  · intro i h0 h1
    have := tk_wf htk h0 h1
    exact ⟨wf_i64 (by omega) (by omega), wf_i64 (by omega) (by omega)⟩
  · intro R _ _
    refine plIt_ends g _ _ 10000 _ ?_
    have h1 := cntW_two (fun _ => (false, false)) (stepO R g.length).1
    have h2 := ord_len g (stepO R g.length).1
    have h3 := ho R
    omega
  · intro R
    have h1 := sumL_eq g (stepO R g.length).1
    have h3 := ho R
    omega
  · rintro e w' ⟨R, PL, f, v, rfl, hR, hrch, hp, hr, hb⟩
    exact ⟨_, v, rfl, ⟨R, PL, f, hR, hrch, hp, rfl⟩, hr, hb⟩
theorem cpbs_l (g : List S47) (hg : g.length < 2513169434916) (hc : ∀ b ∈ g, b.f0.length < 17592186044416) : ∀ (d j : Nat), g.length - j = d → j ≤ g.length → ∀ k, d + 1 ≤ k → riddlelaw0_CopyBlocks.l0 k g (g.take j) (j : Int) = some g := by
  intro d
  induction d with
  | zero =>
    intro j hd hj k hk
    obtain ⟨k, rfl⟩ : ∃ m, k = m + 1 := ⟨k - 1, by omega⟩
    rw [riddlelaw0_CopyBlocks.l0, if_neg (by omega), List.take_of_length_le (by omega)]
  | succ d ih =>
    intro j hd hj k hk
    obtain ⟨k, rfl⟩ : ∃ m, k = m + 1 := ⟨k - 1, by omega⟩
    have hlt : j < g.length := by omega
    rw [riddlelaw0_CopyBlocks.l0, if_pos (by omega), if_pos (by omega), rdB_at hlt, cpi _ (hc _ (List.getElem_mem hlt)), Option.bind_some, if_pos (by rw [List.length_take]; omega), w64 (n := (j : Int) + 1) (by omega) (by omega)]
    have := ih (j + 1) (by omega) (by omega) k (by omega)
    rw [show ((j + 1 : Nat) : Int) = (j : Int) + 1 by omega, List.take_succ_eq_append_getElem hlt] at this
    exact this
theorem cpbs (g : List S47) (hg : g.length < 2513169434916) (hc : ∀ b ∈ g, b.f0.length < 17592186044416) : riddlelaw0_CopyBlocks.f (g.length + 1) g = some g :=
  cpbs_l g hg hc g.length 0 rfl (by omega) (g.length + 1) (by omega)
/-- A row whose blocks lie from base on is as it was, if nothing there has changed. -/
theorem R_from {α : Type} {d : Kd α} {e base : Nat} {w w1 : World} {v : Value} {xs : List α} {S : Nat → Prop} (h : d.R e w base (fun _ => True) v xs) (k : Kp S w w1) (hS : ∀ x, base ≤ x → ¬ S x) : d.R e w1 base (fun _ => True) v xs :=
  Kd.R_mono (Kd.R_step (Kd.R_mono (ok' := fun x => base ≤ x) (Kd.R_bound h) (fun x hx => hx.2.1)) (fun x hx hlt => k.block x hlt (hS x hx))) (fun _ _ => trivial)
/-- What is asked of a graph that is read. -/
structure Fine (g : List S47) : Prop where
  fit : Fit g
  kk : ∀ b ∈ g, (∀ i ∈ b.f0, 0 ≤ i.f3) ∧ 0 ≤ b.f2.f3
  code : ∀ b ∈ g, (b.f0.length + 4) * 8 ≤ 140737488355328
  long : (g.length + 2) * 56 ≤ 140737488355328
set_option maxHeartbeats 4000000 in
set_option maxRecDepth 100000 in
theorem progs_no (w : World) (g : List S47) (A : Option Addr) (c : Nat) (HG : Kd.C k47 w A g.length g) (hc : g.length ≤ c) (H : Fine g) (r : Int) (hr : riddlelaw18_code.f 10000 g = some r) (hn : r ≠ 0)
    (hlin : ∀ W A c, Kd.C k47 W A g.length g → g.length ≤ c → Calls Try.prog 16 #[.slice A g.length c] W fun e w' => e = .returned (.tuple #[.slice none 0 0, .int .i64 r]) ∧ Below W.heap.size W w') :
    Calls Try.prog 3 #[.slice A g.length c] w fun e w' => e = .returned (.bool true) ∧ Below w.heap.size w w' := by
  have h1 : (r != 0) = true := bne_iff_ne.mpr hn
  have h2 : (r == 0) = false := beq_eq_false_iff_ne.mpr hn
  have HGA := Aside0.mk HG
  have HCA := Aside0.mk hc
  have HR := Aside0.mk hr
  have HF := Aside0.mk H
  have HL := Aside0.mk hlin
  have HCP := Aside0.mk (cpbs g (by have := H.long; omega) (fun b hb => by have := H.code b hb; omega))
  clear HG hc hr H hlin
  go_enter Try.func3, Try.ntmps3
  go_wp2_with fail
  refine (riddlelaw18_code.calls 10000 A c g r _ HGA.out HCA.out HR.out).mono ?_
  rintro e w1 ⟨rfl, hb⟩
  have HB1 := Aside0.mk hb
  have HG1 := Aside0.mk (Kd.C_below HGA.out hb)
  clear hb
  go_wp2_with fail
  refine (lendb_calls w1 g A c HG1.out HCA.out HF.out.code HF.out.long).mono ?_
  rintro e w2 ⟨gb, cap, bs, rfl, hl, hb⟩
  have HL2 := Aside0.mk hl
  have HB2 := Aside0.mk hb
  clear hl hb
  go_wp2_with fail
  refine (HL.out w2 _ cap (HL2.out.C (by have := HF.out.long; omega)) (by have := (R_blk HL2.out.row).2.2.1; omega)).mono ?_
  rintro e w3 ⟨rfl, hb⟩
  have HL3 := Aside0.mk (HL2.out.below hb)
  have HB3 := Aside0.mk (below_step HB2.out hb)
  have HX := Aside0.mk (show gb < w2.heap.size ∧ ∀ p ∈ bs, p.1 < w2.heap.size from ⟨Kd.R_lt HL2.out.row gb rfl, HL2.out.ltb⟩)
  clear hb HL2
  go_wp2_with fail
  refine (keptb_calls w1 w3 g A c gb cap bs HL3.out HG1.out HCA.out HB3.out HF.out.code HF.out.long w2.heap.size HX.out.1 HX.out.2).mono ?_
  rintro e w4 ⟨rfl, hk⟩
  have HB4 := Aside0.mk (hk.toBelow HB3.out HB3.out.size (fun k hk => hk.1))
  clear hk HL3 HB3 HX
  go_wp2_with fail
  refine (riddlelaw0_CopyBlocks.calls (g.length + 1) A c g g _ (Kd.C_below HG1.out HB4.out) HCA.out HCP.out).mono ?_
  rintro e w5 ⟨v, rfl, hs, hb⟩
  obtain ⟨Ac, cc, rfl⟩ := Kd.R_slice (Kd.S_R hs)
  have HS := Aside0.mk (Kd.R_reads' (Kd.S_R hs))
  have HB5 := Aside0.mk (below_step HB4.out hb)
  clear hs hb HB4
  go_wp2_with fail
  refine (HL.out w5 Ac cc HS.out.2.2 HS.out.2.1).mono ?_
  rintro e w6 ⟨rfl, hb⟩
  have HB6 := Aside0.mk (below_step HB1.out (below_step HB5.out hb))
  clear hb HB5 HS
  go_wp2_with fail
  refine (riddlelaw0_SameInsns.calls 1 none 0 [] none 0 [] true _ (Kd.C_nil _ _) (Nat.le_refl _) (Kd.C_nil _ _) (Nat.le_refl _) (samei [] (by decide))).mono ?_
  rintro e w7 ⟨rfl, hd⟩
  have HB7 := Aside0.mk (below_step HB6.out hd.below)
  clear hd HB6
  go_wp2_with fail
  refine (awake_calls _).mono ?_
  rintro e w8 ⟨rfl, hb⟩
  have HB8 := Aside0.mk (below_step HB7.out hb)
  clear hb
  go_wp2
  go_ret
  exact ⟨rfl, HB8.out⟩
set_option maxHeartbeats 4000000 in
set_option maxRecDepth 100000 in
theorem progs_yes (w : World) (g : List S47) (A : Option Addr) (c : Nat) (HG : Kd.C k47 w A g.length g) (hc : g.length ≤ c) (H : Fine g) (htk : TkB g = true) (hms : msL g ≤ 4096) :
    Calls Try.prog 3 #[.slice A g.length c] w fun e w' => e = .returned (.bool true) ∧ Below w.heap.size w w' := by
  have hr : riddlelaw18_code.f 10000 g = some 0 := by rw [lcode H.fit 10000 (Nat.le_refl _), htk, if_pos rfl, if_neg (by omega)]
  have HGA := Aside0.mk HG
  have HCA := Aside0.mk hc
  have HR := Aside0.mk hr
  have HF := Aside0.mk H
  have HT := Aside0.mk (And.intro htk hms)
  have HCP := Aside0.mk (cpbs g (by have := H.long; omega) (fun b hb => by have := H.code b hb; omega))
  clear HG hc hr H htk hms
  go_enter Try.func3, Try.ntmps3
  go_wp2_with fail
  refine (riddlelaw18_code.calls 10000 A c g 0 _ HGA.out HCA.out HR.out).mono ?_
  rintro e w1 ⟨rfl, hb⟩
  have HB1 := Aside0.mk hb
  have HG1 := Aside0.mk (Kd.C_below HGA.out hb)
  clear hb
  go_wp2_with fail
  refine (lendb_calls w1 g A c HG1.out HCA.out HF.out.code HF.out.long).mono ?_
  rintro e w2 ⟨gb, cap, bs, rfl, hl, hb⟩
  have HL2 := Aside0.mk hl
  have HB2 := Aside0.mk hb
  clear hl hb
  go_wp2_with fail
  refine (linear_is w2 g _ cap (HL2.out.C (by have := HF.out.long; omega)) (by have := (R_blk HL2.out.row).2.2.1; omega) HF.out.fit HT.out.1 HT.out.2).mono ?_
  rintro e w3 ⟨p, v, rfl, hp, hr, hb⟩
  have HP := Aside0.mk hp
  have HLy := Aside0.mk (isProg_lay hp HT.out.1 HT.out.2)
  have hpl : 0 < p.length := by obtain ⟨O, after, PL, f, L⟩ := HLy.out.1; exact L.ends.1
  have hpl2 : p.length ≤ 4096 := by obtain ⟨O, after, PL, f, L⟩ := HLy.out.1; exact L.long
  obtain ⟨gx, cx, rfl, hgx, hgx2, _⟩ := Kd.R_form hr hpl
  have HX0 := Aside0.mk hr
  have HL3 := Aside0.mk (HL2.out.below hb)
  have HB3 := Aside0.mk (below_step HB2.out hb)
  have HX := Aside0.mk (show gb < w2.heap.size ∧ ∀ p ∈ bs, p.1 < w2.heap.size from ⟨Kd.R_lt HL2.out.row gb rfl, HL2.out.ltb⟩)
  clear hb HL2 hp hr
  go_wp2_with fail
  refine (keptb_calls w1 w3 g A c gb cap bs HL3.out HG1.out HCA.out HB3.out HF.out.code HF.out.long w2.heap.size HX.out.1 HX.out.2).mono ?_
  rintro e w4 ⟨rfl, hk⟩
  have HB4 := Aside0.mk (hk.toBelow HB3.out HB3.out.size (fun k hk => hk.1))
  have HX4 := Aside0.mk (R_from HX0.out hk (fun x hx hS => by omega))
  have hz4 := hk.size
  clear hk HL3 HB3 HX HX0
  go_wp2_with fail
  refine (riddlelaw0_CopyBlocks.calls (g.length + 1) A c g g _ (Kd.C_below HG1.out HB4.out) HCA.out HCP.out).mono ?_
  rintro e w5 ⟨v, rfl, hs, hb⟩
  obtain ⟨Ac, cc, rfl⟩ := Kd.R_slice (Kd.S_R hs)
  have HS := Aside0.mk (Kd.R_reads' (Kd.S_R hs))
  have HX5 := Aside0.mk (Kd.R_below HX4.out hb)
  have hz5 := hb.size
  have HB5 := Aside0.mk (below_step HB4.out hb)
  clear hs hb HB4 HX4
  go_wp2_with fail
  refine (linear_is w5 g Ac cc HS.out.2.2 HS.out.2.1 HF.out.fit HT.out.1 HT.out.2).mono ?_
  rintro e w6 ⟨p2, v, rfl, hp2, hr, hb⟩
  obtain rfl : p = p2 := isProg_one HP.out hp2
  obtain ⟨Ay, cy, rfl⟩ := Kd.R_slice hr
  have HY6 := Aside0.mk hr
  have HX6 := Aside0.mk (Kd.R_below HX5.out hb)
  have hz6 := hb.size
  have HB6 := Aside0.mk (below_step HB5.out hb)
  clear hb HB5 HS hp2 hr HX5
  have HSI := Aside0.mk (samei p (by omega))
  go_wp2_with fail
  refine (riddlelaw0_SameInsns.calls _ _ cx p Ay cy p true _ (Kd.R_reads' HX6.out).2.2 (Kd.R_reads' HX6.out).2.1 (Kd.R_reads' HY6.out).2.2 (Kd.R_reads' HY6.out).2.1 HSI.out).mono ?_
  rintro e w7 ⟨rfl, hd⟩
  have hb := hd.below
  have HX7 := Aside0.mk (Kd.R_below HX6.out hb)
  have HY7 := Aside0.mk (Kd.R_below HY6.out hb)
  have hz7 := hb.size
  have HB7 := Aside0.mk (below_step HB6.out hb)
  clear hd hb HB6 HX6 HY6
  obtain ⟨O, after, PL, f, L⟩ := HLy.out.1
  have HCk := Aside0.mk (L.check HF.out.kk 10000 (Nat.le_refl _))
  clear L
  go_wp2_with fail
  refine (riddleref4_Check.calls 10000 _ cx p 0 0 _ (Kd.R_reads' HX7.out).2.2 (Kd.R_reads' HX7.out).2.1 HCk.out).mono ?_
  rintro e w8 ⟨rfl, hb⟩
  have HX8 := Aside0.mk (Kd.R_below HX7.out hb)
  have HY8 := Aside0.mk (Kd.R_below HY7.out hb)
  have hz8 := hb.size
  have HB8 := Aside0.mk (below_step HB7.out hb)
  clear hb HB7 HX7 HY7
  have HCI := Aside0.mk (cpi p (by omega))
  go_wp2_with fail
  refine (riddlelaw0_CopyInsns.calls Ay cy p p _ (Kd.R_reads' HY8.out).2.2 (Kd.R_reads' HY8.out).2.1 HCI.out).mono ?_
  rintro e w9 ⟨v, rfl, hk, hb⟩
  obtain ⟨Ak, ck, rfl⟩ := Kd.R_slice hk
  have HX9 := Aside0.mk (Kd.R_below HX8.out hb)
  have HY9 := Aside0.mk (Kd.R_below HY8.out hb)
  have HK9 := Aside0.mk hk
  have hz9 := hb.size
  have HB9 := Aside0.mk (below_step HB8.out hb)
  clear hb hk HB8 HX8 HY8
  go_wp2_with fail
  refine (spoil_calls w9 gx p.length cx (R_blk HX9.out).1 (R_blk HX9.out).2.2.1 (by omega)).mono ?_
  rintro e w10 ⟨rfl, hk⟩
  have HY10 := Aside0.mk (R_from HY9.out hk (fun x hx hS => by omega))
  have HK10 := Aside0.mk (R_from HK9.out hk (fun x hx hS => by omega))
  have HB10 := Aside0.mk (hk.toBelow HB9.out HB9.out.size (fun k hk => by have := HB2.out.size; omega))
  clear hk HY9 HK9 HX9 HB9
  have hle : (p.length : Int) ≤ msL g := HLy.out.2
  have HME := Aside0.mk (rmeasure HT.out.1 10000 (Nat.le_refl _))
  go_wp2_with fail
  refine (riddleref15_Measure.calls 10000 A c g (msL g) _ (Kd.C_below HG1.out HB10.out) HCA.out HME.out).mono ?_
  rintro e w11 ⟨rfl, hd⟩
  have hb := hd.below
  have HY11 := Aside0.mk (Kd.R_below HY10.out hb)
  have HK11 := Aside0.mk (Kd.R_below HK10.out hb)
  have HB11 := Aside0.mk (below_step HB10.out hb)
  clear hd hb HY10 HK10 HB10
  go_wp2_with fail
  refine (riddlelaw0_SameInsns.calls _ _ cy p Ak ck p true _ (Kd.R_reads' HY11.out).2.2 (Kd.R_reads' HY11.out).2.1 (Kd.R_reads' HK11.out).2.2 (Kd.R_reads' HK11.out).2.1 HSI.out).mono ?_
  rintro e w12 ⟨rfl, hd⟩
  have HB12 := Aside0.mk (below_step HB1.out (below_step HB11.out hd.below))
  clear hd HB11
  go_wp2_with fail
  refine (awake_calls _).mono ?_
  rintro e w13 ⟨rfl, hb⟩
  have HB13 := Aside0.mk (below_step HB12.out hb)
  clear hb
  go_wp2
  go_ret
  exact ⟨rfl, HB13.out⟩
theorem progs_calls (w : World) (g : List S47) (A : Option Addr) (c : Nat) (HG : Kd.C k47 w A g.length g) (hc : g.length ≤ c) (H : Fine g) :
    Calls Try.prog 3 #[.slice A g.length c] w fun e w' => e = .returned (.bool true) ∧ Below w.heap.size w w' := by
  cases htk : TkB g
  · exact progs_no w g A c HG hc H 180 (by rw [lcode H.fit 10000 (Nat.le_refl _), htk]; rfl) (by decide) (fun W A c h1 h2 => linear_no W g A c h1 h2 H.fit htk)
  · by_cases hms : msL g ≤ 4096
    · exact progs_yes w g A c HG hc H htk hms
    · exact progs_no w g A c HG hc H 181 (by rw [lcode H.fit 10000 (Nat.le_refl _), htk, if_pos rfl, if_pos (by omega)]) (by decide) (fun W A c h1 h2 => linear_much W g A c h1 h2 H.fit htk (by omega))
end Go.Proofs.Ytdkalnkplgfgoaa.Ln
namespace Go.Proofs.Ytdkalnkplgfgoaa.Rd
open Go.RowKit Go.Proofs.YtdkalnkplgfgoaaW.PrintWords Go.Proofs.YtdkalnkplgfgoaaW.PrintLast Go.Proofs.YtdkalnkplgfgoaaW.PrintMore Go.Proofs.Ytdkalnkplgfgoaa.PA Go.ChangeShapes Go.WideShapes Go.Deep
set_option linter.unusedVariables false
set_option linter.unusedSimpArgs false
section
variable {H : Type} (enc : TypeId × Value → H) (P : Program) (w : World) (base : Nat) (spare : Nat → Bool) (held : Bool)
/-- What is read at a type is of the kind d, and W holds of it. -/
def Reading {α : Type} (t : TypeId) (d : Kd α) (W : α → Prop) : Prop :=
  ∀ (n : Nat) (cs : List Value) (y : DataW H × List MemPlace), DataW.trod enc P w base spare held n t cs = some y → (y.1.weights P t).all (· ≤ reachBytes) = true → ∃ x, d.K w x cs ∧ W x
end
section
variable {H : Type} {enc : TypeId × Value → H} {P : Program} {w : World} {base : Nat} {spare : Nat → Bool} {held : Bool}
theorem exists_list {α : Type} {Q : Nat → α → Prop} : ∀ n : Nat, (∀ i, i < n → ∃ x, Q i x) → ∃ xs : List α, xs.length = n ∧ ∀ i x, xs[i]? = some x → Q i x
  | 0, _ => ⟨[], rfl, fun i x h => by simp at h⟩
  | n + 1, h => by
    obtain ⟨xs, hl, hq⟩ := exists_list n (fun i hi => h i (by omega))
    obtain ⟨x, hx⟩ := h n (by omega)
    refine ⟨xs ++ [x], by simp [hl], fun i z hz => ?_⟩
    by_cases e : i < xs.length
    · rw [List.getElem?_append_left e] at hz
      exact hq i z hz
    · rw [List.getElem?_append_right (by omega)] at hz
      have h0 : i - xs.length = 0 := by
        have := (List.getElem?_eq_some_iff.1 hz).1
        simp at this
        omega
      rw [h0] at hz
      have hzx : x = z := by simpa using hz
      have hin : i = n := by omega
      rw [← hzx, hin]
      exact hx
theorem mem_weightsAll {t : TypeId} : ∀ {l : List (DataW H)} {d : DataW H}, d ∈ l → ∀ n ∈ d.weights P t, n ∈ DataW.weightsAll P t l
  | x :: l, d, h, n, hn => by
    simp only [DataW.weightsAll, List.mem_append]
    rcases List.mem_cons.1 h with rfl | h
    · exact .inl hn
    · exact .inr (mem_weightsAll h n hn)
theorem rd_slice {α : Type} {d : Kd α} {W : α → Prop} {t e : TypeId} {b : Nat} (ht : P.underlying t = some (.slice e)) (hC : P.cellsOf e = d.sz) (hb : P.bytesOf e = b) (h : Reading enc P w base spare held e d W) :
    Reading enc P w base spare held t (Kd.slice e d) (fun xs => (∀ x ∈ xs, W x) ∧ xs.length * b ≤ reachBytes) := by
  intro n cs y hy hw
  rcases DataW.trod_slice ht hy with ⟨rfl, rfl⟩ | ⟨a, len, cap, elems, rest, m, rfl, rfl, rfl, h1, h2, h3, h4, h5, h6, h7⟩
  · refine ⟨[], ⟨none, 0, rfl, Nat.le_refl _, Kd.C_nil _ _⟩, fun x hx => (by cases hx), by simp⟩
  · have hwt : ∀ z ∈ elems, (z.1.weights P e).all (· ≤ reachBytes) = true := by
      intro z hz
      refine List.all_eq_true.2 fun q hq => ?_
      refine List.all_eq_true.1 hw q ?_
      simp only [DataW.weights, ht]
      refine List.mem_cons_of_mem _ (List.mem_append_left _ ?_)
      exact mem_weightsAll (List.mem_map.2 ⟨z, hz, rfl⟩) q hq
    obtain ⟨xs, hl, hq⟩ := exists_list (Q := fun i x => ∃ cs', w.cells? base (a.add (i * P.cellsOf e)) (P.cellsOf e) = some cs' ∧ d.K w x cs' ∧ W x) len (by
      intro i hi
      have he := h5 i hi
      have hei : i < elems.length := by omega
      rw [List.getElem?_eq_getElem hei] at he
      obtain ⟨cs', hc, ht'⟩ := Option.bind_eq_some_iff.1 he
      obtain ⟨x, hx, hW⟩ := h m cs' _ ht' (hwt _ (List.getElem_mem hei))
      exact ⟨x, cs', hc, hx, hW⟩)
    refine ⟨xs, ⟨some a, cap, by rw [hl], by omega, ⟨rfl, by unfold maxLen at h3; omega, fun _ => ⟨a, rfl, ?_⟩⟩⟩, ?_, ?_⟩
    · intro j p hj
      obtain ⟨cs', hc, hk, _⟩ := hq j p hj
      obtain ⟨_, hcl, hat⟩ := World.cells?_some hc
      refine ⟨cs', d.K_len hk, hk, fun i u hu => ?_⟩
      have hil : i < cs'.length := (List.getElem?_eq_some_iff.1 hu).1
      have := hat i (by omega)
      rw [← hC, ← Go.Deep.add_add, this, hu]
    · intro x hx
      obtain ⟨i, hi, rfl⟩ := List.getElem_of_mem hx
      obtain ⟨_, _, _, hW⟩ := hq i _ (List.getElem?_eq_getElem hi)
      exact hW
    · have := List.all_eq_true.1 hw ((elems.length + rest.length) * P.bytesOf e) (by simp [DataW.weights, ht])
      rw [hb] at this
      have h9 : (elems.length + rest.length) * b ≤ reachBytes := by simpa using this
      have : xs.length * b ≤ (elems.length + rest.length) * b := Nat.mul_le_mul_right _ (by omega)
      omega
/-- A struct's fields. -/
theorem fields_of {t : TypeId} {fs : Array Field} {n : Nat} {cs : List Value} {y : DataW H × List MemPlace} (hs : P.underlying t = some (.struct fs)) (h : DataW.trod enc P w base spare held n t cs = some y) (hw : (y.1.weights P t).all (· ≤ reachBytes) = true) :
    cs.length = P.cellsOf t ∧ ∃ m, ∀ (j : Nat) (f : Field), fs[j]? = some f → ∃ z : DataW H × List MemPlace, DataW.trod enc P w base spare held m f.type ((cs.drop f.offset).take (P.cellsOf f.type)) = some z ∧ (z.1.weights P f.type).all (· ≤ reachBytes) = true := by
  obtain ⟨xs, m, rfl, rfl, hl, hx, hf⟩ := DataW.trod_struct hs h
  refine ⟨hl, m, fun j f hj => ?_⟩
  have hjl : j < fs.size := (Array.getElem?_eq_some_iff.1 hj).1
  have hj2 : j < xs.length := by omega
  refine ⟨xs[j], by rw [hf j f hj, List.getElem?_eq_getElem hj2], ?_⟩
  refine List.all_eq_true.2 fun q hq => ?_
  refine List.all_eq_true.1 hw q ?_
  simp only [DataW.weights, hs]
  refine DataW.weights_mem_each (j := j) (t := f.type) (d := xs[j].1) ?_ ?_ q hq
  · rw [List.getElem?_map, Array.getElem?_toList, hj]; rfl
  · rw [List.getElem?_map, List.getElem?_eq_getElem hj2]; rfl
end
/-- What is asked of an instruction, and of a block. -/
def WI (x : S45) : Prop := 0 ≤ x.f0 ∧ x.f0 < 65536 ∧ 0 ≤ x.f1 ∧ x.f1 < 256 ∧ 0 ≤ x.f2 ∧ x.f2 < 256 ∧ 0 ≤ x.f3 ∧ x.f3 < 4294967296
def WB (x : S47) : Prop := (∀ i ∈ x.f0, WI i) ∧ x.f0.length * 8 ≤ reachBytes ∧ WI x.f2 ∧ (Lit.int .i64 x.f1).wf = true ∧ (Lit.int .i64 x.f3).wf = true ∧ (Lit.int .i64 x.f4).wf = true
theorem wf_lo {k : IntKind} {x : Int} (h : (Lit.int k x).wf = true) : k.min ≤ x ∧ x ≤ k.max := by
  simpa [Lit.wf] using h
theorem u8_of {x : Int} (h : (Lit.int .u8 x).wf = true) : 0 ≤ x ∧ x < 256 := by
  have h1 : (0 : Int) ≤ x := (wf_lo h).1
  have h2 : x ≤ (255 : Int) := (wf_lo h).2
  omega
theorem u16_of {x : Int} (h : (Lit.int .u16 x).wf = true) : 0 ≤ x ∧ x < 65536 := by
  have h1 : (0 : Int) ≤ x := (wf_lo h).1
  have h2 : x ≤ (65535 : Int) := (wf_lo h).2
  omega
theorem u32_of {x : Int} (h : (Lit.int .u32 x).wf = true) : 0 ≤ x ∧ x < 4294967296 := by
  have h1 : (0 : Int) ≤ x := (wf_lo h).1
  have h2 : x ≤ (4294967295 : Int) := (wf_lo h).2
  omega
section
variable {H : Type} {enc : TypeId × Value → H} {w : World} {base : Nat} {spare : Nat → Bool} {held : Bool}
set_option maxRecDepth 100000 in
theorem rd_insn : Reading enc Try.prog w base spare held 45 k45 WI := by
  intro n cs y h hw
  obtain ⟨hl, m, hf⟩ := fields_of Try.underlying45 h hw
  rw [show Try.prog.cellsOf 45 = 4 by kernel_rfl] at hl
  match cs, hl with
  | [c0, c1, c2, c3], _ =>
    obtain ⟨z0, t0, _⟩ := hf 0 _ rfl
    obtain ⟨z1, t1, _⟩ := hf 1 _ rfl
    obtain ⟨z2, t2, _⟩ := hf 2 _ rfl
    obtain ⟨z3, t3, _⟩ := hf 3 _ rfl
    replace t0 : DataW.trod enc Try.prog w base spare held m 43 (([c0, c1, c2, c3].drop 0).take (Try.prog.cellsOf 43)) = some z0 := t0
    rw [show Try.prog.cellsOf 43 = 1 by kernel_rfl] at t0
    replace t1 : DataW.trod enc Try.prog w base spare held m 5 (([c0, c1, c2, c3].drop 1).take (Try.prog.cellsOf 5)) = some z1 := t1
    rw [show Try.prog.cellsOf 5 = 1 by kernel_rfl] at t1
    replace t2 : DataW.trod enc Try.prog w base spare held m 5 (([c0, c1, c2, c3].drop 2).take (Try.prog.cellsOf 5)) = some z2 := t2
    rw [show Try.prog.cellsOf 5 = 1 by kernel_rfl] at t2
    replace t3 : DataW.trod enc Try.prog w base spare held m 41 (([c0, c1, c2, c3].drop 3).take (Try.prog.cellsOf 41)) = some z3 := t3
    rw [show Try.prog.cellsOf 41 = 1 by kernel_rfl] at t3
    simp only [List.drop_zero, List.drop_succ_cons, List.take_succ_cons, List.take_zero] at t0 t1 t2 t3
    obtain ⟨x0, e0, _, w0⟩ := DataW.trod_int Try.underlying43 t0
    obtain ⟨x1, e1, _, w1⟩ := DataW.trod_int Try.underlying5 t1
    obtain ⟨x2, e2, _, w2⟩ := DataW.trod_int Try.underlying5 t2
    obtain ⟨x3, e3, _, w3⟩ := DataW.trod_int Try.underlying41 t3
    simp only [List.cons.injEq, and_true] at e0 e1 e2 e3
    subst e0 e1 e2 e3
    have a0 := u16_of w0
    have a1 := u8_of w1
    have a2 := u8_of w2
    have a3 := u32_of w3
    exact ⟨⟨x0, x1, x2, x3⟩, k45_mk w ⟨x0, x1, x2, x3⟩, a0.1, a0.2, a1.1, a1.2, a2.1, a2.2, a3.1, a3.2⟩
set_option maxRecDepth 100000 in
theorem rd_block : Reading enc Try.prog w base spare held 47 k47 WB := by
  intro n cs y h hw
  obtain ⟨hl, m, hf⟩ := fields_of Try.underlying47 h hw
  rw [show Try.prog.cellsOf 47 = 8 by kernel_rfl] at hl
  match cs, hl with
  | [c0, c1, c2, c3, c4, c5, c6, c7], _ =>
    obtain ⟨z0, t0, v0⟩ := hf 0 _ rfl
    obtain ⟨z1, t1, _⟩ := hf 1 _ rfl
    obtain ⟨z2, t2, v2⟩ := hf 2 _ rfl
    obtain ⟨z3, t3, _⟩ := hf 3 _ rfl
    obtain ⟨z4, t4, _⟩ := hf 4 _ rfl
    replace t0 : DataW.trod enc Try.prog w base spare held m 26 (([c0, c1, c2, c3, c4, c5, c6, c7].drop 0).take (Try.prog.cellsOf 26)) = some z0 := t0
    rw [show Try.prog.cellsOf 26 = 1 by kernel_rfl] at t0
    replace t1 : DataW.trod enc Try.prog w base spare held m 3 (([c0, c1, c2, c3, c4, c5, c6, c7].drop 1).take (Try.prog.cellsOf 3)) = some z1 := t1
    rw [show Try.prog.cellsOf 3 = 1 by kernel_rfl] at t1
    replace t2 : DataW.trod enc Try.prog w base spare held m 45 (([c0, c1, c2, c3, c4, c5, c6, c7].drop 2).take (Try.prog.cellsOf 45)) = some z2 := t2
    rw [show Try.prog.cellsOf 45 = 4 by kernel_rfl] at t2
    replace t3 : DataW.trod enc Try.prog w base spare held m 3 (([c0, c1, c2, c3, c4, c5, c6, c7].drop 6).take (Try.prog.cellsOf 3)) = some z3 := t3
    rw [show Try.prog.cellsOf 3 = 1 by kernel_rfl] at t3
    replace t4 : DataW.trod enc Try.prog w base spare held m 3 (([c0, c1, c2, c3, c4, c5, c6, c7].drop 7).take (Try.prog.cellsOf 3)) = some z4 := t4
    rw [show Try.prog.cellsOf 3 = 1 by kernel_rfl] at t4
    replace v0 : (z0.1.weights Try.prog 26).all (· ≤ reachBytes) = true := v0
    replace v2 : (z2.1.weights Try.prog 45).all (· ≤ reachBytes) = true := v2
    simp only [List.drop_zero, List.drop_succ_cons, List.take_succ_cons, List.take_zero] at t0 t1 t2 t3 t4
    obtain ⟨xs, ⟨A, c, e0, hlc, hC⟩, hws, hlen⟩ := rd_slice (d := k45) (b := 8) Try.underlying26 (by kernel_rfl) (by kernel_rfl) rd_insn m _ _ t0 v0
    obtain ⟨x1, e1, _, w1⟩ := DataW.trod_int Try.underlying3 t1
    obtain ⟨i, hi, wi⟩ := rd_insn m _ _ t2 v2
    have e2 := k45_open hi
    obtain ⟨x3, e3, _, w3⟩ := DataW.trod_int Try.underlying3 t3
    obtain ⟨x4, e4, _, w4⟩ := DataW.trod_int Try.underlying3 t4
    simp only [List.cons.injEq, and_true] at e0 e1 e2 e3 e4
    obtain ⟨e20, e21, e22, e23⟩ := e2
    subst e0 e1 e20 e21 e22 e23 e3 e4
    exact ⟨⟨xs, x1, i, x3, x4⟩, k47_mk w ⟨xs, x1, i, x3, x4⟩ hlc hC, hws, hlen, wi, w1, w3, w4⟩
end
/-- An argument that is a row. -/
theorem arg_row {H : Type} {enc : TypeId × Value → H} {P : Program} {w : World} {base : Nat} {spare : Nat → Bool} {held : Bool} {α : Type} {d : Kd α} {W : α → Prop} {t e : TypeId} {b : Nat} {v : Value} {D : DataW H} {p : List MemPlace}
    (ht : P.underlying t = some (.slice e)) (hC : P.cellsOf e = d.sz) (hb : P.bytesOf e = b) (h : Reading enc P w base spare held e d W) (hv : ∃ A l c, v = .slice A l c) (h0 : DataW.Trod enc P w base spare held t v D p) (hw : (D.weights P t).all (· ≤ reachBytes) = true) :
    ∃ (A : Option Addr) (c : Nat) (xs : List α), v = .slice A xs.length c ∧ xs.length ≤ c ∧ d.C w A xs.length xs ∧ (∀ x ∈ xs, W x) ∧ xs.length * b ≤ reachBytes := by
  obtain ⟨A0, l0, c0, rfl⟩ := hv
  obtain ⟨n, hn⟩ := h0
  obtain ⟨xs, ⟨A, c, e0, hlc, hK⟩, hws, hl⟩ := rd_slice ht hC hb h n _ _ hn hw
  have e1 : Value.slice A0 l0 c0 = .slice A xs.length c := by simpa [Value.cells] using e0
  exact ⟨A, c, xs, e1, hlc, hK, hws, hl⟩
/-- The weights of one argument. -/
theorem weights_at {H : Type} {P : Program} {ts : List TypeId} {ds : List (DataW H)} (h : (DataW.weightsEach P ts ds).all (· ≤ reachBytes) = true) {j : Nat} {t : TypeId} {d : DataW H} (ht : ts[j]? = some t) (hd : ds[j]? = some d) : (d.weights P t).all (· ≤ reachBytes) = true :=
  List.all_eq_true.2 fun q hq => List.all_eq_true.1 h q (DataW.weights_mem_each ht hd q hq)
end Go.Proofs.Ytdkalnkplgfgoaa.Rd
namespace Go.Proofs.Ytdkalnkplgfgoaa.Ln
open Go.RowKit Go.Proofs.Ytdkalnkplgfgoaa.PA Go.Proofs.Ytdkalnkplgfgoaa.Rd
set_option linter.unusedVariables false
theorem fine_of {g : List S47} (h : ∀ b ∈ g, WB b) (hl : g.length * 56 ≤ 140737488351232) : Fine g := by
  have reach_eq : reachBytes = 140737488351232 := by decide
  refine ⟨fun b hb => ?_, fun b hb => ⟨fun i hi => ((h b hb).1 i hi).2.2.2.2.2.2.1, (h b hb).2.2.1.2.2.2.2.2.2.1⟩, fun b hb => ?_, by omega⟩
  · have := (h b hb).2.1
    rw [reach_eq] at this
    omega
  · have := (h b hb).2.1
    rw [reach_eq] at this
    omega
end Go.Proofs.Ytdkalnkplgfgoaa.Ln
