/- Lemmas and walks for the statements of the texts ZPZ..: the declarations that they need, taken together by a program of this session. Conditions: as each says. -/
import Derived.Test.YtdkalnkplgfgoaaZPa
import Derived.Test.YtdkalnkplgfgoaaZPb
import Derived.Test.YtdkalnkplgfgoaaZPd
import Derived.Test.YtdkalnkplgfgoaaZPf
namespace Go.Proofs.Ytdkalnkplgfgoaa.PA
open Go.RowKit Go.Proofs.YtdkalnkplgfgoaaW.PrintWords Go.Proofs.YtdkalnkplgfgoaaW.PrintLast Go.Proofs.YtdkalnkplgfgoaaW.PrintMore
attribute [local go_sem] max2_int min2_int max_two min_two max_three min_three max_four min_four   -- for this text's walks alone
set_option linter.unusedVariables false
set_option linter.unusedSimpArgs false
attribute [local go_sem high] eqA45
def graph_taken.f (k : Nat) (l0 : List (S47)) : Option (Int) := (graph_Check.f k l0).bind fun bt214 => (if bt214.2 = 0 then (some 0) else (some 155))
set_option maxHeartbeats 8000000 in
set_option maxRecDepth 100000 in
theorem graph_taken.calls (k : Nat) (A0 : Option Addr) (c0 : Nat) (l0 : List (S47)) (r : Int) (w : World) (hr0 : Kd.C k47 w A0 l0.length l0) (hc0 : l0.length ≤ c0) (h : graph_taken.f k l0 = some r) :
    Calls Try.prog 68 #[.slice A0 l0.length c0] w fun e w' => e = .returned (.int .i64 r) ∧ Below w.heap.size w w' := by
  have HR0 := Aside0.mk hr0
  have HC0 := Aside0.mk hc0
  clear hr0 hc0
  have HB := Aside0.mk (Below.refl w.heap.size w)
  have H : ((graph_Check.f k l0).bind fun bt214 => (if bt214.2 = 0 then (some 0) else (some 155))) = some r := h
  clear h
  replace H := Option.bind_eq_some_iff.mp H
  obtain ⟨⟨t214, t215⟩, A20, H⟩ := H
  replace H : (if t215 = 0 then (some 0) else (some 155)) = some r := H
  have A2 := Aside0.mk A20
  clear A20
  by_cases c3 : t215 = 0
  · rw [if_pos c3] at H
    have c3b0 : (t215 == 0) = true := beq_iff_eq.mpr c3
    have c3b1 : (t215 != 0) = false := bne_eq_false_iff_eq.mpr c3
    clear c3
    obtain rfl := Option.some.inj H
    go_enter Try.func68, Try.ntmps68
    go_wp2_with (first | ((with_reducible refine gate_callee (f := 52) rfl ?_); refine goesL_ (some 7) rfl rfl Try.func52 (by kernel_rfl) rfl #[.slice A0 l0.length c0] rfl (by (try simp only [List.map_toArray, List.map_cons, List.map_nil]); first | done | rfl | (simp only [List.length_drop, List.length_take]; rfl)) ?_; (with_reducible refine (graph_Check.calls k _ _ l0 t214 t215 _ ?side1 ?side2 A2.out).mono ?_); (case side1 => repeat (first | exact HR0.out | (with_reducible refine Kd.C_alloc ?_ _) | (with_reducible refine Kd.C_drewN ?_ _) | (with_reducible refine Kd.C_drew ?_))); (case side2 => exact HC0.out); rintro e w4 ⟨rfl, hb⟩; refine ⟨_, rfl, ?_⟩; have n0_ := Aside0.mk (below_step (by repeat (first | (with_reducible first | exact HB.out | apply below_alloc | apply pw_below_drewN | apply below_drew1) | exact HB.out)) hb); clear HB; have HB := n0_; clear n0_; (try clear hb); (try clear hb2); (try clear hk); (try clear hi)))
    go_ret
    exact ⟨by first | rfl | (simp [errW_none, errW_some] <;> rfl) | (simp [*, errW_none, errW_some] <;> rfl), by repeat (first | (with_reducible first | exact HB.out | apply below_alloc | apply pw_below_drewN | apply below_drew1) | exact HB.out)⟩
  · rw [if_neg c3] at H
    have c3b0 : (t215 == 0) = false := beq_eq_false_iff_ne.mpr c3
    have c3b1 : (t215 != 0) = true := bne_iff_ne.mpr c3
    obtain rfl := Option.some.inj H
    go_enter Try.func68, Try.ntmps68
    go_wp2_with (first | ((with_reducible refine gate_callee (f := 52) rfl ?_); refine goesL_ (some 7) rfl rfl Try.func52 (by kernel_rfl) rfl #[.slice A0 l0.length c0] rfl (by (try simp only [List.map_toArray, List.map_cons, List.map_nil]); first | done | rfl | (simp only [List.length_drop, List.length_take]; rfl)) ?_; (with_reducible refine (graph_Check.calls k _ _ l0 t214 t215 _ ?side1 ?side2 A2.out).mono ?_); (case side1 => repeat (first | exact HR0.out | (with_reducible refine Kd.C_alloc ?_ _) | (with_reducible refine Kd.C_drewN ?_ _) | (with_reducible refine Kd.C_drew ?_))); (case side2 => exact HC0.out); rintro e w5 ⟨rfl, hb⟩; refine ⟨_, rfl, ?_⟩; have n0_ := Aside0.mk (below_step (by repeat (first | (with_reducible first | exact HB.out | apply below_alloc | apply pw_below_drewN | apply below_drew1) | exact HB.out)) hb); clear HB; have HB := n0_; clear n0_; (try clear hb); (try clear hb2); (try clear hk); (try clear hi)))
    go_ret
    exact ⟨by first | rfl | (simp [errW_none, errW_some] <;> rfl) | (simp [*, errW_none, errW_some] <;> rfl), by repeat (first | (with_reducible first | exact HB.out | apply below_alloc | apply pw_below_drewN | apply below_drew1) | exact HB.out)⟩
def graph_weighed.l0 : Nat → Int → Int → Int → Int → List (S47) → Int → Int → Option (Int × Int)
  | 0, _, _, _, _, _, _, _ => none
  | k + 1, x1, x2, x3, x11, x19, x20, x21 => if x21 < x20 then (if 0 ≤ x21 then (if x21 < (x19.length : Int) then (if ((rd_T47 x19 x21).f1) = 1 then (graph_weighed.l0 k x1 x2 x3 (wrap64 ((wrap64 (x11 + (((rd_T47 x19 x21).f0).length : Int))) + x1)) x19 x20 (wrap64 (x21 + 1))) else (if ((rd_T47 x19 x21).f1) = 2 then (graph_weighed.l0 k x1 x2 x3 (wrap64 ((wrap64 (x11 + (((rd_T47 x19 x21).f0).length : Int))) + x2)) x19 x20 (wrap64 (x21 + 1))) else (graph_weighed.l0 k x1 x2 x3 (wrap64 ((wrap64 (x11 + (((rd_T47 x19 x21).f0).length : Int))) + x3)) x19 x20 (wrap64 (x21 + 1))))) else (none)) else (none)) else (some (x11, 0))
def graph_weighed.f (k : Nat) (l0 : List (S47)) (a1 : Int) (a2 : Int) (a3 : Int) : Option (Int × Int) := (graph_taken.f k l0).bind fun t216 => (if t216 = 0 then (graph_weighed.l0 k a1 a2 a3 0 l0 (l0.length : Int) 0) else (some (0, t216)))
set_option maxHeartbeats 8000000 in
set_option maxRecDepth 100000 in
theorem graph_weighed.calls (k : Nat) (A0 : Option Addr) (c0 : Nat) (l0 : List (S47)) (a1 : Int) (a2 : Int) (a3 : Int) (r1 : Int) (r2 : Int) (w : World) (hr0 : Kd.C k47 w A0 l0.length l0) (hc0 : l0.length ≤ c0) (h : graph_weighed.f k l0 a1 a2 a3 = some (r1, r2)) :
    Calls Try.prog 75 #[.slice A0 l0.length c0, .int .i64 a1, .int .i64 a2, .int .i64 a3] w fun e w' => e = .returned (.tuple #[.int .i64 r1, .int .i64 r2]) ∧ Below w.heap.size w w' := by
  have hu47 := Try.underlying47
  have HR0 := Aside0.mk hr0
  have HC0 := Aside0.mk hc0
  clear hr0 hc0
  have HB := Aside0.mk (Below.refl w.heap.size w)
  have H : ((graph_taken.f k l0).bind fun t216 => (if t216 = 0 then (graph_weighed.l0 k a1 a2 a3 0 l0 (l0.length : Int) 0) else (some (0, t216)))) = some (r1, r2) := h
  clear h
  replace H := Option.bind_eq_some_iff.mp H
  obtain ⟨t216, A50, H⟩ := H
  replace H : (if t216 = 0 then (graph_weighed.l0 k a1 a2 a3 0 l0 (l0.length : Int) 0) else (some (0, t216))) = some (r1, r2) := H
  have A5 := Aside0.mk A50
  clear A50
  by_cases c6 : t216 = 0
  · rw [if_pos c6] at H
    have c6b0 : (t216 == 0) = true := beq_iff_eq.mpr c6
    have c6b1 : (t216 != 0) = false := bne_eq_false_iff_eq.mpr c6
    clear c6
    have H' := Aside0.mk H
    clear H
    go_enter Try.func75, Try.ntmps75
    go_wp2_with (first | ((with_reducible refine gate_callee (f := 68) rfl ?_); refine goesL_ (some 15) rfl rfl Try.func68 (by kernel_rfl) rfl #[.slice A0 l0.length c0] rfl (by (try simp only [List.map_toArray, List.map_cons, List.map_nil]); first | done | rfl | (simp only [List.length_drop, List.length_take]; rfl)) ?_; (with_reducible refine (graph_taken.calls k _ _ l0 t216 _ ?side1 ?side2 A5.out).mono ?_); (case side1 => repeat (first | exact HR0.out | (with_reducible refine Kd.C_alloc ?_ _) | (with_reducible refine Kd.C_drewN ?_ _) | (with_reducible refine Kd.C_drew ?_))); (case side2 => exact HC0.out); rintro e w7 ⟨rfl, hb⟩; refine ⟨_, rfl, ?_⟩; have n0_ := Aside0.mk (below_step (by repeat (first | (with_reducible first | exact HB.out | apply below_alloc | apply pw_below_drewN | apply below_drew1) | exact HB.out)) hb); clear HB; have HB := n0_; clear n0_; (try clear hb); (try clear hb2); (try clear hk); (try clear hi)))
    go_loopg [11, 21] k (fun kq v11 v21 w' => ∃ (x11_1 : Int) (x21_1 : Int), v11 = .int .i64 x11_1 ∧ v21 = .int .i64 x21_1 ∧ Aside0 (graph_weighed.l0 kq a1 a2 a3 x11_1 l0 (l0.length : Int) x21_1 = some (r1, r2)) ∧ Aside0 (kq ≤ k) ∧ Aside0 (Below w.heap.size w w'))
    case atStart => exact ⟨(0), (0), (by first | rfl | (simp; done) | (simp [*]; done)), (by first | rfl | (simp; done) | (simp [*]; done)), H', ⟨Nat.le_refl _⟩, ⟨by repeat (first | (with_reducible first | exact HB.out | apply below_alloc | apply pw_below_drewN | apply below_drew1) | exact HB.out)⟩⟩
    case round =>
      clear H'
      try clear p2
      try clear c6
      try clear c6b0
      try clear c6b1
      try clear c7
      obtain ⟨x11_1, x21_1, rfl, rfl, HA, HK1, HB⟩ := hrel
      cases gk with
      | zero => exact absurd HA.out (by simp [graph_weighed.l0])
      | succ k1 =>
        have H := HA.out
        clear HA
        simp only [graph_weighed.l0] at H
        by_cases c8 : x21_1 < (l0.length : Int)
        · rw [if_pos c8] at H
          have c8b0 : decide (x21_1 < (l0.length : Int)) = true := decide_eq_true c8
          clear c8
          by_cases c9 : 0 ≤ x21_1
          · rw [if_pos c9] at H
            have c9b0 : decide (0 ≤ x21_1) = true := decide_eq_true c9
            clear c9
            by_cases c10 : x21_1 < (l0.length : Int)
            · rw [if_pos c10] at H
              have c10b0 : decide (x21_1 < (l0.length : Int)) = true := decide_eq_true c10
              clear c10
              by_cases c11 : ((rd_T47 l0 x21_1).f1) = 1
              · rw [if_pos c11] at H
                have c11b0 : (((rd_T47 l0 x21_1).f1) == 1) = true := beq_iff_eq.mpr c11
                have c11b1 : (((rd_T47 l0 x21_1).f1) != 1) = false := bne_eq_false_iff_eq.mpr c11
                clear c11
                have H' := Aside0.mk H
                clear H
                have p217 : 0 ≤ (x21_1 : Int) := of_decide_eq_true (by first | (with_reducible assumption) | assumption)
                have q217 : x21_1 < (l0.length : Int) := of_decide_eq_true (by first | (with_reducible assumption) | assumption)
                obtain ⟨ad217, A217_0, c217_0, e217, hx217_0, hx217_1, hx217_2, hx217_3, hx217_4, hx217_5, hx217_6, hx217_7, hl217_0, hi217_0⟩ := at_T47 HR0.out x21_1 p217 q217
                cases e217
                replace hx217_0 := (HB.out.cell (World.block_lt_of_cell? w _ hx217_0)).trans hx217_0
                replace hx217_1 := (HB.out.cell (World.block_lt_of_cell? w _ hx217_1)).trans hx217_1
                replace hx217_2 := (HB.out.cell (World.block_lt_of_cell? w _ hx217_2)).trans hx217_2
                replace hx217_3 := (HB.out.cell (World.block_lt_of_cell? w _ hx217_3)).trans hx217_3
                replace hx217_4 := (HB.out.cell (World.block_lt_of_cell? w _ hx217_4)).trans hx217_4
                replace hx217_5 := (HB.out.cell (World.block_lt_of_cell? w _ hx217_5)).trans hx217_5
                replace hx217_6 := (HB.out.cell (World.block_lt_of_cell? w _ hx217_6)).trans hx217_6
                replace hx217_7 := (HB.out.cell (World.block_lt_of_cell? w _ hx217_7)).trans hx217_7
                have HR217_0 := Aside0.mk hi217_0
                have HC217_0 := Aside0.mk hl217_0
                clear hi217_0 hl217_0
                replace p217 := eq_true p217
                replace q217 := eq_true q217
                go_wp2_with (first | ((with_reducible refine gate_dst (N := 13) rfl ?_); refine box_event ?hg (N := 13) ?hd (cs := #[.slice none 0 0, .int .i64 0, .int .u16 0, .int .u8 0, .int .u8 0, .int .u32 0, .int .i64 0, .int .i64 0]) (t := 47) ?hr ?_; (case hd => rfl); (case hg => rfl); (case hr => first | (go_simp; done) | (go_simp; rfl)); intro gb218 hg w12 hbox hb; have n0_ := Aside0.mk (below_step (by repeat (first | (with_reducible first | exact HB.out | apply below_alloc | apply pw_below_drewN | apply below_drew1) | exact HB.out)) hb); have n1_ := Aside0.mk (hbox); have n2_ := Aside0.mk ((by rw [hg]; exact (below_size (by repeat (first | (with_reducible first | exact HB.out | apply below_alloc | apply pw_below_drewN | apply below_drew1) | exact HB.out))) : w.heap.size ≤ gb218)); have n3_ := Aside0.mk ((by rw [hg]; exact (below_size (by repeat (first | (with_reducible first | exact HB.out | apply below_alloc | apply pw_below_drewN | apply below_drew1) | exact HB.out))) : w.heap.size ≤ gb218)); clear HB; have HB := n0_; have BK218 := n1_; have GW218 := n2_; have GE218 := n3_; clear n0_ n1_ n2_ n3_; clear hb hbox hg; have hcz13_0 : w12.cell? ⟨gb218, 0, none⟩ = some (.slice none 0 0) := (blk_cell BK218.out 0).trans rfl; have hcz13_1 : w12.cell? ⟨gb218, 1, none⟩ = some (.int .i64 0) := (blk_cell BK218.out 1).trans rfl; have hcz13_2 : w12.cell? ⟨gb218, 2, none⟩ = some (.int .u16 0) := (blk_cell BK218.out 2).trans rfl; have hcz13_3 : w12.cell? ⟨gb218, 3, none⟩ = some (.int .u8 0) := (blk_cell BK218.out 3).trans rfl; have hcz13_4 : w12.cell? ⟨gb218, 4, none⟩ = some (.int .u8 0) := (blk_cell BK218.out 4).trans rfl; have hcz13_5 : w12.cell? ⟨gb218, 5, none⟩ = some (.int .u32 0) := (blk_cell BK218.out 5).trans rfl; have hcz13_6 : w12.cell? ⟨gb218, 6, none⟩ = some (.int .i64 0) := (blk_cell BK218.out 6).trans rfl; have hcz13_7 : w12.cell? ⟨gb218, 7, none⟩ = some (.int .i64 0) := (blk_cell BK218.out 7).trans rfl; have hfz13_0 := blk_frozen BK218.out 0; have hfz13_1 := blk_frozen BK218.out 1; have hfz13_2 := blk_frozen BK218.out 2; have hfz13_3 := blk_frozen BK218.out 3; have hfz13_4 := blk_frozen BK218.out 4; have hfz13_5 := blk_frozen BK218.out 5; have hfz13_6 := blk_frozen BK218.out 6; have hfz13_7 := blk_frozen BK218.out 7))
                go_roundg k1
                case measure => have := HK1.out; omega
                case rel => exact ⟨(wrap64 ((wrap64 (x11_1 + (((rd_T47 l0 x21_1).f0).length : Int))) + a1)), (wrap64 (x21_1 + 1)), (by first | rfl | (simp; done) | (simp [*]; done)), (by first | rfl | (simp; done) | (simp [*]; done)), H', ⟨by have := HK1.out; omega⟩, ⟨by repeat (first | (with_reducible first | exact HB.out | apply below_alloc | apply pw_below_drewN | apply below_drew1 | refine below_set ?_ GE218.out) | exact HB.out)⟩⟩
              · rw [if_neg c11] at H
                have c11b0 : (((rd_T47 l0 x21_1).f1) == 1) = false := beq_eq_false_iff_ne.mpr c11
                have c11b1 : (((rd_T47 l0 x21_1).f1) != 1) = true := bne_iff_ne.mpr c11
                by_cases c14 : ((rd_T47 l0 x21_1).f1) = 2
                · rw [if_pos c14] at H
                  have c14b0 : (((rd_T47 l0 x21_1).f1) == 2) = true := beq_iff_eq.mpr c14
                  have c14b1 : (((rd_T47 l0 x21_1).f1) != 2) = false := bne_eq_false_iff_eq.mpr c14
                  clear c14
                  have H' := Aside0.mk H
                  clear H
                  have p217 : 0 ≤ (x21_1 : Int) := of_decide_eq_true (by first | (with_reducible assumption) | assumption)
                  have q217 : x21_1 < (l0.length : Int) := of_decide_eq_true (by first | (with_reducible assumption) | assumption)
                  obtain ⟨ad217, A217_0, c217_0, e217, hx217_0, hx217_1, hx217_2, hx217_3, hx217_4, hx217_5, hx217_6, hx217_7, hl217_0, hi217_0⟩ := at_T47 HR0.out x21_1 p217 q217
                  cases e217
                  replace hx217_0 := (HB.out.cell (World.block_lt_of_cell? w _ hx217_0)).trans hx217_0
                  replace hx217_1 := (HB.out.cell (World.block_lt_of_cell? w _ hx217_1)).trans hx217_1
                  replace hx217_2 := (HB.out.cell (World.block_lt_of_cell? w _ hx217_2)).trans hx217_2
                  replace hx217_3 := (HB.out.cell (World.block_lt_of_cell? w _ hx217_3)).trans hx217_3
                  replace hx217_4 := (HB.out.cell (World.block_lt_of_cell? w _ hx217_4)).trans hx217_4
                  replace hx217_5 := (HB.out.cell (World.block_lt_of_cell? w _ hx217_5)).trans hx217_5
                  replace hx217_6 := (HB.out.cell (World.block_lt_of_cell? w _ hx217_6)).trans hx217_6
                  replace hx217_7 := (HB.out.cell (World.block_lt_of_cell? w _ hx217_7)).trans hx217_7
                  have HR217_0 := Aside0.mk hi217_0
                  have HC217_0 := Aside0.mk hl217_0
                  clear hi217_0 hl217_0
                  replace p217 := eq_true p217
                  replace q217 := eq_true q217
                  go_wp2_with (first | ((with_reducible refine gate_dst (N := 13) rfl ?_); refine box_event ?hg (N := 13) ?hd (cs := #[.slice none 0 0, .int .i64 0, .int .u16 0, .int .u8 0, .int .u8 0, .int .u32 0, .int .i64 0, .int .i64 0]) (t := 47) ?hr ?_; (case hd => rfl); (case hg => rfl); (case hr => first | (go_simp; done) | (go_simp; rfl)); intro gb218 hg w15 hbox hb; have n0_ := Aside0.mk (below_step (by repeat (first | (with_reducible first | exact HB.out | apply below_alloc | apply pw_below_drewN | apply below_drew1) | exact HB.out)) hb); have n1_ := Aside0.mk (hbox); have n2_ := Aside0.mk ((by rw [hg]; exact (below_size (by repeat (first | (with_reducible first | exact HB.out | apply below_alloc | apply pw_below_drewN | apply below_drew1) | exact HB.out))) : w.heap.size ≤ gb218)); have n3_ := Aside0.mk ((by rw [hg]; exact (below_size (by repeat (first | (with_reducible first | exact HB.out | apply below_alloc | apply pw_below_drewN | apply below_drew1) | exact HB.out))) : w.heap.size ≤ gb218)); clear HB; have HB := n0_; have BK218 := n1_; have GW218 := n2_; have GE218 := n3_; clear n0_ n1_ n2_ n3_; clear hb hbox hg; have hcz16_0 : w15.cell? ⟨gb218, 0, none⟩ = some (.slice none 0 0) := (blk_cell BK218.out 0).trans rfl; have hcz16_1 : w15.cell? ⟨gb218, 1, none⟩ = some (.int .i64 0) := (blk_cell BK218.out 1).trans rfl; have hcz16_2 : w15.cell? ⟨gb218, 2, none⟩ = some (.int .u16 0) := (blk_cell BK218.out 2).trans rfl; have hcz16_3 : w15.cell? ⟨gb218, 3, none⟩ = some (.int .u8 0) := (blk_cell BK218.out 3).trans rfl; have hcz16_4 : w15.cell? ⟨gb218, 4, none⟩ = some (.int .u8 0) := (blk_cell BK218.out 4).trans rfl; have hcz16_5 : w15.cell? ⟨gb218, 5, none⟩ = some (.int .u32 0) := (blk_cell BK218.out 5).trans rfl; have hcz16_6 : w15.cell? ⟨gb218, 6, none⟩ = some (.int .i64 0) := (blk_cell BK218.out 6).trans rfl; have hcz16_7 : w15.cell? ⟨gb218, 7, none⟩ = some (.int .i64 0) := (blk_cell BK218.out 7).trans rfl; have hfz16_0 := blk_frozen BK218.out 0; have hfz16_1 := blk_frozen BK218.out 1; have hfz16_2 := blk_frozen BK218.out 2; have hfz16_3 := blk_frozen BK218.out 3; have hfz16_4 := blk_frozen BK218.out 4; have hfz16_5 := blk_frozen BK218.out 5; have hfz16_6 := blk_frozen BK218.out 6; have hfz16_7 := blk_frozen BK218.out 7))
                  go_roundg k1
                  case measure => have := HK1.out; omega
                  case rel => exact ⟨(wrap64 ((wrap64 (x11_1 + (((rd_T47 l0 x21_1).f0).length : Int))) + a2)), (wrap64 (x21_1 + 1)), (by first | rfl | (simp; done) | (simp [*]; done)), (by first | rfl | (simp; done) | (simp [*]; done)), H', ⟨by have := HK1.out; omega⟩, ⟨by repeat (first | (with_reducible first | exact HB.out | apply below_alloc | apply pw_below_drewN | apply below_drew1 | refine below_set ?_ GE218.out) | exact HB.out)⟩⟩
                · rw [if_neg c14] at H
                  have c14b0 : (((rd_T47 l0 x21_1).f1) == 2) = false := beq_eq_false_iff_ne.mpr c14
                  have c14b1 : (((rd_T47 l0 x21_1).f1) != 2) = true := bne_iff_ne.mpr c14
                  have H' := Aside0.mk H
                  clear H
                  have p217 : 0 ≤ (x21_1 : Int) := of_decide_eq_true (by first | (with_reducible assumption) | assumption)
                  have q217 : x21_1 < (l0.length : Int) := of_decide_eq_true (by first | (with_reducible assumption) | assumption)
                  obtain ⟨ad217, A217_0, c217_0, e217, hx217_0, hx217_1, hx217_2, hx217_3, hx217_4, hx217_5, hx217_6, hx217_7, hl217_0, hi217_0⟩ := at_T47 HR0.out x21_1 p217 q217
                  cases e217
                  replace hx217_0 := (HB.out.cell (World.block_lt_of_cell? w _ hx217_0)).trans hx217_0
                  replace hx217_1 := (HB.out.cell (World.block_lt_of_cell? w _ hx217_1)).trans hx217_1
                  replace hx217_2 := (HB.out.cell (World.block_lt_of_cell? w _ hx217_2)).trans hx217_2
                  replace hx217_3 := (HB.out.cell (World.block_lt_of_cell? w _ hx217_3)).trans hx217_3
                  replace hx217_4 := (HB.out.cell (World.block_lt_of_cell? w _ hx217_4)).trans hx217_4
                  replace hx217_5 := (HB.out.cell (World.block_lt_of_cell? w _ hx217_5)).trans hx217_5
                  replace hx217_6 := (HB.out.cell (World.block_lt_of_cell? w _ hx217_6)).trans hx217_6
                  replace hx217_7 := (HB.out.cell (World.block_lt_of_cell? w _ hx217_7)).trans hx217_7
                  have HR217_0 := Aside0.mk hi217_0
                  have HC217_0 := Aside0.mk hl217_0
                  clear hi217_0 hl217_0
                  replace p217 := eq_true p217
                  replace q217 := eq_true q217
                  go_wp2_with (first | ((with_reducible refine gate_dst (N := 13) rfl ?_); refine box_event ?hg (N := 13) ?hd (cs := #[.slice none 0 0, .int .i64 0, .int .u16 0, .int .u8 0, .int .u8 0, .int .u32 0, .int .i64 0, .int .i64 0]) (t := 47) ?hr ?_; (case hd => rfl); (case hg => rfl); (case hr => first | (go_simp; done) | (go_simp; rfl)); intro gb218 hg w17 hbox hb; have n0_ := Aside0.mk (below_step (by repeat (first | (with_reducible first | exact HB.out | apply below_alloc | apply pw_below_drewN | apply below_drew1) | exact HB.out)) hb); have n1_ := Aside0.mk (hbox); have n2_ := Aside0.mk ((by rw [hg]; exact (below_size (by repeat (first | (with_reducible first | exact HB.out | apply below_alloc | apply pw_below_drewN | apply below_drew1) | exact HB.out))) : w.heap.size ≤ gb218)); have n3_ := Aside0.mk ((by rw [hg]; exact (below_size (by repeat (first | (with_reducible first | exact HB.out | apply below_alloc | apply pw_below_drewN | apply below_drew1) | exact HB.out))) : w.heap.size ≤ gb218)); clear HB; have HB := n0_; have BK218 := n1_; have GW218 := n2_; have GE218 := n3_; clear n0_ n1_ n2_ n3_; clear hb hbox hg; have hcz18_0 : w17.cell? ⟨gb218, 0, none⟩ = some (.slice none 0 0) := (blk_cell BK218.out 0).trans rfl; have hcz18_1 : w17.cell? ⟨gb218, 1, none⟩ = some (.int .i64 0) := (blk_cell BK218.out 1).trans rfl; have hcz18_2 : w17.cell? ⟨gb218, 2, none⟩ = some (.int .u16 0) := (blk_cell BK218.out 2).trans rfl; have hcz18_3 : w17.cell? ⟨gb218, 3, none⟩ = some (.int .u8 0) := (blk_cell BK218.out 3).trans rfl; have hcz18_4 : w17.cell? ⟨gb218, 4, none⟩ = some (.int .u8 0) := (blk_cell BK218.out 4).trans rfl; have hcz18_5 : w17.cell? ⟨gb218, 5, none⟩ = some (.int .u32 0) := (blk_cell BK218.out 5).trans rfl; have hcz18_6 : w17.cell? ⟨gb218, 6, none⟩ = some (.int .i64 0) := (blk_cell BK218.out 6).trans rfl; have hcz18_7 : w17.cell? ⟨gb218, 7, none⟩ = some (.int .i64 0) := (blk_cell BK218.out 7).trans rfl; have hfz18_0 := blk_frozen BK218.out 0; have hfz18_1 := blk_frozen BK218.out 1; have hfz18_2 := blk_frozen BK218.out 2; have hfz18_3 := blk_frozen BK218.out 3; have hfz18_4 := blk_frozen BK218.out 4; have hfz18_5 := blk_frozen BK218.out 5; have hfz18_6 := blk_frozen BK218.out 6; have hfz18_7 := blk_frozen BK218.out 7))
                  go_roundg k1
                  case measure => have := HK1.out; omega
                  case rel => exact ⟨(wrap64 ((wrap64 (x11_1 + (((rd_T47 l0 x21_1).f0).length : Int))) + a3)), (wrap64 (x21_1 + 1)), (by first | rfl | (simp; done) | (simp [*]; done)), (by first | rfl | (simp; done) | (simp [*]; done)), H', ⟨by have := HK1.out; omega⟩, ⟨by repeat (first | (with_reducible first | exact HB.out | apply below_alloc | apply pw_below_drewN | apply below_drew1 | refine below_set ?_ GE218.out) | exact HB.out)⟩⟩
            · rw [if_neg c10] at H
              exact absurd H (by simp)
          · rw [if_neg c9] at H
            exact absurd H (by simp)
        · rw [if_neg c8] at H
          have c8b0 : decide (x21_1 < (l0.length : Int)) = false := decide_eq_false c8
          clear c8
          simp only [Option.some.injEq, Prod.mk.injEq] at H
          obtain ⟨rfl, rfl⟩ := H
          go_wp2
          go_ret2
          exact ⟨by first | rfl | (simp [errW_none, errW_some] <;> rfl) | (simp [*, errW_none, errW_some] <;> rfl), by repeat (first | (with_reducible first | exact HB.out | apply below_alloc | apply pw_below_drewN | apply below_drew1) | exact HB.out)⟩
  · rw [if_neg c6] at H
    have c6b0 : (t216 == 0) = false := beq_eq_false_iff_ne.mpr c6
    have c6b1 : (t216 != 0) = true := bne_iff_ne.mpr c6
    simp only [Option.some.injEq, Prod.mk.injEq] at H
    obtain ⟨rfl, rfl⟩ := H
    go_enter Try.func75, Try.ntmps75
    go_wp2_with (first | ((with_reducible refine gate_callee (f := 68) rfl ?_); refine goesL_ (some 15) rfl rfl Try.func68 (by kernel_rfl) rfl #[.slice A0 l0.length c0] rfl (by (try simp only [List.map_toArray, List.map_cons, List.map_nil]); first | done | rfl | (simp only [List.length_drop, List.length_take]; rfl)) ?_; (with_reducible refine (graph_taken.calls k _ _ l0 t216 _ ?side1 ?side2 A5.out).mono ?_); (case side1 => repeat (first | exact HR0.out | (with_reducible refine Kd.C_alloc ?_ _) | (with_reducible refine Kd.C_drewN ?_ _) | (with_reducible refine Kd.C_drew ?_))); (case side2 => exact HC0.out); rintro e w19 ⟨rfl, hb⟩; refine ⟨_, rfl, ?_⟩; have n0_ := Aside0.mk (below_step (by repeat (first | (with_reducible first | exact HB.out | apply below_alloc | apply pw_below_drewN | apply below_drew1) | exact HB.out)) hb); clear HB; have HB := n0_; clear n0_; (try clear hb); (try clear hb2); (try clear hk); (try clear hi)))
    go_ret2
    exact ⟨by first | rfl | (simp [errW_none, errW_some] <;> rfl) | (simp [*, errW_none, errW_some] <;> rfl), by repeat (first | (with_reducible first | exact HB.out | apply below_alloc | apply pw_below_drewN | apply below_drew1) | exact HB.out)⟩
def graph_Measure.f (k : Nat) (l0 : List (S47)) : Option (Int × Int) := (graph_weighed.f k l0 1 1 3).bind fun bt219 => (some (bt219.1, bt219.2))
set_option maxHeartbeats 8000000 in
set_option maxRecDepth 100000 in
theorem graph_Measure.calls (k : Nat) (A0 : Option Addr) (c0 : Nat) (l0 : List (S47)) (r1 : Int) (r2 : Int) (w : World) (hr0 : Kd.C k47 w A0 l0.length l0) (hc0 : l0.length ≤ c0) (h : graph_Measure.f k l0 = some (r1, r2)) :
    Calls Try.prog 42 #[.slice A0 l0.length c0] w fun e w' => e = .returned (.tuple #[.int .i64 r1, .int .i64 r2]) ∧ Below w.heap.size w w' := by
  have HR0 := Aside0.mk hr0
  have HC0 := Aside0.mk hc0
  clear hr0 hc0
  have HB := Aside0.mk (Below.refl w.heap.size w)
  have H : ((graph_weighed.f k l0 1 1 3).bind fun bt219 => (some (bt219.1, bt219.2))) = some (r1, r2) := h
  clear h
  replace H := Option.bind_eq_some_iff.mp H
  obtain ⟨⟨t219, t220⟩, A20, H⟩ := H
  replace H : (some (t219, t220)) = some (r1, r2) := H
  have A2 := Aside0.mk A20
  clear A20
  simp only [Option.some.injEq, Prod.mk.injEq] at H
  obtain ⟨rfl, rfl⟩ := H
  go_enter Try.func42, Try.ntmps42
  go_wp2_with (first | ((with_reducible refine gate_callee (f := 75) rfl ?_); refine goesL_ (some 5) rfl rfl Try.func75 (by kernel_rfl) rfl #[.slice A0 l0.length c0, .int .i64 1, .int .i64 1, .int .i64 3] rfl (by (try simp only [List.map_toArray, List.map_cons, List.map_nil]); first | done | rfl | (simp only [List.length_drop, List.length_take]; rfl)) ?_; (with_reducible refine (graph_weighed.calls k _ _ l0 1 1 3 t219 t220 _ ?side1 ?side2 A2.out).mono ?_); (case side1 => repeat (first | exact HR0.out | (with_reducible refine Kd.C_alloc ?_ _) | (with_reducible refine Kd.C_drewN ?_ _) | (with_reducible refine Kd.C_drew ?_))); (case side2 => exact HC0.out); rintro e w3 ⟨rfl, hb⟩; refine ⟨_, rfl, ?_⟩; have n0_ := Aside0.mk (below_step (by repeat (first | (with_reducible first | exact HB.out | apply below_alloc | apply pw_below_drewN | apply below_drew1) | exact HB.out)) hb); clear HB; have HB := n0_; clear n0_; (try clear hb); (try clear hb2); (try clear hk); (try clear hi)))
  go_ret2
  exact ⟨by first | rfl | (simp [errW_none, errW_some] <;> rfl) | (simp [*, errW_none, errW_some] <;> rfl), by repeat (first | (with_reducible first | exact HB.out | apply below_alloc | apply pw_below_drewN | apply below_drew1) | exact HB.out)⟩
def riddlelaw0_SameInsns.l0 : Nat → List (S45) → List (S45) → Int → Option (Bool)
  | 0, _, _, _ => none
  | k + 1, x0, x1, x5 => if x5 < (x0.length : Int) then (if 0 ≤ x5 then (if x5 < (x1.length : Int) then (if (!(((rd_T45 x0 x5).f0) == ((rd_T45 x1 x5).f0)) || (!(((rd_T45 x0 x5).f1) == ((rd_T45 x1 x5).f1)) || (!(((rd_T45 x0 x5).f2) == ((rd_T45 x1 x5).f2)) || (!(((rd_T45 x0 x5).f3) == ((rd_T45 x1 x5).f3)))))) = true then (some false) else (riddlelaw0_SameInsns.l0 k x0 x1 (wrap64 (x5 + 1)))) else (none)) else (none)) else (some true)
def riddlelaw0_SameInsns.f (k : Nat) (l0 : List (S45)) (l1 : List (S45)) : Option (Bool) := if (l0.length : Int) = (l1.length : Int) then (riddlelaw0_SameInsns.l0 k l0 l1 0) else (some false)
set_option maxHeartbeats 8000000 in
set_option maxRecDepth 100000 in
theorem riddlelaw0_SameInsns.calls (k : Nat) (A0 : Option Addr) (c0 : Nat) (l0 : List (S45)) (A1 : Option Addr) (c1 : Nat) (l1 : List (S45)) (r : Bool) (w : World) (hr0 : Kd.C k45 w A0 l0.length l0) (hc0 : l0.length ≤ c0) (hr1 : Kd.C k45 w A1 l1.length l1) (hc1 : l1.length ≤ c1) (h : riddlelaw0_SameInsns.f k l0 l1 = some r) :
    Calls Try.prog 19 #[.slice A0 l0.length c0, .slice A1 l1.length c1] w fun e w' => e = .returned (.bool r) ∧ Drawn0 w w' := by
  have hu45 := Try.underlying45
  have HR0 := Aside0.mk hr0
  have HC0 := Aside0.mk hc0
  clear hr0 hc0
  have HR1 := Aside0.mk hr1
  have HC1 := Aside0.mk hc1
  clear hr1 hc1
  have H : (if (l0.length : Int) = (l1.length : Int) then (riddlelaw0_SameInsns.l0 k l0 l1 0) else (some false)) = some r := h
  clear h
  by_cases c3 : (l0.length : Int) = (l1.length : Int)
  · rw [if_pos c3] at H
    have c3b0 : ((l0.length : Int) == (l1.length : Int)) = true := beq_iff_eq.mpr c3
    have c3b1 : ((l0.length : Int) != (l1.length : Int)) = false := bne_eq_false_iff_eq.mpr c3
    have c3b2 : (l0.length == l1.length) = true := by first | simpa using c3 | (simp at c3 ⊢; omega)
    clear c3
    have H' := Aside0.mk H
    clear H
    go_enter Try.func19, Try.ntmps19
    go_wp2
    repeat (go_quiet (fail); try go_wp2)
    go_loopg [5] k (fun kq v5 w' => ∃ (x5_1 : Int), v5 = .int .i64 x5_1 ∧ Aside0 (riddlelaw0_SameInsns.l0 kq l0 l1 x5_1 = some r) ∧ Aside0 (kq ≤ k) ∧ Drawn0 w w')
    case atStart => exact ⟨(0), (by first | rfl | (simp; done) | (simp [*]; done)), H', ⟨Nat.le_refl _⟩, by repeat (first | exact Drawn0.refl _ | apply Drawn0.step)⟩
    case round =>
      clear H'
      try clear c1
      try clear p2
      try clear c3
      try clear c3b0
      try clear c3b1
      try clear c3b2
      obtain ⟨x5_1, rfl, HA, HK1, ⟨m1, rfl⟩⟩ := hrel
      cases gk with
      | zero => exact absurd HA.out (by simp [riddlelaw0_SameInsns.l0])
      | succ k1 =>
        have H := HA.out
        clear HA
        simp only [riddlelaw0_SameInsns.l0] at H
        by_cases c4 : x5_1 < (l0.length : Int)
        · rw [if_pos c4] at H
          have c4b0 : decide (x5_1 < (l0.length : Int)) = true := decide_eq_true c4
          clear c4
          by_cases c5 : 0 ≤ x5_1
          · rw [if_pos c5] at H
            have c5b0 : decide (0 ≤ x5_1) = true := decide_eq_true c5
            clear c5
            by_cases c6 : x5_1 < (l1.length : Int)
            · rw [if_pos c6] at H
              have c6b0 : decide (x5_1 < (l1.length : Int)) = true := decide_eq_true c6
              clear c6
              by_cases c7 : (!(((rd_T45 l0 x5_1).f0) == ((rd_T45 l1 x5_1).f0)) || (!(((rd_T45 l0 x5_1).f1) == ((rd_T45 l1 x5_1).f1)) || (!(((rd_T45 l0 x5_1).f2) == ((rd_T45 l1 x5_1).f2)) || (!(((rd_T45 l0 x5_1).f3) == ((rd_T45 l1 x5_1).f3)))))) = true
              · rw [if_pos c7] at H
                have c7b0 : (!(((rd_T45 l0 x5_1).f0) == ((rd_T45 l1 x5_1).f0)) || (!(((rd_T45 l0 x5_1).f1) == ((rd_T45 l1 x5_1).f1)) || (!(((rd_T45 l0 x5_1).f2) == ((rd_T45 l1 x5_1).f2)) || (!(((rd_T45 l0 x5_1).f3) == ((rd_T45 l1 x5_1).f3)))))) = true := c7
                clear c7
                obtain rfl := Option.some.inj H
                have p231 : 0 ≤ (x5_1 : Int) := of_decide_eq_true (by first | (with_reducible assumption) | assumption)
                have q231 : x5_1 < (l0.length : Int) := of_decide_eq_true (by first | (with_reducible assumption) | assumption)
                obtain ⟨ad231, e231, hx231_0, hx231_1, hx231_2, hx231_3⟩ := at_T45 HR0.out x5_1 p231 q231
                cases e231
                replace p231 := eq_true p231
                replace q231 := eq_true q231
                have p232 : 0 ≤ (x5_1 : Int) := of_decide_eq_true (by first | (with_reducible assumption) | assumption)
                have q232 : x5_1 < (l1.length : Int) := of_decide_eq_true (by first | (with_reducible assumption) | assumption)
                obtain ⟨ad232, e232, hx232_0, hx232_1, hx232_2, hx232_3⟩ := at_T45 HR1.out x5_1 p232 q232
                cases e232
                replace p232 := eq_true p232
                replace q232 := eq_true q232
                go_wp2
                repeat (go_quiet (fail); try go_wp2)
                go_ret
                exact ⟨by first | rfl | (simp; done) | (simp [*]; done), by repeat (first | exact Drawn0.refl _ | apply Drawn0.step)⟩
              · rw [if_neg c7] at H
                have c7b0 : (!(((rd_T45 l0 x5_1).f0) == ((rd_T45 l1 x5_1).f0)) || (!(((rd_T45 l0 x5_1).f1) == ((rd_T45 l1 x5_1).f1)) || (!(((rd_T45 l0 x5_1).f2) == ((rd_T45 l1 x5_1).f2)) || (!(((rd_T45 l0 x5_1).f3) == ((rd_T45 l1 x5_1).f3)))))) = false := by simpa using c7
                clear c7
                have H' := Aside0.mk H
                clear H
                have p231 : 0 ≤ (x5_1 : Int) := of_decide_eq_true (by first | (with_reducible assumption) | assumption)
                have q231 : x5_1 < (l0.length : Int) := of_decide_eq_true (by first | (with_reducible assumption) | assumption)
                obtain ⟨ad231, e231, hx231_0, hx231_1, hx231_2, hx231_3⟩ := at_T45 HR0.out x5_1 p231 q231
                cases e231
                replace p231 := eq_true p231
                replace q231 := eq_true q231
                have p232 : 0 ≤ (x5_1 : Int) := of_decide_eq_true (by first | (with_reducible assumption) | assumption)
                have q232 : x5_1 < (l1.length : Int) := of_decide_eq_true (by first | (with_reducible assumption) | assumption)
                obtain ⟨ad232, e232, hx232_0, hx232_1, hx232_2, hx232_3⟩ := at_T45 HR1.out x5_1 p232 q232
                cases e232
                replace p232 := eq_true p232
                replace q232 := eq_true q232
                go_wp2
                repeat (go_quiet (fail); try go_wp2)
                go_roundg k1
                case measure => have := HK1.out; omega
                case rel => exact ⟨(wrap64 (x5_1 + 1)), (by first | rfl | (simp; done) | (simp [*]; done)), H', ⟨by have := HK1.out; omega⟩, by repeat (first | exact Drawn0.refl _ | apply Drawn0.step)⟩
            · rw [if_neg c6] at H
              exact absurd H (by simp)
          · rw [if_neg c5] at H
            exact absurd H (by simp)
        · rw [if_neg c4] at H
          have c4b0 : decide (x5_1 < (l0.length : Int)) = false := decide_eq_false c4
          clear c4
          obtain rfl := Option.some.inj H
          go_wp2
          repeat (go_quiet (fail); try go_wp2)
          go_ret
          exact ⟨by first | rfl | (simp; done) | (simp [*]; done), by repeat (first | exact Drawn0.refl _ | apply Drawn0.step)⟩
  · rw [if_neg c3] at H
    have c3b0 : ((l0.length : Int) == (l1.length : Int)) = false := beq_eq_false_iff_ne.mpr c3
    have c3b1 : ((l0.length : Int) != (l1.length : Int)) = true := bne_iff_ne.mpr c3
    have c3b2 : (l0.length == l1.length) = false := by first | simpa using c3 | (simp at c3 ⊢; omega)
    obtain rfl := Option.some.inj H
    go_enter Try.func19, Try.ntmps19
    go_wp2
    repeat (go_quiet (fail); try go_wp2)
    go_ret
    exact ⟨by first | rfl | (simp; done) | (simp [*]; done), by repeat (first | exact Drawn0.refl _ | apply Drawn0.step)⟩
def riddlelaw0_CopyBlocks.l0 : Nat → List (S47) → List (S47) → Int → Option ((List (S47)))
  | 0, _, _, _ => none
  | k + 1, x0, x3, x4 => if x4 < (x0.length : Int) then (if 0 ≤ x4 then ((riddlelaw0_CopyInsns.f ((rd_T47 x0 x4).f0)).bind fun t269 => (if x3.length < 2513169434916 then (riddlelaw0_CopyBlocks.l0 k x0 (x3 ++ [(⟨t269, (rd_T47 x0 x4).f1, (⟨(rd_T47 x0 x4).f2.f0, (rd_T47 x0 x4).f2.f1, (rd_T47 x0 x4).f2.f2, (rd_T47 x0 x4).f2.f3⟩ : S45), (rd_T47 x0 x4).f3, (rd_T47 x0 x4).f4⟩ : S47)]) (wrap64 (x4 + 1))) else (none))) else (none)) else (some x3)
def riddlelaw0_CopyBlocks.f (k : Nat) (l0 : List (S47)) : Option ((List (S47))) := riddlelaw0_CopyBlocks.l0 k l0 ([] : List (S47)) 0
set_option maxHeartbeats 8000000 in
set_option maxRecDepth 100000 in
theorem riddlelaw0_CopyBlocks.calls (k : Nat) (A0 : Option Addr) (c0 : Nat) (l0 : List (S47)) (r : List (S47)) (w : World) (hr0 : Kd.C k47 w A0 l0.length l0) (hc0 : l0.length ≤ c0) (h : riddlelaw0_CopyBlocks.f k l0 = some r) :
    Calls Try.prog 18 #[.slice A0 l0.length c0] w fun e w' => ∃ v0_ : Value, e = .returned (v0_) ∧ Kd.S k47 47 w' w.heap.size (fun _ => True) v0_ r ∧ Below w.heap.size w w' := by
  have hu47 := Try.underlying47
  have HR0 := Aside0.mk hr0
  have HC0 := Aside0.mk hc0
  clear hr0 hc0
  have HB := Aside0.mk (Below.refl w.heap.size w)
  have H : (riddlelaw0_CopyBlocks.l0 k l0 ([] : List (S47)) 0) = some r := h
  clear h
  have H' := Aside0.mk H
  clear H
  go_enter Try.func18, Try.ntmps18
  go_wp2
  go_loopg [3, 4] k (fun kq v3 v4 w' => ∃ (x3_1 : List (S47)) (x4_1 : Int), v4 = .int .i64 x4_1 ∧ Aside0 (riddlelaw0_CopyBlocks.l0 kq l0 x3_1 x4_1 = some r) ∧ Aside0 (kq ≤ k) ∧ Aside0 (Kd.S k47 47 w' w.heap.size (fun _ => True) v3 x3_1) ∧ Aside0 (Below w.heap.size w w'))
  case atStart => exact ⟨(([] : List (S47))), (0), (by first | rfl | (simp; done) | (simp [*]; done)), H', ⟨Nat.le_refl _⟩, ⟨by first | exact Kd.S_nil _ _ _ _ _ | exact Kd.N_nil _ _ _ _ _ | exact Kd.V_nil _ _ _ _ _ | exact Kd.Q_nil _ _ _ _ _ | exact Kd.R_nil _ _ _ _ _⟩, ⟨by repeat (first | (with_reducible first | exact HB.out | apply below_alloc | apply pw_below_drewN | apply below_drew1) | exact HB.out)⟩⟩
  case round =>
    clear H'
    try clear c1
    obtain ⟨x3_1, x4_1, rfl, HA, HK1, HO_3, HB⟩ := hrel
    cases gk with
    | zero => exact absurd HA.out (by simp [riddlelaw0_CopyBlocks.l0])
    | succ k1 =>
      have H := HA.out
      clear HA
      simp only [riddlelaw0_CopyBlocks.l0] at H
      by_cases c2 : x4_1 < (l0.length : Int)
      · rw [if_pos c2] at H
        have c2b0 : decide (x4_1 < (l0.length : Int)) = true := decide_eq_true c2
        clear c2
        by_cases c3 : 0 ≤ x4_1
        · rw [if_pos c3] at H
          have c3b0 : decide (0 ≤ x4_1) = true := decide_eq_true c3
          clear c3
          replace H := Option.bind_eq_some_iff.mp H
          obtain ⟨t269, A40, H⟩ := H
          replace H : (if x3_1.length < 2513169434916 then (riddlelaw0_CopyBlocks.l0 k1 l0 (x3_1 ++ [(⟨t269, (rd_T47 l0 x4_1).f1, (⟨(rd_T47 l0 x4_1).f2.f0, (rd_T47 l0 x4_1).f2.f1, (rd_T47 l0 x4_1).f2.f2, (rd_T47 l0 x4_1).f2.f3⟩ : S45), (rd_T47 l0 x4_1).f3, (rd_T47 l0 x4_1).f4⟩ : S47)]) (wrap64 (x4_1 + 1))) else (none)) = some r := H
          have A4 := Aside0.mk A40
          clear A40
          by_cases c5 : x3_1.length < 2513169434916
          · rw [if_pos c5] at H
            have LMc5 := Aside0.mk c5
            clear c5
            obtain ⟨y272, hy272⟩ : ∃ y_ : List (S47), y_ = (x3_1 ++ [(⟨t269, (rd_T47 l0 x4_1).f1, (⟨(rd_T47 l0 x4_1).f2.f0, (rd_T47 l0 x4_1).f2.f1, (rd_T47 l0 x4_1).f2.f2, (rd_T47 l0 x4_1).f2.f3⟩ : S45), (rd_T47 l0 x4_1).f3, (rd_T47 l0 x4_1).f4⟩ : S47)]) := ⟨_, rfl⟩
            replace H : (riddlelaw0_CopyBlocks.l0 k1 l0 y272 (wrap64 (x4_1 + 1))) = some r := by first | (rw [hy272]; with_reducible exact H) | (have H2_ := (Option.bind_some _ _).symm.trans H; rw [hy272]; with_reducible exact H2_) | (have H2_ := (Option.bind_some _ _).symm.trans H; with_reducible exact H2_) | with_reducible exact H | (rw [hy272]; exact H) | exact H
            have Ny272 := Aside0.mk hy272
            clear hy272
            have H' := Aside0.mk H
            clear H
            have p266 : 0 ≤ (x4_1 : Int) := of_decide_eq_true (by first | (with_reducible assumption) | assumption)
            have q266 : x4_1 < (l0.length : Int) := of_decide_eq_true (by first | (with_reducible assumption) | assumption)
            obtain ⟨ad266, A266_0, c266_0, e266, hx266_0, hx266_1, hx266_2, hx266_3, hx266_4, hx266_5, hx266_6, hx266_7, hl266_0, hi266_0⟩ := at_T47 HR0.out x4_1 p266 q266
            cases e266
            replace hx266_0 := (HB.out.cell (World.block_lt_of_cell? w _ hx266_0)).trans hx266_0
            replace hx266_1 := (HB.out.cell (World.block_lt_of_cell? w _ hx266_1)).trans hx266_1
            replace hx266_2 := (HB.out.cell (World.block_lt_of_cell? w _ hx266_2)).trans hx266_2
            replace hx266_3 := (HB.out.cell (World.block_lt_of_cell? w _ hx266_3)).trans hx266_3
            replace hx266_4 := (HB.out.cell (World.block_lt_of_cell? w _ hx266_4)).trans hx266_4
            replace hx266_5 := (HB.out.cell (World.block_lt_of_cell? w _ hx266_5)).trans hx266_5
            replace hx266_6 := (HB.out.cell (World.block_lt_of_cell? w _ hx266_6)).trans hx266_6
            replace hx266_7 := (HB.out.cell (World.block_lt_of_cell? w _ hx266_7)).trans hx266_7
            have HR266_0 := Aside0.mk hi266_0
            have HC266_0 := Aside0.mk hl266_0
            clear hi266_0 hl266_0
            replace p266 := eq_true p266
            replace q266 := eq_true q266
            go_wp2_with (first | ((with_reducible refine gate_dst (N := 5) rfl ?_); refine box_event ?hg (N := 5) ?hd (cs := #[.slice none 0 0, .int .i64 0, .int .u16 0, .int .u8 0, .int .u8 0, .int .u32 0, .int .i64 0, .int .i64 0]) (t := 47) ?hr ?_; (case hd => rfl); (case hg => rfl); (case hr => first | (go_simp; done) | (go_simp; rfl)); intro gb267 hg w6 hbox hb; have n0_ := Aside0.mk (Kd.S_below (Kd.S_elderB (by (with_reducible repeat (first | apply Kd.S_alloc | apply Kd.S_drewN | apply Kd.S_drew)); exact HO_3.out) gb267 (Nat.le_of_eq hg.symm)) hb); have n1_ := Aside0.mk (below_step (by repeat (first | (with_reducible first | exact HB.out | apply below_alloc | apply pw_below_drewN | apply below_drew1) | exact HB.out)) hb); have n2_ := Aside0.mk (hbox); have n3_ := Aside0.mk ((by rw [hg]; exact (below_size (by repeat (first | (with_reducible first | exact HB.out | apply below_alloc | apply pw_below_drewN | apply below_drew1) | exact HB.out))) : w.heap.size ≤ gb267)); have n4_ := Aside0.mk ((by rw [hg]; exact (below_size (by repeat (first | (with_reducible first | exact HB.out | apply below_alloc | apply pw_below_drewN | apply below_drew1) | exact HB.out))) : w.heap.size ≤ gb267)); clear HO_3; clear HB; have HO_3 := n0_; have HB := n1_; have BK267 := n2_; have GW267 := n3_; have GE267 := n4_; clear n0_ n1_ n2_ n3_ n4_; clear hb hbox hg; have hcz7_0 : w6.cell? ⟨gb267, 0, none⟩ = some (.slice none 0 0) := (blk_cell BK267.out 0).trans rfl; have hcz7_1 : w6.cell? ⟨gb267, 1, none⟩ = some (.int .i64 0) := (blk_cell BK267.out 1).trans rfl; have hcz7_2 : w6.cell? ⟨gb267, 2, none⟩ = some (.int .u16 0) := (blk_cell BK267.out 2).trans rfl; have hcz7_3 : w6.cell? ⟨gb267, 3, none⟩ = some (.int .u8 0) := (blk_cell BK267.out 3).trans rfl; have hcz7_4 : w6.cell? ⟨gb267, 4, none⟩ = some (.int .u8 0) := (blk_cell BK267.out 4).trans rfl; have hcz7_5 : w6.cell? ⟨gb267, 5, none⟩ = some (.int .u32 0) := (blk_cell BK267.out 5).trans rfl; have hcz7_6 : w6.cell? ⟨gb267, 6, none⟩ = some (.int .i64 0) := (blk_cell BK267.out 6).trans rfl; have hcz7_7 : w6.cell? ⟨gb267, 7, none⟩ = some (.int .i64 0) := (blk_cell BK267.out 7).trans rfl; have hfz7_0 := blk_frozen BK267.out 0; have hfz7_1 := blk_frozen BK267.out 1; have hfz7_2 := blk_frozen BK267.out 2; have hfz7_3 := blk_frozen BK267.out 3; have hfz7_4 := blk_frozen BK267.out 4; have hfz7_5 := blk_frozen BK267.out 5; have hfz7_6 := blk_frozen BK267.out 6; have hfz7_7 := blk_frozen BK267.out 7; have p268 : 0 ≤ (x4_1 : Int) := of_decide_eq_true (by first | (with_reducible assumption) | assumption); have q268 : x4_1 < (l0.length : Int) := of_decide_eq_true (by first | (with_reducible assumption) | assumption); obtain ⟨ad268, A268_0, c268_0, e268, hx268_0, hx268_1, hx268_2, hx268_3, hx268_4, hx268_5, hx268_6, hx268_7, hl268_0, hi268_0⟩ := at_T47 HR0.out x4_1 p268 q268; obtain rfl : ad266 = ad268 := (by injection e268); have hn268_0 : ad266.block ≠ gb267 := Nat.ne_of_lt (Nat.lt_of_lt_of_le (by have := World.block_lt_of_cell? _ _ hx268_0; first | rwa [add_block] at this | exact this) GW267.out); have hn268_1 : ad266.block ≠ gb267 := Nat.ne_of_lt (Nat.lt_of_lt_of_le (by have := World.block_lt_of_cell? _ _ hx268_0; first | rwa [add_block] at this | exact this) GW267.out); have hn268_2 : ad266.block ≠ gb267 := Nat.ne_of_lt (Nat.lt_of_lt_of_le (by have := World.block_lt_of_cell? _ _ hx268_0; first | rwa [add_block] at this | exact this) GW267.out); have hn268_3 : ad266.block ≠ gb267 := Nat.ne_of_lt (Nat.lt_of_lt_of_le (by have := World.block_lt_of_cell? _ _ hx268_0; first | rwa [add_block] at this | exact this) GW267.out); have hn268_4 : ad266.block ≠ gb267 := Nat.ne_of_lt (Nat.lt_of_lt_of_le (by have := World.block_lt_of_cell? _ _ hx268_0; first | rwa [add_block] at this | exact this) GW267.out); have hn268_5 : ad266.block ≠ gb267 := Nat.ne_of_lt (Nat.lt_of_lt_of_le (by have := World.block_lt_of_cell? _ _ hx268_0; first | rwa [add_block] at this | exact this) GW267.out); have hn268_6 : ad266.block ≠ gb267 := Nat.ne_of_lt (Nat.lt_of_lt_of_le (by have := World.block_lt_of_cell? _ _ hx268_0; first | rwa [add_block] at this | exact this) GW267.out); have hn268_7 : ad266.block ≠ gb267 := Nat.ne_of_lt (Nat.lt_of_lt_of_le (by have := World.block_lt_of_cell? _ _ hx268_0; first | rwa [add_block] at this | exact this) GW267.out); replace hx268_0 := (HB.out.cell (World.block_lt_of_cell? w _ hx268_0)).trans hx268_0; replace hx268_1 := (HB.out.cell (World.block_lt_of_cell? w _ hx268_1)).trans hx268_1; replace hx268_2 := (HB.out.cell (World.block_lt_of_cell? w _ hx268_2)).trans hx268_2; replace hx268_3 := (HB.out.cell (World.block_lt_of_cell? w _ hx268_3)).trans hx268_3; replace hx268_4 := (HB.out.cell (World.block_lt_of_cell? w _ hx268_4)).trans hx268_4; replace hx268_5 := (HB.out.cell (World.block_lt_of_cell? w _ hx268_5)).trans hx268_5; replace hx268_6 := (HB.out.cell (World.block_lt_of_cell? w _ hx268_6)).trans hx268_6; replace hx268_7 := (HB.out.cell (World.block_lt_of_cell? w _ hx268_7)).trans hx268_7; have HR268_0 := Aside0.mk hi268_0; have HC268_0 := Aside0.mk hl268_0; clear hi268_0 hl268_0; replace hx268_0 := (cell_far (p := ⟨gb267, 0, none⟩) (by first | (rw [add_block]; exact hn268_0) | (show (Addr.add _ _).block ≠ _; rw [add_block]; exact hn268_0) | exact hn268_0) (.slice A266_0 ((rd_T47 l0 x4_1).f0).length c266_0)).trans hx268_0; replace hx268_1 := (cell_far (p := ⟨gb267, 0, none⟩) (by first | (rw [add_block]; exact hn268_0) | (show (Addr.add _ _).block ≠ _; rw [add_block]; exact hn268_0) | exact hn268_0) (.slice A266_0 ((rd_T47 l0 x4_1).f0).length c266_0)).trans hx268_1; replace hx268_2 := (cell_far (p := ⟨gb267, 0, none⟩) (by first | (rw [add_block]; exact hn268_0) | (show (Addr.add _ _).block ≠ _; rw [add_block]; exact hn268_0) | exact hn268_0) (.slice A266_0 ((rd_T47 l0 x4_1).f0).length c266_0)).trans hx268_2; replace hx268_3 := (cell_far (p := ⟨gb267, 0, none⟩) (by first | (rw [add_block]; exact hn268_0) | (show (Addr.add _ _).block ≠ _; rw [add_block]; exact hn268_0) | exact hn268_0) (.slice A266_0 ((rd_T47 l0 x4_1).f0).length c266_0)).trans hx268_3; replace hx268_4 := (cell_far (p := ⟨gb267, 0, none⟩) (by first | (rw [add_block]; exact hn268_0) | (show (Addr.add _ _).block ≠ _; rw [add_block]; exact hn268_0) | exact hn268_0) (.slice A266_0 ((rd_T47 l0 x4_1).f0).length c266_0)).trans hx268_4; replace hx268_5 := (cell_far (p := ⟨gb267, 0, none⟩) (by first | (rw [add_block]; exact hn268_0) | (show (Addr.add _ _).block ≠ _; rw [add_block]; exact hn268_0) | exact hn268_0) (.slice A266_0 ((rd_T47 l0 x4_1).f0).length c266_0)).trans hx268_5; replace hx268_6 := (cell_far (p := ⟨gb267, 0, none⟩) (by first | (rw [add_block]; exact hn268_0) | (show (Addr.add _ _).block ≠ _; rw [add_block]; exact hn268_0) | exact hn268_0) (.slice A266_0 ((rd_T47 l0 x4_1).f0).length c266_0)).trans hx268_6; replace hx268_7 := (cell_far (p := ⟨gb267, 0, none⟩) (by first | (rw [add_block]; exact hn268_0) | (show (Addr.add _ _).block ≠ _; rw [add_block]; exact hn268_0) | exact hn268_0) (.slice A266_0 ((rd_T47 l0 x4_1).f0).length c266_0)).trans hx268_7; replace hx268_0 := (cell_far (p := ⟨gb267, 1, none⟩) (by first | (rw [add_block]; exact hn268_1) | (show (Addr.add _ _).block ≠ _; rw [add_block]; exact hn268_1) | exact hn268_1) (.int .i64 ((rd_T47 l0 x4_1).f1))).trans hx268_0; replace hx268_1 := (cell_far (p := ⟨gb267, 1, none⟩) (by first | (rw [add_block]; exact hn268_1) | (show (Addr.add _ _).block ≠ _; rw [add_block]; exact hn268_1) | exact hn268_1) (.int .i64 ((rd_T47 l0 x4_1).f1))).trans hx268_1; replace hx268_2 := (cell_far (p := ⟨gb267, 1, none⟩) (by first | (rw [add_block]; exact hn268_1) | (show (Addr.add _ _).block ≠ _; rw [add_block]; exact hn268_1) | exact hn268_1) (.int .i64 ((rd_T47 l0 x4_1).f1))).trans hx268_2; replace hx268_3 := (cell_far (p := ⟨gb267, 1, none⟩) (by first | (rw [add_block]; exact hn268_1) | (show (Addr.add _ _).block ≠ _; rw [add_block]; exact hn268_1) | exact hn268_1) (.int .i64 ((rd_T47 l0 x4_1).f1))).trans hx268_3; replace hx268_4 := (cell_far (p := ⟨gb267, 1, none⟩) (by first | (rw [add_block]; exact hn268_1) | (show (Addr.add _ _).block ≠ _; rw [add_block]; exact hn268_1) | exact hn268_1) (.int .i64 ((rd_T47 l0 x4_1).f1))).trans hx268_4; replace hx268_5 := (cell_far (p := ⟨gb267, 1, none⟩) (by first | (rw [add_block]; exact hn268_1) | (show (Addr.add _ _).block ≠ _; rw [add_block]; exact hn268_1) | exact hn268_1) (.int .i64 ((rd_T47 l0 x4_1).f1))).trans hx268_5; replace hx268_6 := (cell_far (p := ⟨gb267, 1, none⟩) (by first | (rw [add_block]; exact hn268_1) | (show (Addr.add _ _).block ≠ _; rw [add_block]; exact hn268_1) | exact hn268_1) (.int .i64 ((rd_T47 l0 x4_1).f1))).trans hx268_6; replace hx268_7 := (cell_far (p := ⟨gb267, 1, none⟩) (by first | (rw [add_block]; exact hn268_1) | (show (Addr.add _ _).block ≠ _; rw [add_block]; exact hn268_1) | exact hn268_1) (.int .i64 ((rd_T47 l0 x4_1).f1))).trans hx268_7; replace hx268_0 := (cell_far (p := ⟨gb267, 2, none⟩) (by first | (rw [add_block]; exact hn268_2) | (show (Addr.add _ _).block ≠ _; rw [add_block]; exact hn268_2) | exact hn268_2) (.int .u16 ((rd_T47 l0 x4_1).f2.f0))).trans hx268_0; replace hx268_1 := (cell_far (p := ⟨gb267, 2, none⟩) (by first | (rw [add_block]; exact hn268_2) | (show (Addr.add _ _).block ≠ _; rw [add_block]; exact hn268_2) | exact hn268_2) (.int .u16 ((rd_T47 l0 x4_1).f2.f0))).trans hx268_1; replace hx268_2 := (cell_far (p := ⟨gb267, 2, none⟩) (by first | (rw [add_block]; exact hn268_2) | (show (Addr.add _ _).block ≠ _; rw [add_block]; exact hn268_2) | exact hn268_2) (.int .u16 ((rd_T47 l0 x4_1).f2.f0))).trans hx268_2; replace hx268_3 := (cell_far (p := ⟨gb267, 2, none⟩) (by first | (rw [add_block]; exact hn268_2) | (show (Addr.add _ _).block ≠ _; rw [add_block]; exact hn268_2) | exact hn268_2) (.int .u16 ((rd_T47 l0 x4_1).f2.f0))).trans hx268_3; replace hx268_4 := (cell_far (p := ⟨gb267, 2, none⟩) (by first | (rw [add_block]; exact hn268_2) | (show (Addr.add _ _).block ≠ _; rw [add_block]; exact hn268_2) | exact hn268_2) (.int .u16 ((rd_T47 l0 x4_1).f2.f0))).trans hx268_4; replace hx268_5 := (cell_far (p := ⟨gb267, 2, none⟩) (by first | (rw [add_block]; exact hn268_2) | (show (Addr.add _ _).block ≠ _; rw [add_block]; exact hn268_2) | exact hn268_2) (.int .u16 ((rd_T47 l0 x4_1).f2.f0))).trans hx268_5; replace hx268_6 := (cell_far (p := ⟨gb267, 2, none⟩) (by first | (rw [add_block]; exact hn268_2) | (show (Addr.add _ _).block ≠ _; rw [add_block]; exact hn268_2) | exact hn268_2) (.int .u16 ((rd_T47 l0 x4_1).f2.f0))).trans hx268_6; replace hx268_7 := (cell_far (p := ⟨gb267, 2, none⟩) (by first | (rw [add_block]; exact hn268_2) | (show (Addr.add _ _).block ≠ _; rw [add_block]; exact hn268_2) | exact hn268_2) (.int .u16 ((rd_T47 l0 x4_1).f2.f0))).trans hx268_7; replace hx268_0 := (cell_far (p := ⟨gb267, 3, none⟩) (by first | (rw [add_block]; exact hn268_3) | (show (Addr.add _ _).block ≠ _; rw [add_block]; exact hn268_3) | exact hn268_3) (.int .u8 ((rd_T47 l0 x4_1).f2.f1))).trans hx268_0; replace hx268_1 := (cell_far (p := ⟨gb267, 3, none⟩) (by first | (rw [add_block]; exact hn268_3) | (show (Addr.add _ _).block ≠ _; rw [add_block]; exact hn268_3) | exact hn268_3) (.int .u8 ((rd_T47 l0 x4_1).f2.f1))).trans hx268_1; replace hx268_2 := (cell_far (p := ⟨gb267, 3, none⟩) (by first | (rw [add_block]; exact hn268_3) | (show (Addr.add _ _).block ≠ _; rw [add_block]; exact hn268_3) | exact hn268_3) (.int .u8 ((rd_T47 l0 x4_1).f2.f1))).trans hx268_2; replace hx268_3 := (cell_far (p := ⟨gb267, 3, none⟩) (by first | (rw [add_block]; exact hn268_3) | (show (Addr.add _ _).block ≠ _; rw [add_block]; exact hn268_3) | exact hn268_3) (.int .u8 ((rd_T47 l0 x4_1).f2.f1))).trans hx268_3; replace hx268_4 := (cell_far (p := ⟨gb267, 3, none⟩) (by first | (rw [add_block]; exact hn268_3) | (show (Addr.add _ _).block ≠ _; rw [add_block]; exact hn268_3) | exact hn268_3) (.int .u8 ((rd_T47 l0 x4_1).f2.f1))).trans hx268_4; replace hx268_5 := (cell_far (p := ⟨gb267, 3, none⟩) (by first | (rw [add_block]; exact hn268_3) | (show (Addr.add _ _).block ≠ _; rw [add_block]; exact hn268_3) | exact hn268_3) (.int .u8 ((rd_T47 l0 x4_1).f2.f1))).trans hx268_5; replace hx268_6 := (cell_far (p := ⟨gb267, 3, none⟩) (by first | (rw [add_block]; exact hn268_3) | (show (Addr.add _ _).block ≠ _; rw [add_block]; exact hn268_3) | exact hn268_3) (.int .u8 ((rd_T47 l0 x4_1).f2.f1))).trans hx268_6; replace hx268_7 := (cell_far (p := ⟨gb267, 3, none⟩) (by first | (rw [add_block]; exact hn268_3) | (show (Addr.add _ _).block ≠ _; rw [add_block]; exact hn268_3) | exact hn268_3) (.int .u8 ((rd_T47 l0 x4_1).f2.f1))).trans hx268_7; replace hx268_0 := (cell_far (p := ⟨gb267, 4, none⟩) (by first | (rw [add_block]; exact hn268_4) | (show (Addr.add _ _).block ≠ _; rw [add_block]; exact hn268_4) | exact hn268_4) (.int .u8 ((rd_T47 l0 x4_1).f2.f2))).trans hx268_0; replace hx268_1 := (cell_far (p := ⟨gb267, 4, none⟩) (by first | (rw [add_block]; exact hn268_4) | (show (Addr.add _ _).block ≠ _; rw [add_block]; exact hn268_4) | exact hn268_4) (.int .u8 ((rd_T47 l0 x4_1).f2.f2))).trans hx268_1; replace hx268_2 := (cell_far (p := ⟨gb267, 4, none⟩) (by first | (rw [add_block]; exact hn268_4) | (show (Addr.add _ _).block ≠ _; rw [add_block]; exact hn268_4) | exact hn268_4) (.int .u8 ((rd_T47 l0 x4_1).f2.f2))).trans hx268_2; replace hx268_3 := (cell_far (p := ⟨gb267, 4, none⟩) (by first | (rw [add_block]; exact hn268_4) | (show (Addr.add _ _).block ≠ _; rw [add_block]; exact hn268_4) | exact hn268_4) (.int .u8 ((rd_T47 l0 x4_1).f2.f2))).trans hx268_3; replace hx268_4 := (cell_far (p := ⟨gb267, 4, none⟩) (by first | (rw [add_block]; exact hn268_4) | (show (Addr.add _ _).block ≠ _; rw [add_block]; exact hn268_4) | exact hn268_4) (.int .u8 ((rd_T47 l0 x4_1).f2.f2))).trans hx268_4; replace hx268_5 := (cell_far (p := ⟨gb267, 4, none⟩) (by first | (rw [add_block]; exact hn268_4) | (show (Addr.add _ _).block ≠ _; rw [add_block]; exact hn268_4) | exact hn268_4) (.int .u8 ((rd_T47 l0 x4_1).f2.f2))).trans hx268_5; replace hx268_6 := (cell_far (p := ⟨gb267, 4, none⟩) (by first | (rw [add_block]; exact hn268_4) | (show (Addr.add _ _).block ≠ _; rw [add_block]; exact hn268_4) | exact hn268_4) (.int .u8 ((rd_T47 l0 x4_1).f2.f2))).trans hx268_6; replace hx268_7 := (cell_far (p := ⟨gb267, 4, none⟩) (by first | (rw [add_block]; exact hn268_4) | (show (Addr.add _ _).block ≠ _; rw [add_block]; exact hn268_4) | exact hn268_4) (.int .u8 ((rd_T47 l0 x4_1).f2.f2))).trans hx268_7; replace hx268_0 := (cell_far (p := ⟨gb267, 5, none⟩) (by first | (rw [add_block]; exact hn268_5) | (show (Addr.add _ _).block ≠ _; rw [add_block]; exact hn268_5) | exact hn268_5) (.int .u32 ((rd_T47 l0 x4_1).f2.f3))).trans hx268_0; replace hx268_1 := (cell_far (p := ⟨gb267, 5, none⟩) (by first | (rw [add_block]; exact hn268_5) | (show (Addr.add _ _).block ≠ _; rw [add_block]; exact hn268_5) | exact hn268_5) (.int .u32 ((rd_T47 l0 x4_1).f2.f3))).trans hx268_1; replace hx268_2 := (cell_far (p := ⟨gb267, 5, none⟩) (by first | (rw [add_block]; exact hn268_5) | (show (Addr.add _ _).block ≠ _; rw [add_block]; exact hn268_5) | exact hn268_5) (.int .u32 ((rd_T47 l0 x4_1).f2.f3))).trans hx268_2; replace hx268_3 := (cell_far (p := ⟨gb267, 5, none⟩) (by first | (rw [add_block]; exact hn268_5) | (show (Addr.add _ _).block ≠ _; rw [add_block]; exact hn268_5) | exact hn268_5) (.int .u32 ((rd_T47 l0 x4_1).f2.f3))).trans hx268_3; replace hx268_4 := (cell_far (p := ⟨gb267, 5, none⟩) (by first | (rw [add_block]; exact hn268_5) | (show (Addr.add _ _).block ≠ _; rw [add_block]; exact hn268_5) | exact hn268_5) (.int .u32 ((rd_T47 l0 x4_1).f2.f3))).trans hx268_4; replace hx268_5 := (cell_far (p := ⟨gb267, 5, none⟩) (by first | (rw [add_block]; exact hn268_5) | (show (Addr.add _ _).block ≠ _; rw [add_block]; exact hn268_5) | exact hn268_5) (.int .u32 ((rd_T47 l0 x4_1).f2.f3))).trans hx268_5; replace hx268_6 := (cell_far (p := ⟨gb267, 5, none⟩) (by first | (rw [add_block]; exact hn268_5) | (show (Addr.add _ _).block ≠ _; rw [add_block]; exact hn268_5) | exact hn268_5) (.int .u32 ((rd_T47 l0 x4_1).f2.f3))).trans hx268_6; replace hx268_7 := (cell_far (p := ⟨gb267, 5, none⟩) (by first | (rw [add_block]; exact hn268_5) | (show (Addr.add _ _).block ≠ _; rw [add_block]; exact hn268_5) | exact hn268_5) (.int .u32 ((rd_T47 l0 x4_1).f2.f3))).trans hx268_7; replace hx268_0 := (cell_far (p := ⟨gb267, 6, none⟩) (by first | (rw [add_block]; exact hn268_6) | (show (Addr.add _ _).block ≠ _; rw [add_block]; exact hn268_6) | exact hn268_6) (.int .i64 ((rd_T47 l0 x4_1).f3))).trans hx268_0; replace hx268_1 := (cell_far (p := ⟨gb267, 6, none⟩) (by first | (rw [add_block]; exact hn268_6) | (show (Addr.add _ _).block ≠ _; rw [add_block]; exact hn268_6) | exact hn268_6) (.int .i64 ((rd_T47 l0 x4_1).f3))).trans hx268_1; replace hx268_2 := (cell_far (p := ⟨gb267, 6, none⟩) (by first | (rw [add_block]; exact hn268_6) | (show (Addr.add _ _).block ≠ _; rw [add_block]; exact hn268_6) | exact hn268_6) (.int .i64 ((rd_T47 l0 x4_1).f3))).trans hx268_2; replace hx268_3 := (cell_far (p := ⟨gb267, 6, none⟩) (by first | (rw [add_block]; exact hn268_6) | (show (Addr.add _ _).block ≠ _; rw [add_block]; exact hn268_6) | exact hn268_6) (.int .i64 ((rd_T47 l0 x4_1).f3))).trans hx268_3; replace hx268_4 := (cell_far (p := ⟨gb267, 6, none⟩) (by first | (rw [add_block]; exact hn268_6) | (show (Addr.add _ _).block ≠ _; rw [add_block]; exact hn268_6) | exact hn268_6) (.int .i64 ((rd_T47 l0 x4_1).f3))).trans hx268_4; replace hx268_5 := (cell_far (p := ⟨gb267, 6, none⟩) (by first | (rw [add_block]; exact hn268_6) | (show (Addr.add _ _).block ≠ _; rw [add_block]; exact hn268_6) | exact hn268_6) (.int .i64 ((rd_T47 l0 x4_1).f3))).trans hx268_5; replace hx268_6 := (cell_far (p := ⟨gb267, 6, none⟩) (by first | (rw [add_block]; exact hn268_6) | (show (Addr.add _ _).block ≠ _; rw [add_block]; exact hn268_6) | exact hn268_6) (.int .i64 ((rd_T47 l0 x4_1).f3))).trans hx268_6; replace hx268_7 := (cell_far (p := ⟨gb267, 6, none⟩) (by first | (rw [add_block]; exact hn268_6) | (show (Addr.add _ _).block ≠ _; rw [add_block]; exact hn268_6) | exact hn268_6) (.int .i64 ((rd_T47 l0 x4_1).f3))).trans hx268_7; replace hx268_0 := (cell_far (p := ⟨gb267, 7, none⟩) (by first | (rw [add_block]; exact hn268_7) | (show (Addr.add _ _).block ≠ _; rw [add_block]; exact hn268_7) | exact hn268_7) (.int .i64 ((rd_T47 l0 x4_1).f4))).trans hx268_0; replace hx268_1 := (cell_far (p := ⟨gb267, 7, none⟩) (by first | (rw [add_block]; exact hn268_7) | (show (Addr.add _ _).block ≠ _; rw [add_block]; exact hn268_7) | exact hn268_7) (.int .i64 ((rd_T47 l0 x4_1).f4))).trans hx268_1; replace hx268_2 := (cell_far (p := ⟨gb267, 7, none⟩) (by first | (rw [add_block]; exact hn268_7) | (show (Addr.add _ _).block ≠ _; rw [add_block]; exact hn268_7) | exact hn268_7) (.int .i64 ((rd_T47 l0 x4_1).f4))).trans hx268_2; replace hx268_3 := (cell_far (p := ⟨gb267, 7, none⟩) (by first | (rw [add_block]; exact hn268_7) | (show (Addr.add _ _).block ≠ _; rw [add_block]; exact hn268_7) | exact hn268_7) (.int .i64 ((rd_T47 l0 x4_1).f4))).trans hx268_3; replace hx268_4 := (cell_far (p := ⟨gb267, 7, none⟩) (by first | (rw [add_block]; exact hn268_7) | (show (Addr.add _ _).block ≠ _; rw [add_block]; exact hn268_7) | exact hn268_7) (.int .i64 ((rd_T47 l0 x4_1).f4))).trans hx268_4; replace hx268_5 := (cell_far (p := ⟨gb267, 7, none⟩) (by first | (rw [add_block]; exact hn268_7) | (show (Addr.add _ _).block ≠ _; rw [add_block]; exact hn268_7) | exact hn268_7) (.int .i64 ((rd_T47 l0 x4_1).f4))).trans hx268_5; replace hx268_6 := (cell_far (p := ⟨gb267, 7, none⟩) (by first | (rw [add_block]; exact hn268_7) | (show (Addr.add _ _).block ≠ _; rw [add_block]; exact hn268_7) | exact hn268_7) (.int .i64 ((rd_T47 l0 x4_1).f4))).trans hx268_6; replace hx268_7 := (cell_far (p := ⟨gb267, 7, none⟩) (by first | (rw [add_block]; exact hn268_7) | (show (Addr.add _ _).block ≠ _; rw [add_block]; exact hn268_7) | exact hn268_7) (.int .i64 ((rd_T47 l0 x4_1).f4))).trans hx268_7; clear hn268_0; clear hn268_1; clear hn268_2; clear hn268_3; clear hn268_4; clear hn268_5; clear hn268_6; clear hn268_7; replace p268 := eq_true p268; replace q268 := eq_true q268) | ((with_reducible refine gate_callee (f := 22) rfl ?_); refine goesL_ (some 21) rfl rfl Try.func22 (by kernel_rfl) rfl #[.slice A268_0 ((rd_T47 l0 x4_1).f0).length c268_0] rfl (by (try simp only [List.map_toArray, List.map_cons, List.map_nil]); first | done | rfl | (simp only [List.length_drop, List.length_take]; rfl)) ?_; (with_reducible refine (riddlelaw0_CopyInsns.calls _ _ ((rd_T47 l0 x4_1).f0) t269 _ ?side1 ?side2 A4.out).mono ?_); (case side1 => exact Kd.C_below HR268_0.out (by repeat (first | (with_reducible first | exact HB.out | apply below_alloc | apply pw_below_drewN | apply below_drew1 | refine below_set ?_ GE267.out) | exact HB.out))); (case side2 => exact HC268_0.out); rintro e w8 ⟨v270, rfl, ho0, hb⟩; refine ⟨_, rfl, ?_⟩; have n0_ := Aside0.mk (Kd.S_elder' (by (with_reducible repeat (first | apply Kd.S_alloc | apply Kd.S_drewN | apply Kd.S_drew)); exact (Kd.S_mono (Kd.S_far (p := ⟨gb267, 7, none⟩) (Kd.S_far (p := ⟨gb267, 6, none⟩) (Kd.S_far (p := ⟨gb267, 5, none⟩) (Kd.S_far (p := ⟨gb267, 4, none⟩) (Kd.S_far (p := ⟨gb267, 3, none⟩) (Kd.S_far (p := ⟨gb267, 2, none⟩) (Kd.S_far (p := ⟨gb267, 1, none⟩) (Kd.S_far (p := ⟨gb267, 0, none⟩) (Kd.S_mono HO_3.out (fun k_ hk => (⟨hk, hk.2⟩ : _ ∧ k_ ≠ gb267))) (fun _ hk => hk.2) (.slice A266_0 ((rd_T47 l0 x4_1).f0).length c266_0)) (fun _ hk => hk.2) (.int .i64 ((rd_T47 l0 x4_1).f1))) (fun _ hk => hk.2) (.int .u16 ((rd_T47 l0 x4_1).f2.f0))) (fun _ hk => hk.2) (.int .u8 ((rd_T47 l0 x4_1).f2.f1))) (fun _ hk => hk.2) (.int .u8 ((rd_T47 l0 x4_1).f2.f2))) (fun _ hk => hk.2) (.int .u32 ((rd_T47 l0 x4_1).f2.f3))) (fun _ hk => hk.2) (.int .i64 ((rd_T47 l0 x4_1).f3))) (fun _ hk => hk.2) (.int .i64 ((rd_T47 l0 x4_1).f4))) (fun _ h_ => h_.1))) (Kd.R_base ho0) hb); have n1_ := Aside0.mk (Kd.R_lower ho0 (below_size (by repeat (first | (with_reducible first | exact HB.out | apply below_alloc | apply pw_below_drewN | apply below_drew1 | refine below_set ?_ GE267.out) | exact HB.out)))); have n2_ := Aside0.mk (blk_below (g := gb267) (o := .cells #[.slice A266_0 ((rd_T47 l0 x4_1).f0).length c266_0, .int .i64 ((rd_T47 l0 x4_1).f1), .int .u16 ((rd_T47 l0 x4_1).f2.f0), .int .u8 ((rd_T47 l0 x4_1).f2.f1), .int .u8 ((rd_T47 l0 x4_1).f2.f2), .int .u32 ((rd_T47 l0 x4_1).f2.f3), .int .i64 ((rd_T47 l0 x4_1).f3), .int .i64 ((rd_T47 l0 x4_1).f4)] 47 (0, 0)) (by (with_reducible repeat (first | refine blk_drewN ?_ _ | refine blk_drew ?_ | refine blk_alloc ?_ _)); refine blk_put (cs := #[.slice A266_0 ((rd_T47 l0 x4_1).f0).length c266_0, .int .i64 ((rd_T47 l0 x4_1).f1), .int .u16 ((rd_T47 l0 x4_1).f2.f0), .int .u8 ((rd_T47 l0 x4_1).f2.f1), .int .u8 ((rd_T47 l0 x4_1).f2.f2), .int .u32 ((rd_T47 l0 x4_1).f2.f3), .int .i64 ((rd_T47 l0 x4_1).f3), .int .i64 0]) ?_ 7 _ rfl; (with_reducible repeat (first | refine blk_drewN ?_ _ | refine blk_drew ?_ | refine blk_alloc ?_ _)); refine blk_put (cs := #[.slice A266_0 ((rd_T47 l0 x4_1).f0).length c266_0, .int .i64 ((rd_T47 l0 x4_1).f1), .int .u16 ((rd_T47 l0 x4_1).f2.f0), .int .u8 ((rd_T47 l0 x4_1).f2.f1), .int .u8 ((rd_T47 l0 x4_1).f2.f2), .int .u32 ((rd_T47 l0 x4_1).f2.f3), .int .i64 0, .int .i64 0]) ?_ 6 _ rfl; (with_reducible repeat (first | refine blk_drewN ?_ _ | refine blk_drew ?_ | refine blk_alloc ?_ _)); refine blk_put (cs := #[.slice A266_0 ((rd_T47 l0 x4_1).f0).length c266_0, .int .i64 ((rd_T47 l0 x4_1).f1), .int .u16 ((rd_T47 l0 x4_1).f2.f0), .int .u8 ((rd_T47 l0 x4_1).f2.f1), .int .u8 ((rd_T47 l0 x4_1).f2.f2), .int .u32 0, .int .i64 0, .int .i64 0]) ?_ 5 _ rfl; (with_reducible repeat (first | refine blk_drewN ?_ _ | refine blk_drew ?_ | refine blk_alloc ?_ _)); refine blk_put (cs := #[.slice A266_0 ((rd_T47 l0 x4_1).f0).length c266_0, .int .i64 ((rd_T47 l0 x4_1).f1), .int .u16 ((rd_T47 l0 x4_1).f2.f0), .int .u8 ((rd_T47 l0 x4_1).f2.f1), .int .u8 0, .int .u32 0, .int .i64 0, .int .i64 0]) ?_ 4 _ rfl; (with_reducible repeat (first | refine blk_drewN ?_ _ | refine blk_drew ?_ | refine blk_alloc ?_ _)); refine blk_put (cs := #[.slice A266_0 ((rd_T47 l0 x4_1).f0).length c266_0, .int .i64 ((rd_T47 l0 x4_1).f1), .int .u16 ((rd_T47 l0 x4_1).f2.f0), .int .u8 0, .int .u8 0, .int .u32 0, .int .i64 0, .int .i64 0]) ?_ 3 _ rfl; (with_reducible repeat (first | refine blk_drewN ?_ _ | refine blk_drew ?_ | refine blk_alloc ?_ _)); refine blk_put (cs := #[.slice A266_0 ((rd_T47 l0 x4_1).f0).length c266_0, .int .i64 ((rd_T47 l0 x4_1).f1), .int .u16 0, .int .u8 0, .int .u8 0, .int .u32 0, .int .i64 0, .int .i64 0]) ?_ 2 _ rfl; (with_reducible repeat (first | refine blk_drewN ?_ _ | refine blk_drew ?_ | refine blk_alloc ?_ _)); refine blk_put (cs := #[.slice A266_0 ((rd_T47 l0 x4_1).f0).length c266_0, .int .i64 0, .int .u16 0, .int .u8 0, .int .u8 0, .int .u32 0, .int .i64 0, .int .i64 0]) ?_ 1 _ rfl; (with_reducible repeat (first | refine blk_drewN ?_ _ | refine blk_drew ?_ | refine blk_alloc ?_ _)); refine blk_put (cs := #[.slice none 0 0, .int .i64 0, .int .u16 0, .int .u8 0, .int .u8 0, .int .u32 0, .int .i64 0, .int .i64 0]) ?_ 0 _ rfl; (with_reducible repeat (first | refine blk_drewN ?_ _ | refine blk_drew ?_ | refine blk_alloc ?_ _)); exact BK267.out) hb); have n3_ := Aside0.mk (below_step (by repeat (first | (with_reducible first | exact HB.out | apply below_alloc | apply pw_below_drewN | apply below_drew1 | refine below_set ?_ GE267.out) | exact HB.out)) hb); clear HO_3; clear BK267; clear HB; have HO_3 := n0_; have HO271 := n1_; have BK267 := n2_; have HB := n3_; clear n0_ n1_ n2_ n3_; (try clear hb); (try clear hb2); (try clear hk); (try clear hi); (try clear ho0); obtain ⟨Ao9, co9, eo9⟩ := Kd.R_slice HO271.out; subst eo9; have hcz10_0 : w8.cell? ⟨gb267, 0, none⟩ = some (.slice A266_0 ((rd_T47 l0 x4_1).f0).length c266_0) := (blk_cell BK267.out 0).trans rfl; have hcz10_1 : w8.cell? ⟨gb267, 1, none⟩ = some (.int .i64 ((rd_T47 l0 x4_1).f1)) := (blk_cell BK267.out 1).trans rfl; have hcz10_2 : w8.cell? ⟨gb267, 2, none⟩ = some (.int .u16 ((rd_T47 l0 x4_1).f2.f0)) := (blk_cell BK267.out 2).trans rfl; have hcz10_3 : w8.cell? ⟨gb267, 3, none⟩ = some (.int .u8 ((rd_T47 l0 x4_1).f2.f1)) := (blk_cell BK267.out 3).trans rfl; have hcz10_4 : w8.cell? ⟨gb267, 4, none⟩ = some (.int .u8 ((rd_T47 l0 x4_1).f2.f2)) := (blk_cell BK267.out 4).trans rfl; have hcz10_5 : w8.cell? ⟨gb267, 5, none⟩ = some (.int .u32 ((rd_T47 l0 x4_1).f2.f3)) := (blk_cell BK267.out 5).trans rfl; have hcz10_6 : w8.cell? ⟨gb267, 6, none⟩ = some (.int .i64 ((rd_T47 l0 x4_1).f3)) := (blk_cell BK267.out 6).trans rfl; have hcz10_7 : w8.cell? ⟨gb267, 7, none⟩ = some (.int .i64 ((rd_T47 l0 x4_1).f4)) := (blk_cell BK267.out 7).trans rfl; have hfz10_0 := blk_frozen BK267.out 0; have hfz10_1 := blk_frozen BK267.out 1; have hfz10_2 := blk_frozen BK267.out 2; have hfz10_3 := blk_frozen BK267.out 3; have hfz10_4 := blk_frozen BK267.out 4; have hfz10_5 := blk_frozen BK267.out 5; have hfz10_6 := blk_frozen BK267.out 6; have hfz10_7 := blk_frozen BK267.out 7) | ((with_reducible refine gate_store (t := 26) (p := 22) rfl ?_); refine store_event (t := 26) (p := 22) (v := ?vo_w11) (w1 := (w8.setCell ⟨gb267, 0, none⟩ (.slice Ao9 t269.length co9))) ?hg ?ho ?hn ?hr ?_; (case ho => rfl); (case hg => rfl); (case hn => rfl); (case hr => first | (go_simp; done) | (go_simp; rfl)); intro w11 hw; have n0_ : Aside0 (Kd.S k47 47 w11 w.heap.size (fun k_ => some k_ ≠ (.slice Ao9 t269.length co9 : Value).ownBlock ∧ k_ ≠ gb267) u3 x3_1) := ⟨(by rw [hw]; exact (by (with_reducible repeat (first | apply Kd.S_alloc | apply Kd.S_drewN | apply Kd.S_drew)); exact Kd.S_mono (Kd.S_far (p := ⟨gb267, 0, none⟩) (Kd.S_mono HO_3.out (fun k_ hk => (⟨hk, hk.1.2⟩ : _ ∧ k_ ≠ gb267))) (fun _ hk => hk.2) (.slice Ao9 t269.length co9)) (fun _ hk => ⟨hk.1.2, hk.1.1.2⟩)))⟩; have n1_ : Aside0 (Kd.R k45 45 w11 w.heap.size (fun _ => True) (.slice Ao9 t269.length co9) t269) := ⟨(by rw [hw]; exact (by (with_reducible repeat (first | apply Kd.R_alloc | apply Kd.R_drewN | apply Kd.R_drew)); exact Kd.R_mono (Kd.R_far (p := ⟨gb267, 0, none⟩) (Kd.R_types HO271.out BK267.out (by decide)) (fun _ hk => hk.2) (.slice Ao9 t269.length co9)) (fun _ hk => trivial)))⟩; have n2_ : Aside0 (w11.heap[gb267]? = some (.cells #[.slice Ao9 t269.length co9, .int .i64 ((rd_T47 l0 x4_1).f1), .int .u16 ((rd_T47 l0 x4_1).f2.f0), .int .u8 ((rd_T47 l0 x4_1).f2.f1), .int .u8 ((rd_T47 l0 x4_1).f2.f2), .int .u32 ((rd_T47 l0 x4_1).f2.f3), .int .i64 ((rd_T47 l0 x4_1).f3), .int .i64 ((rd_T47 l0 x4_1).f4)] 47 (0, 0))) := ⟨(by rw [hw]; exact (by (with_reducible repeat (first | refine blk_drewN ?_ _ | refine blk_drew ?_ | refine blk_alloc ?_ _)); refine blk_put (cs := #[.slice A266_0 ((rd_T47 l0 x4_1).f0).length c266_0, .int .i64 ((rd_T47 l0 x4_1).f1), .int .u16 ((rd_T47 l0 x4_1).f2.f0), .int .u8 ((rd_T47 l0 x4_1).f2.f1), .int .u8 ((rd_T47 l0 x4_1).f2.f2), .int .u32 ((rd_T47 l0 x4_1).f2.f3), .int .i64 ((rd_T47 l0 x4_1).f3), .int .i64 ((rd_T47 l0 x4_1).f4)]) ?_ 0 _ rfl; (with_reducible repeat (first | refine blk_drewN ?_ _ | refine blk_drew ?_ | refine blk_alloc ?_ _)); exact BK267.out))⟩; have n3_ : Aside0 (Below w.heap.size w w11) := ⟨(by rw [hw]; exact (by repeat (first | (with_reducible first | exact HB.out | apply below_alloc | apply pw_below_drewN | apply below_drew1 | refine below_set ?_ GE267.out) | exact HB.out)))⟩; clear hw; clear HO_3; clear HO271; clear BK267; clear HB; have HO_3 := n0_; have HO271 := n1_; have BK267 := n2_; have HB := n3_; clear n0_ n1_ n2_ n3_; have hcz12_0 : w11.cell? ⟨gb267, 0, none⟩ = some (.slice Ao9 t269.length co9) := (blk_cell BK267.out 0).trans rfl; have hcz12_1 : w11.cell? ⟨gb267, 1, none⟩ = some (.int .i64 ((rd_T47 l0 x4_1).f1)) := (blk_cell BK267.out 1).trans rfl; have hcz12_2 : w11.cell? ⟨gb267, 2, none⟩ = some (.int .u16 ((rd_T47 l0 x4_1).f2.f0)) := (blk_cell BK267.out 2).trans rfl; have hcz12_3 : w11.cell? ⟨gb267, 3, none⟩ = some (.int .u8 ((rd_T47 l0 x4_1).f2.f1)) := (blk_cell BK267.out 3).trans rfl; have hcz12_4 : w11.cell? ⟨gb267, 4, none⟩ = some (.int .u8 ((rd_T47 l0 x4_1).f2.f2)) := (blk_cell BK267.out 4).trans rfl; have hcz12_5 : w11.cell? ⟨gb267, 5, none⟩ = some (.int .u32 ((rd_T47 l0 x4_1).f2.f3)) := (blk_cell BK267.out 5).trans rfl; have hcz12_6 : w11.cell? ⟨gb267, 6, none⟩ = some (.int .i64 ((rd_T47 l0 x4_1).f3)) := (blk_cell BK267.out 6).trans rfl; have hcz12_7 : w11.cell? ⟨gb267, 7, none⟩ = some (.int .i64 ((rd_T47 l0 x4_1).f4)) := (blk_cell BK267.out 7).trans rfl; have hfz12_0 := blk_frozen BK267.out 0; have hfz12_1 := blk_frozen BK267.out 1; have hfz12_2 := blk_frozen BK267.out 2; have hfz12_3 := blk_frozen BK267.out 3; have hfz12_4 := blk_frozen BK267.out 4; have hfz12_5 := blk_frozen BK267.out 5; have hfz12_6 := blk_frozen BK267.out 6; have hfz12_7 := blk_frozen BK267.out 7) | ((with_reducible refine gate_builtin (b := .append) (xs := #[.tmp 23, .tmp 25]) rfl ?_); at_builtin; refine Kd.S_append k47 (w0 := w) w.heap.size rfl (.tmp 23) (.tmp 25) 22 47 (.agg #[(.slice none 0 0), (.int .i64 0), (.int .u16 0), (.int .u8 0), (.int .u8 0), (.int .u32 0), (.int .i64 0), (.int .i64 0)]) 56 rfl Try.underlying22 info47 rfl (by decide) (by omega) u3 x3_1 (⟨t269, (rd_T47 l0 x4_1).f1, (⟨(rd_T47 l0 x4_1).f2.f0, (rd_T47 l0 x4_1).f2.f1, (rd_T47 l0 x4_1).f2.f2, (rd_T47 l0 x4_1).f2.f3⟩ : S45), (rd_T47 l0 x4_1).f3, (rd_T47 l0 x4_1).f4⟩ : S47) [.slice Ao9 t269.length co9, .int .i64 ((rd_T47 l0 x4_1).f1), .int .u16 ((rd_T47 l0 x4_1).f2.f0), .int .u8 ((rd_T47 l0 x4_1).f2.f1), .int .u8 ((rd_T47 l0 x4_1).f2.f2), .int .u32 ((rd_T47 l0 x4_1).f2.f3), .int .i64 ((rd_T47 l0 x4_1).f3), .int .i64 ((rd_T47 l0 x4_1).f4)] (fun k_ => k_ ≠ gb267) (fun k_ => some k_ = (.slice Ao9 t269.length co9 : Value).ownBlock) rfl rfl ?aP (fun k_ hk_ => ((Kd.R_mono (ok' := fun k_ => ((fun k_ => k_ ≠ gb267)) k_ ∧ some k_ ≠ (u3 : Value).ownBlock) (Kd.R_types (Kd.R_apart' (HO271.out) (Kd.S_typed HO_3.out) (by decide)) BK267.out (by decide)) (fun k_ hk => ⟨hk.2, hk.1.2⟩))).1 k_ hk_.symm) ?aF ?aO ?aB ?aS ?aL ?_; (case aP => exact k47_mkM _ _ _ (⟨t269, (rd_T47 l0 x4_1).f1, (⟨(rd_T47 l0 x4_1).f2.f0, (rd_T47 l0 x4_1).f2.f1, (rd_T47 l0 x4_1).f2.f2, (rd_T47 l0 x4_1).f2.f3⟩ : S45), (rd_T47 l0 x4_1).f3, (rd_T47 l0 x4_1).f4⟩ : S47) (Kd.R_mono (Kd.R_tight rfl (Kd.R_mono (ok' := fun k_ => ((fun k_ => k_ ≠ gb267)) k_ ∧ some k_ ≠ (u3 : Value).ownBlock) (Kd.R_types (Kd.R_apart' (HO271.out) (Kd.S_typed HO_3.out) (by decide)) BK267.out (by decide)) (fun k_ hk => ⟨hk.2, hk.1.2⟩))) (fun _ h_ => h_))); (case aB => exact (by repeat (first | (with_reducible first | exact HB.out | apply below_alloc | apply pw_below_drewN | apply below_drew1 | refine below_set ?_ GE267.out) | exact HB.out))); (case aF => exact (fun k_ hk => Kd.freshB (g := gb267) (o := .cells #[.slice Ao9 t269.length co9, .int .i64 ((rd_T47 l0 x4_1).f1), .int .u16 ((rd_T47 l0 x4_1).f2.f0), .int .u8 ((rd_T47 l0 x4_1).f2.f1), .int .u8 ((rd_T47 l0 x4_1).f2.f2), .int .u32 ((rd_T47 l0 x4_1).f2.f3), .int .i64 ((rd_T47 l0 x4_1).f3), .int .i64 ((rd_T47 l0 x4_1).f4)] 47 (0, 0)) (by (with_reducible repeat (first | refine blk_drewN ?_ _ | refine blk_drew ?_ | refine blk_alloc ?_ _)); exact BK267.out) k_ hk)); (case aO => exact (by (with_reducible repeat (first | apply Kd.S_alloc | apply Kd.S_drewN | apply Kd.S_drew)); exact Kd.S_mono HO_3.out (fun k_ hk => ⟨hk.2, fun e_ => hk.1 e_⟩))); (case aS => exact (below_size (by repeat (first | (with_reducible first | exact HB.out | apply below_alloc | apply pw_below_drewN | apply below_drew1 | refine below_set ?_ GE267.out) | exact HB.out)))); (case aL => have := LMc5.out; omega); intro v273 w13 ho hb hg hat; rw [← Ny272.out] at ho; have n0_ := Aside0.mk (blk_grown (g := gb267) (o := .cells #[.slice Ao9 t269.length co9, .int .i64 ((rd_T47 l0 x4_1).f1), .int .u16 ((rd_T47 l0 x4_1).f2.f0), .int .u8 ((rd_T47 l0 x4_1).f2.f1), .int .u8 ((rd_T47 l0 x4_1).f2.f2), .int .u32 ((rd_T47 l0 x4_1).f2.f3), .int .i64 ((rd_T47 l0 x4_1).f3), .int .i64 ((rd_T47 l0 x4_1).f4)] 47 (0, 0)) (by (with_reducible repeat (first | refine blk_drewN ?_ _ | refine blk_drew ?_ | refine blk_alloc ?_ _)); exact BK267.out) hg (Kd.S_away HO_3.out (fun _ hk => hk.2))); have n1_ := Aside0.mk (hb); have n2_ := Aside0.mk (ho); clear BK267; clear HB; clear HO_3; clear HO271; have BK267 := n0_; have HB := n1_; have HO274 := n2_; clear n0_ n1_ n2_; clear ho hb hg hat))
            go_roundg k1
            case measure => have := HK1.out; omega
            case rel => exact ⟨(y272), (wrap64 (x4_1 + 1)), (by first | rfl | (simp; done) | (simp [*]; done)), H', ⟨by have := HK1.out; omega⟩, ⟨by (with_reducible repeat (first | apply Kd.S_alloc | apply Kd.S_drewN | apply Kd.S_drew)); exact Kd.S_mono HO274.out (fun _ hk => trivial)⟩, ⟨by repeat (first | (with_reducible first | exact HB.out | apply below_alloc | apply pw_below_drewN | apply below_drew1 | refine below_set ?_ GE267.out) | exact HB.out)⟩⟩
          · rw [if_neg c5] at H
            exact absurd H (by simp)
        · rw [if_neg c3] at H
          exact absurd H (by simp)
      · rw [if_neg c2] at H
        have c2b0 : decide (x4_1 < (l0.length : Int)) = false := decide_eq_false c2
        clear c2
        obtain rfl := Option.some.inj H
        go_wp2
        go_ret
        exact ⟨_, by first | rfl | (simp [errW_none, errW_some] <;> rfl) | (simp [*, errW_none, errW_some] <;> rfl), by (with_reducible repeat (first | apply Kd.S_alloc | apply Kd.S_drewN | apply Kd.S_drew)); exact HO_3.out, by repeat (first | (with_reducible first | exact HB.out | apply below_alloc | apply pw_below_drewN | apply below_drew1) | exact HB.out)⟩
def riddleref1_In.f (a0 : Int) (a1 : Int) (a2 : Int) : Option (Bool) := if a1 ≥ 0 then (if a2 ≥ 0 then (if a2 ≤ a0 then (some (decide (a1 ≤ (wrap64 (a0 - a2))))) else (some false)) else (some false)) else (some false)
set_option maxHeartbeats 8000000 in
set_option maxRecDepth 100000 in
theorem riddleref1_In.calls (a0 : Int) (a1 : Int) (a2 : Int) (r : Bool) (w : World) (h : riddleref1_In.f a0 a1 a2 = some r) :
    Calls Try.prog 162 #[.int .i64 a0, .int .i64 a1, .int .i64 a2] w fun e w' => e = .returned (.bool r) ∧ Drawn0 w w' := by
  have H : (if a1 ≥ 0 then (if a2 ≥ 0 then (if a2 ≤ a0 then (some (decide (a1 ≤ (wrap64 (a0 - a2))))) else (some false)) else (some false)) else (some false)) = some r := h
  clear h
  by_cases c4 : a1 ≥ 0
  · rw [if_pos c4] at H
    have c4b0 : decide (0 ≤ a1) = true := decide_eq_true c4
    clear c4
    by_cases c5 : a2 ≥ 0
    · rw [if_pos c5] at H
      have c5b0 : decide (0 ≤ a2) = true := decide_eq_true c5
      clear c5
      by_cases c6 : a2 ≤ a0
      · rw [if_pos c6] at H
        have c6b0 : decide (a2 ≤ a0) = true := decide_eq_true c6
        clear c6
        obtain rfl := Option.some.inj H
        go_enter Try.func162, Try.ntmps162
        go_wp2
        go_ret
        exact ⟨by first | rfl | (simp; done) | (simp [*]; done), by repeat (first | exact Drawn0.refl _ | apply Drawn0.step)⟩
      · rw [if_neg c6] at H
        have c6b0 : decide (a2 ≤ a0) = false := decide_eq_false c6
        clear c6
        obtain rfl := Option.some.inj H
        go_enter Try.func162, Try.ntmps162
        go_wp2
        go_ret
        exact ⟨by first | rfl | (simp; done) | (simp [*]; done), by repeat (first | exact Drawn0.refl _ | apply Drawn0.step)⟩
    · rw [if_neg c5] at H
      have c5b0 : decide (0 ≤ a2) = false := decide_eq_false c5
      clear c5
      obtain rfl := Option.some.inj H
      go_enter Try.func162, Try.ntmps162
      go_wp2
      go_ret
      exact ⟨by first | rfl | (simp; done) | (simp [*]; done), by repeat (first | exact Drawn0.refl _ | apply Drawn0.step)⟩
  · rw [if_neg c4] at H
    have c4b0 : decide (0 ≤ a1) = false := decide_eq_false c4
    clear c4
    obtain rfl := Option.some.inj H
    go_enter Try.func162, Try.ntmps162
    go_wp2
    go_ret
    exact ⟨by first | rfl | (simp; done) | (simp [*]; done), by repeat (first | exact Drawn0.refl _ | apply Drawn0.step)⟩
mutual
def riddleref1_Get.j0 : Nat → List Int → Int → Int → Bool → Option (Int × Bool)
  | 0, _, _, _, _ => none
  | k + 1, x0, x1, x2, x27 => if x27 = true then (some (0, false)) else (riddleref1_Get.l0 k x0 x1 x2 0 0)
def riddleref1_Get.l0 : Nat → List Int → Int → Int → Int → Int → Option (Int × Bool)
  | 0, _, _, _, _, _ => none
  | k + 1, x0, x1, x2, x8, x9 => if x9 < x2 then (if 0 ≤ (wrap64 (x1 + x9)) then (if (wrap64 (x1 + x9)) < (x0.length : Int) then (riddleref1_Get.l0 k x0 x1 x2 (Go.bits .or .u32 ((x8 * 256) % 4294967296) ((rd x0 (wrap64 (x1 + x9))) % 4294967296)) (wrap64 (x9 + 1))) else (none)) else (none)) else (some (x8, true))
end
def riddleref1_Get.f (k : Nat) (l0 : List Int) (a1 : Int) (a2 : Int) : Option (Int × Bool) := if a2 = 1 then ((riddleref1_In.f (l0.length : Int) a1 a2).bind fun t275 => (riddleref1_Get.j0 k l0 a1 a2 (!t275))) else (if a2 = 2 then ((riddleref1_In.f (l0.length : Int) a1 a2).bind fun t276 => (riddleref1_Get.j0 k l0 a1 a2 (!t276))) else (if a2 = 4 then ((riddleref1_In.f (l0.length : Int) a1 a2).bind fun t277 => (riddleref1_Get.j0 k l0 a1 a2 (!t277))) else (riddleref1_Get.j0 k l0 a1 a2 true)))
set_option maxHeartbeats 8000000 in
set_option maxRecDepth 100000 in
theorem riddleref1_Get.calls (k : Nat) (A0 : Option Addr) (c0 : Nat) (l0 : List Int) (a1 : Int) (a2 : Int) (r1 : Int) (r2 : Bool) (w : World) (hr0 : Kd.C (Kd.int .u8) w A0 l0.length l0) (hc0 : l0.length ≤ c0) (h : riddleref1_Get.f k l0 a1 a2 = some (r1, r2)) :
    Calls Try.prog 139 #[.slice A0 l0.length c0, .int .i64 a1, .int .i64 a2] w fun e w' => e = .returned (.tuple #[.int .u32 r1, .bool r2]) ∧ Drawn0 w w' := by
  have HR0 := Aside0.mk hr0
  have HC0 := Aside0.mk hc0
  clear hr0 hc0
  have H : (if a2 = 1 then ((riddleref1_In.f (l0.length : Int) a1 a2).bind fun t275 => (riddleref1_Get.j0 k l0 a1 a2 (!t275))) else (if a2 = 2 then ((riddleref1_In.f (l0.length : Int) a1 a2).bind fun t276 => (riddleref1_Get.j0 k l0 a1 a2 (!t276))) else (if a2 = 4 then ((riddleref1_In.f (l0.length : Int) a1 a2).bind fun t277 => (riddleref1_Get.j0 k l0 a1 a2 (!t277))) else (riddleref1_Get.j0 k l0 a1 a2 true)))) = some (r1, r2) := h
  clear h
  have HC4 := Aside0.mk H
  clear H
  go_enter Try.func139, Try.ntmps139
  go_upto_region 1 with (fail)
  go_cut [27] (fun v27 wc => ∃ (kq : Nat) (x27_3 : Bool), v27 = .bool x27_3 ∧ Aside0 (riddleref1_Get.j0 kq l0 a1 a2 x27_3 = some (r1, r2)) ∧ Aside0 (kq ≤ k) ∧ Drawn0 w wc)
  case first =>
    have H := HC4.out
    clear HC4
    by_cases c5 : a2 = 1
    · rw [if_pos c5] at H
      have c5b0 : (a2 == 1) = true := beq_iff_eq.mpr c5
      have c5b1 : (a2 != 1) = false := bne_eq_false_iff_eq.mpr c5
      clear c5
      (first | rw [c5b0] | (simp only [i64_w, i32_w]; rw [c5b0]) | skip)
      replace H := Option.bind_eq_some_iff.mp H
      obtain ⟨t275, A60, H⟩ := H
      replace H : (riddleref1_Get.j0 k l0 a1 a2 (!t275)) = some (r1, r2) := H
      have A6 := Aside0.mk A60
      clear A60
      have H' := Aside0.mk H
      clear H
      go_wp2_with (first | (go_at_call 162; (with_reducible refine (riddleref1_In.calls (l0.length : Int) a1 a2 t275 _ A6.out).mono ?_); rintro e w' ⟨rfl, ⟨nd, rfl⟩⟩))
      go_meet
      case rel => exact ⟨_, (!t275), (by first | rfl | (simp; done) | (simp [*]; done)), H', ⟨by first | omega | exact Nat.le_refl _⟩, by repeat (first | exact Drawn0.refl _ | apply Drawn0.step)⟩
    · rw [if_neg c5] at H
      have c5b0 : (a2 == 1) = false := beq_eq_false_iff_ne.mpr c5
      have c5b1 : (a2 != 1) = true := bne_iff_ne.mpr c5
      (first | rw [c5b0] | (simp only [i64_w, i32_w]; rw [c5b0]) | skip)
      by_cases c7 : a2 = 2
      · rw [if_pos c7] at H
        have c7b0 : (a2 == 2) = true := beq_iff_eq.mpr c7
        have c7b1 : (a2 != 2) = false := bne_eq_false_iff_eq.mpr c7
        clear c7
        replace H := Option.bind_eq_some_iff.mp H
        obtain ⟨t276, A80, H⟩ := H
        replace H : (riddleref1_Get.j0 k l0 a1 a2 (!t276)) = some (r1, r2) := H
        have A8 := Aside0.mk A80
        clear A80
        have H' := Aside0.mk H
        clear H
        go_wp2_with (first | (go_at_call 162; (with_reducible refine (riddleref1_In.calls (l0.length : Int) a1 a2 t276 _ A8.out).mono ?_); rintro e w' ⟨rfl, ⟨nd, rfl⟩⟩))
        go_meet
        case rel => exact ⟨_, (!t276), (by first | rfl | (simp; done) | (simp [*]; done)), H', ⟨by first | omega | exact Nat.le_refl _⟩, by repeat (first | exact Drawn0.refl _ | apply Drawn0.step)⟩
      · rw [if_neg c7] at H
        have c7b0 : (a2 == 2) = false := beq_eq_false_iff_ne.mpr c7
        have c7b1 : (a2 != 2) = true := bne_iff_ne.mpr c7
        by_cases c9 : a2 = 4
        · rw [if_pos c9] at H
          have c9b0 : (a2 == 4) = true := beq_iff_eq.mpr c9
          have c9b1 : (a2 != 4) = false := bne_eq_false_iff_eq.mpr c9
          clear c9
          replace H := Option.bind_eq_some_iff.mp H
          obtain ⟨t277, A100, H⟩ := H
          replace H : (riddleref1_Get.j0 k l0 a1 a2 (!t277)) = some (r1, r2) := H
          have A10 := Aside0.mk A100
          clear A100
          have H' := Aside0.mk H
          clear H
          go_wp2_with (first | (go_at_call 162; (with_reducible refine (riddleref1_In.calls (l0.length : Int) a1 a2 t277 _ A10.out).mono ?_); rintro e w' ⟨rfl, ⟨nd, rfl⟩⟩))
          go_meet
          case rel => exact ⟨_, (!t277), (by first | rfl | (simp; done) | (simp [*]; done)), H', ⟨by first | omega | exact Nat.le_refl _⟩, by repeat (first | exact Drawn0.refl _ | apply Drawn0.step)⟩
        · rw [if_neg c9] at H
          have c9b0 : (a2 == 4) = false := beq_eq_false_iff_ne.mpr c9
          have c9b1 : (a2 != 4) = true := bne_iff_ne.mpr c9
          have H' := Aside0.mk H
          clear H
          go_wp2
          go_meet
          case rel => exact ⟨_, (true), (by first | rfl | (simp; done) | (simp [*]; done)), H', ⟨by first | omega | exact Nat.le_refl _⟩, by repeat (first | exact Drawn0.refl _ | apply Drawn0.step)⟩
  case rest =>
    clear HC4
    try clear c1
    try clear p2
    try clear c5
    try clear c5b0
    try clear c5b1
    try clear c7
    try clear c7b0
    try clear c7b1
    try clear c9
    try clear c9b0
    try clear c9b1
    obtain ⟨kq, x27_3, rfl, HA, HJ3, ⟨mc3, rfl⟩⟩ := hcut
    cases kq with
    | zero => exact absurd HA.out (by simp [riddleref1_Get.j0])
    | succ kj3 =>
      have H := HA.out
      clear HA
      simp only [riddleref1_Get.j0] at H
      by_cases c11 : x27_3 = true
      · subst c11
        have H1 : (some (0, false)) = some (r1, r2) := by rw [if_pos rfl] at H; exact H
        clear H
        have H := H1
        clear H1
        simp only [Option.some.injEq, Prod.mk.injEq] at H
        obtain ⟨rfl, rfl⟩ := H
        go_wp2
        go_ret2
        exact ⟨by first | rfl | (simp; done) | (simp [*]; done), by repeat (first | exact Drawn0.refl _ | apply Drawn0.step)⟩
      · replace c11 := Bool.eq_false_iff.mpr c11
        subst c11
        have H1 : (riddleref1_Get.l0 kj3 l0 a1 a2 0 0) = some (r1, r2) := by rw [if_neg (show ¬ (false = true) by decide)] at H; exact H
        clear H
        have H := H1
        clear H1
        have H' := Aside0.mk H
        clear H
        go_wp2
        go_loopg [8, 9] kj3 (fun kq v8 v9 w' => ∃ (x8_2 : Int) (x9_2 : Int), v8 = .int .u32 x8_2 ∧ v9 = .int .i64 x9_2 ∧ Aside0 (riddleref1_Get.l0 kq l0 a1 a2 x8_2 x9_2 = some (r1, r2)) ∧ Aside0 (kq ≤ kj3) ∧ Drawn0 w w')
        case atStart => exact ⟨(0), (0), (by first | rfl | (simp; done) | (simp [*]; done)), (by first | rfl | (simp; done) | (simp [*]; done)), H', ⟨Nat.le_refl _⟩, by repeat (first | exact Drawn0.refl _ | apply Drawn0.step)⟩
        case round =>
          clear H'
          try clear c1
          try clear p2
          try clear c3
          try clear c5
          try clear c5b0
          try clear c5b1
          try clear c7
          try clear c7b0
          try clear c7b1
          try clear c9
          try clear c9b0
          try clear c9b1
          try clear c11
          try clear p2
          obtain ⟨x8_2, x9_2, rfl, rfl, HA, HK2, ⟨m2, rfl⟩⟩ := hrel
          cases gk with
          | zero => exact absurd HA.out (by simp [riddleref1_Get.l0])
          | succ k2 =>
            have H := HA.out
            clear HA
            simp only [riddleref1_Get.l0] at H
            by_cases c12 : x9_2 < a2
            · rw [if_pos c12] at H
              have c12b0 : decide (x9_2 < a2) = true := decide_eq_true c12
              clear c12
              obtain ⟨ji13, hji13⟩ : ∃ j_ : Int, (wrap64 (a1 + x9_2)) = j_ := ⟨_, rfl⟩
              replace H : (if 0 ≤ (ji13) then (if (ji13) < (l0.length : Int) then (riddleref1_Get.l0 k2 l0 a1 a2 (Go.bits .or .u32 ((x8_2 * 256) % 4294967296) ((rd l0 (ji13)) % 4294967296)) (wrap64 (x9_2 + 1))) else (none)) else (none)) = some (r1, r2) := by first | (rw [hji13] at H; exact H) | (simp only [hji13] at H ⊢; exact H)
              have hji13w : (IntKind.i64.wrap (a1 + x9_2)) = ji13 := (i64_w _).trans hji13
              by_cases c14 : 0 ≤ (ji13)
              · rw [if_pos c14] at H
                have c14b0 : decide (0 ≤ (ji13)) = true := decide_eq_true c14
                clear c14
                by_cases c15 : (ji13) < (l0.length : Int)
                · rw [if_pos c15] at H
                  have c15b0 : decide ((ji13) < (l0.length : Int)) = true := decide_eq_true c15
                  clear c15
                  have H' := Aside0.mk H
                  clear H
                  have p278 : 0 ≤ ((ji13) : Int) := of_decide_eq_true (by first | (with_reducible assumption) | assumption)
                  have q278 : (ji13) < (l0.length : Int) := of_decide_eq_true (by first | (with_reducible assumption) | assumption)
                  obtain ⟨ad278, e278, hx278_0⟩ := Kd.at_int HR0.out (ji13) p278 q278
                  cases e278
                  replace p278 := eq_true p278
                  replace q278 := eq_true q278
                  go_wp2
                  go_roundg k2
                  case measure => have := HJ3.out; have := HK2.out; omega
                  case rel => exact ⟨(Go.bits .or .u32 ((x8_2 * 256) % 4294967296) ((rd l0 (ji13)) % 4294967296)), (wrap64 (x9_2 + 1)), (by first | rfl | (simp; done) | (simp only [← hji13] <;> (first | rfl | simp)) | (simp [*]; done)), (by first | rfl | (simp; done) | (simp [*]; done)), H', ⟨by have := HJ3.out; have := HK2.out; omega⟩, by repeat (first | exact Drawn0.refl _ | apply Drawn0.step)⟩
                · rw [if_neg c15] at H
                  exact absurd H (by simp)
              · rw [if_neg c14] at H
                exact absurd H (by simp)
            · rw [if_neg c12] at H
              have c12b0 : decide (x9_2 < a2) = false := decide_eq_false c12
              clear c12
              simp only [Option.some.injEq, Prod.mk.injEq] at H
              obtain ⟨rfl, rfl⟩ := H
              go_wp2
              go_ret2
              exact ⟨by first | rfl | (simp; done) | (simp [*]; done), by repeat (first | exact Drawn0.refl _ | apply Drawn0.step)⟩
end Go.Proofs.Ytdkalnkplgfgoaa.PA
namespace Go.Proofs.Ytdkalnkplgfgoaa.PA
open Go.RowKit Go.Proofs.YtdkalnkplgfgoaaW.PrintWords Go.Proofs.YtdkalnkplgfgoaaW.PrintLast Go.Proofs.YtdkalnkplgfgoaaW.PrintMore
attribute [local go_sem] max2_int min2_int max_two min_two max_three min_three max_four min_four   -- for this text's walks alone
set_option linter.unusedVariables false
set_option linter.unusedSimpArgs false
def riddleref5_read.f (k : Nat) (l0 : List Int) (a1 : Int) (a2 : Int) : Option (Int × Int) := if a1 > (IntKind.u64.wrap ((l0.length : Int))) then (some (0, 1)) else ((riddleref1_Get.f k l0 (wrap64 (a1)) a2).bind fun bt279 => (if bt279.2 = true then (some (bt279.1, 0)) else (some (0, 1))))
set_option maxHeartbeats 8000000 in
set_option maxRecDepth 100000 in
theorem riddleref5_read.calls (k : Nat) (A0 : Option Addr) (c0 : Nat) (l0 : List Int) (a1 : Int) (a2 : Int) (r1 : Int) (r2 : Int) (w : World) (hr0 : Kd.C (Kd.int .u8) w A0 l0.length l0) (hc0 : l0.length ≤ c0) (h : riddleref5_read.f k l0 a1 a2 = some (r1, r2)) :
    Calls Try.prog 95 #[.slice A0 l0.length c0, .int .u64 a1, .int .i64 a2] w fun e w' => e = .returned (.tuple #[.int .u32 r1, .int .i64 r2]) ∧ Drawn0 w w' := by
  have HR0 := Aside0.mk hr0
  have HC0 := Aside0.mk hc0
  clear hr0 hc0
  have H : (if a1 > (IntKind.u64.wrap ((l0.length : Int))) then (some (0, 1)) else ((riddleref1_Get.f k l0 (wrap64 (a1)) a2).bind fun bt279 => (if bt279.2 = true then (some (bt279.1, 0)) else (some (0, 1))))) = some (r1, r2) := h
  clear h
  by_cases c4 : a1 > (IntKind.u64.wrap ((l0.length : Int)))
  · rw [if_pos c4] at H
    have c4b0 : decide ((IntKind.u64.wrap ((l0.length : Int))) < a1) = true := decide_eq_true c4
    clear c4
    simp only [Option.some.injEq, Prod.mk.injEq] at H
    obtain ⟨rfl, rfl⟩ := H
    go_enter Try.func95, Try.ntmps95
    go_wp2
    go_ret2
    exact ⟨by first | rfl | (simp; done) | (simp [*]; done), by repeat (first | exact Drawn0.refl _ | apply Drawn0.step)⟩
  · rw [if_neg c4] at H
    have c4b0 : decide ((IntKind.u64.wrap ((l0.length : Int))) < a1) = false := decide_eq_false c4
    clear c4
    replace H := Option.bind_eq_some_iff.mp H
    obtain ⟨⟨t279, t280⟩, A50, H⟩ := H
    replace H : (if t280 = true then (some (t279, 0)) else (some (0, 1))) = some (r1, r2) := H
    have A5 := Aside0.mk A50
    clear A50
    by_cases c6 : t280 = true
    · subst c6
      have H1 : (some (t279, 0)) = some (r1, r2) := by rw [if_pos rfl] at H; exact H
      clear H
      have H := H1
      clear H1
      simp only [Option.some.injEq, Prod.mk.injEq] at H
      obtain ⟨rfl, rfl⟩ := H
      go_enter Try.func95, Try.ntmps95
      go_wp2_with (first | ((with_reducible refine gate_callee (f := 139) rfl ?_); refine goesL_ (some 20) rfl rfl Try.func139 (by kernel_rfl) rfl #[.slice A0 l0.length c0, .int .i64 (wrap64 (a1)), .int .i64 a2] rfl (by (try simp only [List.map_toArray, List.map_cons, List.map_nil]); first | done | rfl | (simp only [List.length_drop, List.length_take]; rfl)) ?_; (with_reducible refine (riddleref1_Get.calls k _ _ l0 (wrap64 (a1)) a2 t279 true _ ?side1 ?side2 A5.out).mono ?_); (case side1 => repeat (first | exact HR0.out | (with_reducible refine Kd.C_alloc ?_ _) | (with_reducible refine Kd.C_drewN ?_ _) | (with_reducible refine Kd.C_drew ?_))); (case side2 => exact HC0.out); rintro e w' ⟨rfl, ⟨nd, rfl⟩⟩; refine ⟨_, rfl, ?_⟩))
      go_ret2
      exact ⟨by first | rfl | (simp; done) | (simp [*]; done), by repeat (first | exact Drawn0.refl _ | apply Drawn0.step)⟩
    · replace c6 := Bool.eq_false_iff.mpr c6
      subst c6
      have H1 : (some (0, 1)) = some (r1, r2) := by rw [if_neg (show ¬ (false = true) by decide)] at H; exact H
      clear H
      have H := H1
      clear H1
      simp only [Option.some.injEq, Prod.mk.injEq] at H
      obtain ⟨rfl, rfl⟩ := H
      go_enter Try.func95, Try.ntmps95
      go_wp2_with (first | ((with_reducible refine gate_callee (f := 139) rfl ?_); refine goesL_ (some 20) rfl rfl Try.func139 (by kernel_rfl) rfl #[.slice A0 l0.length c0, .int .i64 (wrap64 (a1)), .int .i64 a2] rfl (by (try simp only [List.map_toArray, List.map_cons, List.map_nil]); first | done | rfl | (simp only [List.length_drop, List.length_take]; rfl)) ?_; (with_reducible refine (riddleref1_Get.calls k _ _ l0 (wrap64 (a1)) a2 t279 false _ ?side1 ?side2 A5.out).mono ?_); (case side1 => repeat (first | exact HR0.out | (with_reducible refine Kd.C_alloc ?_ _) | (with_reducible refine Kd.C_drewN ?_ _) | (with_reducible refine Kd.C_drew ?_))); (case side2 => exact HC0.out); rintro e w' ⟨rfl, ⟨nd, rfl⟩⟩; refine ⟨_, rfl, ?_⟩))
      go_ret2
      exact ⟨by first | rfl | (simp; done) | (simp [*]; done), by repeat (first | exact Drawn0.refl _ | apply Drawn0.step)⟩
def riddleref5_size.j0 : Nat → Int → Bool → Option (Int)
  | 0, _, _ => none
  | k + 1, x3, x4 => if x4 = true then (some 4) else (if x3 = 40 then (some 2) else (if x3 = 72 then (some 2) else (some 1)))
def riddleref5_size.f (k : Nat) (a0 : Int) : Option (Int) := if a0 = 32 then (riddleref5_size.j0 k a0 (a0 == 32)) else (riddleref5_size.j0 k a0 (a0 == 64))
set_option maxHeartbeats 8000000 in
set_option maxRecDepth 100000 in
theorem riddleref5_size.calls (k : Nat) (a0 : Int) (r : Int) (w : World) (h : riddleref5_size.f k a0 = some r) :
    Calls Try.prog 96 #[.int .u16 a0] w fun e w' => e = .returned (.int .i64 r) ∧ Drawn0 w w' := by
  have H : (if a0 = 32 then (riddleref5_size.j0 k a0 (a0 == 32)) else (riddleref5_size.j0 k a0 (a0 == 64))) = some r := h
  clear h
  have HC2 := Aside0.mk H
  clear H
  go_enter Try.func96, Try.ntmps96
  go_upto_if 4 with (fail)
  go_cut [4] (fun v4 wc => ∃ (kq : Nat) (x4_1 : Bool), v4 = .bool x4_1 ∧ Aside0 (riddleref5_size.j0 kq a0 x4_1 = some r) ∧ Aside0 (kq ≤ k) ∧ Drawn0 w wc)
  case first =>
    have H := HC2.out
    clear HC2
    by_cases c3 : a0 = 32
    · rw [if_pos c3] at H
      have c3b0 : (a0 == 32) = true := beq_iff_eq.mpr c3
      have c3b1 : (a0 != 32) = false := bne_eq_false_iff_eq.mpr c3
      clear c3
      (first | rw [c3b0] | (simp only [i64_w, i32_w]; rw [c3b0]) | skip)
      have H' := Aside0.mk H
      clear H
      go_wp2
      go_meet
      case rel => exact ⟨_, ((a0 == 32)), (by first | rfl | (simp; done) | (simp [*]; done)), H', ⟨by first | omega | exact Nat.le_refl _⟩, by repeat (first | exact Drawn0.refl _ | apply Drawn0.step)⟩
    · rw [if_neg c3] at H
      have c3b0 : (a0 == 32) = false := beq_eq_false_iff_ne.mpr c3
      have c3b1 : (a0 != 32) = true := bne_iff_ne.mpr c3
      (first | rw [c3b0] | (simp only [i64_w, i32_w]; rw [c3b0]) | skip)
      have H' := Aside0.mk H
      clear H
      go_wp2
      go_meet
      case rel => exact ⟨_, ((a0 == 64)), (by first | rfl | (simp; done) | (simp [*]; done)), H', ⟨by first | omega | exact Nat.le_refl _⟩, by repeat (first | exact Drawn0.refl _ | apply Drawn0.step)⟩
  case rest =>
    clear HC2
    try clear p2
    try clear c3
    try clear c3b0
    try clear c3b1
    obtain ⟨kq, x4_1, rfl, HA, HJ1, ⟨mc1, rfl⟩⟩ := hcut
    cases kq with
    | zero => exact absurd HA.out (by simp [riddleref5_size.j0])
    | succ kj1 =>
      have H := HA.out
      clear HA
      simp only [riddleref5_size.j0] at H
      by_cases c4 : x4_1 = true
      · subst c4
        have H1 : (some 4) = some r := by rw [if_pos rfl] at H; exact H
        clear H
        have H := H1
        clear H1
        obtain rfl := Option.some.inj H
        go_wp2
        go_ret
        exact ⟨by first | rfl | (simp; done) | (simp [*]; done), by repeat (first | exact Drawn0.refl _ | apply Drawn0.step)⟩
      · replace c4 := Bool.eq_false_iff.mpr c4
        subst c4
        have H1 : (if a0 = 40 then (some 2) else (if a0 = 72 then (some 2) else (some 1))) = some r := by rw [if_neg (show ¬ (false = true) by decide)] at H; exact H
        clear H
        have H := H1
        clear H1
        by_cases c5 : a0 = 40
        · rw [if_pos c5] at H
          have c5b0 : (a0 == 40) = true := beq_iff_eq.mpr c5
          have c5b1 : (a0 != 40) = false := bne_eq_false_iff_eq.mpr c5
          clear c5
          obtain rfl := Option.some.inj H
          go_wp2
          go_ret
          exact ⟨by first | rfl | (simp; done) | (simp [*]; done), by repeat (first | exact Drawn0.refl _ | apply Drawn0.step)⟩
        · rw [if_neg c5] at H
          have c5b0 : (a0 == 40) = false := beq_eq_false_iff_ne.mpr c5
          have c5b1 : (a0 != 40) = true := bne_iff_ne.mpr c5
          by_cases c6 : a0 = 72
          · rw [if_pos c6] at H
            have c6b0 : (a0 == 72) = true := beq_iff_eq.mpr c6
            have c6b1 : (a0 != 72) = false := bne_eq_false_iff_eq.mpr c6
            clear c6
            obtain rfl := Option.some.inj H
            go_wp2
            go_ret
            exact ⟨by first | rfl | (simp; done) | (simp [*]; done), by repeat (first | exact Drawn0.refl _ | apply Drawn0.step)⟩
          · rw [if_neg c6] at H
            have c6b0 : (a0 == 72) = false := beq_eq_false_iff_ne.mpr c6
            have c6b1 : (a0 != 72) = true := bne_iff_ne.mpr c6
            obtain rfl := Option.some.inj H
            go_wp2
            go_ret
            exact ⟨by first | rfl | (simp; done) | (simp [*]; done), by repeat (first | exact Drawn0.refl _ | apply Drawn0.step)⟩
def riddleref5_Shift.f (a0 : Int) (a1 : Int) (a2 : Bool) : Option (Int) := if a1 > 31 then (some 0) else (if a2 = true then (if 0 ≤ a1 then (some (shl .u32 a0 a1)) else (none)) else (if 0 ≤ a1 then (some (shr .u32 a0 a1)) else (none)))
set_option maxHeartbeats 8000000 in
set_option maxRecDepth 100000 in
theorem riddleref5_Shift.calls (a0 : Int) (a1 : Int) (a2 : Bool) (r : Int) (w : World) (h : riddleref5_Shift.f a0 a1 a2 = some r) :
    Calls Try.prog 140 #[.int .u32 a0, .int .u32 a1, .bool a2] w fun e w' => e = .returned (.int .u32 r) ∧ Drawn0 w w' := by
  have H : (if a1 > 31 then (some 0) else (if a2 = true then (if 0 ≤ a1 then (some (shl .u32 a0 a1)) else (none)) else (if 0 ≤ a1 then (some (shr .u32 a0 a1)) else (none)))) = some r := h
  clear h
  by_cases c4 : a1 > 31
  · rw [if_pos c4] at H
    have c4b0 : decide (31 < a1) = true := decide_eq_true c4
    clear c4
    obtain rfl := Option.some.inj H
    go_enter Try.func140, Try.ntmps140
    go_wp2
    go_ret
    exact ⟨by first | rfl | (simp; done) | (simp [*]; done), by repeat (first | exact Drawn0.refl _ | apply Drawn0.step)⟩
  · rw [if_neg c4] at H
    have c4b0 : decide (31 < a1) = false := decide_eq_false c4
    clear c4
    by_cases c5 : a2 = true
    · subst c5
      have H1 : (if 0 ≤ a1 then (some (shl .u32 a0 a1)) else (none)) = some r := by rw [if_pos rfl] at H; exact H
      clear H
      have H := H1
      clear H1
      by_cases c6 : 0 ≤ a1
      · rw [if_pos c6] at H
        have c6b0 := eq_true c6
        have c6b1 : decide (0 ≤ a1) = true := decide_eq_true c6
        clear c6
        obtain ⟨ji7, hji7⟩ : ∃ j_ : Int, (shl .u32 a0 a1) = j_ := ⟨_, rfl⟩
        replace H : (some ji7) = some r := by first | (rw [hji7] at H; exact H) | (simp only [hji7] at H ⊢; exact H)
        have hji7_ : (IntKind.u32.wrap (a0 * 2 ^ min a1.toNat 32)) = ji7 := hji7
        have hji7z : a1 ≤ 32 → (IntKind.u32.wrap (a0 * 2 ^ a1.toNat)) = ji7 := shl_small hji7
        obtain rfl := Option.some.inj H
        go_enter Try.func140, Try.ntmps140
        go_wp2
        go_ret
        exact ⟨by first | rfl | (simp; done) | (simp only [← hji7] <;> (first | rfl | simp)) | (simp [*]; done), by repeat (first | exact Drawn0.refl _ | apply Drawn0.step)⟩
      · rw [if_neg c6] at H
        exact absurd H (by simp)
    · replace c5 := Bool.eq_false_iff.mpr c5
      subst c5
      have H1 : (if 0 ≤ a1 then (some (shr .u32 a0 a1)) else (none)) = some r := by rw [if_neg (show ¬ (false = true) by decide)] at H; exact H
      clear H
      have H := H1
      clear H1
      by_cases c8 : 0 ≤ a1
      · rw [if_pos c8] at H
        have c8b0 := eq_true c8
        have c8b1 : decide (0 ≤ a1) = true := decide_eq_true c8
        clear c8
        obtain ⟨ji9, hji9⟩ : ∃ j_ : Int, (shr .u32 a0 a1) = j_ := ⟨_, rfl⟩
        replace H : (some ji9) = some r := by first | (rw [hji9] at H; exact H) | (simp only [hji9] at H ⊢; exact H)
        have hji9_ : (a0 / 2 ^ min a1.toNat 32) = ji9 := hji9
        have hji9z : a1 ≤ 32 → (a0 / 2 ^ a1.toNat) = ji9 := shr_small hji9
        obtain rfl := Option.some.inj H
        go_enter Try.func140, Try.ntmps140
        go_wp2
        go_ret
        exact ⟨by first | rfl | (simp; done) | (simp only [← hji9] <;> (first | rfl | simp)) | (simp [*]; done), by repeat (first | exact Drawn0.refl _ | apply Drawn0.step)⟩
      · rw [if_neg c8] at H
        exact absurd H (by simp)
def riddleref5_Operate.f (a0 : Int) (a1 : Int) (a2 : Int) : Option (Int × Int) := if (Go.bits .andNot .u16 a0 8) = 4 then (some ((a1 + a2) % 4294967296, 0)) else (if (Go.bits .andNot .u16 a0 8) = 20 then (some ((a1 - a2) % 4294967296, 0)) else (if (Go.bits .andNot .u16 a0 8) = 36 then (some ((a1 * a2) % 4294967296, 0)) else (if (Go.bits .andNot .u16 a0 8) = 68 then (some (Go.bits .or .u32 a1 a2, 0)) else (if (Go.bits .andNot .u16 a0 8) = 84 then (some (Go.bits .and .u32 a1 a2, 0)) else (if (Go.bits .andNot .u16 a0 8) = 164 then (some (Go.bits .xor .u32 a1 a2, 0)) else (if (Go.bits .andNot .u16 a0 8) = 100 then ((riddleref5_Shift.f a1 a2 true).bind fun t281 => (some (t281, 0))) else (if (Go.bits .andNot .u16 a0 8) = 116 then ((riddleref5_Shift.f a1 a2 false).bind fun t282 => (some (t282, 0))) else (if a2 = 0 then (some (0, 2)) else (if (Go.bits .andNot .u16 a0 8) = 52 then (some ((Int.tdiv a1 a2) % 4294967296, 0)) else (some (Int.tmod a1 a2, 0)))))))))))
set_option maxHeartbeats 8000000 in
set_option maxRecDepth 100000 in
theorem riddleref5_Operate.calls (a0 : Int) (a1 : Int) (a2 : Int) (r1 : Int) (r2 : Int) (w : World) (h : riddleref5_Operate.f a0 a1 a2 = some (r1, r2)) :
    Calls Try.prog 97 #[.int .u16 a0, .int .u32 a1, .int .u32 a2] w fun e w' => e = .returned (.tuple #[.int .u32 r1, .int .i64 r2]) ∧ Drawn0 w w' := by
  have H : (if (Go.bits .andNot .u16 a0 8) = 4 then (some ((a1 + a2) % 4294967296, 0)) else (if (Go.bits .andNot .u16 a0 8) = 20 then (some ((a1 - a2) % 4294967296, 0)) else (if (Go.bits .andNot .u16 a0 8) = 36 then (some ((a1 * a2) % 4294967296, 0)) else (if (Go.bits .andNot .u16 a0 8) = 68 then (some (Go.bits .or .u32 a1 a2, 0)) else (if (Go.bits .andNot .u16 a0 8) = 84 then (some (Go.bits .and .u32 a1 a2, 0)) else (if (Go.bits .andNot .u16 a0 8) = 164 then (some (Go.bits .xor .u32 a1 a2, 0)) else (if (Go.bits .andNot .u16 a0 8) = 100 then ((riddleref5_Shift.f a1 a2 true).bind fun t281 => (some (t281, 0))) else (if (Go.bits .andNot .u16 a0 8) = 116 then ((riddleref5_Shift.f a1 a2 false).bind fun t282 => (some (t282, 0))) else (if a2 = 0 then (some (0, 2)) else (if (Go.bits .andNot .u16 a0 8) = 52 then (some ((Int.tdiv a1 a2) % 4294967296, 0)) else (some (Int.tmod a1 a2, 0)))))))))))) = some (r1, r2) := h
  clear h
  by_cases c4 : (Go.bits .andNot .u16 a0 8) = 4
  · rw [if_pos c4] at H
    have c4b0 : ((Go.bits .andNot .u16 a0 8) == 4) = true := beq_iff_eq.mpr c4
    have c4b1 : ((Go.bits .andNot .u16 a0 8) != 4) = false := bne_eq_false_iff_eq.mpr c4
    clear c4
    simp only [Option.some.injEq, Prod.mk.injEq] at H
    obtain ⟨rfl, rfl⟩ := H
    go_enter Try.func97, Try.ntmps97
    go_wp2
    go_ret2
    exact ⟨by first | rfl | (simp; done) | (simp [*]; done), by repeat (first | exact Drawn0.refl _ | apply Drawn0.step)⟩
  · rw [if_neg c4] at H
    have c4b0 : ((Go.bits .andNot .u16 a0 8) == 4) = false := beq_eq_false_iff_ne.mpr c4
    have c4b1 : ((Go.bits .andNot .u16 a0 8) != 4) = true := bne_iff_ne.mpr c4
    by_cases c5 : (Go.bits .andNot .u16 a0 8) = 20
    · rw [if_pos c5] at H
      have c5b0 : ((Go.bits .andNot .u16 a0 8) == 20) = true := beq_iff_eq.mpr c5
      have c5b1 : ((Go.bits .andNot .u16 a0 8) != 20) = false := bne_eq_false_iff_eq.mpr c5
      clear c5
      simp only [Option.some.injEq, Prod.mk.injEq] at H
      obtain ⟨rfl, rfl⟩ := H
      go_enter Try.func97, Try.ntmps97
      go_wp2
      go_ret2
      exact ⟨by first | rfl | (simp; done) | (simp [*]; done), by repeat (first | exact Drawn0.refl _ | apply Drawn0.step)⟩
    · rw [if_neg c5] at H
      have c5b0 : ((Go.bits .andNot .u16 a0 8) == 20) = false := beq_eq_false_iff_ne.mpr c5
      have c5b1 : ((Go.bits .andNot .u16 a0 8) != 20) = true := bne_iff_ne.mpr c5
      by_cases c6 : (Go.bits .andNot .u16 a0 8) = 36
      · rw [if_pos c6] at H
        have c6b0 : ((Go.bits .andNot .u16 a0 8) == 36) = true := beq_iff_eq.mpr c6
        have c6b1 : ((Go.bits .andNot .u16 a0 8) != 36) = false := bne_eq_false_iff_eq.mpr c6
        clear c6
        simp only [Option.some.injEq, Prod.mk.injEq] at H
        obtain ⟨rfl, rfl⟩ := H
        go_enter Try.func97, Try.ntmps97
        go_wp2
        go_ret2
        exact ⟨by first | rfl | (simp; done) | (simp [*]; done), by repeat (first | exact Drawn0.refl _ | apply Drawn0.step)⟩
      · rw [if_neg c6] at H
        have c6b0 : ((Go.bits .andNot .u16 a0 8) == 36) = false := beq_eq_false_iff_ne.mpr c6
        have c6b1 : ((Go.bits .andNot .u16 a0 8) != 36) = true := bne_iff_ne.mpr c6
        by_cases c7 : (Go.bits .andNot .u16 a0 8) = 68
        · rw [if_pos c7] at H
          have c7b0 : ((Go.bits .andNot .u16 a0 8) == 68) = true := beq_iff_eq.mpr c7
          have c7b1 : ((Go.bits .andNot .u16 a0 8) != 68) = false := bne_eq_false_iff_eq.mpr c7
          clear c7
          simp only [Option.some.injEq, Prod.mk.injEq] at H
          obtain ⟨rfl, rfl⟩ := H
          go_enter Try.func97, Try.ntmps97
          go_wp2
          go_ret2
          exact ⟨by first | rfl | (simp; done) | (simp [*]; done), by repeat (first | exact Drawn0.refl _ | apply Drawn0.step)⟩
        · rw [if_neg c7] at H
          have c7b0 : ((Go.bits .andNot .u16 a0 8) == 68) = false := beq_eq_false_iff_ne.mpr c7
          have c7b1 : ((Go.bits .andNot .u16 a0 8) != 68) = true := bne_iff_ne.mpr c7
          by_cases c8 : (Go.bits .andNot .u16 a0 8) = 84
          · rw [if_pos c8] at H
            have c8b0 : ((Go.bits .andNot .u16 a0 8) == 84) = true := beq_iff_eq.mpr c8
            have c8b1 : ((Go.bits .andNot .u16 a0 8) != 84) = false := bne_eq_false_iff_eq.mpr c8
            clear c8
            simp only [Option.some.injEq, Prod.mk.injEq] at H
            obtain ⟨rfl, rfl⟩ := H
            go_enter Try.func97, Try.ntmps97
            go_wp2
            go_ret2
            exact ⟨by first | rfl | (simp; done) | (simp [*]; done), by repeat (first | exact Drawn0.refl _ | apply Drawn0.step)⟩
          · rw [if_neg c8] at H
            have c8b0 : ((Go.bits .andNot .u16 a0 8) == 84) = false := beq_eq_false_iff_ne.mpr c8
            have c8b1 : ((Go.bits .andNot .u16 a0 8) != 84) = true := bne_iff_ne.mpr c8
            by_cases c9 : (Go.bits .andNot .u16 a0 8) = 164
            · rw [if_pos c9] at H
              have c9b0 : ((Go.bits .andNot .u16 a0 8) == 164) = true := beq_iff_eq.mpr c9
              have c9b1 : ((Go.bits .andNot .u16 a0 8) != 164) = false := bne_eq_false_iff_eq.mpr c9
              clear c9
              simp only [Option.some.injEq, Prod.mk.injEq] at H
              obtain ⟨rfl, rfl⟩ := H
              go_enter Try.func97, Try.ntmps97
              go_wp2
              go_ret2
              exact ⟨by first | rfl | (simp; done) | (simp [*]; done), by repeat (first | exact Drawn0.refl _ | apply Drawn0.step)⟩
            · rw [if_neg c9] at H
              have c9b0 : ((Go.bits .andNot .u16 a0 8) == 164) = false := beq_eq_false_iff_ne.mpr c9
              have c9b1 : ((Go.bits .andNot .u16 a0 8) != 164) = true := bne_iff_ne.mpr c9
              by_cases c10 : (Go.bits .andNot .u16 a0 8) = 100
              · rw [if_pos c10] at H
                have c10b0 : ((Go.bits .andNot .u16 a0 8) == 100) = true := beq_iff_eq.mpr c10
                have c10b1 : ((Go.bits .andNot .u16 a0 8) != 100) = false := bne_eq_false_iff_eq.mpr c10
                clear c10
                replace H := Option.bind_eq_some_iff.mp H
                obtain ⟨t281, A110, H⟩ := H
                replace H : (some (t281, 0)) = some (r1, r2) := H
                have A11 := Aside0.mk A110
                clear A110
                simp only [Option.some.injEq, Prod.mk.injEq] at H
                obtain ⟨rfl, rfl⟩ := H
                go_enter Try.func97, Try.ntmps97
                go_wp2_with (first | ((with_reducible refine gate_callee (f := 140) rfl ?_); refine goesL_ (some 44) rfl rfl Try.func140 (by kernel_rfl) rfl #[.int .u32 a1, .int .u32 a2, .bool true] rfl (by (try simp only [List.map_toArray, List.map_cons, List.map_nil]); first | done | rfl | (simp only [List.length_drop, List.length_take]; rfl)) ?_; (with_reducible refine (riddleref5_Shift.calls a1 a2 true t281 _ A11.out).mono ?_); rintro e w' ⟨rfl, ⟨nd, rfl⟩⟩; refine ⟨_, rfl, ?_⟩))
                go_ret2
                exact ⟨by first | rfl | (simp; done) | (simp [*]; done), by repeat (first | exact Drawn0.refl _ | apply Drawn0.step)⟩
              · rw [if_neg c10] at H
                have c10b0 : ((Go.bits .andNot .u16 a0 8) == 100) = false := beq_eq_false_iff_ne.mpr c10
                have c10b1 : ((Go.bits .andNot .u16 a0 8) != 100) = true := bne_iff_ne.mpr c10
                by_cases c12 : (Go.bits .andNot .u16 a0 8) = 116
                · rw [if_pos c12] at H
                  have c12b0 : ((Go.bits .andNot .u16 a0 8) == 116) = true := beq_iff_eq.mpr c12
                  have c12b1 : ((Go.bits .andNot .u16 a0 8) != 116) = false := bne_eq_false_iff_eq.mpr c12
                  clear c12
                  replace H := Option.bind_eq_some_iff.mp H
                  obtain ⟨t282, A130, H⟩ := H
                  replace H : (some (t282, 0)) = some (r1, r2) := H
                  have A13 := Aside0.mk A130
                  clear A130
                  simp only [Option.some.injEq, Prod.mk.injEq] at H
                  obtain ⟨rfl, rfl⟩ := H
                  go_enter Try.func97, Try.ntmps97
                  go_wp2_with (first | ((with_reducible refine gate_callee (f := 140) rfl ?_); refine goesL_ (some 49) rfl rfl Try.func140 (by kernel_rfl) rfl #[.int .u32 a1, .int .u32 a2, .bool false] rfl (by (try simp only [List.map_toArray, List.map_cons, List.map_nil]); first | done | rfl | (simp only [List.length_drop, List.length_take]; rfl)) ?_; (with_reducible refine (riddleref5_Shift.calls a1 a2 false t282 _ A13.out).mono ?_); rintro e w' ⟨rfl, ⟨nd, rfl⟩⟩; refine ⟨_, rfl, ?_⟩))
                  go_ret2
                  exact ⟨by first | rfl | (simp; done) | (simp [*]; done), by repeat (first | exact Drawn0.refl _ | apply Drawn0.step)⟩
                · rw [if_neg c12] at H
                  have c12b0 : ((Go.bits .andNot .u16 a0 8) == 116) = false := beq_eq_false_iff_ne.mpr c12
                  have c12b1 : ((Go.bits .andNot .u16 a0 8) != 116) = true := bne_iff_ne.mpr c12
                  by_cases c14 : a2 = 0
                  · rw [if_pos c14] at H
                    have c14b0 : (a2 == 0) = true := beq_iff_eq.mpr c14
                    have c14b1 : (a2 != 0) = false := bne_eq_false_iff_eq.mpr c14
                    clear c14
                    simp only [Option.some.injEq, Prod.mk.injEq] at H
                    obtain ⟨rfl, rfl⟩ := H
                    go_enter Try.func97, Try.ntmps97
                    go_wp2
                    go_ret2
                    exact ⟨by first | rfl | (simp; done) | (simp [*]; done), by repeat (first | exact Drawn0.refl _ | apply Drawn0.step)⟩
                  · rw [if_neg c14] at H
                    have c14b0 : (a2 == 0) = false := beq_eq_false_iff_ne.mpr c14
                    have c14b1 : (a2 != 0) = true := bne_iff_ne.mpr c14
                    by_cases c15 : (Go.bits .andNot .u16 a0 8) = 52
                    · rw [if_pos c15] at H
                      have c15b0 : ((Go.bits .andNot .u16 a0 8) == 52) = true := beq_iff_eq.mpr c15
                      have c15b1 : ((Go.bits .andNot .u16 a0 8) != 52) = false := bne_eq_false_iff_eq.mpr c15
                      clear c15
                      simp only [Option.some.injEq, Prod.mk.injEq] at H
                      obtain ⟨rfl, rfl⟩ := H
                      go_enter Try.func97, Try.ntmps97
                      go_wp2
                      go_ret2
                      exact ⟨by first | rfl | (simp; done) | (simp [*]; done), by repeat (first | exact Drawn0.refl _ | apply Drawn0.step)⟩
                    · rw [if_neg c15] at H
                      have c15b0 : ((Go.bits .andNot .u16 a0 8) == 52) = false := beq_eq_false_iff_ne.mpr c15
                      have c15b1 : ((Go.bits .andNot .u16 a0 8) != 52) = true := bne_iff_ne.mpr c15
                      simp only [Option.some.injEq, Prod.mk.injEq] at H
                      obtain ⟨rfl, rfl⟩ := H
                      go_enter Try.func97, Try.ntmps97
                      go_wp2
                      go_ret2
                      exact ⟨by first | rfl | (simp; done) | (simp [*]; done), by repeat (first | exact Drawn0.refl _ | apply Drawn0.step)⟩
def riddleref5_Holds.j0 : Nat → Int → Int → Int → Int → Int → Int → Option (Bool)
  | 0, _, _, _, _, _, _ => none
  | k + 1, x1, x7, x284000, x284001, x284002, x284003 => if (Go.bits .andNot .u16 x284000 8) = 21 then (some (x1 == x7)) else (if (Go.bits .andNot .u16 x284000 8) = 37 then (some (decide (x1 > x7))) else (if (Go.bits .andNot .u16 x284000 8) = 53 then (some (decide (x1 ≥ x7))) else (some ((Go.bits .and .u32 x1 x7) != 0))))
def riddleref5_Holds.f (k : Nat) (a0_0 : Int) (a0_1 : Int) (a0_2 : Int) (a0_3 : Int) (a1 : Int) (a2 : Int) : Option (Bool) := (riddleref2_ByX.f k a0_0).bind fun t284 => (if t284 = true then (riddleref5_Holds.j0 k a1 a2 a0_0 a0_1 a0_2 a0_3) else (riddleref5_Holds.j0 k a1 a0_3 a0_0 a0_1 a0_2 a0_3))
set_option maxHeartbeats 8000000 in
set_option maxRecDepth 100000 in
theorem riddleref5_Holds.calls (k : Nat) (a0_0 : Int) (a0_1 : Int) (a0_2 : Int) (a0_3 : Int) (a1 : Int) (a2 : Int) (r : Bool) (w : World) (h : riddleref5_Holds.f k a0_0 a0_1 a0_2 a0_3 a1 a2 = some r) :
    Calls Try.prog 64 #[.agg #[.int .u16 a0_0, .int .u8 a0_1, .int .u8 a0_2, .int .u32 a0_3], .int .u32 a1, .int .u32 a2] w fun e w' => e = .returned (.bool r) ∧ Below w.heap.size w w' := by
  have hu45 := Try.underlying45
  have HB := Aside0.mk (Below.refl w.heap.size w)
  have H : ((riddleref2_ByX.f k a0_0).bind fun t284 => (if t284 = true then (riddleref5_Holds.j0 k a1 a2 a0_0 a0_1 a0_2 a0_3) else (riddleref5_Holds.j0 k a1 a0_3 a0_0 a0_1 a0_2 a0_3))) = some r := h
  clear h
  replace H := Option.bind_eq_some_iff.mp H
  obtain ⟨t284, A40, H⟩ := H
  replace H : (if t284 = true then (riddleref5_Holds.j0 k a1 a2 a0_0 a0_1 a0_2 a0_3) else (riddleref5_Holds.j0 k a1 a0_3 a0_0 a0_1 a0_2 a0_3)) = some r := H
  have A4 := Aside0.mk A40
  clear A40
  have HC5 := Aside0.mk H
  clear H
  go_enter Try.func64, Try.ntmps64
  go_upto_if 12 with (first | ((with_reducible refine gate_dst (N := 3) rfl ?_); refine box_event ?hg (N := 3) ?hd (cs := #[.int .u16 a0_0, .int .u8 a0_1, .int .u8 a0_2, .int .u32 a0_3]) (t := 45) ?hr ?_; (case hd => rfl); (case hg => rfl); (case hr => first | (go_simp; done) | (go_simp; rfl)); intro gb283 hg w6 hbox hb; have n0_ := Aside0.mk (below_step (by repeat (first | (with_reducible first | exact HB.out | apply below_alloc | apply pw_below_drewN | apply below_drew1) | exact HB.out)) hb); have n1_ := Aside0.mk (hbox); have n2_ := Aside0.mk ((by rw [hg]; exact (below_size (by repeat (first | (with_reducible first | exact HB.out | apply below_alloc | apply pw_below_drewN | apply below_drew1) | exact HB.out))) : w.heap.size ≤ gb283)); have n3_ := Aside0.mk ((by rw [hg]; exact (below_size (by repeat (first | (with_reducible first | exact HB.out | apply below_alloc | apply pw_below_drewN | apply below_drew1) | exact HB.out))) : w.heap.size ≤ gb283)); clear HB; have HB := n0_; have BK283 := n1_; have GW283 := n2_; have GE283 := n3_; clear n0_ n1_ n2_ n3_; clear hb hbox hg; have hcz7_0 : w6.cell? ⟨gb283, 0, none⟩ = some (.int .u16 a0_0) := (blk_cell BK283.out 0).trans rfl; have hcz7_1 : w6.cell? ⟨gb283, 1, none⟩ = some (.int .u8 a0_1) := (blk_cell BK283.out 1).trans rfl; have hcz7_2 : w6.cell? ⟨gb283, 2, none⟩ = some (.int .u8 a0_2) := (blk_cell BK283.out 2).trans rfl; have hcz7_3 : w6.cell? ⟨gb283, 3, none⟩ = some (.int .u32 a0_3) := (blk_cell BK283.out 3).trans rfl; have hfz7_0 := blk_frozen BK283.out 0; have hfz7_1 := blk_frozen BK283.out 1; have hfz7_2 := blk_frozen BK283.out 2; have hfz7_3 := blk_frozen BK283.out 3) | ((with_reducible refine gate_callee (f := 58) rfl ?_); refine goesL_ (some 12) rfl rfl Try.func58 (by kernel_rfl) rfl #[.int .u16 a0_0] rfl (by (try simp only [List.map_toArray, List.map_cons, List.map_nil]); first | done | rfl | (simp only [List.length_drop, List.length_take]; rfl)) ?_; (with_reducible refine (riddleref2_ByX.calls k a0_0 t284 _ A4.out).mono ?_); rintro e w' ⟨rfl, ⟨nd, rfl⟩⟩; refine ⟨_, rfl, ?_⟩))
  (try simp only [Act.put, List.setIfInBounds_toArray, List.set_cons_zero, List.set_cons_succ])
  go_cut [7] (fun v7 wc => ∃ (kq : Nat) (x7_4 : Int), v7 = .int .u32 x7_4 ∧ Aside0 (riddleref5_Holds.j0 kq a1 x7_4 a0_0 a0_1 a0_2 a0_3 = some r) ∧ Aside0 (kq ≤ k) ∧ Aside0 (wc.heap[gb283]? = some (.cells #[.int .u16 a0_0, .int .u8 a0_1, .int .u8 a0_2, .int .u32 a0_3] 45 (0, 0))) ∧ Aside0 (Below w.heap.size w wc))
  case first =>
    have H := HC5.out
    clear HC5
    by_cases c8 : t284 = true
    · subst c8
      have H1 : (riddleref5_Holds.j0 k a1 a2 a0_0 a0_1 a0_2 a0_3) = some r := by rw [if_pos rfl] at H; exact H
      clear H
      have H := H1
      clear H1
      have H' := Aside0.mk H
      clear H
      go_wp2
      go_meet
      case rel => exact ⟨_, (a2), (by first | rfl | (simp; done) | (simp [*]; done)), H', ⟨by first | omega | exact Nat.le_refl _⟩, ⟨by (with_reducible repeat (first | refine blk_drewN ?_ _ | refine blk_drew ?_ | refine blk_alloc ?_ _)); exact BK283.out⟩, ⟨by repeat (first | (with_reducible first | exact HB.out | apply below_alloc | apply pw_below_drewN | apply below_drew1 | refine below_set ?_ GE283.out) | exact HB.out)⟩⟩
    · replace c8 := Bool.eq_false_iff.mpr c8
      subst c8
      have H1 : (riddleref5_Holds.j0 k a1 a0_3 a0_0 a0_1 a0_2 a0_3) = some r := by rw [if_neg (show ¬ (false = true) by decide)] at H; exact H
      clear H
      have H := H1
      clear H1
      have H' := Aside0.mk H
      clear H
      go_wp2
      go_meet
      case rel => exact ⟨_, (a0_3), (by first | rfl | (simp; done) | (simp [*]; done)), H', ⟨by first | omega | exact Nat.le_refl _⟩, ⟨by (with_reducible repeat (first | refine blk_drewN ?_ _ | refine blk_drew ?_ | refine blk_alloc ?_ _)); exact BK283.out⟩, ⟨by repeat (first | (with_reducible first | exact HB.out | apply below_alloc | apply pw_below_drewN | apply below_drew1 | refine below_set ?_ GE283.out) | exact HB.out)⟩⟩
  case rest =>
    clear HC5
    try clear p2
    try clear c5
    try clear c6
    try clear c8
    try clear hcz7_0
    try clear hcz7_1
    try clear hcz7_2
    try clear hcz7_3
    try clear hfz7_0
    try clear hfz7_1
    try clear hfz7_2
    try clear hfz7_3
    obtain ⟨kq, x7_4, rfl, HA, HJ4, BK283, HB⟩ := hcut
    cases kq with
    | zero => exact absurd HA.out (by simp [riddleref5_Holds.j0])
    | succ kj4 =>
      have H := HA.out
      clear HA
      simp only [riddleref5_Holds.j0] at H
      by_cases c9 : (Go.bits .andNot .u16 a0_0 8) = 21
      · rw [if_pos c9] at H
        have c9b0 : ((Go.bits .andNot .u16 a0_0 8) == 21) = true := beq_iff_eq.mpr c9
        have c9b1 : ((Go.bits .andNot .u16 a0_0 8) != 21) = false := bne_eq_false_iff_eq.mpr c9
        clear c9
        obtain rfl := Option.some.inj H
        have hcz10_0 : wc.cell? ⟨gb283, 0, none⟩ = some (.int .u16 a0_0) := (blk_cell BK283.out 0).trans rfl
        have hcz10_1 : wc.cell? ⟨gb283, 1, none⟩ = some (.int .u8 a0_1) := (blk_cell BK283.out 1).trans rfl
        have hcz10_2 : wc.cell? ⟨gb283, 2, none⟩ = some (.int .u8 a0_2) := (blk_cell BK283.out 2).trans rfl
        have hcz10_3 : wc.cell? ⟨gb283, 3, none⟩ = some (.int .u32 a0_3) := (blk_cell BK283.out 3).trans rfl
        have hfz10_0 := blk_frozen BK283.out 0
        have hfz10_1 := blk_frozen BK283.out 1
        have hfz10_2 := blk_frozen BK283.out 2
        have hfz10_3 := blk_frozen BK283.out 3
        go_wp2
        go_ret
        exact ⟨by first | rfl | (simp [errW_none, errW_some] <;> rfl) | (simp [*, errW_none, errW_some] <;> rfl), by repeat (first | (with_reducible first | exact HB.out | apply below_alloc | apply pw_below_drewN | apply below_drew1 | refine below_set ?_ GE283.out) | exact HB.out)⟩
      · rw [if_neg c9] at H
        have c9b0 : ((Go.bits .andNot .u16 a0_0 8) == 21) = false := beq_eq_false_iff_ne.mpr c9
        have c9b1 : ((Go.bits .andNot .u16 a0_0 8) != 21) = true := bne_iff_ne.mpr c9
        by_cases c11 : (Go.bits .andNot .u16 a0_0 8) = 37
        · rw [if_pos c11] at H
          have c11b0 : ((Go.bits .andNot .u16 a0_0 8) == 37) = true := beq_iff_eq.mpr c11
          have c11b1 : ((Go.bits .andNot .u16 a0_0 8) != 37) = false := bne_eq_false_iff_eq.mpr c11
          clear c11
          obtain rfl := Option.some.inj H
          have hcz12_0 : wc.cell? ⟨gb283, 0, none⟩ = some (.int .u16 a0_0) := (blk_cell BK283.out 0).trans rfl
          have hcz12_1 : wc.cell? ⟨gb283, 1, none⟩ = some (.int .u8 a0_1) := (blk_cell BK283.out 1).trans rfl
          have hcz12_2 : wc.cell? ⟨gb283, 2, none⟩ = some (.int .u8 a0_2) := (blk_cell BK283.out 2).trans rfl
          have hcz12_3 : wc.cell? ⟨gb283, 3, none⟩ = some (.int .u32 a0_3) := (blk_cell BK283.out 3).trans rfl
          have hfz12_0 := blk_frozen BK283.out 0
          have hfz12_1 := blk_frozen BK283.out 1
          have hfz12_2 := blk_frozen BK283.out 2
          have hfz12_3 := blk_frozen BK283.out 3
          go_wp2
          go_ret
          exact ⟨by first | rfl | (simp [errW_none, errW_some] <;> rfl) | (simp [*, errW_none, errW_some] <;> rfl), by repeat (first | (with_reducible first | exact HB.out | apply below_alloc | apply pw_below_drewN | apply below_drew1 | refine below_set ?_ GE283.out) | exact HB.out)⟩
        · rw [if_neg c11] at H
          have c11b0 : ((Go.bits .andNot .u16 a0_0 8) == 37) = false := beq_eq_false_iff_ne.mpr c11
          have c11b1 : ((Go.bits .andNot .u16 a0_0 8) != 37) = true := bne_iff_ne.mpr c11
          by_cases c13 : (Go.bits .andNot .u16 a0_0 8) = 53
          · rw [if_pos c13] at H
            have c13b0 : ((Go.bits .andNot .u16 a0_0 8) == 53) = true := beq_iff_eq.mpr c13
            have c13b1 : ((Go.bits .andNot .u16 a0_0 8) != 53) = false := bne_eq_false_iff_eq.mpr c13
            clear c13
            obtain rfl := Option.some.inj H
            have hcz14_0 : wc.cell? ⟨gb283, 0, none⟩ = some (.int .u16 a0_0) := (blk_cell BK283.out 0).trans rfl
            have hcz14_1 : wc.cell? ⟨gb283, 1, none⟩ = some (.int .u8 a0_1) := (blk_cell BK283.out 1).trans rfl
            have hcz14_2 : wc.cell? ⟨gb283, 2, none⟩ = some (.int .u8 a0_2) := (blk_cell BK283.out 2).trans rfl
            have hcz14_3 : wc.cell? ⟨gb283, 3, none⟩ = some (.int .u32 a0_3) := (blk_cell BK283.out 3).trans rfl
            have hfz14_0 := blk_frozen BK283.out 0
            have hfz14_1 := blk_frozen BK283.out 1
            have hfz14_2 := blk_frozen BK283.out 2
            have hfz14_3 := blk_frozen BK283.out 3
            go_wp2
            go_ret
            exact ⟨by first | rfl | (simp [errW_none, errW_some] <;> rfl) | (simp [*, errW_none, errW_some] <;> rfl), by repeat (first | (with_reducible first | exact HB.out | apply below_alloc | apply pw_below_drewN | apply below_drew1 | refine below_set ?_ GE283.out) | exact HB.out)⟩
          · rw [if_neg c13] at H
            have c13b0 : ((Go.bits .andNot .u16 a0_0 8) == 53) = false := beq_eq_false_iff_ne.mpr c13
            have c13b1 : ((Go.bits .andNot .u16 a0_0 8) != 53) = true := bne_iff_ne.mpr c13
            obtain rfl := Option.some.inj H
            have hcz15_0 : wc.cell? ⟨gb283, 0, none⟩ = some (.int .u16 a0_0) := (blk_cell BK283.out 0).trans rfl
            have hcz15_1 : wc.cell? ⟨gb283, 1, none⟩ = some (.int .u8 a0_1) := (blk_cell BK283.out 1).trans rfl
            have hcz15_2 : wc.cell? ⟨gb283, 2, none⟩ = some (.int .u8 a0_2) := (blk_cell BK283.out 2).trans rfl
            have hcz15_3 : wc.cell? ⟨gb283, 3, none⟩ = some (.int .u32 a0_3) := (blk_cell BK283.out 3).trans rfl
            have hfz15_0 := blk_frozen BK283.out 0
            have hfz15_1 := blk_frozen BK283.out 1
            have hfz15_2 := blk_frozen BK283.out 2
            have hfz15_3 := blk_frozen BK283.out 3
            go_wp2
            go_ret
            exact ⟨by first | rfl | (simp [errW_none, errW_some] <;> rfl) | (simp [*, errW_none, errW_some] <;> rfl), by repeat (first | (with_reducible first | exact HB.out | apply below_alloc | apply pw_below_drewN | apply below_drew1 | refine below_set ?_ GE283.out) | exact HB.out)⟩
end Go.Proofs.Ytdkalnkplgfgoaa.PA
