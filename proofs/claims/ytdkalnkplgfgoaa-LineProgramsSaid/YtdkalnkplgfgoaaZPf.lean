/- Lemmas and walks for the statements of the texts ZPZ..: the declarations that they need, taken together by a program of this session. Conditions: as each says. -/
import Derived.Test.YtdkalnkplgfgoaaZPa
import Derived.Test.YtdkalnkplgfgoaaZPb
import Derived.Test.YtdkalnkplgfgoaaZPd
import Derived.Test.YtdkalnkplgfgoaaZPe
namespace Go.Proofs.Ytdkalnkplgfgoaa.PA
open Go.RowKit Go.Proofs.YtdkalnkplgfgoaaW.PrintWords Go.Proofs.YtdkalnkplgfgoaaW.PrintLast Go.Proofs.YtdkalnkplgfgoaaW.PrintMore
attribute [local go_sem] max2_int min2_int max_two min_two max_three min_three max_four min_four   -- for this text's walks alone
set_option linter.unusedVariables false
set_option linter.unusedSimpArgs false
attribute [local go_sem high] eqA45
def graph_bare.f (k : Nat) (a0_0 : Int) (a0_1 : Int) (a0_2 : Int) (a0_3 : Int) : Option (Bool) := (insn_Uses.f k a0_0).bind fun bt194 => (if a0_1 = 0 then (if a0_2 = 0 then (if bt194.1 = true then (some true) else (some (a0_3 == 0))) else (some false)) else (some false))
set_option maxHeartbeats 8000000 in
set_option maxRecDepth 100000 in
theorem graph_bare.calls (k : Nat) (a0_0 : Int) (a0_1 : Int) (a0_2 : Int) (a0_3 : Int) (r : Bool) (w : World) (h : graph_bare.f k a0_0 a0_1 a0_2 a0_3 = some r) :
    Calls Try.prog 158 #[.agg #[.int .u16 a0_0, .int .u8 a0_1, .int .u8 a0_2, .int .u32 a0_3]] w fun e w' => e = .returned (.bool r) ∧ Below w.heap.size w w' := by
  have hu45 := Try.underlying45
  have HB := Aside0.mk (Below.refl w.heap.size w)
  have H : ((insn_Uses.f k a0_0).bind fun bt194 => (if a0_1 = 0 then (if a0_2 = 0 then (if bt194.1 = true then (some true) else (some (a0_3 == 0))) else (some false)) else (some false))) = some r := h
  clear h
  replace H := Option.bind_eq_some_iff.mp H
  obtain ⟨⟨t194, t195, t196⟩, A20, H⟩ := H
  replace H : (if a0_1 = 0 then (if a0_2 = 0 then (if t194 = true then (some true) else (some (a0_3 == 0))) else (some false)) else (some false)) = some r := H
  have A2 := Aside0.mk A20
  clear A20
  by_cases c3 : a0_1 = 0
  · rw [if_pos c3] at H
    have c3b0 : (a0_1 == 0) = true := beq_iff_eq.mpr c3
    have c3b1 : (a0_1 != 0) = false := bne_eq_false_iff_eq.mpr c3
    clear c3
    by_cases c4 : a0_2 = 0
    · rw [if_pos c4] at H
      have c4b0 : (a0_2 == 0) = true := beq_iff_eq.mpr c4
      have c4b1 : (a0_2 != 0) = false := bne_eq_false_iff_eq.mpr c4
      clear c4
      by_cases c5 : t194 = true
      · subst c5
        have H1 : (some true) = some r := by rw [if_pos rfl] at H; exact H
        clear H
        have H := H1
        clear H1
        obtain rfl := Option.some.inj H
        go_enter Try.func158, Try.ntmps158
        go_wp2_with (first | ((with_reducible refine gate_dst (N := 1) rfl ?_); refine box_event ?hg (N := 1) ?hd (cs := #[.int .u16 a0_0, .int .u8 a0_1, .int .u8 a0_2, .int .u32 a0_3]) (t := 45) ?hr ?_; (case hd => rfl); (case hg => rfl); (case hr => first | (go_simp; done) | (go_simp; rfl)); intro gb193 hg w6 hbox hb; have n0_ := Aside0.mk (below_step (by repeat (first | (with_reducible first | exact HB.out | apply below_alloc | apply pw_below_drewN | apply below_drew1) | exact HB.out)) hb); have n1_ := Aside0.mk (hbox); have n2_ := Aside0.mk ((by rw [hg]; exact (below_size (by repeat (first | (with_reducible first | exact HB.out | apply below_alloc | apply pw_below_drewN | apply below_drew1) | exact HB.out))) : w.heap.size ≤ gb193)); have n3_ := Aside0.mk ((by rw [hg]; exact (below_size (by repeat (first | (with_reducible first | exact HB.out | apply below_alloc | apply pw_below_drewN | apply below_drew1) | exact HB.out))) : w.heap.size ≤ gb193)); clear HB; have HB := n0_; have BK193 := n1_; have GW193 := n2_; have GE193 := n3_; clear n0_ n1_ n2_ n3_; clear hb hbox hg; have hcz7_0 : w6.cell? ⟨gb193, 0, none⟩ = some (.int .u16 a0_0) := (blk_cell BK193.out 0).trans rfl; have hcz7_1 : w6.cell? ⟨gb193, 1, none⟩ = some (.int .u8 a0_1) := (blk_cell BK193.out 1).trans rfl; have hcz7_2 : w6.cell? ⟨gb193, 2, none⟩ = some (.int .u8 a0_2) := (blk_cell BK193.out 2).trans rfl; have hcz7_3 : w6.cell? ⟨gb193, 3, none⟩ = some (.int .u32 a0_3) := (blk_cell BK193.out 3).trans rfl; have hfz7_0 := blk_frozen BK193.out 0; have hfz7_1 := blk_frozen BK193.out 1; have hfz7_2 := blk_frozen BK193.out 2; have hfz7_3 := blk_frozen BK193.out 3) | ((with_reducible refine gate_callee (f := 100) rfl ?_); refine goesL_ (some 9) rfl rfl Try.func100 (by kernel_rfl) rfl #[.int .u16 a0_0] rfl (by (try simp only [List.map_toArray, List.map_cons, List.map_nil]); first | done | rfl | (simp only [List.length_drop, List.length_take]; rfl)) ?_; (with_reducible refine (insn_Uses.calls k a0_0 true t195 t196 _ A2.out).mono ?_); rintro e w' ⟨rfl, ⟨nd, rfl⟩⟩; refine ⟨_, rfl, ?_⟩))
        go_ret
        exact ⟨by first | rfl | (simp [errW_none, errW_some] <;> rfl) | (simp [*, errW_none, errW_some] <;> rfl), by repeat (first | (with_reducible first | exact HB.out | apply below_alloc | apply pw_below_drewN | apply below_drew1 | refine below_set ?_ GE193.out) | exact HB.out)⟩
      · replace c5 := Bool.eq_false_iff.mpr c5
        subst c5
        have H1 : (some (a0_3 == 0)) = some r := by rw [if_neg (show ¬ (false = true) by decide)] at H; exact H
        clear H
        have H := H1
        clear H1
        obtain rfl := Option.some.inj H
        go_enter Try.func158, Try.ntmps158
        go_wp2_with (first | ((with_reducible refine gate_dst (N := 1) rfl ?_); refine box_event ?hg (N := 1) ?hd (cs := #[.int .u16 a0_0, .int .u8 a0_1, .int .u8 a0_2, .int .u32 a0_3]) (t := 45) ?hr ?_; (case hd => rfl); (case hg => rfl); (case hr => first | (go_simp; done) | (go_simp; rfl)); intro gb193 hg w8 hbox hb; have n0_ := Aside0.mk (below_step (by repeat (first | (with_reducible first | exact HB.out | apply below_alloc | apply pw_below_drewN | apply below_drew1) | exact HB.out)) hb); have n1_ := Aside0.mk (hbox); have n2_ := Aside0.mk ((by rw [hg]; exact (below_size (by repeat (first | (with_reducible first | exact HB.out | apply below_alloc | apply pw_below_drewN | apply below_drew1) | exact HB.out))) : w.heap.size ≤ gb193)); have n3_ := Aside0.mk ((by rw [hg]; exact (below_size (by repeat (first | (with_reducible first | exact HB.out | apply below_alloc | apply pw_below_drewN | apply below_drew1) | exact HB.out))) : w.heap.size ≤ gb193)); clear HB; have HB := n0_; have BK193 := n1_; have GW193 := n2_; have GE193 := n3_; clear n0_ n1_ n2_ n3_; clear hb hbox hg; have hcz9_0 : w8.cell? ⟨gb193, 0, none⟩ = some (.int .u16 a0_0) := (blk_cell BK193.out 0).trans rfl; have hcz9_1 : w8.cell? ⟨gb193, 1, none⟩ = some (.int .u8 a0_1) := (blk_cell BK193.out 1).trans rfl; have hcz9_2 : w8.cell? ⟨gb193, 2, none⟩ = some (.int .u8 a0_2) := (blk_cell BK193.out 2).trans rfl; have hcz9_3 : w8.cell? ⟨gb193, 3, none⟩ = some (.int .u32 a0_3) := (blk_cell BK193.out 3).trans rfl; have hfz9_0 := blk_frozen BK193.out 0; have hfz9_1 := blk_frozen BK193.out 1; have hfz9_2 := blk_frozen BK193.out 2; have hfz9_3 := blk_frozen BK193.out 3) | ((with_reducible refine gate_callee (f := 100) rfl ?_); refine goesL_ (some 9) rfl rfl Try.func100 (by kernel_rfl) rfl #[.int .u16 a0_0] rfl (by (try simp only [List.map_toArray, List.map_cons, List.map_nil]); first | done | rfl | (simp only [List.length_drop, List.length_take]; rfl)) ?_; (with_reducible refine (insn_Uses.calls k a0_0 false t195 t196 _ A2.out).mono ?_); rintro e w' ⟨rfl, ⟨nd, rfl⟩⟩; refine ⟨_, rfl, ?_⟩))
        go_ret
        exact ⟨by first | rfl | (simp [errW_none, errW_some] <;> rfl) | (simp [*, errW_none, errW_some] <;> rfl), by repeat (first | (with_reducible first | exact HB.out | apply below_alloc | apply pw_below_drewN | apply below_drew1 | refine below_set ?_ GE193.out) | exact HB.out)⟩
    · rw [if_neg c4] at H
      have c4b0 : (a0_2 == 0) = false := beq_eq_false_iff_ne.mpr c4
      have c4b1 : (a0_2 != 0) = true := bne_iff_ne.mpr c4
      obtain rfl := Option.some.inj H
      go_enter Try.func158, Try.ntmps158
      go_wp2_with (first | ((with_reducible refine gate_dst (N := 1) rfl ?_); refine box_event ?hg (N := 1) ?hd (cs := #[.int .u16 a0_0, .int .u8 a0_1, .int .u8 a0_2, .int .u32 a0_3]) (t := 45) ?hr ?_; (case hd => rfl); (case hg => rfl); (case hr => first | (go_simp; done) | (go_simp; rfl)); intro gb193 hg w10 hbox hb; have n0_ := Aside0.mk (below_step (by repeat (first | (with_reducible first | exact HB.out | apply below_alloc | apply pw_below_drewN | apply below_drew1) | exact HB.out)) hb); have n1_ := Aside0.mk (hbox); have n2_ := Aside0.mk ((by rw [hg]; exact (below_size (by repeat (first | (with_reducible first | exact HB.out | apply below_alloc | apply pw_below_drewN | apply below_drew1) | exact HB.out))) : w.heap.size ≤ gb193)); have n3_ := Aside0.mk ((by rw [hg]; exact (below_size (by repeat (first | (with_reducible first | exact HB.out | apply below_alloc | apply pw_below_drewN | apply below_drew1) | exact HB.out))) : w.heap.size ≤ gb193)); clear HB; have HB := n0_; have BK193 := n1_; have GW193 := n2_; have GE193 := n3_; clear n0_ n1_ n2_ n3_; clear hb hbox hg; have hcz11_0 : w10.cell? ⟨gb193, 0, none⟩ = some (.int .u16 a0_0) := (blk_cell BK193.out 0).trans rfl; have hcz11_1 : w10.cell? ⟨gb193, 1, none⟩ = some (.int .u8 a0_1) := (blk_cell BK193.out 1).trans rfl; have hcz11_2 : w10.cell? ⟨gb193, 2, none⟩ = some (.int .u8 a0_2) := (blk_cell BK193.out 2).trans rfl; have hcz11_3 : w10.cell? ⟨gb193, 3, none⟩ = some (.int .u32 a0_3) := (blk_cell BK193.out 3).trans rfl; have hfz11_0 := blk_frozen BK193.out 0; have hfz11_1 := blk_frozen BK193.out 1; have hfz11_2 := blk_frozen BK193.out 2; have hfz11_3 := blk_frozen BK193.out 3) | ((with_reducible refine gate_callee (f := 100) rfl ?_); refine goesL_ (some 9) rfl rfl Try.func100 (by kernel_rfl) rfl #[.int .u16 a0_0] rfl (by (try simp only [List.map_toArray, List.map_cons, List.map_nil]); first | done | rfl | (simp only [List.length_drop, List.length_take]; rfl)) ?_; (with_reducible refine (insn_Uses.calls k a0_0 t194 t195 t196 _ A2.out).mono ?_); rintro e w' ⟨rfl, ⟨nd, rfl⟩⟩; refine ⟨_, rfl, ?_⟩))
      go_ret
      exact ⟨by first | rfl | (simp [errW_none, errW_some] <;> rfl) | (simp [*, errW_none, errW_some] <;> rfl), by repeat (first | (with_reducible first | exact HB.out | apply below_alloc | apply pw_below_drewN | apply below_drew1 | refine below_set ?_ GE193.out) | exact HB.out)⟩
  · rw [if_neg c3] at H
    have c3b0 : (a0_1 == 0) = false := beq_eq_false_iff_ne.mpr c3
    have c3b1 : (a0_1 != 0) = true := bne_iff_ne.mpr c3
    obtain rfl := Option.some.inj H
    go_enter Try.func158, Try.ntmps158
    go_wp2_with (first | ((with_reducible refine gate_dst (N := 1) rfl ?_); refine box_event ?hg (N := 1) ?hd (cs := #[.int .u16 a0_0, .int .u8 a0_1, .int .u8 a0_2, .int .u32 a0_3]) (t := 45) ?hr ?_; (case hd => rfl); (case hg => rfl); (case hr => first | (go_simp; done) | (go_simp; rfl)); intro gb193 hg w12 hbox hb; have n0_ := Aside0.mk (below_step (by repeat (first | (with_reducible first | exact HB.out | apply below_alloc | apply pw_below_drewN | apply below_drew1) | exact HB.out)) hb); have n1_ := Aside0.mk (hbox); have n2_ := Aside0.mk ((by rw [hg]; exact (below_size (by repeat (first | (with_reducible first | exact HB.out | apply below_alloc | apply pw_below_drewN | apply below_drew1) | exact HB.out))) : w.heap.size ≤ gb193)); have n3_ := Aside0.mk ((by rw [hg]; exact (below_size (by repeat (first | (with_reducible first | exact HB.out | apply below_alloc | apply pw_below_drewN | apply below_drew1) | exact HB.out))) : w.heap.size ≤ gb193)); clear HB; have HB := n0_; have BK193 := n1_; have GW193 := n2_; have GE193 := n3_; clear n0_ n1_ n2_ n3_; clear hb hbox hg; have hcz13_0 : w12.cell? ⟨gb193, 0, none⟩ = some (.int .u16 a0_0) := (blk_cell BK193.out 0).trans rfl; have hcz13_1 : w12.cell? ⟨gb193, 1, none⟩ = some (.int .u8 a0_1) := (blk_cell BK193.out 1).trans rfl; have hcz13_2 : w12.cell? ⟨gb193, 2, none⟩ = some (.int .u8 a0_2) := (blk_cell BK193.out 2).trans rfl; have hcz13_3 : w12.cell? ⟨gb193, 3, none⟩ = some (.int .u32 a0_3) := (blk_cell BK193.out 3).trans rfl; have hfz13_0 := blk_frozen BK193.out 0; have hfz13_1 := blk_frozen BK193.out 1; have hfz13_2 := blk_frozen BK193.out 2; have hfz13_3 := blk_frozen BK193.out 3) | ((with_reducible refine gate_callee (f := 100) rfl ?_); refine goesL_ (some 9) rfl rfl Try.func100 (by kernel_rfl) rfl #[.int .u16 a0_0] rfl (by (try simp only [List.map_toArray, List.map_cons, List.map_nil]); first | done | rfl | (simp only [List.length_drop, List.length_take]; rfl)) ?_; (with_reducible refine (insn_Uses.calls k a0_0 t194 t195 t196 _ A2.out).mono ?_); rintro e w' ⟨rfl, ⟨nd, rfl⟩⟩; refine ⟨_, rfl, ?_⟩))
    go_ret
    exact ⟨by first | rfl | (simp [errW_none, errW_some] <;> rfl) | (simp [*, errW_none, errW_some] <;> rfl), by repeat (first | (with_reducible first | exact HB.out | apply below_alloc | apply pw_below_drewN | apply below_drew1 | refine below_set ?_ GE193.out) | exact HB.out)⟩
def graph_ended.f (k : Nat) (l0_0 : List (S45)) (a0_1 : Int) (a0_2 : Int) (a0_3 : Int) (a0_4 : Int) (a0_5 : Int) (a0_6 : Int) (a0_7 : Int) : Option (Bool) := if a0_1 = 1 then ((insn_Class.f k a0_2).bind fun t198 => (if t198 = 6 then ((graph_bare.f k a0_2 a0_3 a0_4 a0_5).bind fun t199 => (if t199 = true then (if a0_6 = 0 then (some (a0_7 == 0)) else (some false)) else (some false))) else (some false))) else (if a0_1 = 2 then (if (a0_2 == 0 && (a0_3 == 0 && (a0_4 == 0 && (a0_5 == 0)))) = true then (some (a0_7 == 0)) else (some false)) else (if a0_1 = 3 then ((insn_Class.f k a0_2).bind fun t200 => (if t200 = 5 then (if a0_2 = 5 then (some false) else ((graph_bare.f k a0_2 a0_3 a0_4 a0_5).bind fun t201 => (some t201))) else (some false))) else (some false)))
set_option maxHeartbeats 8000000 in
set_option maxRecDepth 100000 in
theorem graph_ended.calls (k : Nat) (A0_0 : Option Addr) (c0_0 : Nat) (l0_0 : List (S45)) (a0_1 : Int) (a0_2 : Int) (a0_3 : Int) (a0_4 : Int) (a0_5 : Int) (a0_6 : Int) (a0_7 : Int) (r : Bool) (w : World) (hr0_0 : Kd.C k45 w A0_0 l0_0.length l0_0) (hc0_0 : l0_0.length ≤ c0_0) (h : graph_ended.f k l0_0 a0_1 a0_2 a0_3 a0_4 a0_5 a0_6 a0_7 = some r) :
    Calls Try.prog 124 #[.agg #[.slice A0_0 l0_0.length c0_0, .int .i64 a0_1, .int .u16 a0_2, .int .u8 a0_3, .int .u8 a0_4, .int .u32 a0_5, .int .i64 a0_6, .int .i64 a0_7]] w fun e w' => e = .returned (.bool r) ∧ Below w.heap.size w w' := by
  have hu47 := Try.underlying47
  have hu45 := Try.underlying45
  have HR0_0 := Aside0.mk hr0_0
  have HC0_0 := Aside0.mk hc0_0
  clear hr0_0 hc0_0
  have HB := Aside0.mk (Below.refl w.heap.size w)
  have H : (if a0_1 = 1 then ((insn_Class.f k a0_2).bind fun t198 => (if t198 = 6 then ((graph_bare.f k a0_2 a0_3 a0_4 a0_5).bind fun t199 => (if t199 = true then (if a0_6 = 0 then (some (a0_7 == 0)) else (some false)) else (some false))) else (some false))) else (if a0_1 = 2 then (if (a0_2 == 0 && (a0_3 == 0 && (a0_4 == 0 && (a0_5 == 0)))) = true then (some (a0_7 == 0)) else (some false)) else (if a0_1 = 3 then ((insn_Class.f k a0_2).bind fun t200 => (if t200 = 5 then (if a0_2 = 5 then (some false) else ((graph_bare.f k a0_2 a0_3 a0_4 a0_5).bind fun t201 => (some t201))) else (some false))) else (some false)))) = some r := h
  clear h
  by_cases c2 : a0_1 = 1
  · rw [if_pos c2] at H
    have c2b0 : (a0_1 == 1) = true := beq_iff_eq.mpr c2
    have c2b1 : (a0_1 != 1) = false := bne_eq_false_iff_eq.mpr c2
    clear c2
    replace H := Option.bind_eq_some_iff.mp H
    obtain ⟨t198, A30, H⟩ := H
    replace H : (if t198 = 6 then ((graph_bare.f k a0_2 a0_3 a0_4 a0_5).bind fun t199 => (if t199 = true then (if a0_6 = 0 then (some (a0_7 == 0)) else (some false)) else (some false))) else (some false)) = some r := H
    have A3 := Aside0.mk A30
    clear A30
    by_cases c4 : t198 = 6
    · rw [if_pos c4] at H
      have c4b0 : (t198 == 6) = true := beq_iff_eq.mpr c4
      have c4b1 : (t198 != 6) = false := bne_eq_false_iff_eq.mpr c4
      clear c4
      replace H := Option.bind_eq_some_iff.mp H
      obtain ⟨t199, A50, H⟩ := H
      replace H : (if t199 = true then (if a0_6 = 0 then (some (a0_7 == 0)) else (some false)) else (some false)) = some r := H
      have A5 := Aside0.mk A50
      clear A50
      by_cases c6 : t199 = true
      · subst c6
        have H1 : (if a0_6 = 0 then (some (a0_7 == 0)) else (some false)) = some r := by rw [if_pos rfl] at H; exact H
        clear H
        have H := H1
        clear H1
        by_cases c7 : a0_6 = 0
        · rw [if_pos c7] at H
          have c7b0 : (a0_6 == 0) = true := beq_iff_eq.mpr c7
          have c7b1 : (a0_6 != 0) = false := bne_eq_false_iff_eq.mpr c7
          clear c7
          obtain rfl := Option.some.inj H
          go_enter Try.func124, Try.ntmps124
          go_wp2_with (first | ((with_reducible refine gate_dst (N := 1) rfl ?_); refine box_event ?hg (N := 1) ?hd (cs := #[.slice A0_0 l0_0.length c0_0, .int .i64 a0_1, .int .u16 a0_2, .int .u8 a0_3, .int .u8 a0_4, .int .u32 a0_5, .int .i64 a0_6, .int .i64 a0_7]) (t := 47) ?hr ?_; (case hd => rfl); (case hg => rfl); (case hr => first | (go_simp; done) | (go_simp; rfl)); intro gb197 hg w8 hbox hb; have n0_ := Aside0.mk (below_step (by repeat (first | (with_reducible first | exact HB.out | apply below_alloc | apply pw_below_drewN | apply below_drew1) | exact HB.out)) hb); have n1_ := Aside0.mk (hbox); have n2_ := Aside0.mk ((by rw [hg]; exact (below_size (by repeat (first | (with_reducible first | exact HB.out | apply below_alloc | apply pw_below_drewN | apply below_drew1) | exact HB.out))) : w.heap.size ≤ gb197)); have n3_ := Aside0.mk ((by rw [hg]; exact (below_size (by repeat (first | (with_reducible first | exact HB.out | apply below_alloc | apply pw_below_drewN | apply below_drew1) | exact HB.out))) : w.heap.size ≤ gb197)); clear HB; have HB := n0_; have BK197 := n1_; have GW197 := n2_; have GE197 := n3_; clear n0_ n1_ n2_ n3_; clear hb hbox hg; have hcz9_0 : w8.cell? ⟨gb197, 0, none⟩ = some (.slice A0_0 l0_0.length c0_0) := (blk_cell BK197.out 0).trans rfl; have hcz9_1 : w8.cell? ⟨gb197, 1, none⟩ = some (.int .i64 a0_1) := (blk_cell BK197.out 1).trans rfl; have hcz9_2 : w8.cell? ⟨gb197, 2, none⟩ = some (.int .u16 a0_2) := (blk_cell BK197.out 2).trans rfl; have hcz9_3 : w8.cell? ⟨gb197, 3, none⟩ = some (.int .u8 a0_3) := (blk_cell BK197.out 3).trans rfl; have hcz9_4 : w8.cell? ⟨gb197, 4, none⟩ = some (.int .u8 a0_4) := (blk_cell BK197.out 4).trans rfl; have hcz9_5 : w8.cell? ⟨gb197, 5, none⟩ = some (.int .u32 a0_5) := (blk_cell BK197.out 5).trans rfl; have hcz9_6 : w8.cell? ⟨gb197, 6, none⟩ = some (.int .i64 a0_6) := (blk_cell BK197.out 6).trans rfl; have hcz9_7 : w8.cell? ⟨gb197, 7, none⟩ = some (.int .i64 a0_7) := (blk_cell BK197.out 7).trans rfl; have hfz9_0 := blk_frozen BK197.out 0; have hfz9_1 := blk_frozen BK197.out 1; have hfz9_2 := blk_frozen BK197.out 2; have hfz9_3 := blk_frozen BK197.out 3; have hfz9_4 := blk_frozen BK197.out 4; have hfz9_5 := blk_frozen BK197.out 5; have hfz9_6 := blk_frozen BK197.out 6; have hfz9_7 := blk_frozen BK197.out 7) | ((with_reducible refine gate_callee (f := 99) rfl ?_); refine goesL_ (some 10) rfl rfl Try.func99 (by kernel_rfl) rfl #[.int .u16 a0_2] rfl (by (try simp only [List.map_toArray, List.map_cons, List.map_nil]); first | done | rfl | (simp only [List.length_drop, List.length_take]; rfl)) ?_; (with_reducible refine (insn_Class.calls k a0_2 t198 _ A3.out).mono ?_); rintro e w' ⟨rfl, ⟨nd, rfl⟩⟩; refine ⟨_, rfl, ?_⟩) | (go_at_call 158; (with_reducible refine (graph_bare.calls k a0_2 a0_3 a0_4 a0_5 true _ A5.out).mono ?_); rintro e w10 ⟨rfl, hb⟩; have n0_ := Aside0.mk (blk_below (g := gb197) (o := .cells #[.slice A0_0 l0_0.length c0_0, .int .i64 a0_1, .int .u16 a0_2, .int .u8 a0_3, .int .u8 a0_4, .int .u32 a0_5, .int .i64 a0_6, .int .i64 a0_7] 47 (0, 0)) (by (with_reducible repeat (first | refine blk_drewN ?_ _ | refine blk_drew ?_ | refine blk_alloc ?_ _)); exact BK197.out) hb); have n1_ := Aside0.mk (below_step (by repeat (first | (with_reducible first | exact HB.out | apply below_alloc | apply pw_below_drewN | apply below_drew1 | refine below_set ?_ GE197.out) | exact HB.out)) hb); clear BK197; clear HB; have BK197 := n0_; have HB := n1_; clear n0_ n1_; (try clear hb); (try clear hb2); (try clear hk); (try clear hi); have hcz11_0 : w10.cell? ⟨gb197, 0, none⟩ = some (.slice A0_0 l0_0.length c0_0) := (blk_cell BK197.out 0).trans rfl; have hcz11_1 : w10.cell? ⟨gb197, 1, none⟩ = some (.int .i64 a0_1) := (blk_cell BK197.out 1).trans rfl; have hcz11_2 : w10.cell? ⟨gb197, 2, none⟩ = some (.int .u16 a0_2) := (blk_cell BK197.out 2).trans rfl; have hcz11_3 : w10.cell? ⟨gb197, 3, none⟩ = some (.int .u8 a0_3) := (blk_cell BK197.out 3).trans rfl; have hcz11_4 : w10.cell? ⟨gb197, 4, none⟩ = some (.int .u8 a0_4) := (blk_cell BK197.out 4).trans rfl; have hcz11_5 : w10.cell? ⟨gb197, 5, none⟩ = some (.int .u32 a0_5) := (blk_cell BK197.out 5).trans rfl; have hcz11_6 : w10.cell? ⟨gb197, 6, none⟩ = some (.int .i64 a0_6) := (blk_cell BK197.out 6).trans rfl; have hcz11_7 : w10.cell? ⟨gb197, 7, none⟩ = some (.int .i64 a0_7) := (blk_cell BK197.out 7).trans rfl; have hfz11_0 := blk_frozen BK197.out 0; have hfz11_1 := blk_frozen BK197.out 1; have hfz11_2 := blk_frozen BK197.out 2; have hfz11_3 := blk_frozen BK197.out 3; have hfz11_4 := blk_frozen BK197.out 4; have hfz11_5 := blk_frozen BK197.out 5; have hfz11_6 := blk_frozen BK197.out 6; have hfz11_7 := blk_frozen BK197.out 7))
          go_ret
          exact ⟨by first | rfl | (simp [errW_none, errW_some] <;> rfl) | (simp [*, errW_none, errW_some] <;> rfl), by repeat (first | (with_reducible first | exact HB.out | apply below_alloc | apply pw_below_drewN | apply below_drew1 | refine below_set ?_ GE197.out) | exact HB.out)⟩
        · rw [if_neg c7] at H
          have c7b0 : (a0_6 == 0) = false := beq_eq_false_iff_ne.mpr c7
          have c7b1 : (a0_6 != 0) = true := bne_iff_ne.mpr c7
          obtain rfl := Option.some.inj H
          go_enter Try.func124, Try.ntmps124
          go_wp2_with (first | ((with_reducible refine gate_dst (N := 1) rfl ?_); refine box_event ?hg (N := 1) ?hd (cs := #[.slice A0_0 l0_0.length c0_0, .int .i64 a0_1, .int .u16 a0_2, .int .u8 a0_3, .int .u8 a0_4, .int .u32 a0_5, .int .i64 a0_6, .int .i64 a0_7]) (t := 47) ?hr ?_; (case hd => rfl); (case hg => rfl); (case hr => first | (go_simp; done) | (go_simp; rfl)); intro gb197 hg w12 hbox hb; have n0_ := Aside0.mk (below_step (by repeat (first | (with_reducible first | exact HB.out | apply below_alloc | apply pw_below_drewN | apply below_drew1) | exact HB.out)) hb); have n1_ := Aside0.mk (hbox); have n2_ := Aside0.mk ((by rw [hg]; exact (below_size (by repeat (first | (with_reducible first | exact HB.out | apply below_alloc | apply pw_below_drewN | apply below_drew1) | exact HB.out))) : w.heap.size ≤ gb197)); have n3_ := Aside0.mk ((by rw [hg]; exact (below_size (by repeat (first | (with_reducible first | exact HB.out | apply below_alloc | apply pw_below_drewN | apply below_drew1) | exact HB.out))) : w.heap.size ≤ gb197)); clear HB; have HB := n0_; have BK197 := n1_; have GW197 := n2_; have GE197 := n3_; clear n0_ n1_ n2_ n3_; clear hb hbox hg; have hcz13_0 : w12.cell? ⟨gb197, 0, none⟩ = some (.slice A0_0 l0_0.length c0_0) := (blk_cell BK197.out 0).trans rfl; have hcz13_1 : w12.cell? ⟨gb197, 1, none⟩ = some (.int .i64 a0_1) := (blk_cell BK197.out 1).trans rfl; have hcz13_2 : w12.cell? ⟨gb197, 2, none⟩ = some (.int .u16 a0_2) := (blk_cell BK197.out 2).trans rfl; have hcz13_3 : w12.cell? ⟨gb197, 3, none⟩ = some (.int .u8 a0_3) := (blk_cell BK197.out 3).trans rfl; have hcz13_4 : w12.cell? ⟨gb197, 4, none⟩ = some (.int .u8 a0_4) := (blk_cell BK197.out 4).trans rfl; have hcz13_5 : w12.cell? ⟨gb197, 5, none⟩ = some (.int .u32 a0_5) := (blk_cell BK197.out 5).trans rfl; have hcz13_6 : w12.cell? ⟨gb197, 6, none⟩ = some (.int .i64 a0_6) := (blk_cell BK197.out 6).trans rfl; have hcz13_7 : w12.cell? ⟨gb197, 7, none⟩ = some (.int .i64 a0_7) := (blk_cell BK197.out 7).trans rfl; have hfz13_0 := blk_frozen BK197.out 0; have hfz13_1 := blk_frozen BK197.out 1; have hfz13_2 := blk_frozen BK197.out 2; have hfz13_3 := blk_frozen BK197.out 3; have hfz13_4 := blk_frozen BK197.out 4; have hfz13_5 := blk_frozen BK197.out 5; have hfz13_6 := blk_frozen BK197.out 6; have hfz13_7 := blk_frozen BK197.out 7) | ((with_reducible refine gate_callee (f := 99) rfl ?_); refine goesL_ (some 10) rfl rfl Try.func99 (by kernel_rfl) rfl #[.int .u16 a0_2] rfl (by (try simp only [List.map_toArray, List.map_cons, List.map_nil]); first | done | rfl | (simp only [List.length_drop, List.length_take]; rfl)) ?_; (with_reducible refine (insn_Class.calls k a0_2 t198 _ A3.out).mono ?_); rintro e w' ⟨rfl, ⟨nd, rfl⟩⟩; refine ⟨_, rfl, ?_⟩) | (go_at_call 158; (with_reducible refine (graph_bare.calls k a0_2 a0_3 a0_4 a0_5 true _ A5.out).mono ?_); rintro e w14 ⟨rfl, hb⟩; have n0_ := Aside0.mk (blk_below (g := gb197) (o := .cells #[.slice A0_0 l0_0.length c0_0, .int .i64 a0_1, .int .u16 a0_2, .int .u8 a0_3, .int .u8 a0_4, .int .u32 a0_5, .int .i64 a0_6, .int .i64 a0_7] 47 (0, 0)) (by (with_reducible repeat (first | refine blk_drewN ?_ _ | refine blk_drew ?_ | refine blk_alloc ?_ _)); exact BK197.out) hb); have n1_ := Aside0.mk (below_step (by repeat (first | (with_reducible first | exact HB.out | apply below_alloc | apply pw_below_drewN | apply below_drew1 | refine below_set ?_ GE197.out) | exact HB.out)) hb); clear BK197; clear HB; have BK197 := n0_; have HB := n1_; clear n0_ n1_; (try clear hb); (try clear hb2); (try clear hk); (try clear hi); have hcz15_0 : w14.cell? ⟨gb197, 0, none⟩ = some (.slice A0_0 l0_0.length c0_0) := (blk_cell BK197.out 0).trans rfl; have hcz15_1 : w14.cell? ⟨gb197, 1, none⟩ = some (.int .i64 a0_1) := (blk_cell BK197.out 1).trans rfl; have hcz15_2 : w14.cell? ⟨gb197, 2, none⟩ = some (.int .u16 a0_2) := (blk_cell BK197.out 2).trans rfl; have hcz15_3 : w14.cell? ⟨gb197, 3, none⟩ = some (.int .u8 a0_3) := (blk_cell BK197.out 3).trans rfl; have hcz15_4 : w14.cell? ⟨gb197, 4, none⟩ = some (.int .u8 a0_4) := (blk_cell BK197.out 4).trans rfl; have hcz15_5 : w14.cell? ⟨gb197, 5, none⟩ = some (.int .u32 a0_5) := (blk_cell BK197.out 5).trans rfl; have hcz15_6 : w14.cell? ⟨gb197, 6, none⟩ = some (.int .i64 a0_6) := (blk_cell BK197.out 6).trans rfl; have hcz15_7 : w14.cell? ⟨gb197, 7, none⟩ = some (.int .i64 a0_7) := (blk_cell BK197.out 7).trans rfl; have hfz15_0 := blk_frozen BK197.out 0; have hfz15_1 := blk_frozen BK197.out 1; have hfz15_2 := blk_frozen BK197.out 2; have hfz15_3 := blk_frozen BK197.out 3; have hfz15_4 := blk_frozen BK197.out 4; have hfz15_5 := blk_frozen BK197.out 5; have hfz15_6 := blk_frozen BK197.out 6; have hfz15_7 := blk_frozen BK197.out 7))
          go_ret
          exact ⟨by first | rfl | (simp [errW_none, errW_some] <;> rfl) | (simp [*, errW_none, errW_some] <;> rfl), by repeat (first | (with_reducible first | exact HB.out | apply below_alloc | apply pw_below_drewN | apply below_drew1 | refine below_set ?_ GE197.out) | exact HB.out)⟩
      · replace c6 := Bool.eq_false_iff.mpr c6
        subst c6
        have H1 : (some false) = some r := by rw [if_neg (show ¬ (false = true) by decide)] at H; exact H
        clear H
        have H := H1
        clear H1
        obtain rfl := Option.some.inj H
        go_enter Try.func124, Try.ntmps124
        go_wp2_with (first | ((with_reducible refine gate_dst (N := 1) rfl ?_); refine box_event ?hg (N := 1) ?hd (cs := #[.slice A0_0 l0_0.length c0_0, .int .i64 a0_1, .int .u16 a0_2, .int .u8 a0_3, .int .u8 a0_4, .int .u32 a0_5, .int .i64 a0_6, .int .i64 a0_7]) (t := 47) ?hr ?_; (case hd => rfl); (case hg => rfl); (case hr => first | (go_simp; done) | (go_simp; rfl)); intro gb197 hg w16 hbox hb; have n0_ := Aside0.mk (below_step (by repeat (first | (with_reducible first | exact HB.out | apply below_alloc | apply pw_below_drewN | apply below_drew1) | exact HB.out)) hb); have n1_ := Aside0.mk (hbox); have n2_ := Aside0.mk ((by rw [hg]; exact (below_size (by repeat (first | (with_reducible first | exact HB.out | apply below_alloc | apply pw_below_drewN | apply below_drew1) | exact HB.out))) : w.heap.size ≤ gb197)); have n3_ := Aside0.mk ((by rw [hg]; exact (below_size (by repeat (first | (with_reducible first | exact HB.out | apply below_alloc | apply pw_below_drewN | apply below_drew1) | exact HB.out))) : w.heap.size ≤ gb197)); clear HB; have HB := n0_; have BK197 := n1_; have GW197 := n2_; have GE197 := n3_; clear n0_ n1_ n2_ n3_; clear hb hbox hg; have hcz17_0 : w16.cell? ⟨gb197, 0, none⟩ = some (.slice A0_0 l0_0.length c0_0) := (blk_cell BK197.out 0).trans rfl; have hcz17_1 : w16.cell? ⟨gb197, 1, none⟩ = some (.int .i64 a0_1) := (blk_cell BK197.out 1).trans rfl; have hcz17_2 : w16.cell? ⟨gb197, 2, none⟩ = some (.int .u16 a0_2) := (blk_cell BK197.out 2).trans rfl; have hcz17_3 : w16.cell? ⟨gb197, 3, none⟩ = some (.int .u8 a0_3) := (blk_cell BK197.out 3).trans rfl; have hcz17_4 : w16.cell? ⟨gb197, 4, none⟩ = some (.int .u8 a0_4) := (blk_cell BK197.out 4).trans rfl; have hcz17_5 : w16.cell? ⟨gb197, 5, none⟩ = some (.int .u32 a0_5) := (blk_cell BK197.out 5).trans rfl; have hcz17_6 : w16.cell? ⟨gb197, 6, none⟩ = some (.int .i64 a0_6) := (blk_cell BK197.out 6).trans rfl; have hcz17_7 : w16.cell? ⟨gb197, 7, none⟩ = some (.int .i64 a0_7) := (blk_cell BK197.out 7).trans rfl; have hfz17_0 := blk_frozen BK197.out 0; have hfz17_1 := blk_frozen BK197.out 1; have hfz17_2 := blk_frozen BK197.out 2; have hfz17_3 := blk_frozen BK197.out 3; have hfz17_4 := blk_frozen BK197.out 4; have hfz17_5 := blk_frozen BK197.out 5; have hfz17_6 := blk_frozen BK197.out 6; have hfz17_7 := blk_frozen BK197.out 7) | ((with_reducible refine gate_callee (f := 99) rfl ?_); refine goesL_ (some 10) rfl rfl Try.func99 (by kernel_rfl) rfl #[.int .u16 a0_2] rfl (by (try simp only [List.map_toArray, List.map_cons, List.map_nil]); first | done | rfl | (simp only [List.length_drop, List.length_take]; rfl)) ?_; (with_reducible refine (insn_Class.calls k a0_2 t198 _ A3.out).mono ?_); rintro e w' ⟨rfl, ⟨nd, rfl⟩⟩; refine ⟨_, rfl, ?_⟩) | (go_at_call 158; (with_reducible refine (graph_bare.calls k a0_2 a0_3 a0_4 a0_5 false _ A5.out).mono ?_); rintro e w18 ⟨rfl, hb⟩; have n0_ := Aside0.mk (blk_below (g := gb197) (o := .cells #[.slice A0_0 l0_0.length c0_0, .int .i64 a0_1, .int .u16 a0_2, .int .u8 a0_3, .int .u8 a0_4, .int .u32 a0_5, .int .i64 a0_6, .int .i64 a0_7] 47 (0, 0)) (by (with_reducible repeat (first | refine blk_drewN ?_ _ | refine blk_drew ?_ | refine blk_alloc ?_ _)); exact BK197.out) hb); have n1_ := Aside0.mk (below_step (by repeat (first | (with_reducible first | exact HB.out | apply below_alloc | apply pw_below_drewN | apply below_drew1 | refine below_set ?_ GE197.out) | exact HB.out)) hb); clear BK197; clear HB; have BK197 := n0_; have HB := n1_; clear n0_ n1_; (try clear hb); (try clear hb2); (try clear hk); (try clear hi)))
        go_ret
        exact ⟨by first | rfl | (simp [errW_none, errW_some] <;> rfl) | (simp [*, errW_none, errW_some] <;> rfl), by repeat (first | (with_reducible first | exact HB.out | apply below_alloc | apply pw_below_drewN | apply below_drew1 | refine below_set ?_ GE197.out) | exact HB.out)⟩
    · rw [if_neg c4] at H
      have c4b0 : (t198 == 6) = false := beq_eq_false_iff_ne.mpr c4
      have c4b1 : (t198 != 6) = true := bne_iff_ne.mpr c4
      obtain rfl := Option.some.inj H
      go_enter Try.func124, Try.ntmps124
      go_wp2_with (first | ((with_reducible refine gate_dst (N := 1) rfl ?_); refine box_event ?hg (N := 1) ?hd (cs := #[.slice A0_0 l0_0.length c0_0, .int .i64 a0_1, .int .u16 a0_2, .int .u8 a0_3, .int .u8 a0_4, .int .u32 a0_5, .int .i64 a0_6, .int .i64 a0_7]) (t := 47) ?hr ?_; (case hd => rfl); (case hg => rfl); (case hr => first | (go_simp; done) | (go_simp; rfl)); intro gb197 hg w19 hbox hb; have n0_ := Aside0.mk (below_step (by repeat (first | (with_reducible first | exact HB.out | apply below_alloc | apply pw_below_drewN | apply below_drew1) | exact HB.out)) hb); have n1_ := Aside0.mk (hbox); have n2_ := Aside0.mk ((by rw [hg]; exact (below_size (by repeat (first | (with_reducible first | exact HB.out | apply below_alloc | apply pw_below_drewN | apply below_drew1) | exact HB.out))) : w.heap.size ≤ gb197)); have n3_ := Aside0.mk ((by rw [hg]; exact (below_size (by repeat (first | (with_reducible first | exact HB.out | apply below_alloc | apply pw_below_drewN | apply below_drew1) | exact HB.out))) : w.heap.size ≤ gb197)); clear HB; have HB := n0_; have BK197 := n1_; have GW197 := n2_; have GE197 := n3_; clear n0_ n1_ n2_ n3_; clear hb hbox hg; have hcz20_0 : w19.cell? ⟨gb197, 0, none⟩ = some (.slice A0_0 l0_0.length c0_0) := (blk_cell BK197.out 0).trans rfl; have hcz20_1 : w19.cell? ⟨gb197, 1, none⟩ = some (.int .i64 a0_1) := (blk_cell BK197.out 1).trans rfl; have hcz20_2 : w19.cell? ⟨gb197, 2, none⟩ = some (.int .u16 a0_2) := (blk_cell BK197.out 2).trans rfl; have hcz20_3 : w19.cell? ⟨gb197, 3, none⟩ = some (.int .u8 a0_3) := (blk_cell BK197.out 3).trans rfl; have hcz20_4 : w19.cell? ⟨gb197, 4, none⟩ = some (.int .u8 a0_4) := (blk_cell BK197.out 4).trans rfl; have hcz20_5 : w19.cell? ⟨gb197, 5, none⟩ = some (.int .u32 a0_5) := (blk_cell BK197.out 5).trans rfl; have hcz20_6 : w19.cell? ⟨gb197, 6, none⟩ = some (.int .i64 a0_6) := (blk_cell BK197.out 6).trans rfl; have hcz20_7 : w19.cell? ⟨gb197, 7, none⟩ = some (.int .i64 a0_7) := (blk_cell BK197.out 7).trans rfl; have hfz20_0 := blk_frozen BK197.out 0; have hfz20_1 := blk_frozen BK197.out 1; have hfz20_2 := blk_frozen BK197.out 2; have hfz20_3 := blk_frozen BK197.out 3; have hfz20_4 := blk_frozen BK197.out 4; have hfz20_5 := blk_frozen BK197.out 5; have hfz20_6 := blk_frozen BK197.out 6; have hfz20_7 := blk_frozen BK197.out 7) | ((with_reducible refine gate_callee (f := 99) rfl ?_); refine goesL_ (some 10) rfl rfl Try.func99 (by kernel_rfl) rfl #[.int .u16 a0_2] rfl (by (try simp only [List.map_toArray, List.map_cons, List.map_nil]); first | done | rfl | (simp only [List.length_drop, List.length_take]; rfl)) ?_; (with_reducible refine (insn_Class.calls k a0_2 t198 _ A3.out).mono ?_); rintro e w' ⟨rfl, ⟨nd, rfl⟩⟩; refine ⟨_, rfl, ?_⟩))
      go_ret
      exact ⟨by first | rfl | (simp [errW_none, errW_some] <;> rfl) | (simp [*, errW_none, errW_some] <;> rfl), by repeat (first | (with_reducible first | exact HB.out | apply below_alloc | apply pw_below_drewN | apply below_drew1 | refine below_set ?_ GE197.out) | exact HB.out)⟩
  · rw [if_neg c2] at H
    have c2b0 : (a0_1 == 1) = false := beq_eq_false_iff_ne.mpr c2
    have c2b1 : (a0_1 != 1) = true := bne_iff_ne.mpr c2
    by_cases c21 : a0_1 = 2
    · rw [if_pos c21] at H
      have c21b0 : (a0_1 == 2) = true := beq_iff_eq.mpr c21
      have c21b1 : (a0_1 != 2) = false := bne_eq_false_iff_eq.mpr c21
      clear c21
      by_cases c22 : (a0_2 == 0 && (a0_3 == 0 && (a0_4 == 0 && (a0_5 == 0)))) = true
      · rw [if_pos c22] at H
        have c22b0 : (a0_2 == 0 && (a0_3 == 0 && (a0_4 == 0 && (a0_5 == 0)))) = true := c22
        (try (have c22b1 : decide (a0_2 = 0 && (a0_3 == 0 && (a0_4 == 0 && (a0_5 == 0)))) = true := by simpa using c22))
        (try (have c22b2 : (a0_2 == 0 && (a0_3 == 0 && (a0_4 == 0 && (a0_5 == 0)))) = true := by simpa using c22))
        clear c22
        obtain rfl := Option.some.inj H
        go_enter Try.func124, Try.ntmps124
        go_wp2_with (first | ((with_reducible refine gate_dst (N := 1) rfl ?_); refine box_event ?hg (N := 1) ?hd (cs := #[.slice A0_0 l0_0.length c0_0, .int .i64 a0_1, .int .u16 a0_2, .int .u8 a0_3, .int .u8 a0_4, .int .u32 a0_5, .int .i64 a0_6, .int .i64 a0_7]) (t := 47) ?hr ?_; (case hd => rfl); (case hg => rfl); (case hr => first | (go_simp; done) | (go_simp; rfl)); intro gb197 hg w23 hbox hb; have n0_ := Aside0.mk (below_step (by repeat (first | (with_reducible first | exact HB.out | apply below_alloc | apply pw_below_drewN | apply below_drew1) | exact HB.out)) hb); have n1_ := Aside0.mk (hbox); have n2_ := Aside0.mk ((by rw [hg]; exact (below_size (by repeat (first | (with_reducible first | exact HB.out | apply below_alloc | apply pw_below_drewN | apply below_drew1) | exact HB.out))) : w.heap.size ≤ gb197)); have n3_ := Aside0.mk ((by rw [hg]; exact (below_size (by repeat (first | (with_reducible first | exact HB.out | apply below_alloc | apply pw_below_drewN | apply below_drew1) | exact HB.out))) : w.heap.size ≤ gb197)); clear HB; have HB := n0_; have BK197 := n1_; have GW197 := n2_; have GE197 := n3_; clear n0_ n1_ n2_ n3_; clear hb hbox hg; have hcz24_0 : w23.cell? ⟨gb197, 0, none⟩ = some (.slice A0_0 l0_0.length c0_0) := (blk_cell BK197.out 0).trans rfl; have hcz24_1 : w23.cell? ⟨gb197, 1, none⟩ = some (.int .i64 a0_1) := (blk_cell BK197.out 1).trans rfl; have hcz24_2 : w23.cell? ⟨gb197, 2, none⟩ = some (.int .u16 a0_2) := (blk_cell BK197.out 2).trans rfl; have hcz24_3 : w23.cell? ⟨gb197, 3, none⟩ = some (.int .u8 a0_3) := (blk_cell BK197.out 3).trans rfl; have hcz24_4 : w23.cell? ⟨gb197, 4, none⟩ = some (.int .u8 a0_4) := (blk_cell BK197.out 4).trans rfl; have hcz24_5 : w23.cell? ⟨gb197, 5, none⟩ = some (.int .u32 a0_5) := (blk_cell BK197.out 5).trans rfl; have hcz24_6 : w23.cell? ⟨gb197, 6, none⟩ = some (.int .i64 a0_6) := (blk_cell BK197.out 6).trans rfl; have hcz24_7 : w23.cell? ⟨gb197, 7, none⟩ = some (.int .i64 a0_7) := (blk_cell BK197.out 7).trans rfl; have hfz24_0 := blk_frozen BK197.out 0; have hfz24_1 := blk_frozen BK197.out 1; have hfz24_2 := blk_frozen BK197.out 2; have hfz24_3 := blk_frozen BK197.out 3; have hfz24_4 := blk_frozen BK197.out 4; have hfz24_5 := blk_frozen BK197.out 5; have hfz24_6 := blk_frozen BK197.out 6; have hfz24_7 := blk_frozen BK197.out 7))
        go_ret
        exact ⟨by first | rfl | (simp [errW_none, errW_some] <;> rfl) | (simp [*, errW_none, errW_some] <;> rfl), by repeat (first | (with_reducible first | exact HB.out | apply below_alloc | apply pw_below_drewN | apply below_drew1 | refine below_set ?_ GE197.out) | exact HB.out)⟩
      · rw [if_neg c22] at H
        have c22b0 : (a0_2 == 0 && (a0_3 == 0 && (a0_4 == 0 && (a0_5 == 0)))) = false := by simpa using c22
        (try (have c22b1 : decide (a0_2 = 0 && (a0_3 == 0 && (a0_4 == 0 && (a0_5 == 0)))) = false := by simpa using c22))
        (try (have c22b2 : (a0_2 == 0 && (a0_3 == 0 && (a0_4 == 0 && (a0_5 == 0)))) = false := by simpa using c22))
        (try (have c22b3 : ¬ (a0_2 = 0 && (a0_3 == 0 && (a0_4 == 0 && (a0_5 == 0)))) := by simpa using c22))
        clear c22
        obtain rfl := Option.some.inj H
        go_enter Try.func124, Try.ntmps124
        go_wp2_with (first | ((with_reducible refine gate_dst (N := 1) rfl ?_); refine box_event ?hg (N := 1) ?hd (cs := #[.slice A0_0 l0_0.length c0_0, .int .i64 a0_1, .int .u16 a0_2, .int .u8 a0_3, .int .u8 a0_4, .int .u32 a0_5, .int .i64 a0_6, .int .i64 a0_7]) (t := 47) ?hr ?_; (case hd => rfl); (case hg => rfl); (case hr => first | (go_simp; done) | (go_simp; rfl)); intro gb197 hg w25 hbox hb; have n0_ := Aside0.mk (below_step (by repeat (first | (with_reducible first | exact HB.out | apply below_alloc | apply pw_below_drewN | apply below_drew1) | exact HB.out)) hb); have n1_ := Aside0.mk (hbox); have n2_ := Aside0.mk ((by rw [hg]; exact (below_size (by repeat (first | (with_reducible first | exact HB.out | apply below_alloc | apply pw_below_drewN | apply below_drew1) | exact HB.out))) : w.heap.size ≤ gb197)); have n3_ := Aside0.mk ((by rw [hg]; exact (below_size (by repeat (first | (with_reducible first | exact HB.out | apply below_alloc | apply pw_below_drewN | apply below_drew1) | exact HB.out))) : w.heap.size ≤ gb197)); clear HB; have HB := n0_; have BK197 := n1_; have GW197 := n2_; have GE197 := n3_; clear n0_ n1_ n2_ n3_; clear hb hbox hg; have hcz26_0 : w25.cell? ⟨gb197, 0, none⟩ = some (.slice A0_0 l0_0.length c0_0) := (blk_cell BK197.out 0).trans rfl; have hcz26_1 : w25.cell? ⟨gb197, 1, none⟩ = some (.int .i64 a0_1) := (blk_cell BK197.out 1).trans rfl; have hcz26_2 : w25.cell? ⟨gb197, 2, none⟩ = some (.int .u16 a0_2) := (blk_cell BK197.out 2).trans rfl; have hcz26_3 : w25.cell? ⟨gb197, 3, none⟩ = some (.int .u8 a0_3) := (blk_cell BK197.out 3).trans rfl; have hcz26_4 : w25.cell? ⟨gb197, 4, none⟩ = some (.int .u8 a0_4) := (blk_cell BK197.out 4).trans rfl; have hcz26_5 : w25.cell? ⟨gb197, 5, none⟩ = some (.int .u32 a0_5) := (blk_cell BK197.out 5).trans rfl; have hcz26_6 : w25.cell? ⟨gb197, 6, none⟩ = some (.int .i64 a0_6) := (blk_cell BK197.out 6).trans rfl; have hcz26_7 : w25.cell? ⟨gb197, 7, none⟩ = some (.int .i64 a0_7) := (blk_cell BK197.out 7).trans rfl; have hfz26_0 := blk_frozen BK197.out 0; have hfz26_1 := blk_frozen BK197.out 1; have hfz26_2 := blk_frozen BK197.out 2; have hfz26_3 := blk_frozen BK197.out 3; have hfz26_4 := blk_frozen BK197.out 4; have hfz26_5 := blk_frozen BK197.out 5; have hfz26_6 := blk_frozen BK197.out 6; have hfz26_7 := blk_frozen BK197.out 7))
        go_ret
        exact ⟨by first | rfl | (simp [errW_none, errW_some] <;> rfl) | (simp [*, errW_none, errW_some] <;> rfl), by repeat (first | (with_reducible first | exact HB.out | apply below_alloc | apply pw_below_drewN | apply below_drew1 | refine below_set ?_ GE197.out) | exact HB.out)⟩
    · rw [if_neg c21] at H
      have c21b0 : (a0_1 == 2) = false := beq_eq_false_iff_ne.mpr c21
      have c21b1 : (a0_1 != 2) = true := bne_iff_ne.mpr c21
      by_cases c27 : a0_1 = 3
      · rw [if_pos c27] at H
        have c27b0 : (a0_1 == 3) = true := beq_iff_eq.mpr c27
        have c27b1 : (a0_1 != 3) = false := bne_eq_false_iff_eq.mpr c27
        clear c27
        replace H := Option.bind_eq_some_iff.mp H
        obtain ⟨t200, A280, H⟩ := H
        replace H : (if t200 = 5 then (if a0_2 = 5 then (some false) else ((graph_bare.f k a0_2 a0_3 a0_4 a0_5).bind fun t201 => (some t201))) else (some false)) = some r := H
        have A28 := Aside0.mk A280
        clear A280
        by_cases c29 : t200 = 5
        · rw [if_pos c29] at H
          have c29b0 : (t200 == 5) = true := beq_iff_eq.mpr c29
          have c29b1 : (t200 != 5) = false := bne_eq_false_iff_eq.mpr c29
          clear c29
          by_cases c30 : a0_2 = 5
          · rw [if_pos c30] at H
            have c30b0 : (a0_2 == 5) = true := beq_iff_eq.mpr c30
            have c30b1 : (a0_2 != 5) = false := bne_eq_false_iff_eq.mpr c30
            clear c30
            obtain rfl := Option.some.inj H
            go_enter Try.func124, Try.ntmps124
            go_wp2_with (first | ((with_reducible refine gate_dst (N := 1) rfl ?_); refine box_event ?hg (N := 1) ?hd (cs := #[.slice A0_0 l0_0.length c0_0, .int .i64 a0_1, .int .u16 a0_2, .int .u8 a0_3, .int .u8 a0_4, .int .u32 a0_5, .int .i64 a0_6, .int .i64 a0_7]) (t := 47) ?hr ?_; (case hd => rfl); (case hg => rfl); (case hr => first | (go_simp; done) | (go_simp; rfl)); intro gb197 hg w31 hbox hb; have n0_ := Aside0.mk (below_step (by repeat (first | (with_reducible first | exact HB.out | apply below_alloc | apply pw_below_drewN | apply below_drew1) | exact HB.out)) hb); have n1_ := Aside0.mk (hbox); have n2_ := Aside0.mk ((by rw [hg]; exact (below_size (by repeat (first | (with_reducible first | exact HB.out | apply below_alloc | apply pw_below_drewN | apply below_drew1) | exact HB.out))) : w.heap.size ≤ gb197)); have n3_ := Aside0.mk ((by rw [hg]; exact (below_size (by repeat (first | (with_reducible first | exact HB.out | apply below_alloc | apply pw_below_drewN | apply below_drew1) | exact HB.out))) : w.heap.size ≤ gb197)); clear HB; have HB := n0_; have BK197 := n1_; have GW197 := n2_; have GE197 := n3_; clear n0_ n1_ n2_ n3_; clear hb hbox hg; have hcz32_0 : w31.cell? ⟨gb197, 0, none⟩ = some (.slice A0_0 l0_0.length c0_0) := (blk_cell BK197.out 0).trans rfl; have hcz32_1 : w31.cell? ⟨gb197, 1, none⟩ = some (.int .i64 a0_1) := (blk_cell BK197.out 1).trans rfl; have hcz32_2 : w31.cell? ⟨gb197, 2, none⟩ = some (.int .u16 a0_2) := (blk_cell BK197.out 2).trans rfl; have hcz32_3 : w31.cell? ⟨gb197, 3, none⟩ = some (.int .u8 a0_3) := (blk_cell BK197.out 3).trans rfl; have hcz32_4 : w31.cell? ⟨gb197, 4, none⟩ = some (.int .u8 a0_4) := (blk_cell BK197.out 4).trans rfl; have hcz32_5 : w31.cell? ⟨gb197, 5, none⟩ = some (.int .u32 a0_5) := (blk_cell BK197.out 5).trans rfl; have hcz32_6 : w31.cell? ⟨gb197, 6, none⟩ = some (.int .i64 a0_6) := (blk_cell BK197.out 6).trans rfl; have hcz32_7 : w31.cell? ⟨gb197, 7, none⟩ = some (.int .i64 a0_7) := (blk_cell BK197.out 7).trans rfl; have hfz32_0 := blk_frozen BK197.out 0; have hfz32_1 := blk_frozen BK197.out 1; have hfz32_2 := blk_frozen BK197.out 2; have hfz32_3 := blk_frozen BK197.out 3; have hfz32_4 := blk_frozen BK197.out 4; have hfz32_5 := blk_frozen BK197.out 5; have hfz32_6 := blk_frozen BK197.out 6; have hfz32_7 := blk_frozen BK197.out 7) | ((with_reducible refine gate_callee (f := 99) rfl ?_); refine goesL_ (some 43) rfl rfl Try.func99 (by kernel_rfl) rfl #[.int .u16 a0_2] rfl (by (try simp only [List.map_toArray, List.map_cons, List.map_nil]); first | done | rfl | (simp only [List.length_drop, List.length_take]; rfl)) ?_; (with_reducible refine (insn_Class.calls k a0_2 t200 _ A28.out).mono ?_); rintro e w' ⟨rfl, ⟨nd, rfl⟩⟩; refine ⟨_, rfl, ?_⟩))
            go_ret
            exact ⟨by first | rfl | (simp [errW_none, errW_some] <;> rfl) | (simp [*, errW_none, errW_some] <;> rfl), by repeat (first | (with_reducible first | exact HB.out | apply below_alloc | apply pw_below_drewN | apply below_drew1 | refine below_set ?_ GE197.out) | exact HB.out)⟩
          · rw [if_neg c30] at H
            have c30b0 : (a0_2 == 5) = false := beq_eq_false_iff_ne.mpr c30
            have c30b1 : (a0_2 != 5) = true := bne_iff_ne.mpr c30
            replace H := Option.bind_eq_some_iff.mp H
            obtain ⟨t201, A330, H⟩ := H
            replace H : (some t201) = some r := H
            have A33 := Aside0.mk A330
            clear A330
            obtain rfl := Option.some.inj H
            go_enter Try.func124, Try.ntmps124
            go_wp2_with (first | ((with_reducible refine gate_dst (N := 1) rfl ?_); refine box_event ?hg (N := 1) ?hd (cs := #[.slice A0_0 l0_0.length c0_0, .int .i64 a0_1, .int .u16 a0_2, .int .u8 a0_3, .int .u8 a0_4, .int .u32 a0_5, .int .i64 a0_6, .int .i64 a0_7]) (t := 47) ?hr ?_; (case hd => rfl); (case hg => rfl); (case hr => first | (go_simp; done) | (go_simp; rfl)); intro gb197 hg w34 hbox hb; have n0_ := Aside0.mk (below_step (by repeat (first | (with_reducible first | exact HB.out | apply below_alloc | apply pw_below_drewN | apply below_drew1) | exact HB.out)) hb); have n1_ := Aside0.mk (hbox); have n2_ := Aside0.mk ((by rw [hg]; exact (below_size (by repeat (first | (with_reducible first | exact HB.out | apply below_alloc | apply pw_below_drewN | apply below_drew1) | exact HB.out))) : w.heap.size ≤ gb197)); have n3_ := Aside0.mk ((by rw [hg]; exact (below_size (by repeat (first | (with_reducible first | exact HB.out | apply below_alloc | apply pw_below_drewN | apply below_drew1) | exact HB.out))) : w.heap.size ≤ gb197)); clear HB; have HB := n0_; have BK197 := n1_; have GW197 := n2_; have GE197 := n3_; clear n0_ n1_ n2_ n3_; clear hb hbox hg; have hcz35_0 : w34.cell? ⟨gb197, 0, none⟩ = some (.slice A0_0 l0_0.length c0_0) := (blk_cell BK197.out 0).trans rfl; have hcz35_1 : w34.cell? ⟨gb197, 1, none⟩ = some (.int .i64 a0_1) := (blk_cell BK197.out 1).trans rfl; have hcz35_2 : w34.cell? ⟨gb197, 2, none⟩ = some (.int .u16 a0_2) := (blk_cell BK197.out 2).trans rfl; have hcz35_3 : w34.cell? ⟨gb197, 3, none⟩ = some (.int .u8 a0_3) := (blk_cell BK197.out 3).trans rfl; have hcz35_4 : w34.cell? ⟨gb197, 4, none⟩ = some (.int .u8 a0_4) := (blk_cell BK197.out 4).trans rfl; have hcz35_5 : w34.cell? ⟨gb197, 5, none⟩ = some (.int .u32 a0_5) := (blk_cell BK197.out 5).trans rfl; have hcz35_6 : w34.cell? ⟨gb197, 6, none⟩ = some (.int .i64 a0_6) := (blk_cell BK197.out 6).trans rfl; have hcz35_7 : w34.cell? ⟨gb197, 7, none⟩ = some (.int .i64 a0_7) := (blk_cell BK197.out 7).trans rfl; have hfz35_0 := blk_frozen BK197.out 0; have hfz35_1 := blk_frozen BK197.out 1; have hfz35_2 := blk_frozen BK197.out 2; have hfz35_3 := blk_frozen BK197.out 3; have hfz35_4 := blk_frozen BK197.out 4; have hfz35_5 := blk_frozen BK197.out 5; have hfz35_6 := blk_frozen BK197.out 6; have hfz35_7 := blk_frozen BK197.out 7) | ((with_reducible refine gate_callee (f := 99) rfl ?_); refine goesL_ (some 43) rfl rfl Try.func99 (by kernel_rfl) rfl #[.int .u16 a0_2] rfl (by (try simp only [List.map_toArray, List.map_cons, List.map_nil]); first | done | rfl | (simp only [List.length_drop, List.length_take]; rfl)) ?_; (with_reducible refine (insn_Class.calls k a0_2 t200 _ A28.out).mono ?_); rintro e w' ⟨rfl, ⟨nd, rfl⟩⟩; refine ⟨_, rfl, ?_⟩) | (go_at_call 158; (with_reducible refine (graph_bare.calls k a0_2 a0_3 a0_4 a0_5 t201 _ A33.out).mono ?_); rintro e w36 ⟨rfl, hb⟩; have n0_ := Aside0.mk (blk_below (g := gb197) (o := .cells #[.slice A0_0 l0_0.length c0_0, .int .i64 a0_1, .int .u16 a0_2, .int .u8 a0_3, .int .u8 a0_4, .int .u32 a0_5, .int .i64 a0_6, .int .i64 a0_7] 47 (0, 0)) (by (with_reducible repeat (first | refine blk_drewN ?_ _ | refine blk_drew ?_ | refine blk_alloc ?_ _)); exact BK197.out) hb); have n1_ := Aside0.mk (below_step (by repeat (first | (with_reducible first | exact HB.out | apply below_alloc | apply pw_below_drewN | apply below_drew1 | refine below_set ?_ GE197.out) | exact HB.out)) hb); clear BK197; clear HB; have BK197 := n0_; have HB := n1_; clear n0_ n1_; (try clear hb); (try clear hb2); (try clear hk); (try clear hi)))
            go_ret
            exact ⟨by first | rfl | (simp [errW_none, errW_some] <;> rfl) | (simp [*, errW_none, errW_some] <;> rfl), by repeat (first | (with_reducible first | exact HB.out | apply below_alloc | apply pw_below_drewN | apply below_drew1 | refine below_set ?_ GE197.out) | exact HB.out)⟩
        · rw [if_neg c29] at H
          have c29b0 : (t200 == 5) = false := beq_eq_false_iff_ne.mpr c29
          have c29b1 : (t200 != 5) = true := bne_iff_ne.mpr c29
          obtain rfl := Option.some.inj H
          go_enter Try.func124, Try.ntmps124
          go_wp2_with (first | ((with_reducible refine gate_dst (N := 1) rfl ?_); refine box_event ?hg (N := 1) ?hd (cs := #[.slice A0_0 l0_0.length c0_0, .int .i64 a0_1, .int .u16 a0_2, .int .u8 a0_3, .int .u8 a0_4, .int .u32 a0_5, .int .i64 a0_6, .int .i64 a0_7]) (t := 47) ?hr ?_; (case hd => rfl); (case hg => rfl); (case hr => first | (go_simp; done) | (go_simp; rfl)); intro gb197 hg w37 hbox hb; have n0_ := Aside0.mk (below_step (by repeat (first | (with_reducible first | exact HB.out | apply below_alloc | apply pw_below_drewN | apply below_drew1) | exact HB.out)) hb); have n1_ := Aside0.mk (hbox); have n2_ := Aside0.mk ((by rw [hg]; exact (below_size (by repeat (first | (with_reducible first | exact HB.out | apply below_alloc | apply pw_below_drewN | apply below_drew1) | exact HB.out))) : w.heap.size ≤ gb197)); have n3_ := Aside0.mk ((by rw [hg]; exact (below_size (by repeat (first | (with_reducible first | exact HB.out | apply below_alloc | apply pw_below_drewN | apply below_drew1) | exact HB.out))) : w.heap.size ≤ gb197)); clear HB; have HB := n0_; have BK197 := n1_; have GW197 := n2_; have GE197 := n3_; clear n0_ n1_ n2_ n3_; clear hb hbox hg; have hcz38_0 : w37.cell? ⟨gb197, 0, none⟩ = some (.slice A0_0 l0_0.length c0_0) := (blk_cell BK197.out 0).trans rfl; have hcz38_1 : w37.cell? ⟨gb197, 1, none⟩ = some (.int .i64 a0_1) := (blk_cell BK197.out 1).trans rfl; have hcz38_2 : w37.cell? ⟨gb197, 2, none⟩ = some (.int .u16 a0_2) := (blk_cell BK197.out 2).trans rfl; have hcz38_3 : w37.cell? ⟨gb197, 3, none⟩ = some (.int .u8 a0_3) := (blk_cell BK197.out 3).trans rfl; have hcz38_4 : w37.cell? ⟨gb197, 4, none⟩ = some (.int .u8 a0_4) := (blk_cell BK197.out 4).trans rfl; have hcz38_5 : w37.cell? ⟨gb197, 5, none⟩ = some (.int .u32 a0_5) := (blk_cell BK197.out 5).trans rfl; have hcz38_6 : w37.cell? ⟨gb197, 6, none⟩ = some (.int .i64 a0_6) := (blk_cell BK197.out 6).trans rfl; have hcz38_7 : w37.cell? ⟨gb197, 7, none⟩ = some (.int .i64 a0_7) := (blk_cell BK197.out 7).trans rfl; have hfz38_0 := blk_frozen BK197.out 0; have hfz38_1 := blk_frozen BK197.out 1; have hfz38_2 := blk_frozen BK197.out 2; have hfz38_3 := blk_frozen BK197.out 3; have hfz38_4 := blk_frozen BK197.out 4; have hfz38_5 := blk_frozen BK197.out 5; have hfz38_6 := blk_frozen BK197.out 6; have hfz38_7 := blk_frozen BK197.out 7) | ((with_reducible refine gate_callee (f := 99) rfl ?_); refine goesL_ (some 43) rfl rfl Try.func99 (by kernel_rfl) rfl #[.int .u16 a0_2] rfl (by (try simp only [List.map_toArray, List.map_cons, List.map_nil]); first | done | rfl | (simp only [List.length_drop, List.length_take]; rfl)) ?_; (with_reducible refine (insn_Class.calls k a0_2 t200 _ A28.out).mono ?_); rintro e w' ⟨rfl, ⟨nd, rfl⟩⟩; refine ⟨_, rfl, ?_⟩))
          go_ret
          exact ⟨by first | rfl | (simp [errW_none, errW_some] <;> rfl) | (simp [*, errW_none, errW_some] <;> rfl), by repeat (first | (with_reducible first | exact HB.out | apply below_alloc | apply pw_below_drewN | apply below_drew1 | refine below_set ?_ GE197.out) | exact HB.out)⟩
      · rw [if_neg c27] at H
        have c27b0 : (a0_1 == 3) = false := beq_eq_false_iff_ne.mpr c27
        have c27b1 : (a0_1 != 3) = true := bne_iff_ne.mpr c27
        obtain rfl := Option.some.inj H
        go_enter Try.func124, Try.ntmps124
        go_wp2_with (first | ((with_reducible refine gate_dst (N := 1) rfl ?_); refine box_event ?hg (N := 1) ?hd (cs := #[.slice A0_0 l0_0.length c0_0, .int .i64 a0_1, .int .u16 a0_2, .int .u8 a0_3, .int .u8 a0_4, .int .u32 a0_5, .int .i64 a0_6, .int .i64 a0_7]) (t := 47) ?hr ?_; (case hd => rfl); (case hg => rfl); (case hr => first | (go_simp; done) | (go_simp; rfl)); intro gb197 hg w39 hbox hb; have n0_ := Aside0.mk (below_step (by repeat (first | (with_reducible first | exact HB.out | apply below_alloc | apply pw_below_drewN | apply below_drew1) | exact HB.out)) hb); have n1_ := Aside0.mk (hbox); have n2_ := Aside0.mk ((by rw [hg]; exact (below_size (by repeat (first | (with_reducible first | exact HB.out | apply below_alloc | apply pw_below_drewN | apply below_drew1) | exact HB.out))) : w.heap.size ≤ gb197)); have n3_ := Aside0.mk ((by rw [hg]; exact (below_size (by repeat (first | (with_reducible first | exact HB.out | apply below_alloc | apply pw_below_drewN | apply below_drew1) | exact HB.out))) : w.heap.size ≤ gb197)); clear HB; have HB := n0_; have BK197 := n1_; have GW197 := n2_; have GE197 := n3_; clear n0_ n1_ n2_ n3_; clear hb hbox hg; have hcz40_0 : w39.cell? ⟨gb197, 0, none⟩ = some (.slice A0_0 l0_0.length c0_0) := (blk_cell BK197.out 0).trans rfl; have hcz40_1 : w39.cell? ⟨gb197, 1, none⟩ = some (.int .i64 a0_1) := (blk_cell BK197.out 1).trans rfl; have hcz40_2 : w39.cell? ⟨gb197, 2, none⟩ = some (.int .u16 a0_2) := (blk_cell BK197.out 2).trans rfl; have hcz40_3 : w39.cell? ⟨gb197, 3, none⟩ = some (.int .u8 a0_3) := (blk_cell BK197.out 3).trans rfl; have hcz40_4 : w39.cell? ⟨gb197, 4, none⟩ = some (.int .u8 a0_4) := (blk_cell BK197.out 4).trans rfl; have hcz40_5 : w39.cell? ⟨gb197, 5, none⟩ = some (.int .u32 a0_5) := (blk_cell BK197.out 5).trans rfl; have hcz40_6 : w39.cell? ⟨gb197, 6, none⟩ = some (.int .i64 a0_6) := (blk_cell BK197.out 6).trans rfl; have hcz40_7 : w39.cell? ⟨gb197, 7, none⟩ = some (.int .i64 a0_7) := (blk_cell BK197.out 7).trans rfl; have hfz40_0 := blk_frozen BK197.out 0; have hfz40_1 := blk_frozen BK197.out 1; have hfz40_2 := blk_frozen BK197.out 2; have hfz40_3 := blk_frozen BK197.out 3; have hfz40_4 := blk_frozen BK197.out 4; have hfz40_5 := blk_frozen BK197.out 5; have hfz40_6 := blk_frozen BK197.out 6; have hfz40_7 := blk_frozen BK197.out 7))
        go_ret
        exact ⟨by first | rfl | (simp [errW_none, errW_some] <;> rfl) | (simp [*, errW_none, errW_some] <;> rfl), by repeat (first | (with_reducible first | exact HB.out | apply below_alloc | apply pw_below_drewN | apply below_drew1 | refine below_set ?_ GE197.out) | exact HB.out)⟩
mutual
def graph_one.l0 : Nat → Int → Int → List (S45) → Int → Int → List (S45) → Int → Int → Int → Int → Int → Int → Int → Option (Int)
  | 0, _, _, _, _, _, _, _, _, _, _, _, _, _ => none
  | k + 1, x1, x3, x16, x17, x18, x203000, x203001, x203002, x203003, x203004, x203005, x203006, x203007 => if x18 < x17 then (if 0 ≤ x18 then (if x18 < (x16.length : Int) then ((graph_straight.f k ((rd_T45 x16 x18).f0) ((rd_T45 x16 x18).f1) ((rd_T45 x16 x18).f2) ((rd_T45 x16 x18).f3)).bind fun t205 => (if t205 = true then (graph_one.l0 k x1 x3 x16 x17 (wrap64 (x18 + 1)) x203000 x203001 x203002 x203003 x203004 x203005 x203006 x203007) else (some 152))) else (none)) else (none)) else ((graph_ended.f k x203000 x203001 x203002 x203003 x203004 x203005 x203006 x203007).bind fun t206 => (if t206 = true then ((graph_goals.f x203000 x203001 x203002 x203003 x203004 x203005 x203006 x203007).bind fun t207 => (graph_one.l1 k x1 x3 t207 (t207.length : Int) 0)) else (some 153)))
def graph_one.l1 : Nat → Int → Int → List Int → Int → Int → Option (Int)
  | 0, _, _, _, _, _ => none
  | k + 1, x1, x3, x30, x31, x32 => if x32 < x31 then (if 0 ≤ x32 then (if x32 < (x30.length : Int) then (if (rd x30 x32) ≤ x1 then (some 154) else (if (rd x30 x32) ≥ x3 then (some 154) else (graph_one.l1 k x1 x3 x30 x31 (wrap64 (x32 + 1))))) else (none)) else (none)) else (some 0)
end
def graph_one.f (k : Nat) (l0_0 : List (S45)) (a0_1 : Int) (a0_2 : Int) (a0_3 : Int) (a0_4 : Int) (a0_5 : Int) (a0_6 : Int) (a0_7 : Int) (a1 : Int) (a2 : Int) (a3 : Int) : Option (Int) := if a2 > 4096 then (some 151) else (graph_one.l0 k a1 a3 l0_0 (l0_0.length : Int) 0 l0_0 a0_1 a0_2 a0_3 a0_4 a0_5 a0_6 a0_7)
set_option maxHeartbeats 8000000 in
set_option maxRecDepth 100000 in
theorem graph_one.calls (k : Nat) (A0_0 : Option Addr) (c0_0 : Nat) (l0_0 : List (S45)) (a0_1 : Int) (a0_2 : Int) (a0_3 : Int) (a0_4 : Int) (a0_5 : Int) (a0_6 : Int) (a0_7 : Int) (a1 : Int) (a2 : Int) (a3 : Int) (r : Int) (w : World) (hr0_0 : Kd.C k45 w A0_0 l0_0.length l0_0) (hc0_0 : l0_0.length ≤ c0_0) (h : graph_one.f k l0_0 a0_1 a0_2 a0_3 a0_4 a0_5 a0_6 a0_7 a1 a2 a3 = some r) :
    Calls Try.prog 82 #[.agg #[.slice A0_0 l0_0.length c0_0, .int .i64 a0_1, .int .u16 a0_2, .int .u8 a0_3, .int .u8 a0_4, .int .u32 a0_5, .int .i64 a0_6, .int .i64 a0_7], .int .i64 a1, .int .i64 a2, .int .i64 a3] w fun e w' => e = .returned (.int .i64 r) ∧ Below w.heap.size w w' := by
  have hu47 := Try.underlying47
  have hu45 := Try.underlying45
  have HR0_0 := Aside0.mk hr0_0
  have HC0_0 := Aside0.mk hc0_0
  clear hr0_0 hc0_0
  have HB := Aside0.mk (Below.refl w.heap.size w)
  have H : (if a2 > 4096 then (some 151) else (graph_one.l0 k a1 a3 l0_0 (l0_0.length : Int) 0 l0_0 a0_1 a0_2 a0_3 a0_4 a0_5 a0_6 a0_7)) = some r := h
  clear h
  by_cases c5 : a2 > 4096
  · rw [if_pos c5] at H
    have c5b0 : decide (4096 < a2) = true := decide_eq_true c5
    clear c5
    obtain rfl := Option.some.inj H
    go_enter Try.func82, Try.ntmps82
    go_wp2_with (first | ((with_reducible refine gate_dst (N := 4) rfl ?_); refine box_event ?hg (N := 4) ?hd (cs := #[.slice A0_0 l0_0.length c0_0, .int .i64 a0_1, .int .u16 a0_2, .int .u8 a0_3, .int .u8 a0_4, .int .u32 a0_5, .int .i64 a0_6, .int .i64 a0_7]) (t := 47) ?hr ?_; (case hd => rfl); (case hg => rfl); (case hr => first | (go_simp; done) | (go_simp; rfl)); intro gb202 hg w6 hbox hb; have n0_ := Aside0.mk (below_step (by repeat (first | (with_reducible first | exact HB.out | apply below_alloc | apply pw_below_drewN | apply below_drew1) | exact HB.out)) hb); have n1_ := Aside0.mk (hbox); have n2_ := Aside0.mk ((by rw [hg]; exact (below_size (by repeat (first | (with_reducible first | exact HB.out | apply below_alloc | apply pw_below_drewN | apply below_drew1) | exact HB.out))) : w.heap.size ≤ gb202)); have n3_ := Aside0.mk ((by rw [hg]; exact (below_size (by repeat (first | (with_reducible first | exact HB.out | apply below_alloc | apply pw_below_drewN | apply below_drew1) | exact HB.out))) : w.heap.size ≤ gb202)); clear HB; have HB := n0_; have BK202 := n1_; have GW202 := n2_; have GE202 := n3_; clear n0_ n1_ n2_ n3_; clear hb hbox hg))
    go_ret
    exact ⟨by first | rfl | (simp [errW_none, errW_some] <;> rfl) | (simp [*, errW_none, errW_some] <;> rfl), by repeat (first | (with_reducible first | exact HB.out | apply below_alloc | apply pw_below_drewN | apply below_drew1 | refine below_set ?_ GE202.out) | exact HB.out)⟩
  · rw [if_neg c5] at H
    have c5b0 : decide (4096 < a2) = false := decide_eq_false c5
    clear c5
    have H' := Aside0.mk H
    clear H
    go_enter Try.func82, Try.ntmps82
    go_wp2_with (first | ((with_reducible refine gate_dst (N := 4) rfl ?_); refine box_event ?hg (N := 4) ?hd (cs := #[.slice A0_0 l0_0.length c0_0, .int .i64 a0_1, .int .u16 a0_2, .int .u8 a0_3, .int .u8 a0_4, .int .u32 a0_5, .int .i64 a0_6, .int .i64 a0_7]) (t := 47) ?hr ?_; (case hd => rfl); (case hg => rfl); (case hr => first | (go_simp; done) | (go_simp; rfl)); intro gb202 hg w7 hbox hb; have n0_ := Aside0.mk (below_step (by repeat (first | (with_reducible first | exact HB.out | apply below_alloc | apply pw_below_drewN | apply below_drew1) | exact HB.out)) hb); have n1_ := Aside0.mk (hbox); have n2_ := Aside0.mk ((by rw [hg]; exact (below_size (by repeat (first | (with_reducible first | exact HB.out | apply below_alloc | apply pw_below_drewN | apply below_drew1) | exact HB.out))) : w.heap.size ≤ gb202)); have n3_ := Aside0.mk ((by rw [hg]; exact (below_size (by repeat (first | (with_reducible first | exact HB.out | apply below_alloc | apply pw_below_drewN | apply below_drew1) | exact HB.out))) : w.heap.size ≤ gb202)); clear HB; have HB := n0_; have BK202 := n1_; have GW202 := n2_; have GE202 := n3_; clear n0_ n1_ n2_ n3_; clear hb hbox hg; have hcz8_0 : w7.cell? ⟨gb202, 0, none⟩ = some (.slice A0_0 l0_0.length c0_0) := (blk_cell BK202.out 0).trans rfl; have hcz8_1 : w7.cell? ⟨gb202, 1, none⟩ = some (.int .i64 a0_1) := (blk_cell BK202.out 1).trans rfl; have hcz8_2 : w7.cell? ⟨gb202, 2, none⟩ = some (.int .u16 a0_2) := (blk_cell BK202.out 2).trans rfl; have hcz8_3 : w7.cell? ⟨gb202, 3, none⟩ = some (.int .u8 a0_3) := (blk_cell BK202.out 3).trans rfl; have hcz8_4 : w7.cell? ⟨gb202, 4, none⟩ = some (.int .u8 a0_4) := (blk_cell BK202.out 4).trans rfl; have hcz8_5 : w7.cell? ⟨gb202, 5, none⟩ = some (.int .u32 a0_5) := (blk_cell BK202.out 5).trans rfl; have hcz8_6 : w7.cell? ⟨gb202, 6, none⟩ = some (.int .i64 a0_6) := (blk_cell BK202.out 6).trans rfl; have hcz8_7 : w7.cell? ⟨gb202, 7, none⟩ = some (.int .i64 a0_7) := (blk_cell BK202.out 7).trans rfl; have hfz8_0 := blk_frozen BK202.out 0; have hfz8_1 := blk_frozen BK202.out 1; have hfz8_2 := blk_frozen BK202.out 2; have hfz8_3 := blk_frozen BK202.out 3; have hfz8_4 := blk_frozen BK202.out 4; have hfz8_5 := blk_frozen BK202.out 5; have hfz8_6 := blk_frozen BK202.out 6; have hfz8_7 := blk_frozen BK202.out 7))
    go_loopg [18] k (fun kq v18 w' => ∃ (x18_1 : Int), v18 = .int .i64 x18_1 ∧ Aside0 (graph_one.l0 kq a1 a3 l0_0 (l0_0.length : Int) x18_1 l0_0 a0_1 a0_2 a0_3 a0_4 a0_5 a0_6 a0_7 = some r) ∧ Aside0 (kq ≤ k) ∧ Aside0 (w'.heap[gb202]? = some (.cells #[(.slice A0_0 l0_0.length c0_0), .int .i64 a0_1, .int .u16 a0_2, .int .u8 a0_3, .int .u8 a0_4, .int .u32 a0_5, .int .i64 a0_6, .int .i64 a0_7] 47 (0, 0))) ∧ Aside0 (Below w.heap.size w w'))
    case atStart => exact ⟨(0), (by first | rfl | (simp; done) | (simp [*]; done)), H', ⟨Nat.le_refl _⟩, ⟨by (with_reducible repeat (first | refine blk_drewN ?_ _ | refine blk_drew ?_ | refine blk_alloc ?_ _)); exact BK202.out⟩, ⟨by repeat (first | (with_reducible first | exact HB.out | apply below_alloc | apply pw_below_drewN | apply below_drew1 | refine below_set ?_ GE202.out) | exact HB.out)⟩⟩
    case round =>
      clear H'
      try clear p2
      try clear c5
      try clear c5b0
      try clear c8
      try clear hcz8_0
      try clear hcz8_1
      try clear hcz8_2
      try clear hcz8_3
      try clear hcz8_4
      try clear hcz8_5
      try clear hcz8_6
      try clear hcz8_7
      try clear hfz8_0
      try clear hfz8_1
      try clear hfz8_2
      try clear hfz8_3
      try clear hfz8_4
      try clear hfz8_5
      try clear hfz8_6
      try clear hfz8_7
      obtain ⟨x18_1, rfl, HA, HK1, BK202, HB⟩ := hrel
      cases gk with
      | zero => exact absurd HA.out (by simp [graph_one.l0])
      | succ k1 =>
        have H := HA.out
        clear HA
        simp only [graph_one.l0] at H
        by_cases c9 : x18_1 < (l0_0.length : Int)
        · rw [if_pos c9] at H
          have c9b0 : decide (x18_1 < (l0_0.length : Int)) = true := decide_eq_true c9
          clear c9
          by_cases c10 : 0 ≤ x18_1
          · rw [if_pos c10] at H
            have c10b0 : decide (0 ≤ x18_1) = true := decide_eq_true c10
            clear c10
            by_cases c11 : x18_1 < (l0_0.length : Int)
            · rw [if_pos c11] at H
              have c11b0 : decide (x18_1 < (l0_0.length : Int)) = true := decide_eq_true c11
              clear c11
              replace H := Option.bind_eq_some_iff.mp H
              obtain ⟨t205, A120, H⟩ := H
              replace H : (if t205 = true then (graph_one.l0 k1 a1 a3 l0_0 (l0_0.length : Int) (wrap64 (x18_1 + 1)) l0_0 a0_1 a0_2 a0_3 a0_4 a0_5 a0_6 a0_7) else (some 152)) = some r := H
              have A12 := Aside0.mk A120
              clear A120
              by_cases c13 : t205 = true
              · subst c13
                have H1 : (graph_one.l0 k1 a1 a3 l0_0 (l0_0.length : Int) (wrap64 (x18_1 + 1)) l0_0 a0_1 a0_2 a0_3 a0_4 a0_5 a0_6 a0_7) = some r := by rw [if_pos rfl] at H; exact H
                clear H
                have H := H1
                clear H1
                have H' := Aside0.mk H
                clear H
                have p203 : 0 ≤ (x18_1 : Int) := of_decide_eq_true (by first | (with_reducible assumption) | assumption)
                have q203 : x18_1 < (l0_0.length : Int) := of_decide_eq_true (by first | (with_reducible assumption) | assumption)
                obtain ⟨ad203, e203, hx203_0, hx203_1, hx203_2, hx203_3⟩ := at_T45 HR0_0.out x18_1 p203 q203
                cases e203
                replace hx203_0 := (HB.out.cell (World.block_lt_of_cell? w _ hx203_0)).trans hx203_0
                replace hx203_1 := (HB.out.cell (World.block_lt_of_cell? w _ hx203_1)).trans hx203_1
                replace hx203_2 := (HB.out.cell (World.block_lt_of_cell? w _ hx203_2)).trans hx203_2
                replace hx203_3 := (HB.out.cell (World.block_lt_of_cell? w _ hx203_3)).trans hx203_3
                replace p203 := eq_true p203
                replace q203 := eq_true q203
                go_wp2_with (first | ((with_reducible refine gate_dst (N := 10) rfl ?_); refine box_event ?hg (N := 10) ?hd (cs := #[.int .u16 0, .int .u8 0, .int .u8 0, .int .u32 0]) (t := 45) ?hr ?_; (case hd => rfl); (case hg => rfl); (case hr => first | (go_simp; done) | (go_simp; rfl)); intro gb204 hg w14 hbox hb; have n0_ := Aside0.mk (blk_below (g := gb202) (o := .cells #[.slice (some ad203) l0_0.length c0_0, .int .i64 a0_1, .int .u16 a0_2, .int .u8 a0_3, .int .u8 a0_4, .int .u32 a0_5, .int .i64 a0_6, .int .i64 a0_7] 47 (0, 0)) (by (with_reducible repeat (first | refine blk_drewN ?_ _ | refine blk_drew ?_ | refine blk_alloc ?_ _)); exact BK202.out) hb); have n1_ := Aside0.mk (below_step (by repeat (first | (with_reducible first | exact HB.out | apply below_alloc | apply pw_below_drewN | apply below_drew1 | refine below_set ?_ GE202.out) | exact HB.out)) hb); have n2_ := Aside0.mk (hbox); have n3_ := Aside0.mk ((by rw [hg]; exact (below_size (by repeat (first | (with_reducible first | exact HB.out | apply below_alloc | apply pw_below_drewN | apply below_drew1 | refine below_set ?_ GE202.out) | exact HB.out))) : w.heap.size ≤ gb204)); have n4_ := Aside0.mk ((by rw [hg]; exact (below_size (by repeat (first | (with_reducible first | exact HB.out | apply below_alloc | apply pw_below_drewN | apply below_drew1 | refine below_set ?_ GE202.out) | exact HB.out))) : w.heap.size ≤ gb204)); have n5_ := Aside0.mk ((by rw [hg]; exact Nat.ne_of_lt (blk_lt (g := gb202) (o := .cells #[.slice (some ad203) l0_0.length c0_0, .int .i64 a0_1, .int .u16 a0_2, .int .u8 a0_3, .int .u8 a0_4, .int .u32 a0_5, .int .i64 a0_6, .int .i64 a0_7] 47 (0, 0)) (by (with_reducible repeat (first | refine blk_drewN ?_ _ | refine blk_drew ?_ | refine blk_alloc ?_ _)); exact BK202.out)) : gb202 ≠ gb204)); have n6_ := Aside0.mk ((by rw [hg]; exact Nat.ne_of_gt (blk_lt (g := gb202) (o := .cells #[.slice (some ad203) l0_0.length c0_0, .int .i64 a0_1, .int .u16 a0_2, .int .u8 a0_3, .int .u8 a0_4, .int .u32 a0_5, .int .i64 a0_6, .int .i64 a0_7] 47 (0, 0)) (by (with_reducible repeat (first | refine blk_drewN ?_ _ | refine blk_drew ?_ | refine blk_alloc ?_ _)); exact BK202.out)) : gb204 ≠ gb202)); clear BK202; clear HB; have BK202 := n0_; have HB := n1_; have BK204 := n2_; have GW204 := n3_; have GE204 := n4_; have NB202_204 := n5_; have NB204_202 := n6_; clear n0_ n1_ n2_ n3_ n4_ n5_ n6_; clear hb hbox hg; have hnb15 := NB204_202.out; have hnc15 := NB202_204.out; have hcz16_0 : w14.cell? ⟨gb204, 0, none⟩ = some (.int .u16 0) := (blk_cell BK204.out 0).trans rfl; have hcz16_1 : w14.cell? ⟨gb204, 1, none⟩ = some (.int .u8 0) := (blk_cell BK204.out 1).trans rfl; have hcz16_2 : w14.cell? ⟨gb204, 2, none⟩ = some (.int .u8 0) := (blk_cell BK204.out 2).trans rfl; have hcz16_3 : w14.cell? ⟨gb204, 3, none⟩ = some (.int .u32 0) := (blk_cell BK204.out 3).trans rfl; have hfz16_0 := blk_frozen BK204.out 0; have hfz16_1 := blk_frozen BK204.out 1; have hfz16_2 := blk_frozen BK204.out 2; have hfz16_3 := blk_frozen BK204.out 3) | ((with_reducible refine gate_callee (f := 123) rfl ?_); refine goesL_ (some 23) rfl rfl Try.func123 (by kernel_rfl) rfl #[.agg #[.int .u16 ((rd_T45 l0_0 x18_1).f0), .int .u8 ((rd_T45 l0_0 x18_1).f1), .int .u8 ((rd_T45 l0_0 x18_1).f2), .int .u32 ((rd_T45 l0_0 x18_1).f3)]] rfl (by (try simp only [List.map_toArray, List.map_cons, List.map_nil]); first | done | rfl | (simp only [List.length_drop, List.length_take]; rfl)) ?_; (with_reducible refine (graph_straight.calls k1 ((rd_T45 l0_0 x18_1).f0) ((rd_T45 l0_0 x18_1).f1) ((rd_T45 l0_0 x18_1).f2) ((rd_T45 l0_0 x18_1).f3) true _ A12.out).mono ?_); rintro e w17 ⟨rfl, hb⟩; refine ⟨_, rfl, ?_⟩; have n0_ := Aside0.mk (blk_below (g := gb202) (o := .cells #[.slice (some ad203) l0_0.length c0_0, .int .i64 a0_1, .int .u16 a0_2, .int .u8 a0_3, .int .u8 a0_4, .int .u32 a0_5, .int .i64 a0_6, .int .i64 a0_7] 47 (0, 0)) (by (with_reducible repeat (first | refine blk_drewN ?_ _ | refine blk_drew ?_ | refine blk_alloc ?_ _)); refine blk_far ?_ NB202_204.out _; (with_reducible repeat (first | refine blk_drewN ?_ _ | refine blk_drew ?_ | refine blk_alloc ?_ _)); refine blk_far ?_ NB202_204.out _; (with_reducible repeat (first | refine blk_drewN ?_ _ | refine blk_drew ?_ | refine blk_alloc ?_ _)); refine blk_far ?_ NB202_204.out _; (with_reducible repeat (first | refine blk_drewN ?_ _ | refine blk_drew ?_ | refine blk_alloc ?_ _)); refine blk_far ?_ NB202_204.out _; (with_reducible repeat (first | refine blk_drewN ?_ _ | refine blk_drew ?_ | refine blk_alloc ?_ _)); exact BK202.out) hb); have n1_ := Aside0.mk (blk_below (g := gb204) (o := .cells #[.int .u16 ((rd_T45 l0_0 x18_1).f0), .int .u8 ((rd_T45 l0_0 x18_1).f1), .int .u8 ((rd_T45 l0_0 x18_1).f2), .int .u32 ((rd_T45 l0_0 x18_1).f3)] 45 (0, 0)) (by (with_reducible repeat (first | refine blk_drewN ?_ _ | refine blk_drew ?_ | refine blk_alloc ?_ _)); refine blk_put (cs := #[.int .u16 ((rd_T45 l0_0 x18_1).f0), .int .u8 ((rd_T45 l0_0 x18_1).f1), .int .u8 ((rd_T45 l0_0 x18_1).f2), .int .u32 0]) ?_ 3 _ rfl; (with_reducible repeat (first | refine blk_drewN ?_ _ | refine blk_drew ?_ | refine blk_alloc ?_ _)); refine blk_put (cs := #[.int .u16 ((rd_T45 l0_0 x18_1).f0), .int .u8 ((rd_T45 l0_0 x18_1).f1), .int .u8 0, .int .u32 0]) ?_ 2 _ rfl; (with_reducible repeat (first | refine blk_drewN ?_ _ | refine blk_drew ?_ | refine blk_alloc ?_ _)); refine blk_put (cs := #[.int .u16 ((rd_T45 l0_0 x18_1).f0), .int .u8 0, .int .u8 0, .int .u32 0]) ?_ 1 _ rfl; (with_reducible repeat (first | refine blk_drewN ?_ _ | refine blk_drew ?_ | refine blk_alloc ?_ _)); refine blk_put (cs := #[.int .u16 0, .int .u8 0, .int .u8 0, .int .u32 0]) ?_ 0 _ rfl; (with_reducible repeat (first | refine blk_drewN ?_ _ | refine blk_drew ?_ | refine blk_alloc ?_ _)); exact BK204.out) hb); have n2_ := Aside0.mk (below_step (by repeat (first | (with_reducible first | exact HB.out | apply below_alloc | apply pw_below_drewN | apply below_drew1 | refine below_set ?_ GE202.out | refine below_set ?_ GE204.out) | exact HB.out)) hb); clear BK202; clear BK204; clear HB; have BK202 := n0_; have BK204 := n1_; have HB := n2_; clear n0_ n1_ n2_; (try clear hb); (try clear hb2); (try clear hk); (try clear hi)))
                go_roundg k1
                case measure => have := HK1.out; omega
                case rel => exact ⟨(wrap64 (x18_1 + 1)), (by first | rfl | (simp; done) | (simp [*]; done)), H', ⟨by have := HK1.out; omega⟩, ⟨by (with_reducible repeat (first | refine blk_drewN ?_ _ | refine blk_drew ?_ | refine blk_alloc ?_ _)); exact BK202.out⟩, ⟨by repeat (first | (with_reducible first | exact HB.out | apply below_alloc | apply pw_below_drewN | apply below_drew1 | refine below_set ?_ GE202.out | refine below_set ?_ GE204.out) | exact HB.out)⟩⟩
              · replace c13 := Bool.eq_false_iff.mpr c13
                subst c13
                have H1 : (some 152) = some r := by rw [if_neg (show ¬ (false = true) by decide)] at H; exact H
                clear H
                have H := H1
                clear H1
                obtain rfl := Option.some.inj H
                have p203 : 0 ≤ (x18_1 : Int) := of_decide_eq_true (by first | (with_reducible assumption) | assumption)
                have q203 : x18_1 < (l0_0.length : Int) := of_decide_eq_true (by first | (with_reducible assumption) | assumption)
                obtain ⟨ad203, e203, hx203_0, hx203_1, hx203_2, hx203_3⟩ := at_T45 HR0_0.out x18_1 p203 q203
                cases e203
                replace hx203_0 := (HB.out.cell (World.block_lt_of_cell? w _ hx203_0)).trans hx203_0
                replace hx203_1 := (HB.out.cell (World.block_lt_of_cell? w _ hx203_1)).trans hx203_1
                replace hx203_2 := (HB.out.cell (World.block_lt_of_cell? w _ hx203_2)).trans hx203_2
                replace hx203_3 := (HB.out.cell (World.block_lt_of_cell? w _ hx203_3)).trans hx203_3
                replace p203 := eq_true p203
                replace q203 := eq_true q203
                go_wp2_with (first | ((with_reducible refine gate_dst (N := 10) rfl ?_); refine box_event ?hg (N := 10) ?hd (cs := #[.int .u16 0, .int .u8 0, .int .u8 0, .int .u32 0]) (t := 45) ?hr ?_; (case hd => rfl); (case hg => rfl); (case hr => first | (go_simp; done) | (go_simp; rfl)); intro gb204 hg w18 hbox hb; have n0_ := Aside0.mk (blk_below (g := gb202) (o := .cells #[.slice (some ad203) l0_0.length c0_0, .int .i64 a0_1, .int .u16 a0_2, .int .u8 a0_3, .int .u8 a0_4, .int .u32 a0_5, .int .i64 a0_6, .int .i64 a0_7] 47 (0, 0)) (by (with_reducible repeat (first | refine blk_drewN ?_ _ | refine blk_drew ?_ | refine blk_alloc ?_ _)); exact BK202.out) hb); have n1_ := Aside0.mk (below_step (by repeat (first | (with_reducible first | exact HB.out | apply below_alloc | apply pw_below_drewN | apply below_drew1 | refine below_set ?_ GE202.out) | exact HB.out)) hb); have n2_ := Aside0.mk (hbox); have n3_ := Aside0.mk ((by rw [hg]; exact (below_size (by repeat (first | (with_reducible first | exact HB.out | apply below_alloc | apply pw_below_drewN | apply below_drew1 | refine below_set ?_ GE202.out) | exact HB.out))) : w.heap.size ≤ gb204)); have n4_ := Aside0.mk ((by rw [hg]; exact (below_size (by repeat (first | (with_reducible first | exact HB.out | apply below_alloc | apply pw_below_drewN | apply below_drew1 | refine below_set ?_ GE202.out) | exact HB.out))) : w.heap.size ≤ gb204)); have n5_ := Aside0.mk ((by rw [hg]; exact Nat.ne_of_lt (blk_lt (g := gb202) (o := .cells #[.slice (some ad203) l0_0.length c0_0, .int .i64 a0_1, .int .u16 a0_2, .int .u8 a0_3, .int .u8 a0_4, .int .u32 a0_5, .int .i64 a0_6, .int .i64 a0_7] 47 (0, 0)) (by (with_reducible repeat (first | refine blk_drewN ?_ _ | refine blk_drew ?_ | refine blk_alloc ?_ _)); exact BK202.out)) : gb202 ≠ gb204)); have n6_ := Aside0.mk ((by rw [hg]; exact Nat.ne_of_gt (blk_lt (g := gb202) (o := .cells #[.slice (some ad203) l0_0.length c0_0, .int .i64 a0_1, .int .u16 a0_2, .int .u8 a0_3, .int .u8 a0_4, .int .u32 a0_5, .int .i64 a0_6, .int .i64 a0_7] 47 (0, 0)) (by (with_reducible repeat (first | refine blk_drewN ?_ _ | refine blk_drew ?_ | refine blk_alloc ?_ _)); exact BK202.out)) : gb204 ≠ gb202)); clear BK202; clear HB; have BK202 := n0_; have HB := n1_; have BK204 := n2_; have GW204 := n3_; have GE204 := n4_; have NB202_204 := n5_; have NB204_202 := n6_; clear n0_ n1_ n2_ n3_ n4_ n5_ n6_; clear hb hbox hg; have hnb19 := NB204_202.out; have hnc19 := NB202_204.out; have hcz20_0 : w18.cell? ⟨gb204, 0, none⟩ = some (.int .u16 0) := (blk_cell BK204.out 0).trans rfl; have hcz20_1 : w18.cell? ⟨gb204, 1, none⟩ = some (.int .u8 0) := (blk_cell BK204.out 1).trans rfl; have hcz20_2 : w18.cell? ⟨gb204, 2, none⟩ = some (.int .u8 0) := (blk_cell BK204.out 2).trans rfl; have hcz20_3 : w18.cell? ⟨gb204, 3, none⟩ = some (.int .u32 0) := (blk_cell BK204.out 3).trans rfl; have hfz20_0 := blk_frozen BK204.out 0; have hfz20_1 := blk_frozen BK204.out 1; have hfz20_2 := blk_frozen BK204.out 2; have hfz20_3 := blk_frozen BK204.out 3) | ((with_reducible refine gate_callee (f := 123) rfl ?_); refine goesL_ (some 23) rfl rfl Try.func123 (by kernel_rfl) rfl #[.agg #[.int .u16 ((rd_T45 l0_0 x18_1).f0), .int .u8 ((rd_T45 l0_0 x18_1).f1), .int .u8 ((rd_T45 l0_0 x18_1).f2), .int .u32 ((rd_T45 l0_0 x18_1).f3)]] rfl (by (try simp only [List.map_toArray, List.map_cons, List.map_nil]); first | done | rfl | (simp only [List.length_drop, List.length_take]; rfl)) ?_; (with_reducible refine (graph_straight.calls k1 ((rd_T45 l0_0 x18_1).f0) ((rd_T45 l0_0 x18_1).f1) ((rd_T45 l0_0 x18_1).f2) ((rd_T45 l0_0 x18_1).f3) false _ A12.out).mono ?_); rintro e w21 ⟨rfl, hb⟩; refine ⟨_, rfl, ?_⟩; have n0_ := Aside0.mk (blk_below (g := gb202) (o := .cells #[.slice (some ad203) l0_0.length c0_0, .int .i64 a0_1, .int .u16 a0_2, .int .u8 a0_3, .int .u8 a0_4, .int .u32 a0_5, .int .i64 a0_6, .int .i64 a0_7] 47 (0, 0)) (by (with_reducible repeat (first | refine blk_drewN ?_ _ | refine blk_drew ?_ | refine blk_alloc ?_ _)); refine blk_far ?_ NB202_204.out _; (with_reducible repeat (first | refine blk_drewN ?_ _ | refine blk_drew ?_ | refine blk_alloc ?_ _)); refine blk_far ?_ NB202_204.out _; (with_reducible repeat (first | refine blk_drewN ?_ _ | refine blk_drew ?_ | refine blk_alloc ?_ _)); refine blk_far ?_ NB202_204.out _; (with_reducible repeat (first | refine blk_drewN ?_ _ | refine blk_drew ?_ | refine blk_alloc ?_ _)); refine blk_far ?_ NB202_204.out _; (with_reducible repeat (first | refine blk_drewN ?_ _ | refine blk_drew ?_ | refine blk_alloc ?_ _)); exact BK202.out) hb); have n1_ := Aside0.mk (blk_below (g := gb204) (o := .cells #[.int .u16 ((rd_T45 l0_0 x18_1).f0), .int .u8 ((rd_T45 l0_0 x18_1).f1), .int .u8 ((rd_T45 l0_0 x18_1).f2), .int .u32 ((rd_T45 l0_0 x18_1).f3)] 45 (0, 0)) (by (with_reducible repeat (first | refine blk_drewN ?_ _ | refine blk_drew ?_ | refine blk_alloc ?_ _)); refine blk_put (cs := #[.int .u16 ((rd_T45 l0_0 x18_1).f0), .int .u8 ((rd_T45 l0_0 x18_1).f1), .int .u8 ((rd_T45 l0_0 x18_1).f2), .int .u32 0]) ?_ 3 _ rfl; (with_reducible repeat (first | refine blk_drewN ?_ _ | refine blk_drew ?_ | refine blk_alloc ?_ _)); refine blk_put (cs := #[.int .u16 ((rd_T45 l0_0 x18_1).f0), .int .u8 ((rd_T45 l0_0 x18_1).f1), .int .u8 0, .int .u32 0]) ?_ 2 _ rfl; (with_reducible repeat (first | refine blk_drewN ?_ _ | refine blk_drew ?_ | refine blk_alloc ?_ _)); refine blk_put (cs := #[.int .u16 ((rd_T45 l0_0 x18_1).f0), .int .u8 0, .int .u8 0, .int .u32 0]) ?_ 1 _ rfl; (with_reducible repeat (first | refine blk_drewN ?_ _ | refine blk_drew ?_ | refine blk_alloc ?_ _)); refine blk_put (cs := #[.int .u16 0, .int .u8 0, .int .u8 0, .int .u32 0]) ?_ 0 _ rfl; (with_reducible repeat (first | refine blk_drewN ?_ _ | refine blk_drew ?_ | refine blk_alloc ?_ _)); exact BK204.out) hb); have n2_ := Aside0.mk (below_step (by repeat (first | (with_reducible first | exact HB.out | apply below_alloc | apply pw_below_drewN | apply below_drew1 | refine below_set ?_ GE202.out | refine below_set ?_ GE204.out) | exact HB.out)) hb); clear BK202; clear BK204; clear HB; have BK202 := n0_; have BK204 := n1_; have HB := n2_; clear n0_ n1_ n2_; (try clear hb); (try clear hb2); (try clear hk); (try clear hi)))
                go_ret
                exact ⟨by first | rfl | (simp [errW_none, errW_some] <;> rfl) | (simp [*, errW_none, errW_some] <;> rfl), by repeat (first | (with_reducible first | exact HB.out | apply below_alloc | apply pw_below_drewN | apply below_drew1 | refine below_set ?_ GE202.out | refine below_set ?_ GE204.out) | exact HB.out)⟩
            · rw [if_neg c11] at H
              exact absurd H (by simp)
          · rw [if_neg c10] at H
            exact absurd H (by simp)
        · rw [if_neg c9] at H
          have c9b0 : decide (x18_1 < (l0_0.length : Int)) = false := decide_eq_false c9
          clear c9
          replace H := Option.bind_eq_some_iff.mp H
          obtain ⟨t206, A220, H⟩ := H
          replace H : (if t206 = true then ((graph_goals.f l0_0 a0_1 a0_2 a0_3 a0_4 a0_5 a0_6 a0_7).bind fun t207 => (graph_one.l1 k1 a1 a3 t207 (t207.length : Int) 0)) else (some 153)) = some r := H
          have A22 := Aside0.mk A220
          clear A220
          by_cases c23 : t206 = true
          · subst c23
            have H1 : ((graph_goals.f l0_0 a0_1 a0_2 a0_3 a0_4 a0_5 a0_6 a0_7).bind fun t207 => (graph_one.l1 k1 a1 a3 t207 (t207.length : Int) 0)) = some r := by rw [if_pos rfl] at H; exact H
            clear H
            have H := H1
            clear H1
            replace H := Option.bind_eq_some_iff.mp H
            obtain ⟨t207, A240, H⟩ := H
            replace H : (graph_one.l1 k1 a1 a3 t207 (t207.length : Int) 0) = some r := H
            have A24 := Aside0.mk A240
            clear A240
            have H' := Aside0.mk H
            clear H
            have hcz25_0 : wr.cell? ⟨gb202, 0, none⟩ = some (.slice A0_0 l0_0.length c0_0) := (blk_cell BK202.out 0).trans rfl
            have hcz25_1 : wr.cell? ⟨gb202, 1, none⟩ = some (.int .i64 a0_1) := (blk_cell BK202.out 1).trans rfl
            have hcz25_2 : wr.cell? ⟨gb202, 2, none⟩ = some (.int .u16 a0_2) := (blk_cell BK202.out 2).trans rfl
            have hcz25_3 : wr.cell? ⟨gb202, 3, none⟩ = some (.int .u8 a0_3) := (blk_cell BK202.out 3).trans rfl
            have hcz25_4 : wr.cell? ⟨gb202, 4, none⟩ = some (.int .u8 a0_4) := (blk_cell BK202.out 4).trans rfl
            have hcz25_5 : wr.cell? ⟨gb202, 5, none⟩ = some (.int .u32 a0_5) := (blk_cell BK202.out 5).trans rfl
            have hcz25_6 : wr.cell? ⟨gb202, 6, none⟩ = some (.int .i64 a0_6) := (blk_cell BK202.out 6).trans rfl
            have hcz25_7 : wr.cell? ⟨gb202, 7, none⟩ = some (.int .i64 a0_7) := (blk_cell BK202.out 7).trans rfl
            have hfz25_0 := blk_frozen BK202.out 0
            have hfz25_1 := blk_frozen BK202.out 1
            have hfz25_2 := blk_frozen BK202.out 2
            have hfz25_3 := blk_frozen BK202.out 3
            have hfz25_4 := blk_frozen BK202.out 4
            have hfz25_5 := blk_frozen BK202.out 5
            have hfz25_6 := blk_frozen BK202.out 6
            have hfz25_7 := blk_frozen BK202.out 7
            go_wp2_with (first | ((with_reducible refine gate_callee (f := 124) rfl ?_); refine goesL_ (some 27) rfl rfl Try.func124 (by kernel_rfl) rfl #[.agg #[.slice A0_0 l0_0.length c0_0, .int .i64 a0_1, .int .u16 a0_2, .int .u8 a0_3, .int .u8 a0_4, .int .u32 a0_5, .int .i64 a0_6, .int .i64 a0_7]] rfl (by (try simp only [List.map_toArray, List.map_cons, List.map_nil]); first | done | rfl | (simp only [List.length_drop, List.length_take]; rfl)) ?_; (with_reducible refine (graph_ended.calls k1 _ _ l0_0 a0_1 a0_2 a0_3 a0_4 a0_5 a0_6 a0_7 true _ ?side1 ?side2 A22.out).mono ?_); (case side1 => repeat (first | exact (Kd.C_below HR0_0.out HB.out) | (with_reducible refine Kd.C_alloc ?_ _) | (with_reducible refine Kd.C_drewN ?_ _) | (with_reducible refine Kd.C_drew ?_))); (case side2 => exact HC0_0.out); rintro e w26 ⟨rfl, hb⟩; refine ⟨_, rfl, ?_⟩; have n0_ := Aside0.mk (blk_below (g := gb202) (o := .cells #[.slice A0_0 l0_0.length c0_0, .int .i64 a0_1, .int .u16 a0_2, .int .u8 a0_3, .int .u8 a0_4, .int .u32 a0_5, .int .i64 a0_6, .int .i64 a0_7] 47 (0, 0)) (by (with_reducible repeat (first | refine blk_drewN ?_ _ | refine blk_drew ?_ | refine blk_alloc ?_ _)); exact BK202.out) hb); have n1_ := Aside0.mk (below_step (by repeat (first | (with_reducible first | exact HB.out | apply below_alloc | apply pw_below_drewN | apply below_drew1 | refine below_set ?_ GE202.out) | exact HB.out)) hb); clear BK202; clear HB; have BK202 := n0_; have HB := n1_; clear n0_ n1_; (try clear hb); (try clear hb2); (try clear hk); (try clear hi); have hcz27_0 : w26.cell? ⟨gb202, 0, none⟩ = some (.slice A0_0 l0_0.length c0_0) := (blk_cell BK202.out 0).trans rfl; have hcz27_1 : w26.cell? ⟨gb202, 1, none⟩ = some (.int .i64 a0_1) := (blk_cell BK202.out 1).trans rfl; have hcz27_2 : w26.cell? ⟨gb202, 2, none⟩ = some (.int .u16 a0_2) := (blk_cell BK202.out 2).trans rfl; have hcz27_3 : w26.cell? ⟨gb202, 3, none⟩ = some (.int .u8 a0_3) := (blk_cell BK202.out 3).trans rfl; have hcz27_4 : w26.cell? ⟨gb202, 4, none⟩ = some (.int .u8 a0_4) := (blk_cell BK202.out 4).trans rfl; have hcz27_5 : w26.cell? ⟨gb202, 5, none⟩ = some (.int .u32 a0_5) := (blk_cell BK202.out 5).trans rfl; have hcz27_6 : w26.cell? ⟨gb202, 6, none⟩ = some (.int .i64 a0_6) := (blk_cell BK202.out 6).trans rfl; have hcz27_7 : w26.cell? ⟨gb202, 7, none⟩ = some (.int .i64 a0_7) := (blk_cell BK202.out 7).trans rfl; have hfz27_0 := blk_frozen BK202.out 0; have hfz27_1 := blk_frozen BK202.out 1; have hfz27_2 := blk_frozen BK202.out 2; have hfz27_3 := blk_frozen BK202.out 3; have hfz27_4 := blk_frozen BK202.out 4; have hfz27_5 := blk_frozen BK202.out 5; have hfz27_6 := blk_frozen BK202.out 6; have hfz27_7 := blk_frozen BK202.out 7) | ((with_reducible refine gate_callee (f := 76) rfl ?_); refine goesL_ (some 30) rfl rfl Try.func76 (by kernel_rfl) rfl #[.agg #[.slice A0_0 l0_0.length c0_0, .int .i64 a0_1, .int .u16 a0_2, .int .u8 a0_3, .int .u8 a0_4, .int .u32 a0_5, .int .i64 a0_6, .int .i64 a0_7]] rfl (by (try simp only [List.map_toArray, List.map_cons, List.map_nil]); first | done | rfl | (simp only [List.length_drop, List.length_take]; rfl)) ?_; (with_reducible refine (graph_goals.calls _ _ l0_0 a0_1 a0_2 a0_3 a0_4 a0_5 a0_6 a0_7 t207 _ ?side1 ?side2 A24.out).mono ?_); (case side1 => repeat (first | exact (Kd.C_below HR0_0.out HB.out) | (with_reducible refine Kd.C_alloc ?_ _) | (with_reducible refine Kd.C_drewN ?_ _) | (with_reducible refine Kd.C_drew ?_))); (case side2 => exact HC0_0.out); rintro e w28 ⟨v208, rfl, ho0, hb⟩; refine ⟨_, rfl, ?_⟩; have n0_ := Aside0.mk (Kd.R_lower ho0 (below_size (by repeat (first | (with_reducible first | exact HB.out | apply below_alloc | apply pw_below_drewN | apply below_drew1 | refine below_set ?_ GE202.out) | exact HB.out)))); have n1_ := Aside0.mk (blk_below (g := gb202) (o := .cells #[.slice A0_0 l0_0.length c0_0, .int .i64 a0_1, .int .u16 a0_2, .int .u8 a0_3, .int .u8 a0_4, .int .u32 a0_5, .int .i64 a0_6, .int .i64 a0_7] 47 (0, 0)) (by (with_reducible repeat (first | refine blk_drewN ?_ _ | refine blk_drew ?_ | refine blk_alloc ?_ _)); exact BK202.out) hb); have n2_ := Aside0.mk (below_step (by repeat (first | (with_reducible first | exact HB.out | apply below_alloc | apply pw_below_drewN | apply below_drew1 | refine below_set ?_ GE202.out) | exact HB.out)) hb); clear BK202; clear HB; have HO209 := n0_; have BK202 := n1_; have HB := n2_; clear n0_ n1_ n2_; (try clear hb); (try clear hb2); (try clear hk); (try clear hi); (try clear ho0); obtain ⟨Ao29, co29, eo29⟩ := Kd.R_slice HO209.out; subst eo29))
            go_loopg [32] k1 (fun kq v32 w' => ∃ (x32_2 : Int), v32 = .int .i64 x32_2 ∧ Aside0 (graph_one.l1 kq a1 a3 t207 (t207.length : Int) x32_2 = some r) ∧ Aside0 (kq ≤ k1) ∧ Aside0 (Kd.R (Kd.int .i64) 3 w' w.heap.size (fun _ => True) (.slice Ao29 t207.length co29) t207) ∧ Aside0 (w'.heap[gb202]? = some (.cells #[(.slice A0_0 l0_0.length c0_0), .int .i64 a0_1, .int .u16 a0_2, .int .u8 a0_3, .int .u8 a0_4, .int .u32 a0_5, .int .i64 a0_6, .int .i64 a0_7] 47 (0, 0))) ∧ Aside0 (Below w.heap.size w w'))
            case atStart => exact ⟨(0), (by first | rfl | (simp; done) | (simp [*]; done)), H', ⟨Nat.le_refl _⟩, ⟨by (with_reducible repeat (first | apply Kd.R_alloc | apply Kd.R_drewN | apply Kd.R_drew)); exact HO209.out⟩, ⟨by (with_reducible repeat (first | refine blk_drewN ?_ _ | refine blk_drew ?_ | refine blk_alloc ?_ _)); exact BK202.out⟩, ⟨by repeat (first | (with_reducible first | exact HB.out | apply below_alloc | apply pw_below_drewN | apply below_drew1 | refine below_set ?_ GE202.out) | exact HB.out)⟩⟩
            case round =>
              clear H'
              try clear c1
              try clear c2
              try clear p2
              try clear q2
              try clear hx2
              try clear c5
              try clear c5b0
              try clear p6
              try clear c7
              try clear c8
              try clear c9
              try clear c9b0
              try clear c10
              try clear c10b0
              try clear c11
              try clear c11b0
              try clear c12
              try clear c13
              try clear c15
              try clear c19
              try clear p20
              try clear q20
              try clear hx20
              try clear c23
              try clear hcz16_0
              try clear hcz16_1
              try clear hcz16_2
              try clear hcz16_3
              try clear hcz20_0
              try clear hcz20_1
              try clear hcz20_2
              try clear hcz20_3
              try clear hcz25_0
              try clear hcz25_1
              try clear hcz25_2
              try clear hcz25_3
              try clear hcz25_4
              try clear hcz25_5
              try clear hcz25_6
              try clear hcz25_7
              try clear hcz27_0
              try clear hcz27_1
              try clear hcz27_2
              try clear hcz27_3
              try clear hcz27_4
              try clear hcz27_5
              try clear hcz27_6
              try clear hcz27_7
              try clear hcz8_0
              try clear hcz8_1
              try clear hcz8_2
              try clear hcz8_3
              try clear hcz8_4
              try clear hcz8_5
              try clear hcz8_6
              try clear hcz8_7
              try clear hfz16_0
              try clear hfz16_1
              try clear hfz16_2
              try clear hfz16_3
              try clear hfz20_0
              try clear hfz20_1
              try clear hfz20_2
              try clear hfz20_3
              try clear hfz25_0
              try clear hfz25_1
              try clear hfz25_2
              try clear hfz25_3
              try clear hfz25_4
              try clear hfz25_5
              try clear hfz25_6
              try clear hfz25_7
              try clear hfz27_0
              try clear hfz27_1
              try clear hfz27_2
              try clear hfz27_3
              try clear hfz27_4
              try clear hfz27_5
              try clear hfz27_6
              try clear hfz27_7
              try clear hfz8_0
              try clear hfz8_1
              try clear hfz8_2
              try clear hfz8_3
              try clear hfz8_4
              try clear hfz8_5
              try clear hfz8_6
              try clear hfz8_7
              try clear hx203_0
              try clear hx203_1
              try clear hx203_2
              try clear hx203_3
              try clear p2
              try clear p203
              try clear q203
              obtain ⟨x32_2, rfl, HA, HK2, HO_30, BK202, HB⟩ := hrel
              cases gk with
              | zero => exact absurd HA.out (by simp [graph_one.l1])
              | succ k2 =>
                have H := HA.out
                clear HA
                simp only [graph_one.l1] at H
                by_cases c30 : x32_2 < (t207.length : Int)
                · rw [if_pos c30] at H
                  have c30b0 : decide (x32_2 < (t207.length : Int)) = true := decide_eq_true c30
                  clear c30
                  by_cases c31 : 0 ≤ x32_2
                  · rw [if_pos c31] at H
                    have c31b0 : decide (0 ≤ x32_2) = true := decide_eq_true c31
                    clear c31
                    by_cases c32 : x32_2 < (t207.length : Int)
                    · rw [if_pos c32] at H
                      have c32b0 : decide (x32_2 < (t207.length : Int)) = true := decide_eq_true c32
                      clear c32
                      by_cases c33 : (rd t207 x32_2) ≤ a1
                      · rw [if_pos c33] at H
                        have c33b0 : decide ((rd t207 x32_2) ≤ a1) = true := decide_eq_true c33
                        clear c33
                        obtain rfl := Option.some.inj H
                        have p210 : 0 ≤ (x32_2 : Int) := of_decide_eq_true (by first | (with_reducible assumption) | assumption)
                        have q210 : x32_2 < (t207.length : Int) := of_decide_eq_true (by first | (with_reducible assumption) | assumption)
                        obtain ⟨ad210, e210, hx210_0⟩ := Kd.at_int (Kd.R_reads' HO_30.out).2.2 x32_2 p210 q210
                        cases e210
                        replace p210 := eq_true p210
                        replace q210 := eq_true q210
                        go_wp2
                        go_ret
                        exact ⟨by first | rfl | (simp [errW_none, errW_some] <;> rfl) | (simp [*, errW_none, errW_some] <;> rfl), by repeat (first | (with_reducible first | exact HB.out | apply below_alloc | apply pw_below_drewN | apply below_drew1 | refine below_set ?_ GE202.out) | exact HB.out)⟩
                      · rw [if_neg c33] at H
                        have c33b0 : decide ((rd t207 x32_2) ≤ a1) = false := decide_eq_false c33
                        clear c33
                        by_cases c34 : (rd t207 x32_2) ≥ a3
                        · rw [if_pos c34] at H
                          have c34b0 : decide (a3 ≤ (rd t207 x32_2)) = true := decide_eq_true c34
                          clear c34
                          obtain rfl := Option.some.inj H
                          have p210 : 0 ≤ (x32_2 : Int) := of_decide_eq_true (by first | (with_reducible assumption) | assumption)
                          have q210 : x32_2 < (t207.length : Int) := of_decide_eq_true (by first | (with_reducible assumption) | assumption)
                          obtain ⟨ad210, e210, hx210_0⟩ := Kd.at_int (Kd.R_reads' HO_30.out).2.2 x32_2 p210 q210
                          cases e210
                          replace p210 := eq_true p210
                          replace q210 := eq_true q210
                          go_wp2
                          go_ret
                          exact ⟨by first | rfl | (simp [errW_none, errW_some] <;> rfl) | (simp [*, errW_none, errW_some] <;> rfl), by repeat (first | (with_reducible first | exact HB.out | apply below_alloc | apply pw_below_drewN | apply below_drew1 | refine below_set ?_ GE202.out) | exact HB.out)⟩
                        · rw [if_neg c34] at H
                          have c34b0 : decide (a3 ≤ (rd t207 x32_2)) = false := decide_eq_false c34
                          clear c34
                          have H' := Aside0.mk H
                          clear H
                          have p210 : 0 ≤ (x32_2 : Int) := of_decide_eq_true (by first | (with_reducible assumption) | assumption)
                          have q210 : x32_2 < (t207.length : Int) := of_decide_eq_true (by first | (with_reducible assumption) | assumption)
                          obtain ⟨ad210, e210, hx210_0⟩ := Kd.at_int (Kd.R_reads' HO_30.out).2.2 x32_2 p210 q210
                          cases e210
                          replace p210 := eq_true p210
                          replace q210 := eq_true q210
                          go_wp2
                          go_roundg k2
                          case measure => have := HK1.out; have := HK2.out; omega
                          case rel => exact ⟨(wrap64 (x32_2 + 1)), (by first | rfl | (simp; done) | (simp [*]; done)), H', ⟨by have := HK1.out; have := HK2.out; omega⟩, ⟨by (with_reducible repeat (first | apply Kd.R_alloc | apply Kd.R_drewN | apply Kd.R_drew)); exact HO_30.out⟩, ⟨by (with_reducible repeat (first | refine blk_drewN ?_ _ | refine blk_drew ?_ | refine blk_alloc ?_ _)); exact BK202.out⟩, ⟨by repeat (first | (with_reducible first | exact HB.out | apply below_alloc | apply pw_below_drewN | apply below_drew1 | refine below_set ?_ GE202.out) | exact HB.out)⟩⟩
                    · rw [if_neg c32] at H
                      exact absurd H (by simp)
                  · rw [if_neg c31] at H
                    exact absurd H (by simp)
                · rw [if_neg c30] at H
                  have c30b0 : decide (x32_2 < (t207.length : Int)) = false := decide_eq_false c30
                  clear c30
                  obtain rfl := Option.some.inj H
                  go_wp2
                  go_ret
                  exact ⟨by first | rfl | (simp [errW_none, errW_some] <;> rfl) | (simp [*, errW_none, errW_some] <;> rfl), by repeat (first | (with_reducible first | exact HB.out | apply below_alloc | apply pw_below_drewN | apply below_drew1 | refine below_set ?_ GE202.out) | exact HB.out)⟩
          · replace c23 := Bool.eq_false_iff.mpr c23
            subst c23
            have H1 : (some 153) = some r := by rw [if_neg (show ¬ (false = true) by decide)] at H; exact H
            clear H
            have H := H1
            clear H1
            obtain rfl := Option.some.inj H
            have hcz35_0 : wr.cell? ⟨gb202, 0, none⟩ = some (.slice A0_0 l0_0.length c0_0) := (blk_cell BK202.out 0).trans rfl
            have hcz35_1 : wr.cell? ⟨gb202, 1, none⟩ = some (.int .i64 a0_1) := (blk_cell BK202.out 1).trans rfl
            have hcz35_2 : wr.cell? ⟨gb202, 2, none⟩ = some (.int .u16 a0_2) := (blk_cell BK202.out 2).trans rfl
            have hcz35_3 : wr.cell? ⟨gb202, 3, none⟩ = some (.int .u8 a0_3) := (blk_cell BK202.out 3).trans rfl
            have hcz35_4 : wr.cell? ⟨gb202, 4, none⟩ = some (.int .u8 a0_4) := (blk_cell BK202.out 4).trans rfl
            have hcz35_5 : wr.cell? ⟨gb202, 5, none⟩ = some (.int .u32 a0_5) := (blk_cell BK202.out 5).trans rfl
            have hcz35_6 : wr.cell? ⟨gb202, 6, none⟩ = some (.int .i64 a0_6) := (blk_cell BK202.out 6).trans rfl
            have hcz35_7 : wr.cell? ⟨gb202, 7, none⟩ = some (.int .i64 a0_7) := (blk_cell BK202.out 7).trans rfl
            have hfz35_0 := blk_frozen BK202.out 0
            have hfz35_1 := blk_frozen BK202.out 1
            have hfz35_2 := blk_frozen BK202.out 2
            have hfz35_3 := blk_frozen BK202.out 3
            have hfz35_4 := blk_frozen BK202.out 4
            have hfz35_5 := blk_frozen BK202.out 5
            have hfz35_6 := blk_frozen BK202.out 6
            have hfz35_7 := blk_frozen BK202.out 7
            go_wp2_with (first | ((with_reducible refine gate_callee (f := 124) rfl ?_); refine goesL_ (some 27) rfl rfl Try.func124 (by kernel_rfl) rfl #[.agg #[.slice A0_0 l0_0.length c0_0, .int .i64 a0_1, .int .u16 a0_2, .int .u8 a0_3, .int .u8 a0_4, .int .u32 a0_5, .int .i64 a0_6, .int .i64 a0_7]] rfl (by (try simp only [List.map_toArray, List.map_cons, List.map_nil]); first | done | rfl | (simp only [List.length_drop, List.length_take]; rfl)) ?_; (with_reducible refine (graph_ended.calls k1 _ _ l0_0 a0_1 a0_2 a0_3 a0_4 a0_5 a0_6 a0_7 false _ ?side1 ?side2 A22.out).mono ?_); (case side1 => repeat (first | exact (Kd.C_below HR0_0.out HB.out) | (with_reducible refine Kd.C_alloc ?_ _) | (with_reducible refine Kd.C_drewN ?_ _) | (with_reducible refine Kd.C_drew ?_))); (case side2 => exact HC0_0.out); rintro e w36 ⟨rfl, hb⟩; refine ⟨_, rfl, ?_⟩; have n0_ := Aside0.mk (blk_below (g := gb202) (o := .cells #[.slice A0_0 l0_0.length c0_0, .int .i64 a0_1, .int .u16 a0_2, .int .u8 a0_3, .int .u8 a0_4, .int .u32 a0_5, .int .i64 a0_6, .int .i64 a0_7] 47 (0, 0)) (by (with_reducible repeat (first | refine blk_drewN ?_ _ | refine blk_drew ?_ | refine blk_alloc ?_ _)); exact BK202.out) hb); have n1_ := Aside0.mk (below_step (by repeat (first | (with_reducible first | exact HB.out | apply below_alloc | apply pw_below_drewN | apply below_drew1 | refine below_set ?_ GE202.out) | exact HB.out)) hb); clear BK202; clear HB; have BK202 := n0_; have HB := n1_; clear n0_ n1_; (try clear hb); (try clear hb2); (try clear hk); (try clear hi)))
            go_ret
            exact ⟨by first | rfl | (simp [errW_none, errW_some] <;> rfl) | (simp [*, errW_none, errW_some] <;> rfl), by repeat (first | (with_reducible first | exact HB.out | apply below_alloc | apply pw_below_drewN | apply below_drew1 | refine below_set ?_ GE202.out) | exact HB.out)⟩
def graph_Check.l0 : Nat → List (S47) → Int → List (S47) → Int → Int → Option (Int × Int)
  | 0, _, _, _, _, _ => none
  | k + 1, x0, x4, x14, x15, x16 => if x16 < x15 then (if 0 ≤ x16 then (if x16 < (x14.length : Int) then ((graph_one.f k ((rd_T47 x14 x16).f0) ((rd_T47 x14 x16).f1) ((rd_T47 x14 x16).f2.f0) ((rd_T47 x14 x16).f2.f1) ((rd_T47 x14 x16).f2.f2) ((rd_T47 x14 x16).f2.f3) ((rd_T47 x14 x16).f3) ((rd_T47 x14 x16).f4) x16 (wrap64 (x4 + (((rd_T47 x14 x16).f0).length : Int))) (x0.length : Int)).bind fun t213 => (if t213 = 0 then (graph_Check.l0 k x0 (wrap64 (x4 + (((rd_T47 x14 x16).f0).length : Int))) x14 x15 (wrap64 (x16 + 1))) else (some (x16, t213)))) else (none)) else (none)) else (some (0, 0))
def graph_Check.f (k : Nat) (l0 : List (S47)) : Option (Int × Int) := if (l0.length : Int) = 0 then (some (0, 150)) else (if (l0.length : Int) > 4096 then (some (4096, 151)) else (graph_Check.l0 k l0 0 l0 (l0.length : Int) 0))
set_option maxHeartbeats 8000000 in
set_option maxRecDepth 100000 in
theorem graph_Check.calls (k : Nat) (A0 : Option Addr) (c0 : Nat) (l0 : List (S47)) (r1 : Int) (r2 : Int) (w : World) (hr0 : Kd.C k47 w A0 l0.length l0) (hc0 : l0.length ≤ c0) (h : graph_Check.f k l0 = some (r1, r2)) :
    Calls Try.prog 52 #[.slice A0 l0.length c0] w fun e w' => e = .returned (.tuple #[.int .i64 r1, .int .i64 r2]) ∧ Below w.heap.size w w' := by
  have hu47 := Try.underlying47
  have HR0 := Aside0.mk hr0
  have HC0 := Aside0.mk hc0
  clear hr0 hc0
  have HB := Aside0.mk (Below.refl w.heap.size w)
  have H : (if (l0.length : Int) = 0 then (some (0, 150)) else (if (l0.length : Int) > 4096 then (some (4096, 151)) else (graph_Check.l0 k l0 0 l0 (l0.length : Int) 0))) = some (r1, r2) := h
  clear h
  by_cases c2 : (l0.length : Int) = 0
  · rw [if_pos c2] at H
    have c2b0 : ((l0.length : Int) == 0) = true := beq_iff_eq.mpr c2
    have c2b1 : ((l0.length : Int) != 0) = false := bne_eq_false_iff_eq.mpr c2
    clear c2
    simp only [Option.some.injEq, Prod.mk.injEq] at H
    obtain ⟨rfl, rfl⟩ := H
    go_enter Try.func52, Try.ntmps52
    go_wp2
    go_ret2
    exact ⟨by first | rfl | (simp [errW_none, errW_some] <;> rfl) | (simp [*, errW_none, errW_some] <;> rfl), by repeat (first | (with_reducible first | exact HB.out | apply below_alloc | apply pw_below_drewN | apply below_drew1) | exact HB.out)⟩
  · rw [if_neg c2] at H
    have c2b0 : ((l0.length : Int) == 0) = false := beq_eq_false_iff_ne.mpr c2
    have c2b1 : ((l0.length : Int) != 0) = true := bne_iff_ne.mpr c2
    have c2b2 : ¬ (l0 = []) := fun h_ => c2 (by rw [h_]; rfl)
    by_cases c3 : (l0.length : Int) > 4096
    · rw [if_pos c3] at H
      have c3b0 : decide (4096 < (l0.length : Int)) = true := decide_eq_true c3
      have c3b1 : decide (4096 < l0.length) = true := decide_eq_true (by omega)
      clear c3
      simp only [Option.some.injEq, Prod.mk.injEq] at H
      obtain ⟨rfl, rfl⟩ := H
      go_enter Try.func52, Try.ntmps52
      go_wp2
      go_ret2
      exact ⟨by first | rfl | (simp [errW_none, errW_some] <;> rfl) | (simp [*, errW_none, errW_some] <;> rfl), by repeat (first | (with_reducible first | exact HB.out | apply below_alloc | apply pw_below_drewN | apply below_drew1) | exact HB.out)⟩
    · rw [if_neg c3] at H
      have c3b0 : decide (4096 < (l0.length : Int)) = false := decide_eq_false c3
      have c3b1 : decide (4096 < l0.length) = false := decide_eq_false (by omega)
      clear c3
      have H' := Aside0.mk H
      clear H
      go_enter Try.func52, Try.ntmps52
      go_wp2
      go_loopg [4, 16] k (fun kq v4 v16 w' => ∃ (x4_1 : Int) (x16_1 : Int), v4 = .int .i64 x4_1 ∧ v16 = .int .i64 x16_1 ∧ Aside0 (graph_Check.l0 kq l0 x4_1 l0 (l0.length : Int) x16_1 = some (r1, r2)) ∧ Aside0 (kq ≤ k) ∧ Aside0 (Below w.heap.size w w'))
      case atStart => exact ⟨(0), (0), (by first | rfl | (simp; done) | (simp [*]; done)), (by first | rfl | (simp; done) | (simp [*]; done)), H', ⟨Nat.le_refl _⟩, ⟨by repeat (first | (with_reducible first | exact HB.out | apply below_alloc | apply pw_below_drewN | apply below_drew1) | exact HB.out)⟩⟩
      case round =>
        clear H'
        try clear c2
        try clear c2b0
        try clear c2b1
        try clear c2b2
        try clear p2
        try clear c3
        try clear c3b0
        try clear c3b1
        obtain ⟨x4_1, x16_1, rfl, rfl, HA, HK1, HB⟩ := hrel
        cases gk with
        | zero => exact absurd HA.out (by simp [graph_Check.l0])
        | succ k1 =>
          have H := HA.out
          clear HA
          simp only [graph_Check.l0] at H
          by_cases c4 : x16_1 < (l0.length : Int)
          · rw [if_pos c4] at H
            have c4b0 : decide (x16_1 < (l0.length : Int)) = true := decide_eq_true c4
            clear c4
            by_cases c5 : 0 ≤ x16_1
            · rw [if_pos c5] at H
              have c5b0 : decide (0 ≤ x16_1) = true := decide_eq_true c5
              clear c5
              by_cases c6 : x16_1 < (l0.length : Int)
              · rw [if_pos c6] at H
                have c6b0 : decide (x16_1 < (l0.length : Int)) = true := decide_eq_true c6
                clear c6
                replace H := Option.bind_eq_some_iff.mp H
                obtain ⟨t213, A70, H⟩ := H
                replace H : (if t213 = 0 then (graph_Check.l0 k1 l0 (wrap64 (x4_1 + (((rd_T47 l0 x16_1).f0).length : Int))) l0 (l0.length : Int) (wrap64 (x16_1 + 1))) else (some (x16_1, t213))) = some (r1, r2) := H
                have A7 := Aside0.mk A70
                clear A70
                by_cases c8 : t213 = 0
                · rw [if_pos c8] at H
                  have c8b0 : (t213 == 0) = true := beq_iff_eq.mpr c8
                  have c8b1 : (t213 != 0) = false := bne_eq_false_iff_eq.mpr c8
                  clear c8
                  have H' := Aside0.mk H
                  clear H
                  have p211 : 0 ≤ (x16_1 : Int) := of_decide_eq_true (by first | (with_reducible assumption) | assumption)
                  have q211 : x16_1 < (l0.length : Int) := of_decide_eq_true (by first | (with_reducible assumption) | assumption)
                  obtain ⟨ad211, A211_0, c211_0, e211, hx211_0, hx211_1, hx211_2, hx211_3, hx211_4, hx211_5, hx211_6, hx211_7, hl211_0, hi211_0⟩ := at_T47 HR0.out x16_1 p211 q211
                  cases e211
                  replace hx211_0 := (HB.out.cell (World.block_lt_of_cell? w _ hx211_0)).trans hx211_0
                  replace hx211_1 := (HB.out.cell (World.block_lt_of_cell? w _ hx211_1)).trans hx211_1
                  replace hx211_2 := (HB.out.cell (World.block_lt_of_cell? w _ hx211_2)).trans hx211_2
                  replace hx211_3 := (HB.out.cell (World.block_lt_of_cell? w _ hx211_3)).trans hx211_3
                  replace hx211_4 := (HB.out.cell (World.block_lt_of_cell? w _ hx211_4)).trans hx211_4
                  replace hx211_5 := (HB.out.cell (World.block_lt_of_cell? w _ hx211_5)).trans hx211_5
                  replace hx211_6 := (HB.out.cell (World.block_lt_of_cell? w _ hx211_6)).trans hx211_6
                  replace hx211_7 := (HB.out.cell (World.block_lt_of_cell? w _ hx211_7)).trans hx211_7
                  have HR211_0 := Aside0.mk hi211_0
                  have HC211_0 := Aside0.mk hl211_0
                  clear hi211_0 hl211_0
                  replace p211 := eq_true p211
                  replace q211 := eq_true q211
                  go_wp2_with (first | ((with_reducible refine gate_dst (N := 6) rfl ?_); refine box_event ?hg (N := 6) ?hd (cs := #[.slice none 0 0, .int .i64 0, .int .u16 0, .int .u8 0, .int .u8 0, .int .u32 0, .int .i64 0, .int .i64 0]) (t := 47) ?hr ?_; (case hd => rfl); (case hg => rfl); (case hr => first | (go_simp; done) | (go_simp; rfl)); intro gb212 hg w9 hbox hb; have n0_ := Aside0.mk (below_step (by repeat (first | (with_reducible first | exact HB.out | apply below_alloc | apply pw_below_drewN | apply below_drew1) | exact HB.out)) hb); have n1_ := Aside0.mk (hbox); have n2_ := Aside0.mk ((by rw [hg]; exact (below_size (by repeat (first | (with_reducible first | exact HB.out | apply below_alloc | apply pw_below_drewN | apply below_drew1) | exact HB.out))) : w.heap.size ≤ gb212)); have n3_ := Aside0.mk ((by rw [hg]; exact (below_size (by repeat (first | (with_reducible first | exact HB.out | apply below_alloc | apply pw_below_drewN | apply below_drew1) | exact HB.out))) : w.heap.size ≤ gb212)); clear HB; have HB := n0_; have BK212 := n1_; have GW212 := n2_; have GE212 := n3_; clear n0_ n1_ n2_ n3_; clear hb hbox hg; have hcz10_0 : w9.cell? ⟨gb212, 0, none⟩ = some (.slice none 0 0) := (blk_cell BK212.out 0).trans rfl; have hcz10_1 : w9.cell? ⟨gb212, 1, none⟩ = some (.int .i64 0) := (blk_cell BK212.out 1).trans rfl; have hcz10_2 : w9.cell? ⟨gb212, 2, none⟩ = some (.int .u16 0) := (blk_cell BK212.out 2).trans rfl; have hcz10_3 : w9.cell? ⟨gb212, 3, none⟩ = some (.int .u8 0) := (blk_cell BK212.out 3).trans rfl; have hcz10_4 : w9.cell? ⟨gb212, 4, none⟩ = some (.int .u8 0) := (blk_cell BK212.out 4).trans rfl; have hcz10_5 : w9.cell? ⟨gb212, 5, none⟩ = some (.int .u32 0) := (blk_cell BK212.out 5).trans rfl; have hcz10_6 : w9.cell? ⟨gb212, 6, none⟩ = some (.int .i64 0) := (blk_cell BK212.out 6).trans rfl; have hcz10_7 : w9.cell? ⟨gb212, 7, none⟩ = some (.int .i64 0) := (blk_cell BK212.out 7).trans rfl; have hfz10_0 := blk_frozen BK212.out 0; have hfz10_1 := blk_frozen BK212.out 1; have hfz10_2 := blk_frozen BK212.out 2; have hfz10_3 := blk_frozen BK212.out 3; have hfz10_4 := blk_frozen BK212.out 4; have hfz10_5 := blk_frozen BK212.out 5; have hfz10_6 := blk_frozen BK212.out 6; have hfz10_7 := blk_frozen BK212.out 7) | ((with_reducible refine gate_callee (f := 82) rfl ?_); refine goesL_ (some 31) rfl rfl Try.func82 (by kernel_rfl) rfl #[.agg #[.slice A211_0 ((rd_T47 l0 x16_1).f0).length c211_0, .int .i64 ((rd_T47 l0 x16_1).f1), .int .u16 ((rd_T47 l0 x16_1).f2.f0), .int .u8 ((rd_T47 l0 x16_1).f2.f1), .int .u8 ((rd_T47 l0 x16_1).f2.f2), .int .u32 ((rd_T47 l0 x16_1).f2.f3), .int .i64 ((rd_T47 l0 x16_1).f3), .int .i64 ((rd_T47 l0 x16_1).f4)], .int .i64 x16_1, .int .i64 (wrap64 (x4_1 + (((rd_T47 l0 x16_1).f0).length : Int))), .int .i64 (l0.length : Int)] rfl (by (try simp only [List.map_toArray, List.map_cons, List.map_nil]); first | done | rfl | (simp only [List.length_drop, List.length_take]; rfl)) ?_; (with_reducible refine (graph_one.calls k1 _ _ ((rd_T47 l0 x16_1).f0) ((rd_T47 l0 x16_1).f1) ((rd_T47 l0 x16_1).f2.f0) ((rd_T47 l0 x16_1).f2.f1) ((rd_T47 l0 x16_1).f2.f2) ((rd_T47 l0 x16_1).f2.f3) ((rd_T47 l0 x16_1).f3) ((rd_T47 l0 x16_1).f4) x16_1 (wrap64 (x4_1 + (((rd_T47 l0 x16_1).f0).length : Int))) (l0.length : Int) t213 _ ?side1 ?side2 A7.out).mono ?_); (case side1 => exact Kd.C_below HR211_0.out (by repeat (first | (with_reducible first | exact HB.out | apply below_alloc | apply pw_below_drewN | apply below_drew1 | refine below_set ?_ GE212.out) | exact HB.out))); (case side2 => exact HC211_0.out); rintro e w11 ⟨rfl, hb⟩; refine ⟨_, rfl, ?_⟩; have n0_ := Aside0.mk (blk_below (g := gb212) (o := .cells #[.slice A211_0 ((rd_T47 l0 x16_1).f0).length c211_0, .int .i64 ((rd_T47 l0 x16_1).f1), .int .u16 ((rd_T47 l0 x16_1).f2.f0), .int .u8 ((rd_T47 l0 x16_1).f2.f1), .int .u8 ((rd_T47 l0 x16_1).f2.f2), .int .u32 ((rd_T47 l0 x16_1).f2.f3), .int .i64 ((rd_T47 l0 x16_1).f3), .int .i64 ((rd_T47 l0 x16_1).f4)] 47 (0, 0)) (by (with_reducible repeat (first | refine blk_drewN ?_ _ | refine blk_drew ?_ | refine blk_alloc ?_ _)); refine blk_put (cs := #[.slice A211_0 ((rd_T47 l0 x16_1).f0).length c211_0, .int .i64 ((rd_T47 l0 x16_1).f1), .int .u16 ((rd_T47 l0 x16_1).f2.f0), .int .u8 ((rd_T47 l0 x16_1).f2.f1), .int .u8 ((rd_T47 l0 x16_1).f2.f2), .int .u32 ((rd_T47 l0 x16_1).f2.f3), .int .i64 ((rd_T47 l0 x16_1).f3), .int .i64 0]) ?_ 7 _ rfl; (with_reducible repeat (first | refine blk_drewN ?_ _ | refine blk_drew ?_ | refine blk_alloc ?_ _)); refine blk_put (cs := #[.slice A211_0 ((rd_T47 l0 x16_1).f0).length c211_0, .int .i64 ((rd_T47 l0 x16_1).f1), .int .u16 ((rd_T47 l0 x16_1).f2.f0), .int .u8 ((rd_T47 l0 x16_1).f2.f1), .int .u8 ((rd_T47 l0 x16_1).f2.f2), .int .u32 ((rd_T47 l0 x16_1).f2.f3), .int .i64 0, .int .i64 0]) ?_ 6 _ rfl; (with_reducible repeat (first | refine blk_drewN ?_ _ | refine blk_drew ?_ | refine blk_alloc ?_ _)); refine blk_put (cs := #[.slice A211_0 ((rd_T47 l0 x16_1).f0).length c211_0, .int .i64 ((rd_T47 l0 x16_1).f1), .int .u16 ((rd_T47 l0 x16_1).f2.f0), .int .u8 ((rd_T47 l0 x16_1).f2.f1), .int .u8 ((rd_T47 l0 x16_1).f2.f2), .int .u32 0, .int .i64 0, .int .i64 0]) ?_ 5 _ rfl; (with_reducible repeat (first | refine blk_drewN ?_ _ | refine blk_drew ?_ | refine blk_alloc ?_ _)); refine blk_put (cs := #[.slice A211_0 ((rd_T47 l0 x16_1).f0).length c211_0, .int .i64 ((rd_T47 l0 x16_1).f1), .int .u16 ((rd_T47 l0 x16_1).f2.f0), .int .u8 ((rd_T47 l0 x16_1).f2.f1), .int .u8 0, .int .u32 0, .int .i64 0, .int .i64 0]) ?_ 4 _ rfl; (with_reducible repeat (first | refine blk_drewN ?_ _ | refine blk_drew ?_ | refine blk_alloc ?_ _)); refine blk_put (cs := #[.slice A211_0 ((rd_T47 l0 x16_1).f0).length c211_0, .int .i64 ((rd_T47 l0 x16_1).f1), .int .u16 ((rd_T47 l0 x16_1).f2.f0), .int .u8 0, .int .u8 0, .int .u32 0, .int .i64 0, .int .i64 0]) ?_ 3 _ rfl; (with_reducible repeat (first | refine blk_drewN ?_ _ | refine blk_drew ?_ | refine blk_alloc ?_ _)); refine blk_put (cs := #[.slice A211_0 ((rd_T47 l0 x16_1).f0).length c211_0, .int .i64 ((rd_T47 l0 x16_1).f1), .int .u16 0, .int .u8 0, .int .u8 0, .int .u32 0, .int .i64 0, .int .i64 0]) ?_ 2 _ rfl; (with_reducible repeat (first | refine blk_drewN ?_ _ | refine blk_drew ?_ | refine blk_alloc ?_ _)); refine blk_put (cs := #[.slice A211_0 ((rd_T47 l0 x16_1).f0).length c211_0, .int .i64 0, .int .u16 0, .int .u8 0, .int .u8 0, .int .u32 0, .int .i64 0, .int .i64 0]) ?_ 1 _ rfl; (with_reducible repeat (first | refine blk_drewN ?_ _ | refine blk_drew ?_ | refine blk_alloc ?_ _)); refine blk_put (cs := #[.slice none 0 0, .int .i64 0, .int .u16 0, .int .u8 0, .int .u8 0, .int .u32 0, .int .i64 0, .int .i64 0]) ?_ 0 _ rfl; (with_reducible repeat (first | refine blk_drewN ?_ _ | refine blk_drew ?_ | refine blk_alloc ?_ _)); exact BK212.out) hb); have n1_ := Aside0.mk (below_step (by repeat (first | (with_reducible first | exact HB.out | apply below_alloc | apply pw_below_drewN | apply below_drew1 | refine below_set ?_ GE212.out) | exact HB.out)) hb); clear BK212; clear HB; have BK212 := n0_; have HB := n1_; clear n0_ n1_; (try clear hb); (try clear hb2); (try clear hk); (try clear hi)))
                  go_roundg k1
                  case measure => have := HK1.out; omega
                  case rel => exact ⟨(wrap64 (x4_1 + (((rd_T47 l0 x16_1).f0).length : Int))), (wrap64 (x16_1 + 1)), (by first | rfl | (simp; done) | (simp [*]; done)), (by first | rfl | (simp; done) | (simp [*]; done)), H', ⟨by have := HK1.out; omega⟩, ⟨by repeat (first | (with_reducible first | exact HB.out | apply below_alloc | apply pw_below_drewN | apply below_drew1 | refine below_set ?_ GE212.out) | exact HB.out)⟩⟩
                · rw [if_neg c8] at H
                  have c8b0 : (t213 == 0) = false := beq_eq_false_iff_ne.mpr c8
                  have c8b1 : (t213 != 0) = true := bne_iff_ne.mpr c8
                  simp only [Option.some.injEq, Prod.mk.injEq] at H
                  obtain ⟨rfl, rfl⟩ := H
                  have p211 : 0 ≤ (x16_1 : Int) := of_decide_eq_true (by first | (with_reducible assumption) | assumption)
                  have q211 : x16_1 < (l0.length : Int) := of_decide_eq_true (by first | (with_reducible assumption) | assumption)
                  obtain ⟨ad211, A211_0, c211_0, e211, hx211_0, hx211_1, hx211_2, hx211_3, hx211_4, hx211_5, hx211_6, hx211_7, hl211_0, hi211_0⟩ := at_T47 HR0.out x16_1 p211 q211
                  cases e211
                  replace hx211_0 := (HB.out.cell (World.block_lt_of_cell? w _ hx211_0)).trans hx211_0
                  replace hx211_1 := (HB.out.cell (World.block_lt_of_cell? w _ hx211_1)).trans hx211_1
                  replace hx211_2 := (HB.out.cell (World.block_lt_of_cell? w _ hx211_2)).trans hx211_2
                  replace hx211_3 := (HB.out.cell (World.block_lt_of_cell? w _ hx211_3)).trans hx211_3
                  replace hx211_4 := (HB.out.cell (World.block_lt_of_cell? w _ hx211_4)).trans hx211_4
                  replace hx211_5 := (HB.out.cell (World.block_lt_of_cell? w _ hx211_5)).trans hx211_5
                  replace hx211_6 := (HB.out.cell (World.block_lt_of_cell? w _ hx211_6)).trans hx211_6
                  replace hx211_7 := (HB.out.cell (World.block_lt_of_cell? w _ hx211_7)).trans hx211_7
                  have HR211_0 := Aside0.mk hi211_0
                  have HC211_0 := Aside0.mk hl211_0
                  clear hi211_0 hl211_0
                  replace p211 := eq_true p211
                  replace q211 := eq_true q211
                  go_wp2_with (first | ((with_reducible refine gate_dst (N := 6) rfl ?_); refine box_event ?hg (N := 6) ?hd (cs := #[.slice none 0 0, .int .i64 0, .int .u16 0, .int .u8 0, .int .u8 0, .int .u32 0, .int .i64 0, .int .i64 0]) (t := 47) ?hr ?_; (case hd => rfl); (case hg => rfl); (case hr => first | (go_simp; done) | (go_simp; rfl)); intro gb212 hg w12 hbox hb; have n0_ := Aside0.mk (below_step (by repeat (first | (with_reducible first | exact HB.out | apply below_alloc | apply pw_below_drewN | apply below_drew1) | exact HB.out)) hb); have n1_ := Aside0.mk (hbox); have n2_ := Aside0.mk ((by rw [hg]; exact (below_size (by repeat (first | (with_reducible first | exact HB.out | apply below_alloc | apply pw_below_drewN | apply below_drew1) | exact HB.out))) : w.heap.size ≤ gb212)); have n3_ := Aside0.mk ((by rw [hg]; exact (below_size (by repeat (first | (with_reducible first | exact HB.out | apply below_alloc | apply pw_below_drewN | apply below_drew1) | exact HB.out))) : w.heap.size ≤ gb212)); clear HB; have HB := n0_; have BK212 := n1_; have GW212 := n2_; have GE212 := n3_; clear n0_ n1_ n2_ n3_; clear hb hbox hg; have hcz13_0 : w12.cell? ⟨gb212, 0, none⟩ = some (.slice none 0 0) := (blk_cell BK212.out 0).trans rfl; have hcz13_1 : w12.cell? ⟨gb212, 1, none⟩ = some (.int .i64 0) := (blk_cell BK212.out 1).trans rfl; have hcz13_2 : w12.cell? ⟨gb212, 2, none⟩ = some (.int .u16 0) := (blk_cell BK212.out 2).trans rfl; have hcz13_3 : w12.cell? ⟨gb212, 3, none⟩ = some (.int .u8 0) := (blk_cell BK212.out 3).trans rfl; have hcz13_4 : w12.cell? ⟨gb212, 4, none⟩ = some (.int .u8 0) := (blk_cell BK212.out 4).trans rfl; have hcz13_5 : w12.cell? ⟨gb212, 5, none⟩ = some (.int .u32 0) := (blk_cell BK212.out 5).trans rfl; have hcz13_6 : w12.cell? ⟨gb212, 6, none⟩ = some (.int .i64 0) := (blk_cell BK212.out 6).trans rfl; have hcz13_7 : w12.cell? ⟨gb212, 7, none⟩ = some (.int .i64 0) := (blk_cell BK212.out 7).trans rfl; have hfz13_0 := blk_frozen BK212.out 0; have hfz13_1 := blk_frozen BK212.out 1; have hfz13_2 := blk_frozen BK212.out 2; have hfz13_3 := blk_frozen BK212.out 3; have hfz13_4 := blk_frozen BK212.out 4; have hfz13_5 := blk_frozen BK212.out 5; have hfz13_6 := blk_frozen BK212.out 6; have hfz13_7 := blk_frozen BK212.out 7) | ((with_reducible refine gate_callee (f := 82) rfl ?_); refine goesL_ (some 31) rfl rfl Try.func82 (by kernel_rfl) rfl #[.agg #[.slice A211_0 ((rd_T47 l0 x16_1).f0).length c211_0, .int .i64 ((rd_T47 l0 x16_1).f1), .int .u16 ((rd_T47 l0 x16_1).f2.f0), .int .u8 ((rd_T47 l0 x16_1).f2.f1), .int .u8 ((rd_T47 l0 x16_1).f2.f2), .int .u32 ((rd_T47 l0 x16_1).f2.f3), .int .i64 ((rd_T47 l0 x16_1).f3), .int .i64 ((rd_T47 l0 x16_1).f4)], .int .i64 x16_1, .int .i64 (wrap64 (x4_1 + (((rd_T47 l0 x16_1).f0).length : Int))), .int .i64 (l0.length : Int)] rfl (by (try simp only [List.map_toArray, List.map_cons, List.map_nil]); first | done | rfl | (simp only [List.length_drop, List.length_take]; rfl)) ?_; (with_reducible refine (graph_one.calls k1 _ _ ((rd_T47 l0 x16_1).f0) ((rd_T47 l0 x16_1).f1) ((rd_T47 l0 x16_1).f2.f0) ((rd_T47 l0 x16_1).f2.f1) ((rd_T47 l0 x16_1).f2.f2) ((rd_T47 l0 x16_1).f2.f3) ((rd_T47 l0 x16_1).f3) ((rd_T47 l0 x16_1).f4) x16_1 (wrap64 (x4_1 + (((rd_T47 l0 x16_1).f0).length : Int))) (l0.length : Int) t213 _ ?side1 ?side2 A7.out).mono ?_); (case side1 => exact Kd.C_below HR211_0.out (by repeat (first | (with_reducible first | exact HB.out | apply below_alloc | apply pw_below_drewN | apply below_drew1 | refine below_set ?_ GE212.out) | exact HB.out))); (case side2 => exact HC211_0.out); rintro e w14 ⟨rfl, hb⟩; refine ⟨_, rfl, ?_⟩; have n0_ := Aside0.mk (blk_below (g := gb212) (o := .cells #[.slice A211_0 ((rd_T47 l0 x16_1).f0).length c211_0, .int .i64 ((rd_T47 l0 x16_1).f1), .int .u16 ((rd_T47 l0 x16_1).f2.f0), .int .u8 ((rd_T47 l0 x16_1).f2.f1), .int .u8 ((rd_T47 l0 x16_1).f2.f2), .int .u32 ((rd_T47 l0 x16_1).f2.f3), .int .i64 ((rd_T47 l0 x16_1).f3), .int .i64 ((rd_T47 l0 x16_1).f4)] 47 (0, 0)) (by (with_reducible repeat (first | refine blk_drewN ?_ _ | refine blk_drew ?_ | refine blk_alloc ?_ _)); refine blk_put (cs := #[.slice A211_0 ((rd_T47 l0 x16_1).f0).length c211_0, .int .i64 ((rd_T47 l0 x16_1).f1), .int .u16 ((rd_T47 l0 x16_1).f2.f0), .int .u8 ((rd_T47 l0 x16_1).f2.f1), .int .u8 ((rd_T47 l0 x16_1).f2.f2), .int .u32 ((rd_T47 l0 x16_1).f2.f3), .int .i64 ((rd_T47 l0 x16_1).f3), .int .i64 0]) ?_ 7 _ rfl; (with_reducible repeat (first | refine blk_drewN ?_ _ | refine blk_drew ?_ | refine blk_alloc ?_ _)); refine blk_put (cs := #[.slice A211_0 ((rd_T47 l0 x16_1).f0).length c211_0, .int .i64 ((rd_T47 l0 x16_1).f1), .int .u16 ((rd_T47 l0 x16_1).f2.f0), .int .u8 ((rd_T47 l0 x16_1).f2.f1), .int .u8 ((rd_T47 l0 x16_1).f2.f2), .int .u32 ((rd_T47 l0 x16_1).f2.f3), .int .i64 0, .int .i64 0]) ?_ 6 _ rfl; (with_reducible repeat (first | refine blk_drewN ?_ _ | refine blk_drew ?_ | refine blk_alloc ?_ _)); refine blk_put (cs := #[.slice A211_0 ((rd_T47 l0 x16_1).f0).length c211_0, .int .i64 ((rd_T47 l0 x16_1).f1), .int .u16 ((rd_T47 l0 x16_1).f2.f0), .int .u8 ((rd_T47 l0 x16_1).f2.f1), .int .u8 ((rd_T47 l0 x16_1).f2.f2), .int .u32 0, .int .i64 0, .int .i64 0]) ?_ 5 _ rfl; (with_reducible repeat (first | refine blk_drewN ?_ _ | refine blk_drew ?_ | refine blk_alloc ?_ _)); refine blk_put (cs := #[.slice A211_0 ((rd_T47 l0 x16_1).f0).length c211_0, .int .i64 ((rd_T47 l0 x16_1).f1), .int .u16 ((rd_T47 l0 x16_1).f2.f0), .int .u8 ((rd_T47 l0 x16_1).f2.f1), .int .u8 0, .int .u32 0, .int .i64 0, .int .i64 0]) ?_ 4 _ rfl; (with_reducible repeat (first | refine blk_drewN ?_ _ | refine blk_drew ?_ | refine blk_alloc ?_ _)); refine blk_put (cs := #[.slice A211_0 ((rd_T47 l0 x16_1).f0).length c211_0, .int .i64 ((rd_T47 l0 x16_1).f1), .int .u16 ((rd_T47 l0 x16_1).f2.f0), .int .u8 0, .int .u8 0, .int .u32 0, .int .i64 0, .int .i64 0]) ?_ 3 _ rfl; (with_reducible repeat (first | refine blk_drewN ?_ _ | refine blk_drew ?_ | refine blk_alloc ?_ _)); refine blk_put (cs := #[.slice A211_0 ((rd_T47 l0 x16_1).f0).length c211_0, .int .i64 ((rd_T47 l0 x16_1).f1), .int .u16 0, .int .u8 0, .int .u8 0, .int .u32 0, .int .i64 0, .int .i64 0]) ?_ 2 _ rfl; (with_reducible repeat (first | refine blk_drewN ?_ _ | refine blk_drew ?_ | refine blk_alloc ?_ _)); refine blk_put (cs := #[.slice A211_0 ((rd_T47 l0 x16_1).f0).length c211_0, .int .i64 0, .int .u16 0, .int .u8 0, .int .u8 0, .int .u32 0, .int .i64 0, .int .i64 0]) ?_ 1 _ rfl; (with_reducible repeat (first | refine blk_drewN ?_ _ | refine blk_drew ?_ | refine blk_alloc ?_ _)); refine blk_put (cs := #[.slice none 0 0, .int .i64 0, .int .u16 0, .int .u8 0, .int .u8 0, .int .u32 0, .int .i64 0, .int .i64 0]) ?_ 0 _ rfl; (with_reducible repeat (first | refine blk_drewN ?_ _ | refine blk_drew ?_ | refine blk_alloc ?_ _)); exact BK212.out) hb); have n1_ := Aside0.mk (below_step (by repeat (first | (with_reducible first | exact HB.out | apply below_alloc | apply pw_below_drewN | apply below_drew1 | refine below_set ?_ GE212.out) | exact HB.out)) hb); clear BK212; clear HB; have BK212 := n0_; have HB := n1_; clear n0_ n1_; (try clear hb); (try clear hb2); (try clear hk); (try clear hi)))
                  go_ret2
                  exact ⟨by first | rfl | (simp [errW_none, errW_some] <;> rfl) | (simp [*, errW_none, errW_some] <;> rfl), by repeat (first | (with_reducible first | exact HB.out | apply below_alloc | apply pw_below_drewN | apply below_drew1 | refine below_set ?_ GE212.out) | exact HB.out)⟩
              · rw [if_neg c6] at H
                exact absurd H (by simp)
            · rw [if_neg c5] at H
              exact absurd H (by simp)
          · rw [if_neg c4] at H
            have c4b0 : decide (x16_1 < (l0.length : Int)) = false := decide_eq_false c4
            clear c4
            simp only [Option.some.injEq, Prod.mk.injEq] at H
            obtain ⟨rfl, rfl⟩ := H
            go_wp2
            go_ret2
            exact ⟨by first | rfl | (simp [errW_none, errW_some] <;> rfl) | (simp [*, errW_none, errW_some] <;> rfl), by repeat (first | (with_reducible first | exact HB.out | apply below_alloc | apply pw_below_drewN | apply below_drew1) | exact HB.out)⟩
end Go.Proofs.Ytdkalnkplgfgoaa.PA
