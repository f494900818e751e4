/- Lemmas and walks for the statements of the texts ZPZ..: the declarations that they need, taken together by a program of this session. Conditions: as each says. -/
import Derived.Test.YtdkalnkplgfgoaaZPb
import Derived.Test.YtdkalnkplgfgoaaZPg
namespace Go.Proofs.Ytdkalnkplgfgoaa.Ln
open Go.RowKit Go.Maps Go.Proofs.YtdkalnkplgfgoaaW.PrintWords Go.Proofs.YtdkalnkplgfgoaaW.PrintLast Go.Proofs.YtdkalnkplgfgoaaW.PrintMore Go.Proofs.Ytdkalnkplgfgoaa.PA
set_option linter.unusedVariables false
set_option linter.unusedSimpArgs false
/-- A run's words. -/
structure Mach where
  a : Int
  x : Int
  m : List Int
def mcells (M : Mach) : Array Value := (.int .u32 M.a :: .int .u32 M.x :: M.m.map (fun v => Value.int .u32 v)).toArray
theorem mc_a (M : Mach) : (mcells M)[0]? = some (.int .u32 M.a) := rfl
theorem mc_x (M : Mach) : (mcells M)[1]? = some (.int .u32 M.x) := rfl
theorem mc_m (M : Mach) (j : Nat) (h : j < M.m.length) : (mcells M)[2 + j]? = some (.int .u32 (M.m.getD j 0)) := by
  unfold mcells
  rw [List.getElem?_toArray, Nat.add_comm 2 j, List.getElem?_cons_succ, List.getElem?_cons_succ, List.getElem?_map, List.getD_eq_getElem?_getD, List.getElem?_eq_getElem h]
  rfl
theorem mc_seta (M : Mach) (v : Int) : (mcells M).setIfInBounds 0 (.int .u32 v) = mcells { M with a := v } := by
  unfold mcells; rw [List.setIfInBounds_toArray]; rfl
theorem mc_setx (M : Mach) (v : Int) : (mcells M).setIfInBounds 1 (.int .u32 v) = mcells { M with x := v } := by
  unfold mcells; rw [List.setIfInBounds_toArray]; rfl
theorem mc_setm (M : Mach) (j : Nat) (v : Int) : (mcells M).setIfInBounds (2 + j) (.int .u32 v) = mcells { M with m := M.m.set j v } := by
  unfold mcells; rw [List.setIfInBounds_toArray, Nat.add_comm 2 j, List.set_cons_succ, List.set_cons_succ, ← List.map_set]
def rdP (p : List Int) (at_ size : Int) : Int × Int := (riddleref5_read.f 10 p at_ size).getD (0, 0)
def szP (c : Int) : Int := (riddleref5_size.f 10 c).getD 0
def opP (c a b : Int) : Int × Int := (riddleref5_Operate.f c a b).getD (0, 0)
def byX (c : Int) : Bool := (riddleref2_ByX.f 10 c).getD false
def ix (k : Int) : Nat := (Go.bits .and .u32 k 15).toNat
/-- One instruction: the words behind it, and the fault. -/
def stepF (i : S45) (p : List Int) (M : Mach) : Mach × Int :=
  let c := i.f0
  if c = 0 then ({ M with a := i.f3 }, 0)
  else if c = 32 ∨ c = 40 ∨ c = 48 then ({ M with a := (rdP p (IntKind.u64.wrap i.f3) (szP c)).1 }, (rdP p (IntKind.u64.wrap i.f3) (szP c)).2)
  else if c = 64 ∨ c = 72 ∨ c = 80 then ({ M with a := (rdP p (IntKind.u64.wrap (IntKind.u64.wrap i.f3 + IntKind.u64.wrap M.x)) (szP c)).1 }, (rdP p (IntKind.u64.wrap (IntKind.u64.wrap i.f3 + IntKind.u64.wrap M.x)) (szP c)).2)
  else if c = 96 then ({ M with a := M.m.getD (ix i.f3) 0 }, 0)
  else if c = 128 then ({ M with a := IntKind.u32.wrap (p.length : Int) }, 0)
  else if c = 1 then ({ M with x := i.f3 }, 0)
  else if c = 97 then ({ M with x := M.m.getD (ix i.f3) 0 }, 0)
  else if c = 129 then ({ M with x := IntKind.u32.wrap (p.length : Int) }, 0)
  else if c = 177 then ({ M with x := IntKind.u32.wrap (4 * Go.bits .and .u32 (rdP p (IntKind.u64.wrap i.f3) 1).1 15) }, (rdP p (IntKind.u64.wrap i.f3) 1).2)
  else if c = 2 then ({ M with m := M.m.set (ix i.f3) M.a }, 0)
  else if c = 3 then ({ M with m := M.m.set (ix i.f3) M.x }, 0)
  else if c = 132 then ({ M with a := IntKind.u32.wrap (-M.a) }, 0)
  else if c = 7 then ({ M with x := M.a }, 0)
  else if c = 135 then ({ M with a := M.x }, 0)
  else ({ M with a := (opP c M.a (if byX c then M.x else i.f3)).1 }, (opP c M.a (if byX c then M.x else i.f3)).2)
set_option maxHeartbeats 4000000 in
set_option maxRecDepth 100000 in
theorem step_0 (w : World) (gm : Nat) (M : Mach) (i1 i2 k : Int) (p : List Int) (A : Option Addr) (c : Nat) (hM : w.heap[gm]? = some (.cells (mcells M) 97 (0, 0))) (hl : M.m.length = 16) :
    Calls Try.prog 63 #[.pointer (some ⟨gm, 0, none⟩), .agg #[.int .u16 0, .int .u8 i1, .int .u8 i2, .int .u32 k], .slice A p.length c] w fun e w' => e = .returned (.int .i64 0) ∧ w'.heap[gm]? = some (.cells (mcells { M with a := k }) 97 (0, 0)) ∧ Kp (fun k => k = gm) w w' := by
  have ca := (blk_cell hM 0).trans (mc_a M)
  have fa := blk_frozen hM 0
  have cx := (blk_cell hM 1).trans (mc_x M)
  have fx := blk_frozen hM 1
  have hlt := blk_lt hM
  have HM := Aside0.mk hM
  clear hM
  go_enter Try.func63, Try.ntmps63
  go_wp2
  go_ret
  exact ⟨rfl, blk_below (blk_put HM.out 0 _ (mc_seta M _)) (below_alloc (Below.refl _ _) _), (Kp.set (S := fun k => k = gm) (g := gm) (Kp.refl _ w) (.inl rfl) _ _).below (below_alloc (Below.refl _ _) _)⟩
set_option maxHeartbeats 4000000 in
set_option maxRecDepth 100000 in
theorem step_1 (w : World) (gm : Nat) (M : Mach) (i1 i2 k : Int) (p : List Int) (A : Option Addr) (c : Nat) (hM : w.heap[gm]? = some (.cells (mcells M) 97 (0, 0))) (hl : M.m.length = 16) :
    Calls Try.prog 63 #[.pointer (some ⟨gm, 0, none⟩), .agg #[.int .u16 1, .int .u8 i1, .int .u8 i2, .int .u32 k], .slice A p.length c] w fun e w' => e = .returned (.int .i64 0) ∧ w'.heap[gm]? = some (.cells (mcells { M with x := k }) 97 (0, 0)) ∧ Kp (fun k => k = gm) w w' := by
  have ca := (blk_cell hM 0).trans (mc_a M)
  have fa := blk_frozen hM 0
  have cx := (blk_cell hM 1).trans (mc_x M)
  have fx := blk_frozen hM 1
  have hlt := blk_lt hM
  have HM := Aside0.mk hM
  clear hM
  go_enter Try.func63, Try.ntmps63
  go_wp2
  go_ret
  exact ⟨rfl, blk_below (blk_put HM.out 1 _ (mc_setx M _)) (below_alloc (Below.refl _ _) _), (Kp.set (S := fun k => k = gm) (g := gm) (Kp.refl _ w) (.inl rfl) _ _).below (below_alloc (Below.refl _ _) _)⟩
set_option maxHeartbeats 4000000 in
set_option maxRecDepth 100000 in
theorem step_7 (w : World) (gm : Nat) (M : Mach) (i1 i2 k : Int) (p : List Int) (A : Option Addr) (c : Nat) (hM : w.heap[gm]? = some (.cells (mcells M) 97 (0, 0))) (hl : M.m.length = 16) :
    Calls Try.prog 63 #[.pointer (some ⟨gm, 0, none⟩), .agg #[.int .u16 7, .int .u8 i1, .int .u8 i2, .int .u32 k], .slice A p.length c] w fun e w' => e = .returned (.int .i64 0) ∧ w'.heap[gm]? = some (.cells (mcells { M with x := M.a }) 97 (0, 0)) ∧ Kp (fun k => k = gm) w w' := by
  have ca := (blk_cell hM 0).trans (mc_a M)
  have fa := blk_frozen hM 0
  have cx := (blk_cell hM 1).trans (mc_x M)
  have fx := blk_frozen hM 1
  have hlt := blk_lt hM
  have HM := Aside0.mk hM
  clear hM
  go_enter Try.func63, Try.ntmps63
  go_wp2
  go_ret
  exact ⟨rfl, blk_below (blk_put HM.out 1 _ (mc_setx M _)) (below_alloc (Below.refl _ _) _), (Kp.set (S := fun k => k = gm) (g := gm) (Kp.refl _ w) (.inl rfl) _ _).below (below_alloc (Below.refl _ _) _)⟩
set_option maxHeartbeats 4000000 in
set_option maxRecDepth 100000 in
theorem step_135 (w : World) (gm : Nat) (M : Mach) (i1 i2 k : Int) (p : List Int) (A : Option Addr) (c : Nat) (hM : w.heap[gm]? = some (.cells (mcells M) 97 (0, 0))) (hl : M.m.length = 16) :
    Calls Try.prog 63 #[.pointer (some ⟨gm, 0, none⟩), .agg #[.int .u16 135, .int .u8 i1, .int .u8 i2, .int .u32 k], .slice A p.length c] w fun e w' => e = .returned (.int .i64 0) ∧ w'.heap[gm]? = some (.cells (mcells { M with a := M.x }) 97 (0, 0)) ∧ Kp (fun k => k = gm) w w' := by
  have ca := (blk_cell hM 0).trans (mc_a M)
  have fa := blk_frozen hM 0
  have cx := (blk_cell hM 1).trans (mc_x M)
  have fx := blk_frozen hM 1
  have hlt := blk_lt hM
  have HM := Aside0.mk hM
  clear hM
  go_enter Try.func63, Try.ntmps63
  go_wp2
  go_ret
  exact ⟨rfl, blk_below (blk_put HM.out 0 _ (mc_seta M _)) (below_alloc (Below.refl _ _) _), (Kp.set (S := fun k => k = gm) (g := gm) (Kp.refl _ w) (.inl rfl) _ _).below (below_alloc (Below.refl _ _) _)⟩
set_option maxHeartbeats 4000000 in
set_option maxRecDepth 100000 in
theorem step_132 (w : World) (gm : Nat) (M : Mach) (i1 i2 k : Int) (p : List Int) (A : Option Addr) (c : Nat) (hM : w.heap[gm]? = some (.cells (mcells M) 97 (0, 0))) (hl : M.m.length = 16) :
    Calls Try.prog 63 #[.pointer (some ⟨gm, 0, none⟩), .agg #[.int .u16 132, .int .u8 i1, .int .u8 i2, .int .u32 k], .slice A p.length c] w fun e w' => e = .returned (.int .i64 0) ∧ w'.heap[gm]? = some (.cells (mcells { M with a := IntKind.u32.wrap (-M.a) }) 97 (0, 0)) ∧ Kp (fun k => k = gm) w w' := by
  have ca := (blk_cell hM 0).trans (mc_a M)
  have fa := blk_frozen hM 0
  have cx := (blk_cell hM 1).trans (mc_x M)
  have fx := blk_frozen hM 1
  have hlt := blk_lt hM
  have HM := Aside0.mk hM
  clear hM
  go_enter Try.func63, Try.ntmps63
  go_wp2
  go_ret
  exact ⟨rfl, blk_below (blk_put HM.out 0 _ (mc_seta M _)) (below_alloc (Below.refl _ _) _), (Kp.set (S := fun k => k = gm) (g := gm) (Kp.refl _ w) (.inl rfl) _ _).below (below_alloc (Below.refl _ _) _)⟩
set_option maxHeartbeats 4000000 in
set_option maxRecDepth 100000 in
theorem step_128 (w : World) (gm : Nat) (M : Mach) (i1 i2 k : Int) (p : List Int) (A : Option Addr) (c : Nat) (hM : w.heap[gm]? = some (.cells (mcells M) 97 (0, 0))) (hl : M.m.length = 16) :
    Calls Try.prog 63 #[.pointer (some ⟨gm, 0, none⟩), .agg #[.int .u16 128, .int .u8 i1, .int .u8 i2, .int .u32 k], .slice A p.length c] w fun e w' => e = .returned (.int .i64 0) ∧ w'.heap[gm]? = some (.cells (mcells { M with a := IntKind.u32.wrap (p.length : Int) }) 97 (0, 0)) ∧ Kp (fun k => k = gm) w w' := by
  have ca := (blk_cell hM 0).trans (mc_a M)
  have fa := blk_frozen hM 0
  have cx := (blk_cell hM 1).trans (mc_x M)
  have fx := blk_frozen hM 1
  have hlt := blk_lt hM
  have HM := Aside0.mk hM
  clear hM
  go_enter Try.func63, Try.ntmps63
  go_wp2
  go_ret
  exact ⟨rfl, blk_below (blk_put HM.out 0 _ (mc_seta M _)) (below_alloc (Below.refl _ _) _), (Kp.set (S := fun k => k = gm) (g := gm) (Kp.refl _ w) (.inl rfl) _ _).below (below_alloc (Below.refl _ _) _)⟩
set_option maxHeartbeats 4000000 in
set_option maxRecDepth 100000 in
theorem step_129 (w : World) (gm : Nat) (M : Mach) (i1 i2 k : Int) (p : List Int) (A : Option Addr) (c : Nat) (hM : w.heap[gm]? = some (.cells (mcells M) 97 (0, 0))) (hl : M.m.length = 16) :
    Calls Try.prog 63 #[.pointer (some ⟨gm, 0, none⟩), .agg #[.int .u16 129, .int .u8 i1, .int .u8 i2, .int .u32 k], .slice A p.length c] w fun e w' => e = .returned (.int .i64 0) ∧ w'.heap[gm]? = some (.cells (mcells { M with x := IntKind.u32.wrap (p.length : Int) }) 97 (0, 0)) ∧ Kp (fun k => k = gm) w w' := by
  have ca := (blk_cell hM 0).trans (mc_a M)
  have fa := blk_frozen hM 0
  have cx := (blk_cell hM 1).trans (mc_x M)
  have fx := blk_frozen hM 1
  have hlt := blk_lt hM
  have HM := Aside0.mk hM
  clear hM
  go_enter Try.func63, Try.ntmps63
  go_wp2
  go_ret
  exact ⟨rfl, blk_below (blk_put HM.out 1 _ (mc_setx M _)) (below_alloc (Below.refl _ _) _), (Kp.set (S := fun k => k = gm) (g := gm) (Kp.refl _ w) (.inl rfl) _ _).below (below_alloc (Below.refl _ _) _)⟩
set_option maxHeartbeats 4000000 in
set_option maxRecDepth 100000 in
theorem step_96 (w : World) (gm : Nat) (M : Mach) (i1 i2 k : Int) (p : List Int) (A : Option Addr) (c : Nat) (hM : w.heap[gm]? = some (.cells (mcells M) 97 (0, 0))) (hl : M.m.length = 16) (v : Int) (hv : M.m.getD (ix k) 0 = v) (hk0 : 0 ≤ bits BinOp.and IntKind.u32 k 15) (hk1 : bits BinOp.and IntKind.u32 k 15 < 16) :
    Calls Try.prog 63 #[.pointer (some ⟨gm, 0, none⟩), .agg #[.int .u16 96, .int .u8 i1, .int .u8 i2, .int .u32 k], .slice A p.length c] w fun e w' => e = .returned (.int .i64 0) ∧ w'.heap[gm]? = some (.cells (mcells { M with a := v }) 97 (0, 0)) ∧ Kp (fun k => k = gm) w w' := by
  have ca := (blk_cell hM 0).trans (mc_a M)
  have fa := blk_frozen hM 0
  have cx := (blk_cell hM 1).trans (mc_x M)
  have fx := blk_frozen hM 1
  have b0 : 0 ≤ bits BinOp.and IntKind.u32 k 15 := hk0
  have b1 : bits BinOp.and IntKind.u32 k 15 < 16 := hk1
  have cm := (blk_cell hM (2 + (bits BinOp.and IntKind.u32 k 15).toNat)).trans ((mc_m M (bits BinOp.and IntKind.u32 k 15).toNat (by rw [hl]; omega)).trans (congrArg (fun z => some (Value.int .u32 z)) hv))
  have fm := blk_frozen hM (2 + (bits BinOp.and IntKind.u32 k 15).toNat)
  have hlt := blk_lt hM
  have HM := Aside0.mk hM
  clear hM
  go_enter Try.func63, Try.ntmps63
  go_wp2
  go_region
  go_wp2
  go_ret
  exact ⟨rfl, blk_below (blk_put HM.out 0 _ (mc_seta M _)) (below_drew1 (below_alloc (Below.refl _ _) _)), (Kp.set (S := fun k => k = gm) (g := gm) (Kp.refl _ w) (.inl rfl) _ _).below (below_drew1 (below_alloc (Below.refl _ _) _))⟩
set_option maxHeartbeats 4000000 in
set_option maxRecDepth 100000 in
theorem step_97 (w : World) (gm : Nat) (M : Mach) (i1 i2 k : Int) (p : List Int) (A : Option Addr) (c : Nat) (hM : w.heap[gm]? = some (.cells (mcells M) 97 (0, 0))) (hl : M.m.length = 16) (v : Int) (hv : M.m.getD (ix k) 0 = v) (hk0 : 0 ≤ bits BinOp.and IntKind.u32 k 15) (hk1 : bits BinOp.and IntKind.u32 k 15 < 16) :
    Calls Try.prog 63 #[.pointer (some ⟨gm, 0, none⟩), .agg #[.int .u16 97, .int .u8 i1, .int .u8 i2, .int .u32 k], .slice A p.length c] w fun e w' => e = .returned (.int .i64 0) ∧ w'.heap[gm]? = some (.cells (mcells { M with x := v }) 97 (0, 0)) ∧ Kp (fun k => k = gm) w w' := by
  have ca := (blk_cell hM 0).trans (mc_a M)
  have fa := blk_frozen hM 0
  have cx := (blk_cell hM 1).trans (mc_x M)
  have fx := blk_frozen hM 1
  have b0 : 0 ≤ bits BinOp.and IntKind.u32 k 15 := hk0
  have b1 : bits BinOp.and IntKind.u32 k 15 < 16 := hk1
  have cm := (blk_cell hM (2 + (bits BinOp.and IntKind.u32 k 15).toNat)).trans ((mc_m M (bits BinOp.and IntKind.u32 k 15).toNat (by rw [hl]; omega)).trans (congrArg (fun z => some (Value.int .u32 z)) hv))
  have fm := blk_frozen hM (2 + (bits BinOp.and IntKind.u32 k 15).toNat)
  have hlt := blk_lt hM
  have HM := Aside0.mk hM
  clear hM
  go_enter Try.func63, Try.ntmps63
  go_wp2
  go_region
  go_wp2
  go_ret
  exact ⟨rfl, blk_below (blk_put HM.out 1 _ (mc_setx M _)) (below_drew1 (below_alloc (Below.refl _ _) _)), (Kp.set (S := fun k => k = gm) (g := gm) (Kp.refl _ w) (.inl rfl) _ _).below (below_drew1 (below_alloc (Below.refl _ _) _))⟩
set_option maxHeartbeats 4000000 in
set_option maxRecDepth 100000 in
theorem step_2 (w : World) (gm : Nat) (M : Mach) (i1 i2 k : Int) (p : List Int) (A : Option Addr) (c : Nat) (hM : w.heap[gm]? = some (.cells (mcells M) 97 (0, 0))) (hl : M.m.length = 16) (v : Int) (hv : M.m.getD (ix k) 0 = v) (hk0 : 0 ≤ bits BinOp.and IntKind.u32 k 15) (hk1 : bits BinOp.and IntKind.u32 k 15 < 16) :
    Calls Try.prog 63 #[.pointer (some ⟨gm, 0, none⟩), .agg #[.int .u16 2, .int .u8 i1, .int .u8 i2, .int .u32 k], .slice A p.length c] w fun e w' => e = .returned (.int .i64 0) ∧ w'.heap[gm]? = some (.cells (mcells { M with m := M.m.set (ix k) M.a }) 97 (0, 0)) ∧ Kp (fun k => k = gm) w w' := by
  have ca := (blk_cell hM 0).trans (mc_a M)
  have fa := blk_frozen hM 0
  have cx := (blk_cell hM 1).trans (mc_x M)
  have fx := blk_frozen hM 1
  have b0 : 0 ≤ bits BinOp.and IntKind.u32 k 15 := hk0
  have b1 : bits BinOp.and IntKind.u32 k 15 < 16 := hk1
  have cm := (blk_cell hM (2 + (bits BinOp.and IntKind.u32 k 15).toNat)).trans ((mc_m M (bits BinOp.and IntKind.u32 k 15).toNat (by rw [hl]; omega)).trans (congrArg (fun z => some (Value.int .u32 z)) hv))
  have fm := blk_frozen hM (2 + (bits BinOp.and IntKind.u32 k 15).toNat)
  have hlt := blk_lt hM
  have HM := Aside0.mk hM
  clear hM
  go_enter Try.func63, Try.ntmps63
  go_wp2
  go_region
  go_wp2
  go_ret
  exact ⟨rfl, blk_below (blk_put HM.out (2 + (bits BinOp.and IntKind.u32 k 15).toNat) _ (mc_setm M _ _)) (below_drew1 (below_alloc (Below.refl _ _) _)), (Kp.set (S := fun k => k = gm) (g := gm) (Kp.refl _ w) (.inl rfl) _ _).below (below_drew1 (below_alloc (Below.refl _ _) _))⟩
set_option maxHeartbeats 4000000 in
set_option maxRecDepth 100000 in
theorem step_3 (w : World) (gm : Nat) (M : Mach) (i1 i2 k : Int) (p : List Int) (A : Option Addr) (c : Nat) (hM : w.heap[gm]? = some (.cells (mcells M) 97 (0, 0))) (hl : M.m.length = 16) (v : Int) (hv : M.m.getD (ix k) 0 = v) (hk0 : 0 ≤ bits BinOp.and IntKind.u32 k 15) (hk1 : bits BinOp.and IntKind.u32 k 15 < 16) :
    Calls Try.prog 63 #[.pointer (some ⟨gm, 0, none⟩), .agg #[.int .u16 3, .int .u8 i1, .int .u8 i2, .int .u32 k], .slice A p.length c] w fun e w' => e = .returned (.int .i64 0) ∧ w'.heap[gm]? = some (.cells (mcells { M with m := M.m.set (ix k) M.x }) 97 (0, 0)) ∧ Kp (fun k => k = gm) w w' := by
  have ca := (blk_cell hM 0).trans (mc_a M)
  have fa := blk_frozen hM 0
  have cx := (blk_cell hM 1).trans (mc_x M)
  have fx := blk_frozen hM 1
  have b0 : 0 ≤ bits BinOp.and IntKind.u32 k 15 := hk0
  have b1 : bits BinOp.and IntKind.u32 k 15 < 16 := hk1
  have cm := (blk_cell hM (2 + (bits BinOp.and IntKind.u32 k 15).toNat)).trans ((mc_m M (bits BinOp.and IntKind.u32 k 15).toNat (by rw [hl]; omega)).trans (congrArg (fun z => some (Value.int .u32 z)) hv))
  have fm := blk_frozen hM (2 + (bits BinOp.and IntKind.u32 k 15).toNat)
  have hlt := blk_lt hM
  have HM := Aside0.mk hM
  clear hM
  go_enter Try.func63, Try.ntmps63
  go_wp2
  go_region
  go_wp2
  go_ret
  exact ⟨rfl, blk_below (blk_put HM.out (2 + (bits BinOp.and IntKind.u32 k 15).toNat) _ (mc_setm M _ _)) (below_drew1 (below_alloc (Below.refl _ _) _)), (Kp.set (S := fun k => k = gm) (g := gm) (Kp.refl _ w) (.inl rfl) _ _).below (below_drew1 (below_alloc (Below.refl _ _) _))⟩
set_option maxHeartbeats 4000000 in
set_option maxRecDepth 100000 in
theorem step_32 (w : World) (gm : Nat) (M : Mach) (v f s i1 i2 k : Int) (p : List Int) (A : Option Addr) (c : Nat) (hM : w.heap[gm]? = some (.cells (mcells M) 97 (0, 0))) (hl : M.m.length = 16) (hp : Kd.C (Kd.int .u8) w A p.length p) (hc : p.length ≤ c) (hs : riddleref5_size.f 10 32 = some s) (hr : riddleref5_read.f 10 p (IntKind.u64.wrap k) s = some (v, f)) :
    Calls Try.prog 63 #[.pointer (some ⟨gm, 0, none⟩), .agg #[.int .u16 32, .int .u8 i1, .int .u8 i2, .int .u32 k], .slice A p.length c] w fun e w' => e = .returned (.int .i64 f) ∧ w'.heap[gm]? = some (.cells (mcells { M with a := v }) 97 (0, 0)) ∧ Kp (fun k => k = gm) w w' := by
  have ca := (blk_cell hM 0).trans (mc_a M)
  have fa := blk_frozen hM 0
  have cx := (blk_cell hM 1).trans (mc_x M)
  have fx := blk_frozen hM 1
  have hlt := blk_lt hM
  have HM := Aside0.mk hM
  clear hM
  go_enter Try.func63, Try.ntmps63
  have HC := Aside0.mk hc
  have KK : ∀ W, Below (w.alloc (.cells #[.int .u16 32, .int .u8 i1, .int .u8 i2, .int .u32 k] 45)).heap.size (w.alloc (.cells #[.int .u16 32, .int .u8 i1, .int .u8 i2, .int .u32 k] 45)) W → W.cell? ⟨w.heap.size, 0, none⟩ = some (.int .u16 32) ∧ W.cell? ⟨w.heap.size, 3, none⟩ = some (.int .u32 k) ∧ W.cell? ⟨gm, 0, none⟩ = some (.int .u32 M.a) ∧ W.cell? ⟨gm, 1, none⟩ = some (.int .u32 M.x) ∧ W.frozen? ⟨gm, 0, none⟩ = false ∧ W.frozen? ⟨gm, 1, none⟩ = false := by
    intro W hb
    have b0 := blk_below (blk_new w (.cells #[.int .u16 32, .int .u8 i1, .int .u8 i2, .int .u32 k] 45)) hb
    have bm := blk_below (blk_below HM.out (below_alloc (Below.refl _ _) _)) hb
    exact ⟨(blk_cell b0 0).trans rfl, (blk_cell b0 3).trans rfl, (blk_cell bm 0).trans rfl, (blk_cell bm 1).trans rfl, blk_frozen bm 0, blk_frozen bm 1⟩
  have KC : ∀ W, Below (w.alloc (.cells #[.int .u16 32, .int .u8 i1, .int .u8 i2, .int .u32 k] 45)).heap.size (w.alloc (.cells #[.int .u16 32, .int .u8 i1, .int .u8 i2, .int .u32 k] 45)) W → Kd.C (Kd.int .u8) W A p.length p := by
    intro W hb
    exact Kd.C_below (Kd.C_alloc hp _) hb
  have KK := Aside0.mk KK
  have KC := Aside0.mk KC
  have HS := Aside0.mk hs
  have HR := Aside0.mk hr
  clear hs hr hp hc
  go_wp2
  refine start_ (n := 16) (S := fun w' => w'.cell? ⟨w.heap.size, 0, none⟩ = some (.int .u16 32) ∧ w'.cell? ⟨w.heap.size, 3, none⟩ = some (.int .u32 k) ∧ w'.cell? ⟨gm, 0, none⟩ = some (.int .u32 M.a) ∧ w'.cell? ⟨gm, 1, none⟩ = some (.int .u32 M.x) ∧ w'.frozen? ⟨gm, 0, none⟩ = false ∧ w'.frozen? ⟨gm, 1, none⟩ = false) (ds := [14]) #[false, false, false, false, false, false, false, false, false, false, false, false, false, false, false, false] (by kernel_rfl) rfl rfl ⟨(KK.out _ (by repeat (first | (with_reducible exact Below.refl _ _) | apply pw_below_drewN | apply below_drew1))).1, (KK.out _ (by repeat (first | (with_reducible exact Below.refl _ _) | apply pw_below_drewN | apply below_drew1))).2.1, (KK.out _ (by repeat (first | (with_reducible exact Below.refl _ _) | apply pw_below_drewN | apply below_drew1))).2.2.1, (KK.out _ (by repeat (first | (with_reducible exact Below.refl _ _) | apply pw_below_drewN | apply below_drew1))).2.2.2.1, (KK.out _ (by repeat (first | (with_reducible exact Below.refl _ _) | apply pw_below_drewN | apply below_drew1))).2.2.2.2.1, (KK.out _ (by repeat (first | (with_reducible exact Below.refl _ _) | apply pw_below_drewN | apply below_drew1))).2.2.2.2.2⟩ (fun hHeld => ?_)
  refine pure_ (i := 0) (N := some 46) (v := ?_) (a' := ?_) #[true, false, false, false, false, false, false, false, false, false, false, false, false, false, false, false] rfl rfl (by kernel_rfl) (fun _ _ _ h => h) (Or.inl ⟨by rfl, ?_⟩) ?_ ?_
  rotate_left
  · intro w'
    go_simp
    with_reducible rfl
  rotate_left
  · simp only [Act.put, List.setIfInBounds_toArray, List.set_cons_zero, List.set_cons_succ, i64_w, i32_w]
    rfl
  refine pure_ (i := 1) (N := some 47) (v := ?_) (a' := ?_) #[true, true, false, false, false, false, false, false, false, false, false, false, false, false, false, false] rfl rfl (by kernel_rfl) (fun _ _ _ h => h) (Or.inl ⟨by rfl, ?_⟩) ?_ ?_
  rotate_left
  · intro w'
    go_simp
    with_reducible rfl
  rotate_left
  · simp only [Act.put, List.setIfInBounds_toArray, List.set_cons_zero, List.set_cons_succ, i64_w, i32_w]
    rfl
  refine pure_ (i := 2) (N := some 48) (v := ?_) (a' := ?_) #[true, true, true, false, false, false, false, false, false, false, false, false, false, false, false, false] rfl rfl (by kernel_rfl) (fun _ _ _ h => h) (Or.inl ⟨by rfl, ?_⟩) ?_ ?_
  rotate_left
  · intro w'
    go_simp
    with_reducible rfl
  rotate_left
  · simp only [Act.put, List.setIfInBounds_toArray, List.set_cons_zero, List.set_cons_succ, i64_w, i32_w]
    rfl
  refine pure_ (i := 5) (N := some 51) (v := ?_) (a' := ?_) #[true, true, true, false, false, true, false, false, false, false, false, false, false, false, false, false] rfl rfl (by kernel_rfl) (fun _ _ _ h => h) (Or.inl ⟨by rfl, ?_⟩) ?_ ?_
  rotate_left
  · intro w'
    go_simp
    with_reducible rfl
  rotate_left
  · simp only [Act.put, List.setIfInBounds_toArray, List.set_cons_zero, List.set_cons_succ, i64_w, i32_w]
    rfl
  refine take_ (i := 3) (N := some 49) (v := ?_) (a' := ?_) #[true, true, true, true, false, true, false, false, false, false, false, false, false, false, false, false] rfl rfl (by kernel_rfl) (fun _ _ _ h => h) (Or.inl ⟨by rfl, ?_⟩) hHeld ?_ ?_
  rotate_left
  · rintro w' ⟨s0, s1, s2, s3, s4, s5⟩
    go_simp
    with_reducible rfl
  rotate_left
  · simp only [Act.put, List.setIfInBounds_toArray, List.set_cons_zero, List.set_cons_succ, i64_w, i32_w]
    rfl
  refine pure_ (i := 4) (N := some 50) (v := ?_) (a' := ?_) #[true, true, true, true, true, true, false, false, false, false, false, false, false, false, false, false] rfl rfl (by kernel_rfl) (fun _ _ _ h => h) (Or.inl ⟨by rfl, ?_⟩) ?_ ?_
  rotate_left
  · intro w'
    go_simp
    with_reducible rfl
  rotate_left
  · simp only [Act.put, List.setIfInBounds_toArray, List.set_cons_zero, List.set_cons_succ, i64_w, i32_w]
    rfl
  refine take_ (i := 6) (N := some 52) (v := ?_) (a' := ?_) #[true, true, true, true, true, true, true, false, false, false, false, false, false, false, false, false] rfl rfl (by kernel_rfl) (fun _ _ _ h => h) (Or.inl ⟨by rfl, ?_⟩) hHeld ?_ ?_
  rotate_left
  · rintro w' ⟨s0, s1, s2, s3, s4, s5⟩
    go_simp
    with_reducible rfl
  rotate_left
  · simp only [Act.put, List.setIfInBounds_toArray, List.set_cons_zero, List.set_cons_succ, i64_w, i32_w]
    rfl
  refine one_ (i := 7) (N := some 53) #[true, true, true, true, true, true, true, true, false, false, false, false, false, false, false, false] rfl rfl (by kernel_rfl) (by decide) (fun K hK => ?_)
  refine goes_ Try.func96 (by kernel_rfl) rfl #[.int .u16 32] (by rfl) rfl rfl (by simp only [List.map_toArray, List.map_cons, List.map_nil]; rfl) ?_
  with_reducible refine (riddleref5_size.calls 10 _ _ _ HS.out).mono ?_
  rintro e w3 ⟨rfl, ⟨nd, rfl⟩⟩
  refine ⟨_, rfl, ?_⟩
  refine hK.out _ _ ⟨(KK.out _ (by repeat (first | (with_reducible exact Below.refl _ _) | apply pw_below_drewN | apply below_drew1))).1, (KK.out _ (by repeat (first | (with_reducible exact Below.refl _ _) | apply pw_below_drewN | apply below_drew1))).2.1, (KK.out _ (by repeat (first | (with_reducible exact Below.refl _ _) | apply pw_below_drewN | apply below_drew1))).2.2.1, (KK.out _ (by repeat (first | (with_reducible exact Below.refl _ _) | apply pw_below_drewN | apply below_drew1))).2.2.2.1, (KK.out _ (by repeat (first | (with_reducible exact Below.refl _ _) | apply pw_below_drewN | apply below_drew1))).2.2.2.2.1, (KK.out _ (by repeat (first | (with_reducible exact Below.refl _ _) | apply pw_below_drewN | apply below_drew1))).2.2.2.2.2⟩ (fun hHeld => ?_)
  clear hK K
  refine norm_ (a' := ?_) ?_ ?_
  rotate_left
  · show Act.put _ (some 53) _ = _
    simp only [Act.put, List.setIfInBounds_toArray, List.set_cons_zero, List.set_cons_succ, i64_w, i32_w]
    rfl
  refine one_ (i := 8) (N := some 54) #[true, true, true, true, true, true, true, true, true, false, false, false, false, false, false, false] rfl rfl (by kernel_rfl) (by decide) (fun K hK => ?_)
  refine goes_ Try.func95 (by kernel_rfl) rfl #[.slice A p.length c, .int .u64 (IntKind.u64.wrap k), .int .i64 s] (by rfl) rfl rfl (by simp only [List.map_toArray, List.map_cons, List.map_nil]; rfl) ?_
  with_reducible refine (riddleref5_read.calls 10 A c p _ _ _ _ _ (KC.out _ (by repeat (first | (with_reducible exact Below.refl _ _) | apply pw_below_drewN | apply below_drew1))) HC.out HR.out).mono ?_
  rintro e w3 ⟨rfl, ⟨nd2, rfl⟩⟩
  refine ⟨_, rfl, ?_⟩
  refine hK.out _ _ ⟨(KK.out _ (by repeat (first | (with_reducible exact Below.refl _ _) | apply pw_below_drewN | apply below_drew1))).1, (KK.out _ (by repeat (first | (with_reducible exact Below.refl _ _) | apply pw_below_drewN | apply below_drew1))).2.1, (KK.out _ (by repeat (first | (with_reducible exact Below.refl _ _) | apply pw_below_drewN | apply below_drew1))).2.2.1, (KK.out _ (by repeat (first | (with_reducible exact Below.refl _ _) | apply pw_below_drewN | apply below_drew1))).2.2.2.1, (KK.out _ (by repeat (first | (with_reducible exact Below.refl _ _) | apply pw_below_drewN | apply below_drew1))).2.2.2.2.1, (KK.out _ (by repeat (first | (with_reducible exact Below.refl _ _) | apply pw_below_drewN | apply below_drew1))).2.2.2.2.2⟩ (fun hHeld => ?_)
  clear hK K
  refine norm_ (a' := ?_) ?_ ?_
  rotate_left
  · show Act.put _ (some 54) _ = _
    simp only [Act.put, List.setIfInBounds_toArray, List.set_cons_zero, List.set_cons_succ, i64_w, i32_w]
    rfl
  refine pure_ (i := 9) (N := some 45) (v := ?_) (a' := ?_) #[true, true, true, true, true, true, true, true, true, true, false, false, false, false, false, false] rfl rfl (by kernel_rfl) (fun _ _ _ h => h) (Or.inl ⟨by rfl, ?_⟩) ?_ ?_
  rotate_left
  · intro w'
    go_simp
    with_reducible rfl
  rotate_left
  · simp only [Act.put, List.setIfInBounds_toArray, List.set_cons_zero, List.set_cons_succ, i64_w, i32_w]
    rfl
  refine pure_ (i := 10) (N := some 55) (v := ?_) (a' := ?_) #[true, true, true, true, true, true, true, true, true, true, true, false, false, false, false, false] rfl rfl (by kernel_rfl) (fun _ _ _ h => h) (Or.inl ⟨by rfl, ?_⟩) ?_ ?_
  rotate_left
  · intro w'
    go_simp
    with_reducible rfl
  rotate_left
  · simp only [Act.put, List.setIfInBounds_toArray, List.set_cons_zero, List.set_cons_succ, i64_w, i32_w]
    rfl
  refine pure_ (i := 11) (N := some 56) (v := ?_) (a' := ?_) #[true, true, true, true, true, true, true, true, true, true, true, true, false, false, false, false] rfl rfl (by kernel_rfl) (fun _ _ _ h => h) (Or.inl ⟨by rfl, ?_⟩) ?_ ?_
  rotate_left
  · intro w'
    go_simp
    with_reducible rfl
  rotate_left
  · simp only [Act.put, List.setIfInBounds_toArray, List.set_cons_zero, List.set_cons_succ, i64_w, i32_w]
    rfl
  refine pure_ (i := 12) (N := some 57) (v := ?_) (a' := ?_) #[true, true, true, true, true, true, true, true, true, true, true, true, true, false, false, false] rfl rfl (by kernel_rfl) (fun _ _ _ h => h) (Or.inl ⟨by rfl, ?_⟩) ?_ ?_
  rotate_left
  · intro w'
    go_simp
    with_reducible rfl
  rotate_left
  · simp only [Act.put, List.setIfInBounds_toArray, List.set_cons_zero, List.set_cons_succ, i64_w, i32_w]
    rfl
  refine pure_ (i := 13) (N := some 58) (v := ?_) (a' := ?_) #[true, true, true, true, true, true, true, true, true, true, true, true, true, true, false, false] rfl rfl (by kernel_rfl) (fun _ _ _ h => h) (Or.inl ⟨by rfl, ?_⟩) ?_ ?_
  rotate_left
  · intro w'
    go_simp
    with_reducible rfl
  rotate_left
  · simp only [Act.put, List.setIfInBounds_toArray, List.set_cons_zero, List.set_cons_succ, i64_w, i32_w]
    rfl
  refine last_ (i := 14) (N := none) #[true, true, true, true, true, true, true, true, true, true, true, true, true, true, true, false] rfl rfl (by kernel_rfl) (by decide) (fun K hK => ?_)
  refine skip_ (w1 := ?_) (by rfl) rfl ?_ ?_
  rotate_left
  · go_simp
    rfl
  refine hK.out _ _ ?_
  clear hK K
  refine pure_ (i := 15) (N := some 7) (v := ?_) (a' := ?_) #[true, true, true, true, true, true, true, true, true, true, true, true, true, true, true, true] rfl rfl (by kernel_rfl) (fun _ _ _ h => h) (Or.inl ⟨by rfl, ?_⟩) ?_ ?_
  rotate_left
  · intro w'
    go_simp
    with_reducible rfl
  rotate_left
  · simp only [Act.put, List.setIfInBounds_toArray, List.set_cons_zero, List.set_cons_succ, i64_w, i32_w]
    rfl
  refine done_ (by kernel_rfl) ?_
  go_wp2
  go_ret
  exact ⟨rfl, blk_put (blk_below HM.out (by repeat (first | (with_reducible exact Below.refl _ _) | apply pw_below_drewN | apply below_drew1 | apply below_alloc))) 0 _ (mc_seta M _), Kp.set (S := fun k => k = gm) (g := gm) ((Kp.refl _ w).below (by repeat (first | (with_reducible exact Below.refl _ _) | apply pw_below_drewN | apply below_drew1 | apply below_alloc))) (.inl rfl) _ _⟩
set_option maxHeartbeats 4000000 in
set_option maxRecDepth 100000 in
theorem step_40 (w : World) (gm : Nat) (M : Mach) (v f s i1 i2 k : Int) (p : List Int) (A : Option Addr) (c : Nat) (hM : w.heap[gm]? = some (.cells (mcells M) 97 (0, 0))) (hl : M.m.length = 16) (hp : Kd.C (Kd.int .u8) w A p.length p) (hc : p.length ≤ c) (hs : riddleref5_size.f 10 40 = some s) (hr : riddleref5_read.f 10 p (IntKind.u64.wrap k) s = some (v, f)) :
    Calls Try.prog 63 #[.pointer (some ⟨gm, 0, none⟩), .agg #[.int .u16 40, .int .u8 i1, .int .u8 i2, .int .u32 k], .slice A p.length c] w fun e w' => e = .returned (.int .i64 f) ∧ w'.heap[gm]? = some (.cells (mcells { M with a := v }) 97 (0, 0)) ∧ Kp (fun k => k = gm) w w' := by
  have ca := (blk_cell hM 0).trans (mc_a M)
  have fa := blk_frozen hM 0
  have cx := (blk_cell hM 1).trans (mc_x M)
  have fx := blk_frozen hM 1
  have hlt := blk_lt hM
  have HM := Aside0.mk hM
  clear hM
  go_enter Try.func63, Try.ntmps63
  have HC := Aside0.mk hc
  have KK : ∀ W, Below (w.alloc (.cells #[.int .u16 40, .int .u8 i1, .int .u8 i2, .int .u32 k] 45)).heap.size (w.alloc (.cells #[.int .u16 40, .int .u8 i1, .int .u8 i2, .int .u32 k] 45)) W → W.cell? ⟨w.heap.size, 0, none⟩ = some (.int .u16 40) ∧ W.cell? ⟨w.heap.size, 3, none⟩ = some (.int .u32 k) ∧ W.cell? ⟨gm, 0, none⟩ = some (.int .u32 M.a) ∧ W.cell? ⟨gm, 1, none⟩ = some (.int .u32 M.x) ∧ W.frozen? ⟨gm, 0, none⟩ = false ∧ W.frozen? ⟨gm, 1, none⟩ = false := by
    intro W hb
    have b0 := blk_below (blk_new w (.cells #[.int .u16 40, .int .u8 i1, .int .u8 i2, .int .u32 k] 45)) hb
    have bm := blk_below (blk_below HM.out (below_alloc (Below.refl _ _) _)) hb
    exact ⟨(blk_cell b0 0).trans rfl, (blk_cell b0 3).trans rfl, (blk_cell bm 0).trans rfl, (blk_cell bm 1).trans rfl, blk_frozen bm 0, blk_frozen bm 1⟩
  have KC : ∀ W, Below (w.alloc (.cells #[.int .u16 40, .int .u8 i1, .int .u8 i2, .int .u32 k] 45)).heap.size (w.alloc (.cells #[.int .u16 40, .int .u8 i1, .int .u8 i2, .int .u32 k] 45)) W → Kd.C (Kd.int .u8) W A p.length p := by
    intro W hb
    exact Kd.C_below (Kd.C_alloc hp _) hb
  have KK := Aside0.mk KK
  have KC := Aside0.mk KC
  have HS := Aside0.mk hs
  have HR := Aside0.mk hr
  clear hs hr hp hc
  go_wp2
  refine start_ (n := 16) (S := fun w' => w'.cell? ⟨w.heap.size, 0, none⟩ = some (.int .u16 40) ∧ w'.cell? ⟨w.heap.size, 3, none⟩ = some (.int .u32 k) ∧ w'.cell? ⟨gm, 0, none⟩ = some (.int .u32 M.a) ∧ w'.cell? ⟨gm, 1, none⟩ = some (.int .u32 M.x) ∧ w'.frozen? ⟨gm, 0, none⟩ = false ∧ w'.frozen? ⟨gm, 1, none⟩ = false) (ds := [14]) #[false, false, false, false, false, false, false, false, false, false, false, false, false, false, false, false] (by kernel_rfl) rfl rfl ⟨(KK.out _ (by repeat (first | (with_reducible exact Below.refl _ _) | apply pw_below_drewN | apply below_drew1))).1, (KK.out _ (by repeat (first | (with_reducible exact Below.refl _ _) | apply pw_below_drewN | apply below_drew1))).2.1, (KK.out _ (by repeat (first | (with_reducible exact Below.refl _ _) | apply pw_below_drewN | apply below_drew1))).2.2.1, (KK.out _ (by repeat (first | (with_reducible exact Below.refl _ _) | apply pw_below_drewN | apply below_drew1))).2.2.2.1, (KK.out _ (by repeat (first | (with_reducible exact Below.refl _ _) | apply pw_below_drewN | apply below_drew1))).2.2.2.2.1, (KK.out _ (by repeat (first | (with_reducible exact Below.refl _ _) | apply pw_below_drewN | apply below_drew1))).2.2.2.2.2⟩ (fun hHeld => ?_)
  refine pure_ (i := 0) (N := some 46) (v := ?_) (a' := ?_) #[true, false, false, false, false, false, false, false, false, false, false, false, false, false, false, false] rfl rfl (by kernel_rfl) (fun _ _ _ h => h) (Or.inl ⟨by rfl, ?_⟩) ?_ ?_
  rotate_left
  · intro w'
    go_simp
    with_reducible rfl
  rotate_left
  · simp only [Act.put, List.setIfInBounds_toArray, List.set_cons_zero, List.set_cons_succ, i64_w, i32_w]
    rfl
  refine pure_ (i := 1) (N := some 47) (v := ?_) (a' := ?_) #[true, true, false, false, false, false, false, false, false, false, false, false, false, false, false, false] rfl rfl (by kernel_rfl) (fun _ _ _ h => h) (Or.inl ⟨by rfl, ?_⟩) ?_ ?_
  rotate_left
  · intro w'
    go_simp
    with_reducible rfl
  rotate_left
  · simp only [Act.put, List.setIfInBounds_toArray, List.set_cons_zero, List.set_cons_succ, i64_w, i32_w]
    rfl
  refine pure_ (i := 2) (N := some 48) (v := ?_) (a' := ?_) #[true, true, true, false, false, false, false, false, false, false, false, false, false, false, false, false] rfl rfl (by kernel_rfl) (fun _ _ _ h => h) (Or.inl ⟨by rfl, ?_⟩) ?_ ?_
  rotate_left
  · intro w'
    go_simp
    with_reducible rfl
  rotate_left
  · simp only [Act.put, List.setIfInBounds_toArray, List.set_cons_zero, List.set_cons_succ, i64_w, i32_w]
    rfl
  refine pure_ (i := 5) (N := some 51) (v := ?_) (a' := ?_) #[true, true, true, false, false, true, false, false, false, false, false, false, false, false, false, false] rfl rfl (by kernel_rfl) (fun _ _ _ h => h) (Or.inl ⟨by rfl, ?_⟩) ?_ ?_
  rotate_left
  · intro w'
    go_simp
    with_reducible rfl
  rotate_left
  · simp only [Act.put, List.setIfInBounds_toArray, List.set_cons_zero, List.set_cons_succ, i64_w, i32_w]
    rfl
  refine take_ (i := 3) (N := some 49) (v := ?_) (a' := ?_) #[true, true, true, true, false, true, false, false, false, false, false, false, false, false, false, false] rfl rfl (by kernel_rfl) (fun _ _ _ h => h) (Or.inl ⟨by rfl, ?_⟩) hHeld ?_ ?_
  rotate_left
  · rintro w' ⟨s0, s1, s2, s3, s4, s5⟩
    go_simp
    with_reducible rfl
  rotate_left
  · simp only [Act.put, List.setIfInBounds_toArray, List.set_cons_zero, List.set_cons_succ, i64_w, i32_w]
    rfl
  refine pure_ (i := 4) (N := some 50) (v := ?_) (a' := ?_) #[true, true, true, true, true, true, false, false, false, false, false, false, false, false, false, false] rfl rfl (by kernel_rfl) (fun _ _ _ h => h) (Or.inl ⟨by rfl, ?_⟩) ?_ ?_
  rotate_left
  · intro w'
    go_simp
    with_reducible rfl
  rotate_left
  · simp only [Act.put, List.setIfInBounds_toArray, List.set_cons_zero, List.set_cons_succ, i64_w, i32_w]
    rfl
  refine take_ (i := 6) (N := some 52) (v := ?_) (a' := ?_) #[true, true, true, true, true, true, true, false, false, false, false, false, false, false, false, false] rfl rfl (by kernel_rfl) (fun _ _ _ h => h) (Or.inl ⟨by rfl, ?_⟩) hHeld ?_ ?_
  rotate_left
  · rintro w' ⟨s0, s1, s2, s3, s4, s5⟩
    go_simp
    with_reducible rfl
  rotate_left
  · simp only [Act.put, List.setIfInBounds_toArray, List.set_cons_zero, List.set_cons_succ, i64_w, i32_w]
    rfl
  refine one_ (i := 7) (N := some 53) #[true, true, true, true, true, true, true, true, false, false, false, false, false, false, false, false] rfl rfl (by kernel_rfl) (by decide) (fun K hK => ?_)
  refine goes_ Try.func96 (by kernel_rfl) rfl #[.int .u16 40] (by rfl) rfl rfl (by simp only [List.map_toArray, List.map_cons, List.map_nil]; rfl) ?_
  with_reducible refine (riddleref5_size.calls 10 _ _ _ HS.out).mono ?_
  rintro e w3 ⟨rfl, ⟨nd, rfl⟩⟩
  refine ⟨_, rfl, ?_⟩
  refine hK.out _ _ ⟨(KK.out _ (by repeat (first | (with_reducible exact Below.refl _ _) | apply pw_below_drewN | apply below_drew1))).1, (KK.out _ (by repeat (first | (with_reducible exact Below.refl _ _) | apply pw_below_drewN | apply below_drew1))).2.1, (KK.out _ (by repeat (first | (with_reducible exact Below.refl _ _) | apply pw_below_drewN | apply below_drew1))).2.2.1, (KK.out _ (by repeat (first | (with_reducible exact Below.refl _ _) | apply pw_below_drewN | apply below_drew1))).2.2.2.1, (KK.out _ (by repeat (first | (with_reducible exact Below.refl _ _) | apply pw_below_drewN | apply below_drew1))).2.2.2.2.1, (KK.out _ (by repeat (first | (with_reducible exact Below.refl _ _) | apply pw_below_drewN | apply below_drew1))).2.2.2.2.2⟩ (fun hHeld => ?_)
  clear hK K
  refine norm_ (a' := ?_) ?_ ?_
  rotate_left
  · show Act.put _ (some 53) _ = _
    simp only [Act.put, List.setIfInBounds_toArray, List.set_cons_zero, List.set_cons_succ, i64_w, i32_w]
    rfl
  refine one_ (i := 8) (N := some 54) #[true, true, true, true, true, true, true, true, true, false, false, false, false, false, false, false] rfl rfl (by kernel_rfl) (by decide) (fun K hK => ?_)
  refine goes_ Try.func95 (by kernel_rfl) rfl #[.slice A p.length c, .int .u64 (IntKind.u64.wrap k), .int .i64 s] (by rfl) rfl rfl (by simp only [List.map_toArray, List.map_cons, List.map_nil]; rfl) ?_
  with_reducible refine (riddleref5_read.calls 10 A c p _ _ _ _ _ (KC.out _ (by repeat (first | (with_reducible exact Below.refl _ _) | apply pw_below_drewN | apply below_drew1))) HC.out HR.out).mono ?_
  rintro e w3 ⟨rfl, ⟨nd2, rfl⟩⟩
  refine ⟨_, rfl, ?_⟩
  refine hK.out _ _ ⟨(KK.out _ (by repeat (first | (with_reducible exact Below.refl _ _) | apply pw_below_drewN | apply below_drew1))).1, (KK.out _ (by repeat (first | (with_reducible exact Below.refl _ _) | apply pw_below_drewN | apply below_drew1))).2.1, (KK.out _ (by repeat (first | (with_reducible exact Below.refl _ _) | apply pw_below_drewN | apply below_drew1))).2.2.1, (KK.out _ (by repeat (first | (with_reducible exact Below.refl _ _) | apply pw_below_drewN | apply below_drew1))).2.2.2.1, (KK.out _ (by repeat (first | (with_reducible exact Below.refl _ _) | apply pw_below_drewN | apply below_drew1))).2.2.2.2.1, (KK.out _ (by repeat (first | (with_reducible exact Below.refl _ _) | apply pw_below_drewN | apply below_drew1))).2.2.2.2.2⟩ (fun hHeld => ?_)
  clear hK K
  refine norm_ (a' := ?_) ?_ ?_
  rotate_left
  · show Act.put _ (some 54) _ = _
    simp only [Act.put, List.setIfInBounds_toArray, List.set_cons_zero, List.set_cons_succ, i64_w, i32_w]
    rfl
  refine pure_ (i := 9) (N := some 45) (v := ?_) (a' := ?_) #[true, true, true, true, true, true, true, true, true, true, false, false, false, false, false, false] rfl rfl (by kernel_rfl) (fun _ _ _ h => h) (Or.inl ⟨by rfl, ?_⟩) ?_ ?_
  rotate_left
  · intro w'
    go_simp
    with_reducible rfl
  rotate_left
  · simp only [Act.put, List.setIfInBounds_toArray, List.set_cons_zero, List.set_cons_succ, i64_w, i32_w]
    rfl
  refine pure_ (i := 10) (N := some 55) (v := ?_) (a' := ?_) #[true, true, true, true, true, true, true, true, true, true, true, false, false, false, false, false] rfl rfl (by kernel_rfl) (fun _ _ _ h => h) (Or.inl ⟨by rfl, ?_⟩) ?_ ?_
  rotate_left
  · intro w'
    go_simp
    with_reducible rfl
  rotate_left
  · simp only [Act.put, List.setIfInBounds_toArray, List.set_cons_zero, List.set_cons_succ, i64_w, i32_w]
    rfl
  refine pure_ (i := 11) (N := some 56) (v := ?_) (a' := ?_) #[true, true, true, true, true, true, true, true, true, true, true, true, false, false, false, false] rfl rfl (by kernel_rfl) (fun _ _ _ h => h) (Or.inl ⟨by rfl, ?_⟩) ?_ ?_
  rotate_left
  · intro w'
    go_simp
    with_reducible rfl
  rotate_left
  · simp only [Act.put, List.setIfInBounds_toArray, List.set_cons_zero, List.set_cons_succ, i64_w, i32_w]
    rfl
  refine pure_ (i := 12) (N := some 57) (v := ?_) (a' := ?_) #[true, true, true, true, true, true, true, true, true, true, true, true, true, false, false, false] rfl rfl (by kernel_rfl) (fun _ _ _ h => h) (Or.inl ⟨by rfl, ?_⟩) ?_ ?_
  rotate_left
  · intro w'
    go_simp
    with_reducible rfl
  rotate_left
  · simp only [Act.put, List.setIfInBounds_toArray, List.set_cons_zero, List.set_cons_succ, i64_w, i32_w]
    rfl
  refine pure_ (i := 13) (N := some 58) (v := ?_) (a' := ?_) #[true, true, true, true, true, true, true, true, true, true, true, true, true, true, false, false] rfl rfl (by kernel_rfl) (fun _ _ _ h => h) (Or.inl ⟨by rfl, ?_⟩) ?_ ?_
  rotate_left
  · intro w'
    go_simp
    with_reducible rfl
  rotate_left
  · simp only [Act.put, List.setIfInBounds_toArray, List.set_cons_zero, List.set_cons_succ, i64_w, i32_w]
    rfl
  refine last_ (i := 14) (N := none) #[true, true, true, true, true, true, true, true, true, true, true, true, true, true, true, false] rfl rfl (by kernel_rfl) (by decide) (fun K hK => ?_)
  refine skip_ (w1 := ?_) (by rfl) rfl ?_ ?_
  rotate_left
  · go_simp
    rfl
  refine hK.out _ _ ?_
  clear hK K
  refine pure_ (i := 15) (N := some 7) (v := ?_) (a' := ?_) #[true, true, true, true, true, true, true, true, true, true, true, true, true, true, true, true] rfl rfl (by kernel_rfl) (fun _ _ _ h => h) (Or.inl ⟨by rfl, ?_⟩) ?_ ?_
  rotate_left
  · intro w'
    go_simp
    with_reducible rfl
  rotate_left
  · simp only [Act.put, List.setIfInBounds_toArray, List.set_cons_zero, List.set_cons_succ, i64_w, i32_w]
    rfl
  refine done_ (by kernel_rfl) ?_
  go_wp2
  go_ret
  exact ⟨rfl, blk_put (blk_below HM.out (by repeat (first | (with_reducible exact Below.refl _ _) | apply pw_below_drewN | apply below_drew1 | apply below_alloc))) 0 _ (mc_seta M _), Kp.set (S := fun k => k = gm) (g := gm) ((Kp.refl _ w).below (by repeat (first | (with_reducible exact Below.refl _ _) | apply pw_below_drewN | apply below_drew1 | apply below_alloc))) (.inl rfl) _ _⟩
set_option maxHeartbeats 4000000 in
set_option maxRecDepth 100000 in
theorem step_48 (w : World) (gm : Nat) (M : Mach) (v f s i1 i2 k : Int) (p : List Int) (A : Option Addr) (c : Nat) (hM : w.heap[gm]? = some (.cells (mcells M) 97 (0, 0))) (hl : M.m.length = 16) (hp : Kd.C (Kd.int .u8) w A p.length p) (hc : p.length ≤ c) (hs : riddleref5_size.f 10 48 = some s) (hr : riddleref5_read.f 10 p (IntKind.u64.wrap k) s = some (v, f)) :
    Calls Try.prog 63 #[.pointer (some ⟨gm, 0, none⟩), .agg #[.int .u16 48, .int .u8 i1, .int .u8 i2, .int .u32 k], .slice A p.length c] w fun e w' => e = .returned (.int .i64 f) ∧ w'.heap[gm]? = some (.cells (mcells { M with a := v }) 97 (0, 0)) ∧ Kp (fun k => k = gm) w w' := by
  have ca := (blk_cell hM 0).trans (mc_a M)
  have fa := blk_frozen hM 0
  have cx := (blk_cell hM 1).trans (mc_x M)
  have fx := blk_frozen hM 1
  have hlt := blk_lt hM
  have HM := Aside0.mk hM
  clear hM
  go_enter Try.func63, Try.ntmps63
  have HC := Aside0.mk hc
  have KK : ∀ W, Below (w.alloc (.cells #[.int .u16 48, .int .u8 i1, .int .u8 i2, .int .u32 k] 45)).heap.size (w.alloc (.cells #[.int .u16 48, .int .u8 i1, .int .u8 i2, .int .u32 k] 45)) W → W.cell? ⟨w.heap.size, 0, none⟩ = some (.int .u16 48) ∧ W.cell? ⟨w.heap.size, 3, none⟩ = some (.int .u32 k) ∧ W.cell? ⟨gm, 0, none⟩ = some (.int .u32 M.a) ∧ W.cell? ⟨gm, 1, none⟩ = some (.int .u32 M.x) ∧ W.frozen? ⟨gm, 0, none⟩ = false ∧ W.frozen? ⟨gm, 1, none⟩ = false := by
    intro W hb
    have b0 := blk_below (blk_new w (.cells #[.int .u16 48, .int .u8 i1, .int .u8 i2, .int .u32 k] 45)) hb
    have bm := blk_below (blk_below HM.out (below_alloc (Below.refl _ _) _)) hb
    exact ⟨(blk_cell b0 0).trans rfl, (blk_cell b0 3).trans rfl, (blk_cell bm 0).trans rfl, (blk_cell bm 1).trans rfl, blk_frozen bm 0, blk_frozen bm 1⟩
  have KC : ∀ W, Below (w.alloc (.cells #[.int .u16 48, .int .u8 i1, .int .u8 i2, .int .u32 k] 45)).heap.size (w.alloc (.cells #[.int .u16 48, .int .u8 i1, .int .u8 i2, .int .u32 k] 45)) W → Kd.C (Kd.int .u8) W A p.length p := by
    intro W hb
    exact Kd.C_below (Kd.C_alloc hp _) hb
  have KK := Aside0.mk KK
  have KC := Aside0.mk KC
  have HS := Aside0.mk hs
  have HR := Aside0.mk hr
  clear hs hr hp hc
  go_wp2
  refine start_ (n := 16) (S := fun w' => w'.cell? ⟨w.heap.size, 0, none⟩ = some (.int .u16 48) ∧ w'.cell? ⟨w.heap.size, 3, none⟩ = some (.int .u32 k) ∧ w'.cell? ⟨gm, 0, none⟩ = some (.int .u32 M.a) ∧ w'.cell? ⟨gm, 1, none⟩ = some (.int .u32 M.x) ∧ w'.frozen? ⟨gm, 0, none⟩ = false ∧ w'.frozen? ⟨gm, 1, none⟩ = false) (ds := [14]) #[false, false, false, false, false, false, false, false, false, false, false, false, false, false, false, false] (by kernel_rfl) rfl rfl ⟨(KK.out _ (by repeat (first | (with_reducible exact Below.refl _ _) | apply pw_below_drewN | apply below_drew1))).1, (KK.out _ (by repeat (first | (with_reducible exact Below.refl _ _) | apply pw_below_drewN | apply below_drew1))).2.1, (KK.out _ (by repeat (first | (with_reducible exact Below.refl _ _) | apply pw_below_drewN | apply below_drew1))).2.2.1, (KK.out _ (by repeat (first | (with_reducible exact Below.refl _ _) | apply pw_below_drewN | apply below_drew1))).2.2.2.1, (KK.out _ (by repeat (first | (with_reducible exact Below.refl _ _) | apply pw_below_drewN | apply below_drew1))).2.2.2.2.1, (KK.out _ (by repeat (first | (with_reducible exact Below.refl _ _) | apply pw_below_drewN | apply below_drew1))).2.2.2.2.2⟩ (fun hHeld => ?_)
  refine pure_ (i := 0) (N := some 46) (v := ?_) (a' := ?_) #[true, false, false, false, false, false, false, false, false, false, false, false, false, false, false, false] rfl rfl (by kernel_rfl) (fun _ _ _ h => h) (Or.inl ⟨by rfl, ?_⟩) ?_ ?_
  rotate_left
  · intro w'
    go_simp
    with_reducible rfl
  rotate_left
  · simp only [Act.put, List.setIfInBounds_toArray, List.set_cons_zero, List.set_cons_succ, i64_w, i32_w]
    rfl
  refine pure_ (i := 1) (N := some 47) (v := ?_) (a' := ?_) #[true, true, false, false, false, false, false, false, false, false, false, false, false, false, false, false] rfl rfl (by kernel_rfl) (fun _ _ _ h => h) (Or.inl ⟨by rfl, ?_⟩) ?_ ?_
  rotate_left
  · intro w'
    go_simp
    with_reducible rfl
  rotate_left
  · simp only [Act.put, List.setIfInBounds_toArray, List.set_cons_zero, List.set_cons_succ, i64_w, i32_w]
    rfl
  refine pure_ (i := 2) (N := some 48) (v := ?_) (a' := ?_) #[true, true, true, false, false, false, false, false, false, false, false, false, false, false, false, false] rfl rfl (by kernel_rfl) (fun _ _ _ h => h) (Or.inl ⟨by rfl, ?_⟩) ?_ ?_
  rotate_left
  · intro w'
    go_simp
    with_reducible rfl
  rotate_left
  · simp only [Act.put, List.setIfInBounds_toArray, List.set_cons_zero, List.set_cons_succ, i64_w, i32_w]
    rfl
  refine pure_ (i := 5) (N := some 51) (v := ?_) (a' := ?_) #[true, true, true, false, false, true, false, false, false, false, false, false, false, false, false, false] rfl rfl (by kernel_rfl) (fun _ _ _ h => h) (Or.inl ⟨by rfl, ?_⟩) ?_ ?_
  rotate_left
  · intro w'
    go_simp
    with_reducible rfl
  rotate_left
  · simp only [Act.put, List.setIfInBounds_toArray, List.set_cons_zero, List.set_cons_succ, i64_w, i32_w]
    rfl
  refine take_ (i := 3) (N := some 49) (v := ?_) (a' := ?_) #[true, true, true, true, false, true, false, false, false, false, false, false, false, false, false, false] rfl rfl (by kernel_rfl) (fun _ _ _ h => h) (Or.inl ⟨by rfl, ?_⟩) hHeld ?_ ?_
  rotate_left
  · rintro w' ⟨s0, s1, s2, s3, s4, s5⟩
    go_simp
    with_reducible rfl
  rotate_left
  · simp only [Act.put, List.setIfInBounds_toArray, List.set_cons_zero, List.set_cons_succ, i64_w, i32_w]
    rfl
  refine pure_ (i := 4) (N := some 50) (v := ?_) (a' := ?_) #[true, true, true, true, true, true, false, false, false, false, false, false, false, false, false, false] rfl rfl (by kernel_rfl) (fun _ _ _ h => h) (Or.inl ⟨by rfl, ?_⟩) ?_ ?_
  rotate_left
  · intro w'
    go_simp
    with_reducible rfl
  rotate_left
  · simp only [Act.put, List.setIfInBounds_toArray, List.set_cons_zero, List.set_cons_succ, i64_w, i32_w]
    rfl
  refine take_ (i := 6) (N := some 52) (v := ?_) (a' := ?_) #[true, true, true, true, true, true, true, false, false, false, false, false, false, false, false, false] rfl rfl (by kernel_rfl) (fun _ _ _ h => h) (Or.inl ⟨by rfl, ?_⟩) hHeld ?_ ?_
  rotate_left
  · rintro w' ⟨s0, s1, s2, s3, s4, s5⟩
    go_simp
    with_reducible rfl
  rotate_left
  · simp only [Act.put, List.setIfInBounds_toArray, List.set_cons_zero, List.set_cons_succ, i64_w, i32_w]
    rfl
  refine one_ (i := 7) (N := some 53) #[true, true, true, true, true, true, true, true, false, false, false, false, false, false, false, false] rfl rfl (by kernel_rfl) (by decide) (fun K hK => ?_)
  refine goes_ Try.func96 (by kernel_rfl) rfl #[.int .u16 48] (by rfl) rfl rfl (by simp only [List.map_toArray, List.map_cons, List.map_nil]; rfl) ?_
  with_reducible refine (riddleref5_size.calls 10 _ _ _ HS.out).mono ?_
  rintro e w3 ⟨rfl, ⟨nd, rfl⟩⟩
  refine ⟨_, rfl, ?_⟩
  refine hK.out _ _ ⟨(KK.out _ (by repeat (first | (with_reducible exact Below.refl _ _) | apply pw_below_drewN | apply below_drew1))).1, (KK.out _ (by repeat (first | (with_reducible exact Below.refl _ _) | apply pw_below_drewN | apply below_drew1))).2.1, (KK.out _ (by repeat (first | (with_reducible exact Below.refl _ _) | apply pw_below_drewN | apply below_drew1))).2.2.1, (KK.out _ (by repeat (first | (with_reducible exact Below.refl _ _) | apply pw_below_drewN | apply below_drew1))).2.2.2.1, (KK.out _ (by repeat (first | (with_reducible exact Below.refl _ _) | apply pw_below_drewN | apply below_drew1))).2.2.2.2.1, (KK.out _ (by repeat (first | (with_reducible exact Below.refl _ _) | apply pw_below_drewN | apply below_drew1))).2.2.2.2.2⟩ (fun hHeld => ?_)
  clear hK K
  refine norm_ (a' := ?_) ?_ ?_
  rotate_left
  · show Act.put _ (some 53) _ = _
    simp only [Act.put, List.setIfInBounds_toArray, List.set_cons_zero, List.set_cons_succ, i64_w, i32_w]
    rfl
  refine one_ (i := 8) (N := some 54) #[true, true, true, true, true, true, true, true, true, false, false, false, false, false, false, false] rfl rfl (by kernel_rfl) (by decide) (fun K hK => ?_)
  refine goes_ Try.func95 (by kernel_rfl) rfl #[.slice A p.length c, .int .u64 (IntKind.u64.wrap k), .int .i64 s] (by rfl) rfl rfl (by simp only [List.map_toArray, List.map_cons, List.map_nil]; rfl) ?_
  with_reducible refine (riddleref5_read.calls 10 A c p _ _ _ _ _ (KC.out _ (by repeat (first | (with_reducible exact Below.refl _ _) | apply pw_below_drewN | apply below_drew1))) HC.out HR.out).mono ?_
  rintro e w3 ⟨rfl, ⟨nd2, rfl⟩⟩
  refine ⟨_, rfl, ?_⟩
  refine hK.out _ _ ⟨(KK.out _ (by repeat (first | (with_reducible exact Below.refl _ _) | apply pw_below_drewN | apply below_drew1))).1, (KK.out _ (by repeat (first | (with_reducible exact Below.refl _ _) | apply pw_below_drewN | apply below_drew1))).2.1, (KK.out _ (by repeat (first | (with_reducible exact Below.refl _ _) | apply pw_below_drewN | apply below_drew1))).2.2.1, (KK.out _ (by repeat (first | (with_reducible exact Below.refl _ _) | apply pw_below_drewN | apply below_drew1))).2.2.2.1, (KK.out _ (by repeat (first | (with_reducible exact Below.refl _ _) | apply pw_below_drewN | apply below_drew1))).2.2.2.2.1, (KK.out _ (by repeat (first | (with_reducible exact Below.refl _ _) | apply pw_below_drewN | apply below_drew1))).2.2.2.2.2⟩ (fun hHeld => ?_)
  clear hK K
  refine norm_ (a' := ?_) ?_ ?_
  rotate_left
  · show Act.put _ (some 54) _ = _
    simp only [Act.put, List.setIfInBounds_toArray, List.set_cons_zero, List.set_cons_succ, i64_w, i32_w]
    rfl
  refine pure_ (i := 9) (N := some 45) (v := ?_) (a' := ?_) #[true, true, true, true, true, true, true, true, true, true, false, false, false, false, false, false] rfl rfl (by kernel_rfl) (fun _ _ _ h => h) (Or.inl ⟨by rfl, ?_⟩) ?_ ?_
  rotate_left
  · intro w'
    go_simp
    with_reducible rfl
  rotate_left
  · simp only [Act.put, List.setIfInBounds_toArray, List.set_cons_zero, List.set_cons_succ, i64_w, i32_w]
    rfl
  refine pure_ (i := 10) (N := some 55) (v := ?_) (a' := ?_) #[true, true, true, true, true, true, true, true, true, true, true, false, false, false, false, false] rfl rfl (by kernel_rfl) (fun _ _ _ h => h) (Or.inl ⟨by rfl, ?_⟩) ?_ ?_
  rotate_left
  · intro w'
    go_simp
    with_reducible rfl
  rotate_left
  · simp only [Act.put, List.setIfInBounds_toArray, List.set_cons_zero, List.set_cons_succ, i64_w, i32_w]
    rfl
  refine pure_ (i := 11) (N := some 56) (v := ?_) (a' := ?_) #[true, true, true, true, true, true, true, true, true, true, true, true, false, false, false, false] rfl rfl (by kernel_rfl) (fun _ _ _ h => h) (Or.inl ⟨by rfl, ?_⟩) ?_ ?_
  rotate_left
  · intro w'
    go_simp
    with_reducible rfl
  rotate_left
  · simp only [Act.put, List.setIfInBounds_toArray, List.set_cons_zero, List.set_cons_succ, i64_w, i32_w]
    rfl
  refine pure_ (i := 12) (N := some 57) (v := ?_) (a' := ?_) #[true, true, true, true, true, true, true, true, true, true, true, true, true, false, false, false] rfl rfl (by kernel_rfl) (fun _ _ _ h => h) (Or.inl ⟨by rfl, ?_⟩) ?_ ?_
  rotate_left
  · intro w'
    go_simp
    with_reducible rfl
  rotate_left
  · simp only [Act.put, List.setIfInBounds_toArray, List.set_cons_zero, List.set_cons_succ, i64_w, i32_w]
    rfl
  refine pure_ (i := 13) (N := some 58) (v := ?_) (a' := ?_) #[true, true, true, true, true, true, true, true, true, true, true, true, true, true, false, false] rfl rfl (by kernel_rfl) (fun _ _ _ h => h) (Or.inl ⟨by rfl, ?_⟩) ?_ ?_
  rotate_left
  · intro w'
    go_simp
    with_reducible rfl
  rotate_left
  · simp only [Act.put, List.setIfInBounds_toArray, List.set_cons_zero, List.set_cons_succ, i64_w, i32_w]
    rfl
  refine last_ (i := 14) (N := none) #[true, true, true, true, true, true, true, true, true, true, true, true, true, true, true, false] rfl rfl (by kernel_rfl) (by decide) (fun K hK => ?_)
  refine skip_ (w1 := ?_) (by rfl) rfl ?_ ?_
  rotate_left
  · go_simp
    rfl
  refine hK.out _ _ ?_
  clear hK K
  refine pure_ (i := 15) (N := some 7) (v := ?_) (a' := ?_) #[true, true, true, true, true, true, true, true, true, true, true, true, true, true, true, true] rfl rfl (by kernel_rfl) (fun _ _ _ h => h) (Or.inl ⟨by rfl, ?_⟩) ?_ ?_
  rotate_left
  · intro w'
    go_simp
    with_reducible rfl
  rotate_left
  · simp only [Act.put, List.setIfInBounds_toArray, List.set_cons_zero, List.set_cons_succ, i64_w, i32_w]
    rfl
  refine done_ (by kernel_rfl) ?_
  go_wp2
  go_ret
  exact ⟨rfl, blk_put (blk_below HM.out (by repeat (first | (with_reducible exact Below.refl _ _) | apply pw_below_drewN | apply below_drew1 | apply below_alloc))) 0 _ (mc_seta M _), Kp.set (S := fun k => k = gm) (g := gm) ((Kp.refl _ w).below (by repeat (first | (with_reducible exact Below.refl _ _) | apply pw_below_drewN | apply below_drew1 | apply below_alloc))) (.inl rfl) _ _⟩
set_option maxHeartbeats 4000000 in
set_option maxRecDepth 100000 in
theorem step_64 (w : World) (gm : Nat) (M : Mach) (v f s i1 i2 k : Int) (p : List Int) (A : Option Addr) (c : Nat) (hM : w.heap[gm]? = some (.cells (mcells M) 97 (0, 0))) (hl : M.m.length = 16) (hp : Kd.C (Kd.int .u8) w A p.length p) (hc : p.length ≤ c) (hs : riddleref5_size.f 10 64 = some s) (hr : riddleref5_read.f 10 p (IntKind.u64.wrap (IntKind.u64.wrap k + IntKind.u64.wrap M.x)) s = some (v, f)) :
    Calls Try.prog 63 #[.pointer (some ⟨gm, 0, none⟩), .agg #[.int .u16 64, .int .u8 i1, .int .u8 i2, .int .u32 k], .slice A p.length c] w fun e w' => e = .returned (.int .i64 f) ∧ w'.heap[gm]? = some (.cells (mcells { M with a := v }) 97 (0, 0)) ∧ Kp (fun k => k = gm) w w' := by
  have ca := (blk_cell hM 0).trans (mc_a M)
  have fa := blk_frozen hM 0
  have cx := (blk_cell hM 1).trans (mc_x M)
  have fx := blk_frozen hM 1
  have hlt := blk_lt hM
  have HM := Aside0.mk hM
  clear hM
  go_enter Try.func63, Try.ntmps63
  have HC := Aside0.mk hc
  have KK : ∀ W, Below (w.alloc (.cells #[.int .u16 64, .int .u8 i1, .int .u8 i2, .int .u32 k] 45)).heap.size (w.alloc (.cells #[.int .u16 64, .int .u8 i1, .int .u8 i2, .int .u32 k] 45)) W → W.cell? ⟨w.heap.size, 0, none⟩ = some (.int .u16 64) ∧ W.cell? ⟨w.heap.size, 3, none⟩ = some (.int .u32 k) ∧ W.cell? ⟨gm, 0, none⟩ = some (.int .u32 M.a) ∧ W.cell? ⟨gm, 1, none⟩ = some (.int .u32 M.x) ∧ W.frozen? ⟨gm, 0, none⟩ = false ∧ W.frozen? ⟨gm, 1, none⟩ = false := by
    intro W hb
    have b0 := blk_below (blk_new w (.cells #[.int .u16 64, .int .u8 i1, .int .u8 i2, .int .u32 k] 45)) hb
    have bm := blk_below (blk_below HM.out (below_alloc (Below.refl _ _) _)) hb
    exact ⟨(blk_cell b0 0).trans rfl, (blk_cell b0 3).trans rfl, (blk_cell bm 0).trans rfl, (blk_cell bm 1).trans rfl, blk_frozen bm 0, blk_frozen bm 1⟩
  have KC : ∀ W, Below (w.alloc (.cells #[.int .u16 64, .int .u8 i1, .int .u8 i2, .int .u32 k] 45)).heap.size (w.alloc (.cells #[.int .u16 64, .int .u8 i1, .int .u8 i2, .int .u32 k] 45)) W → Kd.C (Kd.int .u8) W A p.length p := by
    intro W hb
    exact Kd.C_below (Kd.C_alloc hp _) hb
  have KK := Aside0.mk KK
  have KC := Aside0.mk KC
  have HS := Aside0.mk hs
  have HR := Aside0.mk hr
  clear hs hr hp hc
  go_wp2
  refine start_ (n := 22) (S := fun w' => w'.cell? ⟨w.heap.size, 0, none⟩ = some (.int .u16 64) ∧ w'.cell? ⟨w.heap.size, 3, none⟩ = some (.int .u32 k) ∧ w'.cell? ⟨gm, 0, none⟩ = some (.int .u32 M.a) ∧ w'.cell? ⟨gm, 1, none⟩ = some (.int .u32 M.x) ∧ w'.frozen? ⟨gm, 0, none⟩ = false ∧ w'.frozen? ⟨gm, 1, none⟩ = false) (ds := [20]) #[false, false, false, false, false, false, false, false, false, false, false, false, false, false, false, false, false, false, false, false, false, false] (by kernel_rfl) rfl rfl ⟨(KK.out _ (by repeat (first | (with_reducible exact Below.refl _ _) | apply pw_below_drewN | apply below_drew1))).1, (KK.out _ (by repeat (first | (with_reducible exact Below.refl _ _) | apply pw_below_drewN | apply below_drew1))).2.1, (KK.out _ (by repeat (first | (with_reducible exact Below.refl _ _) | apply pw_below_drewN | apply below_drew1))).2.2.1, (KK.out _ (by repeat (first | (with_reducible exact Below.refl _ _) | apply pw_below_drewN | apply below_drew1))).2.2.2.1, (KK.out _ (by repeat (first | (with_reducible exact Below.refl _ _) | apply pw_below_drewN | apply below_drew1))).2.2.2.2.1, (KK.out _ (by repeat (first | (with_reducible exact Below.refl _ _) | apply pw_below_drewN | apply below_drew1))).2.2.2.2.2⟩ (fun hHeld => ?_)
  refine pure_ (i := 0) (N := some 64) (v := ?_) (a' := ?_) #[true, false, false, false, false, false, false, false, false, false, false, false, false, false, false, false, false, false, false, false, false, false] rfl rfl (by kernel_rfl) (fun _ _ _ h => h) (Or.inl ⟨by rfl, ?_⟩) ?_ ?_
  rotate_left
  · intro w'
    go_simp
    with_reducible rfl
  rotate_left
  · simp only [Act.put, List.setIfInBounds_toArray, List.set_cons_zero, List.set_cons_succ, i64_w, i32_w]
    rfl
  refine pure_ (i := 1) (N := some 65) (v := ?_) (a' := ?_) #[true, true, false, false, false, false, false, false, false, false, false, false, false, false, false, false, false, false, false, false, false, false] rfl rfl (by kernel_rfl) (fun _ _ _ h => h) (Or.inl ⟨by rfl, ?_⟩) ?_ ?_
  rotate_left
  · intro w'
    go_simp
    with_reducible rfl
  rotate_left
  · simp only [Act.put, List.setIfInBounds_toArray, List.set_cons_zero, List.set_cons_succ, i64_w, i32_w]
    rfl
  refine pure_ (i := 2) (N := some 66) (v := ?_) (a' := ?_) #[true, true, true, false, false, false, false, false, false, false, false, false, false, false, false, false, false, false, false, false, false, false] rfl rfl (by kernel_rfl) (fun _ _ _ h => h) (Or.inl ⟨by rfl, ?_⟩) ?_ ?_
  rotate_left
  · intro w'
    go_simp
    with_reducible rfl
  rotate_left
  · simp only [Act.put, List.setIfInBounds_toArray, List.set_cons_zero, List.set_cons_succ, i64_w, i32_w]
    rfl
  refine pure_ (i := 5) (N := some 69) (v := ?_) (a' := ?_) #[true, true, true, false, false, true, false, false, false, false, false, false, false, false, false, false, false, false, false, false, false, false] rfl rfl (by kernel_rfl) (fun _ _ _ h => h) (Or.inl ⟨by rfl, ?_⟩) ?_ ?_
  rotate_left
  · intro w'
    go_simp
    with_reducible rfl
  rotate_left
  · simp only [Act.put, List.setIfInBounds_toArray, List.set_cons_zero, List.set_cons_succ, i64_w, i32_w]
    rfl
  refine pure_ (i := 6) (N := some 70) (v := ?_) (a' := ?_) #[true, true, true, false, false, true, true, false, false, false, false, false, false, false, false, false, false, false, false, false, false, false] rfl rfl (by kernel_rfl) (fun _ _ _ h => h) (Or.inl ⟨by rfl, ?_⟩) ?_ ?_
  rotate_left
  · intro w'
    go_simp
    with_reducible rfl
  rotate_left
  · simp only [Act.put, List.setIfInBounds_toArray, List.set_cons_zero, List.set_cons_succ, i64_w, i32_w]
    rfl
  refine pure_ (i := 7) (N := some 71) (v := ?_) (a' := ?_) #[true, true, true, false, false, true, true, true, false, false, false, false, false, false, false, false, false, false, false, false, false, false] rfl rfl (by kernel_rfl) (fun _ _ _ h => h) (Or.inl ⟨by rfl, ?_⟩) ?_ ?_
  rotate_left
  · intro w'
    go_simp
    with_reducible rfl
  rotate_left
  · simp only [Act.put, List.setIfInBounds_toArray, List.set_cons_zero, List.set_cons_succ, i64_w, i32_w]
    rfl
  refine pure_ (i := 11) (N := some 75) (v := ?_) (a' := ?_) #[true, true, true, false, false, true, true, true, false, false, false, true, false, false, false, false, false, false, false, false, false, false] rfl rfl (by kernel_rfl) (fun _ _ _ h => h) (Or.inl ⟨by rfl, ?_⟩) ?_ ?_
  rotate_left
  · intro w'
    go_simp
    with_reducible rfl
  rotate_left
  · simp only [Act.put, List.setIfInBounds_toArray, List.set_cons_zero, List.set_cons_succ, i64_w, i32_w]
    rfl
  refine take_ (i := 3) (N := some 67) (v := ?_) (a' := ?_) #[true, true, true, true, false, true, true, true, false, false, false, true, false, false, false, false, false, false, false, false, false, false] rfl rfl (by kernel_rfl) (fun _ _ _ h => h) (Or.inl ⟨by rfl, ?_⟩) hHeld ?_ ?_
  rotate_left
  · rintro w' ⟨s0, s1, s2, s3, s4, s5⟩
    go_simp
    with_reducible rfl
  rotate_left
  · simp only [Act.put, List.setIfInBounds_toArray, List.set_cons_zero, List.set_cons_succ, i64_w, i32_w]
    rfl
  refine pure_ (i := 4) (N := some 68) (v := ?_) (a' := ?_) #[true, true, true, true, true, true, true, true, false, false, false, true, false, false, false, false, false, false, false, false, false, false] rfl rfl (by kernel_rfl) (fun _ _ _ h => h) (Or.inl ⟨by rfl, ?_⟩) ?_ ?_
  rotate_left
  · intro w'
    go_simp
    with_reducible rfl
  rotate_left
  · simp only [Act.put, List.setIfInBounds_toArray, List.set_cons_zero, List.set_cons_succ, i64_w, i32_w]
    rfl
  refine take_ (i := 8) (N := some 72) (v := ?_) (a' := ?_) #[true, true, true, true, true, true, true, true, true, false, false, true, false, false, false, false, false, false, false, false, false, false] rfl rfl (by kernel_rfl) (fun _ _ _ h => h) (Or.inl ⟨by rfl, ?_⟩) hHeld ?_ ?_
  rotate_left
  · rintro w' ⟨s0, s1, s2, s3, s4, s5⟩
    go_simp
    with_reducible rfl
  rotate_left
  · simp only [Act.put, List.setIfInBounds_toArray, List.set_cons_zero, List.set_cons_succ, i64_w, i32_w]
    rfl
  refine pure_ (i := 9) (N := some 73) (v := ?_) (a' := ?_) #[true, true, true, true, true, true, true, true, true, true, false, true, false, false, false, false, false, false, false, false, false, false] rfl rfl (by kernel_rfl) (fun _ _ _ h => h) (Or.inl ⟨by rfl, ?_⟩) ?_ ?_
  rotate_left
  · intro w'
    go_simp
    with_reducible rfl
  rotate_left
  · simp only [Act.put, List.setIfInBounds_toArray, List.set_cons_zero, List.set_cons_succ, i64_w, i32_w]
    rfl
  refine pure_ (i := 10) (N := some 74) (v := ?_) (a' := ?_) #[true, true, true, true, true, true, true, true, true, true, true, true, false, false, false, false, false, false, false, false, false, false] rfl rfl (by kernel_rfl) (fun _ _ _ h => h) (Or.inl ⟨by rfl, ?_⟩) ?_ ?_
  rotate_left
  · intro w'
    go_simp
    with_reducible rfl
  rotate_left
  · simp only [Act.put, List.setIfInBounds_toArray, List.set_cons_zero, List.set_cons_succ, i64_w, i32_w]
    rfl
  refine take_ (i := 12) (N := some 76) (v := ?_) (a' := ?_) #[true, true, true, true, true, true, true, true, true, true, true, true, true, false, false, false, false, false, false, false, false, false] rfl rfl (by kernel_rfl) (fun _ _ _ h => h) (Or.inl ⟨by rfl, ?_⟩) hHeld ?_ ?_
  rotate_left
  · rintro w' ⟨s0, s1, s2, s3, s4, s5⟩
    go_simp
    with_reducible rfl
  rotate_left
  · simp only [Act.put, List.setIfInBounds_toArray, List.set_cons_zero, List.set_cons_succ, i64_w, i32_w]
    rfl
  refine one_ (i := 13) (N := some 77) #[true, true, true, true, true, true, true, true, true, true, true, true, true, true, false, false, false, false, false, false, false, false] rfl rfl (by kernel_rfl) (by decide) (fun K hK => ?_)
  refine goes_ Try.func96 (by kernel_rfl) rfl #[.int .u16 64] (by rfl) rfl rfl (by simp only [List.map_toArray, List.map_cons, List.map_nil]; rfl) ?_
  with_reducible refine (riddleref5_size.calls 10 _ _ _ HS.out).mono ?_
  rintro e w3 ⟨rfl, ⟨nd, rfl⟩⟩
  refine ⟨_, rfl, ?_⟩
  refine hK.out _ _ ⟨(KK.out _ (by repeat (first | (with_reducible exact Below.refl _ _) | apply pw_below_drewN | apply below_drew1))).1, (KK.out _ (by repeat (first | (with_reducible exact Below.refl _ _) | apply pw_below_drewN | apply below_drew1))).2.1, (KK.out _ (by repeat (first | (with_reducible exact Below.refl _ _) | apply pw_below_drewN | apply below_drew1))).2.2.1, (KK.out _ (by repeat (first | (with_reducible exact Below.refl _ _) | apply pw_below_drewN | apply below_drew1))).2.2.2.1, (KK.out _ (by repeat (first | (with_reducible exact Below.refl _ _) | apply pw_below_drewN | apply below_drew1))).2.2.2.2.1, (KK.out _ (by repeat (first | (with_reducible exact Below.refl _ _) | apply pw_below_drewN | apply below_drew1))).2.2.2.2.2⟩ (fun hHeld => ?_)
  clear hK K
  refine norm_ (a' := ?_) ?_ ?_
  rotate_left
  · show Act.put _ (some 77) _ = _
    simp only [Act.put, List.setIfInBounds_toArray, List.set_cons_zero, List.set_cons_succ, i64_w, i32_w]
    rfl
  refine one_ (i := 14) (N := some 78) #[true, true, true, true, true, true, true, true, true, true, true, true, true, true, true, false, false, false, false, false, false, false] rfl rfl (by kernel_rfl) (by decide) (fun K hK => ?_)
  refine goes_ Try.func95 (by kernel_rfl) rfl #[.slice A p.length c, .int .u64 (IntKind.u64.wrap (IntKind.u64.wrap k + IntKind.u64.wrap M.x)), .int .i64 s] (by rfl) rfl rfl (by simp only [List.map_toArray, List.map_cons, List.map_nil]; rfl) ?_
  with_reducible refine (riddleref5_read.calls 10 A c p _ _ _ _ _ (KC.out _ (by repeat (first | (with_reducible exact Below.refl _ _) | apply pw_below_drewN | apply below_drew1))) HC.out HR.out).mono ?_
  rintro e w3 ⟨rfl, ⟨nd2, rfl⟩⟩
  refine ⟨_, rfl, ?_⟩
  refine hK.out _ _ ⟨(KK.out _ (by repeat (first | (with_reducible exact Below.refl _ _) | apply pw_below_drewN | apply below_drew1))).1, (KK.out _ (by repeat (first | (with_reducible exact Below.refl _ _) | apply pw_below_drewN | apply below_drew1))).2.1, (KK.out _ (by repeat (first | (with_reducible exact Below.refl _ _) | apply pw_below_drewN | apply below_drew1))).2.2.1, (KK.out _ (by repeat (first | (with_reducible exact Below.refl _ _) | apply pw_below_drewN | apply below_drew1))).2.2.2.1, (KK.out _ (by repeat (first | (with_reducible exact Below.refl _ _) | apply pw_below_drewN | apply below_drew1))).2.2.2.2.1, (KK.out _ (by repeat (first | (with_reducible exact Below.refl _ _) | apply pw_below_drewN | apply below_drew1))).2.2.2.2.2⟩ (fun hHeld => ?_)
  clear hK K
  refine norm_ (a' := ?_) ?_ ?_
  rotate_left
  · show Act.put _ (some 78) _ = _
    simp only [Act.put, List.setIfInBounds_toArray, List.set_cons_zero, List.set_cons_succ, i64_w, i32_w]
    rfl
  refine pure_ (i := 15) (N := some 63) (v := ?_) (a' := ?_) #[true, true, true, true, true, true, true, true, true, true, true, true, true, true, true, true, false, false, false, false, false, false] rfl rfl (by kernel_rfl) (fun _ _ _ h => h) (Or.inl ⟨by rfl, ?_⟩) ?_ ?_
  rotate_left
  · intro w'
    go_simp
    with_reducible rfl
  rotate_left
  · simp only [Act.put, List.setIfInBounds_toArray, List.set_cons_zero, List.set_cons_succ, i64_w, i32_w]
    rfl
  refine pure_ (i := 16) (N := some 79) (v := ?_) (a' := ?_) #[true, true, true, true, true, true, true, true, true, true, true, true, true, true, true, true, true, false, false, false, false, false] rfl rfl (by kernel_rfl) (fun _ _ _ h => h) (Or.inl ⟨by rfl, ?_⟩) ?_ ?_
  rotate_left
  · intro w'
    go_simp
    with_reducible rfl
  rotate_left
  · simp only [Act.put, List.setIfInBounds_toArray, List.set_cons_zero, List.set_cons_succ, i64_w, i32_w]
    rfl
  refine pure_ (i := 17) (N := some 80) (v := ?_) (a' := ?_) #[true, true, true, true, true, true, true, true, true, true, true, true, true, true, true, true, true, true, false, false, false, false] rfl rfl (by kernel_rfl) (fun _ _ _ h => h) (Or.inl ⟨by rfl, ?_⟩) ?_ ?_
  rotate_left
  · intro w'
    go_simp
    with_reducible rfl
  rotate_left
  · simp only [Act.put, List.setIfInBounds_toArray, List.set_cons_zero, List.set_cons_succ, i64_w, i32_w]
    rfl
  refine pure_ (i := 18) (N := some 81) (v := ?_) (a' := ?_) #[true, true, true, true, true, true, true, true, true, true, true, true, true, true, true, true, true, true, true, false, false, false] rfl rfl (by kernel_rfl) (fun _ _ _ h => h) (Or.inl ⟨by rfl, ?_⟩) ?_ ?_
  rotate_left
  · intro w'
    go_simp
    with_reducible rfl
  rotate_left
  · simp only [Act.put, List.setIfInBounds_toArray, List.set_cons_zero, List.set_cons_succ, i64_w, i32_w]
    rfl
  refine pure_ (i := 19) (N := some 82) (v := ?_) (a' := ?_) #[true, true, true, true, true, true, true, true, true, true, true, true, true, true, true, true, true, true, true, true, false, false] rfl rfl (by kernel_rfl) (fun _ _ _ h => h) (Or.inl ⟨by rfl, ?_⟩) ?_ ?_
  rotate_left
  · intro w'
    go_simp
    with_reducible rfl
  rotate_left
  · simp only [Act.put, List.setIfInBounds_toArray, List.set_cons_zero, List.set_cons_succ, i64_w, i32_w]
    rfl
  refine last_ (i := 20) (N := none) #[true, true, true, true, true, true, true, true, true, true, true, true, true, true, true, true, true, true, true, true, true, false] rfl rfl (by kernel_rfl) (by decide) (fun K hK => ?_)
  refine skip_ (w1 := ?_) (by rfl) rfl ?_ ?_
  rotate_left
  · go_simp
    rfl
  refine hK.out _ _ ?_
  clear hK K
  refine pure_ (i := 21) (N := some 7) (v := ?_) (a' := ?_) #[true, true, true, true, true, true, true, true, true, true, true, true, true, true, true, true, true, true, true, true, true, true] rfl rfl (by kernel_rfl) (fun _ _ _ h => h) (Or.inl ⟨by rfl, ?_⟩) ?_ ?_
  rotate_left
  · intro w'
    go_simp
    with_reducible rfl
  rotate_left
  · simp only [Act.put, List.setIfInBounds_toArray, List.set_cons_zero, List.set_cons_succ, i64_w, i32_w]
    rfl
  refine done_ (by kernel_rfl) ?_
  go_wp2
  go_ret
  exact ⟨rfl, blk_put (blk_below HM.out (by repeat (first | (with_reducible exact Below.refl _ _) | apply pw_below_drewN | apply below_drew1 | apply below_alloc))) 0 _ (mc_seta M _), Kp.set (S := fun k => k = gm) (g := gm) ((Kp.refl _ w).below (by repeat (first | (with_reducible exact Below.refl _ _) | apply pw_below_drewN | apply below_drew1 | apply below_alloc))) (.inl rfl) _ _⟩
set_option maxHeartbeats 4000000 in
set_option maxRecDepth 100000 in
theorem step_72 (w : World) (gm : Nat) (M : Mach) (v f s i1 i2 k : Int) (p : List Int) (A : Option Addr) (c : Nat) (hM : w.heap[gm]? = some (.cells (mcells M) 97 (0, 0))) (hl : M.m.length = 16) (hp : Kd.C (Kd.int .u8) w A p.length p) (hc : p.length ≤ c) (hs : riddleref5_size.f 10 72 = some s) (hr : riddleref5_read.f 10 p (IntKind.u64.wrap (IntKind.u64.wrap k + IntKind.u64.wrap M.x)) s = some (v, f)) :
    Calls Try.prog 63 #[.pointer (some ⟨gm, 0, none⟩), .agg #[.int .u16 72, .int .u8 i1, .int .u8 i2, .int .u32 k], .slice A p.length c] w fun e w' => e = .returned (.int .i64 f) ∧ w'.heap[gm]? = some (.cells (mcells { M with a := v }) 97 (0, 0)) ∧ Kp (fun k => k = gm) w w' := by
  have ca := (blk_cell hM 0).trans (mc_a M)
  have fa := blk_frozen hM 0
  have cx := (blk_cell hM 1).trans (mc_x M)
  have fx := blk_frozen hM 1
  have hlt := blk_lt hM
  have HM := Aside0.mk hM
  clear hM
  go_enter Try.func63, Try.ntmps63
  have HC := Aside0.mk hc
  have KK : ∀ W, Below (w.alloc (.cells #[.int .u16 72, .int .u8 i1, .int .u8 i2, .int .u32 k] 45)).heap.size (w.alloc (.cells #[.int .u16 72, .int .u8 i1, .int .u8 i2, .int .u32 k] 45)) W → W.cell? ⟨w.heap.size, 0, none⟩ = some (.int .u16 72) ∧ W.cell? ⟨w.heap.size, 3, none⟩ = some (.int .u32 k) ∧ W.cell? ⟨gm, 0, none⟩ = some (.int .u32 M.a) ∧ W.cell? ⟨gm, 1, none⟩ = some (.int .u32 M.x) ∧ W.frozen? ⟨gm, 0, none⟩ = false ∧ W.frozen? ⟨gm, 1, none⟩ = false := by
    intro W hb
    have b0 := blk_below (blk_new w (.cells #[.int .u16 72, .int .u8 i1, .int .u8 i2, .int .u32 k] 45)) hb
    have bm := blk_below (blk_below HM.out (below_alloc (Below.refl _ _) _)) hb
    exact ⟨(blk_cell b0 0).trans rfl, (blk_cell b0 3).trans rfl, (blk_cell bm 0).trans rfl, (blk_cell bm 1).trans rfl, blk_frozen bm 0, blk_frozen bm 1⟩
  have KC : ∀ W, Below (w.alloc (.cells #[.int .u16 72, .int .u8 i1, .int .u8 i2, .int .u32 k] 45)).heap.size (w.alloc (.cells #[.int .u16 72, .int .u8 i1, .int .u8 i2, .int .u32 k] 45)) W → Kd.C (Kd.int .u8) W A p.length p := by
    intro W hb
    exact Kd.C_below (Kd.C_alloc hp _) hb
  have KK := Aside0.mk KK
  have KC := Aside0.mk KC
  have HS := Aside0.mk hs
  have HR := Aside0.mk hr
  clear hs hr hp hc
  go_wp2
  refine start_ (n := 22) (S := fun w' => w'.cell? ⟨w.heap.size, 0, none⟩ = some (.int .u16 72) ∧ w'.cell? ⟨w.heap.size, 3, none⟩ = some (.int .u32 k) ∧ w'.cell? ⟨gm, 0, none⟩ = some (.int .u32 M.a) ∧ w'.cell? ⟨gm, 1, none⟩ = some (.int .u32 M.x) ∧ w'.frozen? ⟨gm, 0, none⟩ = false ∧ w'.frozen? ⟨gm, 1, none⟩ = false) (ds := [20]) #[false, false, false, false, false, false, false, false, false, false, false, false, false, false, false, false, false, false, false, false, false, false] (by kernel_rfl) rfl rfl ⟨(KK.out _ (by repeat (first | (with_reducible exact Below.refl _ _) | apply pw_below_drewN | apply below_drew1))).1, (KK.out _ (by repeat (first | (with_reducible exact Below.refl _ _) | apply pw_below_drewN | apply below_drew1))).2.1, (KK.out _ (by repeat (first | (with_reducible exact Below.refl _ _) | apply pw_below_drewN | apply below_drew1))).2.2.1, (KK.out _ (by repeat (first | (with_reducible exact Below.refl _ _) | apply pw_below_drewN | apply below_drew1))).2.2.2.1, (KK.out _ (by repeat (first | (with_reducible exact Below.refl _ _) | apply pw_below_drewN | apply below_drew1))).2.2.2.2.1, (KK.out _ (by repeat (first | (with_reducible exact Below.refl _ _) | apply pw_below_drewN | apply below_drew1))).2.2.2.2.2⟩ (fun hHeld => ?_)
  refine pure_ (i := 0) (N := some 64) (v := ?_) (a' := ?_) #[true, false, false, false, false, false, false, false, false, false, false, false, false, false, false, false, false, false, false, false, false, false] rfl rfl (by kernel_rfl) (fun _ _ _ h => h) (Or.inl ⟨by rfl, ?_⟩) ?_ ?_
  rotate_left
  · intro w'
    go_simp
    with_reducible rfl
  rotate_left
  · simp only [Act.put, List.setIfInBounds_toArray, List.set_cons_zero, List.set_cons_succ, i64_w, i32_w]
    rfl
  refine pure_ (i := 1) (N := some 65) (v := ?_) (a' := ?_) #[true, true, false, false, false, false, false, false, false, false, false, false, false, false, false, false, false, false, false, false, false, false] rfl rfl (by kernel_rfl) (fun _ _ _ h => h) (Or.inl ⟨by rfl, ?_⟩) ?_ ?_
  rotate_left
  · intro w'
    go_simp
    with_reducible rfl
  rotate_left
  · simp only [Act.put, List.setIfInBounds_toArray, List.set_cons_zero, List.set_cons_succ, i64_w, i32_w]
    rfl
  refine pure_ (i := 2) (N := some 66) (v := ?_) (a' := ?_) #[true, true, true, false, false, false, false, false, false, false, false, false, false, false, false, false, false, false, false, false, false, false] rfl rfl (by kernel_rfl) (fun _ _ _ h => h) (Or.inl ⟨by rfl, ?_⟩) ?_ ?_
  rotate_left
  · intro w'
    go_simp
    with_reducible rfl
  rotate_left
  · simp only [Act.put, List.setIfInBounds_toArray, List.set_cons_zero, List.set_cons_succ, i64_w, i32_w]
    rfl
  refine pure_ (i := 5) (N := some 69) (v := ?_) (a' := ?_) #[true, true, true, false, false, true, false, false, false, false, false, false, false, false, false, false, false, false, false, false, false, false] rfl rfl (by kernel_rfl) (fun _ _ _ h => h) (Or.inl ⟨by rfl, ?_⟩) ?_ ?_
  rotate_left
  · intro w'
    go_simp
    with_reducible rfl
  rotate_left
  · simp only [Act.put, List.setIfInBounds_toArray, List.set_cons_zero, List.set_cons_succ, i64_w, i32_w]
    rfl
  refine pure_ (i := 6) (N := some 70) (v := ?_) (a' := ?_) #[true, true, true, false, false, true, true, false, false, false, false, false, false, false, false, false, false, false, false, false, false, false] rfl rfl (by kernel_rfl) (fun _ _ _ h => h) (Or.inl ⟨by rfl, ?_⟩) ?_ ?_
  rotate_left
  · intro w'
    go_simp
    with_reducible rfl
  rotate_left
  · simp only [Act.put, List.setIfInBounds_toArray, List.set_cons_zero, List.set_cons_succ, i64_w, i32_w]
    rfl
  refine pure_ (i := 7) (N := some 71) (v := ?_) (a' := ?_) #[true, true, true, false, false, true, true, true, false, false, false, false, false, false, false, false, false, false, false, false, false, false] rfl rfl (by kernel_rfl) (fun _ _ _ h => h) (Or.inl ⟨by rfl, ?_⟩) ?_ ?_
  rotate_left
  · intro w'
    go_simp
    with_reducible rfl
  rotate_left
  · simp only [Act.put, List.setIfInBounds_toArray, List.set_cons_zero, List.set_cons_succ, i64_w, i32_w]
    rfl
  refine pure_ (i := 11) (N := some 75) (v := ?_) (a' := ?_) #[true, true, true, false, false, true, true, true, false, false, false, true, false, false, false, false, false, false, false, false, false, false] rfl rfl (by kernel_rfl) (fun _ _ _ h => h) (Or.inl ⟨by rfl, ?_⟩) ?_ ?_
  rotate_left
  · intro w'
    go_simp
    with_reducible rfl
  rotate_left
  · simp only [Act.put, List.setIfInBounds_toArray, List.set_cons_zero, List.set_cons_succ, i64_w, i32_w]
    rfl
  refine take_ (i := 3) (N := some 67) (v := ?_) (a' := ?_) #[true, true, true, true, false, true, true, true, false, false, false, true, false, false, false, false, false, false, false, false, false, false] rfl rfl (by kernel_rfl) (fun _ _ _ h => h) (Or.inl ⟨by rfl, ?_⟩) hHeld ?_ ?_
  rotate_left
  · rintro w' ⟨s0, s1, s2, s3, s4, s5⟩
    go_simp
    with_reducible rfl
  rotate_left
  · simp only [Act.put, List.setIfInBounds_toArray, List.set_cons_zero, List.set_cons_succ, i64_w, i32_w]
    rfl
  refine pure_ (i := 4) (N := some 68) (v := ?_) (a' := ?_) #[true, true, true, true, true, true, true, true, false, false, false, true, false, false, false, false, false, false, false, false, false, false] rfl rfl (by kernel_rfl) (fun _ _ _ h => h) (Or.inl ⟨by rfl, ?_⟩) ?_ ?_
  rotate_left
  · intro w'
    go_simp
    with_reducible rfl
  rotate_left
  · simp only [Act.put, List.setIfInBounds_toArray, List.set_cons_zero, List.set_cons_succ, i64_w, i32_w]
    rfl
  refine take_ (i := 8) (N := some 72) (v := ?_) (a' := ?_) #[true, true, true, true, true, true, true, true, true, false, false, true, false, false, false, false, false, false, false, false, false, false] rfl rfl (by kernel_rfl) (fun _ _ _ h => h) (Or.inl ⟨by rfl, ?_⟩) hHeld ?_ ?_
  rotate_left
  · rintro w' ⟨s0, s1, s2, s3, s4, s5⟩
    go_simp
    with_reducible rfl
  rotate_left
  · simp only [Act.put, List.setIfInBounds_toArray, List.set_cons_zero, List.set_cons_succ, i64_w, i32_w]
    rfl
  refine pure_ (i := 9) (N := some 73) (v := ?_) (a' := ?_) #[true, true, true, true, true, true, true, true, true, true, false, true, false, false, false, false, false, false, false, false, false, false] rfl rfl (by kernel_rfl) (fun _ _ _ h => h) (Or.inl ⟨by rfl, ?_⟩) ?_ ?_
  rotate_left
  · intro w'
    go_simp
    with_reducible rfl
  rotate_left
  · simp only [Act.put, List.setIfInBounds_toArray, List.set_cons_zero, List.set_cons_succ, i64_w, i32_w]
    rfl
  refine pure_ (i := 10) (N := some 74) (v := ?_) (a' := ?_) #[true, true, true, true, true, true, true, true, true, true, true, true, false, false, false, false, false, false, false, false, false, false] rfl rfl (by kernel_rfl) (fun _ _ _ h => h) (Or.inl ⟨by rfl, ?_⟩) ?_ ?_
  rotate_left
  · intro w'
    go_simp
    with_reducible rfl
  rotate_left
  · simp only [Act.put, List.setIfInBounds_toArray, List.set_cons_zero, List.set_cons_succ, i64_w, i32_w]
    rfl
  refine take_ (i := 12) (N := some 76) (v := ?_) (a' := ?_) #[true, true, true, true, true, true, true, true, true, true, true, true, true, false, false, false, false, false, false, false, false, false] rfl rfl (by kernel_rfl) (fun _ _ _ h => h) (Or.inl ⟨by rfl, ?_⟩) hHeld ?_ ?_
  rotate_left
  · rintro w' ⟨s0, s1, s2, s3, s4, s5⟩
    go_simp
    with_reducible rfl
  rotate_left
  · simp only [Act.put, List.setIfInBounds_toArray, List.set_cons_zero, List.set_cons_succ, i64_w, i32_w]
    rfl
  refine one_ (i := 13) (N := some 77) #[true, true, true, true, true, true, true, true, true, true, true, true, true, true, false, false, false, false, false, false, false, false] rfl rfl (by kernel_rfl) (by decide) (fun K hK => ?_)
  refine goes_ Try.func96 (by kernel_rfl) rfl #[.int .u16 72] (by rfl) rfl rfl (by simp only [List.map_toArray, List.map_cons, List.map_nil]; rfl) ?_
  with_reducible refine (riddleref5_size.calls 10 _ _ _ HS.out).mono ?_
  rintro e w3 ⟨rfl, ⟨nd, rfl⟩⟩
  refine ⟨_, rfl, ?_⟩
  refine hK.out _ _ ⟨(KK.out _ (by repeat (first | (with_reducible exact Below.refl _ _) | apply pw_below_drewN | apply below_drew1))).1, (KK.out _ (by repeat (first | (with_reducible exact Below.refl _ _) | apply pw_below_drewN | apply below_drew1))).2.1, (KK.out _ (by repeat (first | (with_reducible exact Below.refl _ _) | apply pw_below_drewN | apply below_drew1))).2.2.1, (KK.out _ (by repeat (first | (with_reducible exact Below.refl _ _) | apply pw_below_drewN | apply below_drew1))).2.2.2.1, (KK.out _ (by repeat (first | (with_reducible exact Below.refl _ _) | apply pw_below_drewN | apply below_drew1))).2.2.2.2.1, (KK.out _ (by repeat (first | (with_reducible exact Below.refl _ _) | apply pw_below_drewN | apply below_drew1))).2.2.2.2.2⟩ (fun hHeld => ?_)
  clear hK K
  refine norm_ (a' := ?_) ?_ ?_
  rotate_left
  · show Act.put _ (some 77) _ = _
    simp only [Act.put, List.setIfInBounds_toArray, List.set_cons_zero, List.set_cons_succ, i64_w, i32_w]
    rfl
  refine one_ (i := 14) (N := some 78) #[true, true, true, true, true, true, true, true, true, true, true, true, true, true, true, false, false, false, false, false, false, false] rfl rfl (by kernel_rfl) (by decide) (fun K hK => ?_)
  refine goes_ Try.func95 (by kernel_rfl) rfl #[.slice A p.length c, .int .u64 (IntKind.u64.wrap (IntKind.u64.wrap k + IntKind.u64.wrap M.x)), .int .i64 s] (by rfl) rfl rfl (by simp only [List.map_toArray, List.map_cons, List.map_nil]; rfl) ?_
  with_reducible refine (riddleref5_read.calls 10 A c p _ _ _ _ _ (KC.out _ (by repeat (first | (with_reducible exact Below.refl _ _) | apply pw_below_drewN | apply below_drew1))) HC.out HR.out).mono ?_
  rintro e w3 ⟨rfl, ⟨nd2, rfl⟩⟩
  refine ⟨_, rfl, ?_⟩
  refine hK.out _ _ ⟨(KK.out _ (by repeat (first | (with_reducible exact Below.refl _ _) | apply pw_below_drewN | apply below_drew1))).1, (KK.out _ (by repeat (first | (with_reducible exact Below.refl _ _) | apply pw_below_drewN | apply below_drew1))).2.1, (KK.out _ (by repeat (first | (with_reducible exact Below.refl _ _) | apply pw_below_drewN | apply below_drew1))).2.2.1, (KK.out _ (by repeat (first | (with_reducible exact Below.refl _ _) | apply pw_below_drewN | apply below_drew1))).2.2.2.1, (KK.out _ (by repeat (first | (with_reducible exact Below.refl _ _) | apply pw_below_drewN | apply below_drew1))).2.2.2.2.1, (KK.out _ (by repeat (first | (with_reducible exact Below.refl _ _) | apply pw_below_drewN | apply below_drew1))).2.2.2.2.2⟩ (fun hHeld => ?_)
  clear hK K
  refine norm_ (a' := ?_) ?_ ?_
  rotate_left
  · show Act.put _ (some 78) _ = _
    simp only [Act.put, List.setIfInBounds_toArray, List.set_cons_zero, List.set_cons_succ, i64_w, i32_w]
    rfl
  refine pure_ (i := 15) (N := some 63) (v := ?_) (a' := ?_) #[true, true, true, true, true, true, true, true, true, true, true, true, true, true, true, true, false, false, false, false, false, false] rfl rfl (by kernel_rfl) (fun _ _ _ h => h) (Or.inl ⟨by rfl, ?_⟩) ?_ ?_
  rotate_left
  · intro w'
    go_simp
    with_reducible rfl
  rotate_left
  · simp only [Act.put, List.setIfInBounds_toArray, List.set_cons_zero, List.set_cons_succ, i64_w, i32_w]
    rfl
  refine pure_ (i := 16) (N := some 79) (v := ?_) (a' := ?_) #[true, true, true, true, true, true, true, true, true, true, true, true, true, true, true, true, true, false, false, false, false, false] rfl rfl (by kernel_rfl) (fun _ _ _ h => h) (Or.inl ⟨by rfl, ?_⟩) ?_ ?_
  rotate_left
  · intro w'
    go_simp
    with_reducible rfl
  rotate_left
  · simp only [Act.put, List.setIfInBounds_toArray, List.set_cons_zero, List.set_cons_succ, i64_w, i32_w]
    rfl
  refine pure_ (i := 17) (N := some 80) (v := ?_) (a' := ?_) #[true, true, true, true, true, true, true, true, true, true, true, true, true, true, true, true, true, true, false, false, false, false] rfl rfl (by kernel_rfl) (fun _ _ _ h => h) (Or.inl ⟨by rfl, ?_⟩) ?_ ?_
  rotate_left
  · intro w'
    go_simp
    with_reducible rfl
  rotate_left
  · simp only [Act.put, List.setIfInBounds_toArray, List.set_cons_zero, List.set_cons_succ, i64_w, i32_w]
    rfl
  refine pure_ (i := 18) (N := some 81) (v := ?_) (a' := ?_) #[true, true, true, true, true, true, true, true, true, true, true, true, true, true, true, true, true, true, true, false, false, false] rfl rfl (by kernel_rfl) (fun _ _ _ h => h) (Or.inl ⟨by rfl, ?_⟩) ?_ ?_
  rotate_left
  · intro w'
    go_simp
    with_reducible rfl
  rotate_left
  · simp only [Act.put, List.setIfInBounds_toArray, List.set_cons_zero, List.set_cons_succ, i64_w, i32_w]
    rfl
  refine pure_ (i := 19) (N := some 82) (v := ?_) (a' := ?_) #[true, true, true, true, true, true, true, true, true, true, true, true, true, true, true, true, true, true, true, true, false, false] rfl rfl (by kernel_rfl) (fun _ _ _ h => h) (Or.inl ⟨by rfl, ?_⟩) ?_ ?_
  rotate_left
  · intro w'
    go_simp
    with_reducible rfl
  rotate_left
  · simp only [Act.put, List.setIfInBounds_toArray, List.set_cons_zero, List.set_cons_succ, i64_w, i32_w]
    rfl
  refine last_ (i := 20) (N := none) #[true, true, true, true, true, true, true, true, true, true, true, true, true, true, true, true, true, true, true, true, true, false] rfl rfl (by kernel_rfl) (by decide) (fun K hK => ?_)
  refine skip_ (w1 := ?_) (by rfl) rfl ?_ ?_
  rotate_left
  · go_simp
    rfl
  refine hK.out _ _ ?_
  clear hK K
  refine pure_ (i := 21) (N := some 7) (v := ?_) (a' := ?_) #[true, true, true, true, true, true, true, true, true, true, true, true, true, true, true, true, true, true, true, true, true, true] rfl rfl (by kernel_rfl) (fun _ _ _ h => h) (Or.inl ⟨by rfl, ?_⟩) ?_ ?_
  rotate_left
  · intro w'
    go_simp
    with_reducible rfl
  rotate_left
  · simp only [Act.put, List.setIfInBounds_toArray, List.set_cons_zero, List.set_cons_succ, i64_w, i32_w]
    rfl
  refine done_ (by kernel_rfl) ?_
  go_wp2
  go_ret
  exact ⟨rfl, blk_put (blk_below HM.out (by repeat (first | (with_reducible exact Below.refl _ _) | apply pw_below_drewN | apply below_drew1 | apply below_alloc))) 0 _ (mc_seta M _), Kp.set (S := fun k => k = gm) (g := gm) ((Kp.refl _ w).below (by repeat (first | (with_reducible exact Below.refl _ _) | apply pw_below_drewN | apply below_drew1 | apply below_alloc))) (.inl rfl) _ _⟩
set_option maxHeartbeats 4000000 in
set_option maxRecDepth 100000 in
theorem step_80 (w : World) (gm : Nat) (M : Mach) (v f s i1 i2 k : Int) (p : List Int) (A : Option Addr) (c : Nat) (hM : w.heap[gm]? = some (.cells (mcells M) 97 (0, 0))) (hl : M.m.length = 16) (hp : Kd.C (Kd.int .u8) w A p.length p) (hc : p.length ≤ c) (hs : riddleref5_size.f 10 80 = some s) (hr : riddleref5_read.f 10 p (IntKind.u64.wrap (IntKind.u64.wrap k + IntKind.u64.wrap M.x)) s = some (v, f)) :
    Calls Try.prog 63 #[.pointer (some ⟨gm, 0, none⟩), .agg #[.int .u16 80, .int .u8 i1, .int .u8 i2, .int .u32 k], .slice A p.length c] w fun e w' => e = .returned (.int .i64 f) ∧ w'.heap[gm]? = some (.cells (mcells { M with a := v }) 97 (0, 0)) ∧ Kp (fun k => k = gm) w w' := by
  have ca := (blk_cell hM 0).trans (mc_a M)
  have fa := blk_frozen hM 0
  have cx := (blk_cell hM 1).trans (mc_x M)
  have fx := blk_frozen hM 1
  have hlt := blk_lt hM
  have HM := Aside0.mk hM
  clear hM
  go_enter Try.func63, Try.ntmps63
  have HC := Aside0.mk hc
  have KK : ∀ W, Below (w.alloc (.cells #[.int .u16 80, .int .u8 i1, .int .u8 i2, .int .u32 k] 45)).heap.size (w.alloc (.cells #[.int .u16 80, .int .u8 i1, .int .u8 i2, .int .u32 k] 45)) W → W.cell? ⟨w.heap.size, 0, none⟩ = some (.int .u16 80) ∧ W.cell? ⟨w.heap.size, 3, none⟩ = some (.int .u32 k) ∧ W.cell? ⟨gm, 0, none⟩ = some (.int .u32 M.a) ∧ W.cell? ⟨gm, 1, none⟩ = some (.int .u32 M.x) ∧ W.frozen? ⟨gm, 0, none⟩ = false ∧ W.frozen? ⟨gm, 1, none⟩ = false := by
    intro W hb
    have b0 := blk_below (blk_new w (.cells #[.int .u16 80, .int .u8 i1, .int .u8 i2, .int .u32 k] 45)) hb
    have bm := blk_below (blk_below HM.out (below_alloc (Below.refl _ _) _)) hb
    exact ⟨(blk_cell b0 0).trans rfl, (blk_cell b0 3).trans rfl, (blk_cell bm 0).trans rfl, (blk_cell bm 1).trans rfl, blk_frozen bm 0, blk_frozen bm 1⟩
  have KC : ∀ W, Below (w.alloc (.cells #[.int .u16 80, .int .u8 i1, .int .u8 i2, .int .u32 k] 45)).heap.size (w.alloc (.cells #[.int .u16 80, .int .u8 i1, .int .u8 i2, .int .u32 k] 45)) W → Kd.C (Kd.int .u8) W A p.length p := by
    intro W hb
    exact Kd.C_below (Kd.C_alloc hp _) hb
  have KK := Aside0.mk KK
  have KC := Aside0.mk KC
  have HS := Aside0.mk hs
  have HR := Aside0.mk hr
  clear hs hr hp hc
  go_wp2
  refine start_ (n := 22) (S := fun w' => w'.cell? ⟨w.heap.size, 0, none⟩ = some (.int .u16 80) ∧ w'.cell? ⟨w.heap.size, 3, none⟩ = some (.int .u32 k) ∧ w'.cell? ⟨gm, 0, none⟩ = some (.int .u32 M.a) ∧ w'.cell? ⟨gm, 1, none⟩ = some (.int .u32 M.x) ∧ w'.frozen? ⟨gm, 0, none⟩ = false ∧ w'.frozen? ⟨gm, 1, none⟩ = false) (ds := [20]) #[false, false, false, false, false, false, false, false, false, false, false, false, false, false, false, false, false, false, false, false, false, false] (by kernel_rfl) rfl rfl ⟨(KK.out _ (by repeat (first | (with_reducible exact Below.refl _ _) | apply pw_below_drewN | apply below_drew1))).1, (KK.out _ (by repeat (first | (with_reducible exact Below.refl _ _) | apply pw_below_drewN | apply below_drew1))).2.1, (KK.out _ (by repeat (first | (with_reducible exact Below.refl _ _) | apply pw_below_drewN | apply below_drew1))).2.2.1, (KK.out _ (by repeat (first | (with_reducible exact Below.refl _ _) | apply pw_below_drewN | apply below_drew1))).2.2.2.1, (KK.out _ (by repeat (first | (with_reducible exact Below.refl _ _) | apply pw_below_drewN | apply below_drew1))).2.2.2.2.1, (KK.out _ (by repeat (first | (with_reducible exact Below.refl _ _) | apply pw_below_drewN | apply below_drew1))).2.2.2.2.2⟩ (fun hHeld => ?_)
  refine pure_ (i := 0) (N := some 64) (v := ?_) (a' := ?_) #[true, false, false, false, false, false, false, false, false, false, false, false, false, false, false, false, false, false, false, false, false, false] rfl rfl (by kernel_rfl) (fun _ _ _ h => h) (Or.inl ⟨by rfl, ?_⟩) ?_ ?_
  rotate_left
  · intro w'
    go_simp
    with_reducible rfl
  rotate_left
  · simp only [Act.put, List.setIfInBounds_toArray, List.set_cons_zero, List.set_cons_succ, i64_w, i32_w]
    rfl
  refine pure_ (i := 1) (N := some 65) (v := ?_) (a' := ?_) #[true, true, false, false, false, false, false, false, false, false, false, false, false, false, false, false, false, false, false, false, false, false] rfl rfl (by kernel_rfl) (fun _ _ _ h => h) (Or.inl ⟨by rfl, ?_⟩) ?_ ?_
  rotate_left
  · intro w'
    go_simp
    with_reducible rfl
  rotate_left
  · simp only [Act.put, List.setIfInBounds_toArray, List.set_cons_zero, List.set_cons_succ, i64_w, i32_w]
    rfl
  refine pure_ (i := 2) (N := some 66) (v := ?_) (a' := ?_) #[true, true, true, false, false, false, false, false, false, false, false, false, false, false, false, false, false, false, false, false, false, false] rfl rfl (by kernel_rfl) (fun _ _ _ h => h) (Or.inl ⟨by rfl, ?_⟩) ?_ ?_
  rotate_left
  · intro w'
    go_simp
    with_reducible rfl
  rotate_left
  · simp only [Act.put, List.setIfInBounds_toArray, List.set_cons_zero, List.set_cons_succ, i64_w, i32_w]
    rfl
  refine pure_ (i := 5) (N := some 69) (v := ?_) (a' := ?_) #[true, true, true, false, false, true, false, false, false, false, false, false, false, false, false, false, false, false, false, false, false, false] rfl rfl (by kernel_rfl) (fun _ _ _ h => h) (Or.inl ⟨by rfl, ?_⟩) ?_ ?_
  rotate_left
  · intro w'
    go_simp
    with_reducible rfl
  rotate_left
  · simp only [Act.put, List.setIfInBounds_toArray, List.set_cons_zero, List.set_cons_succ, i64_w, i32_w]
    rfl
  refine pure_ (i := 6) (N := some 70) (v := ?_) (a' := ?_) #[true, true, true, false, false, true, true, false, false, false, false, false, false, false, false, false, false, false, false, false, false, false] rfl rfl (by kernel_rfl) (fun _ _ _ h => h) (Or.inl ⟨by rfl, ?_⟩) ?_ ?_
  rotate_left
  · intro w'
    go_simp
    with_reducible rfl
  rotate_left
  · simp only [Act.put, List.setIfInBounds_toArray, List.set_cons_zero, List.set_cons_succ, i64_w, i32_w]
    rfl
  refine pure_ (i := 7) (N := some 71) (v := ?_) (a' := ?_) #[true, true, true, false, false, true, true, true, false, false, false, false, false, false, false, false, false, false, false, false, false, false] rfl rfl (by kernel_rfl) (fun _ _ _ h => h) (Or.inl ⟨by rfl, ?_⟩) ?_ ?_
  rotate_left
  · intro w'
    go_simp
    with_reducible rfl
  rotate_left
  · simp only [Act.put, List.setIfInBounds_toArray, List.set_cons_zero, List.set_cons_succ, i64_w, i32_w]
    rfl
  refine pure_ (i := 11) (N := some 75) (v := ?_) (a' := ?_) #[true, true, true, false, false, true, true, true, false, false, false, true, false, false, false, false, false, false, false, false, false, false] rfl rfl (by kernel_rfl) (fun _ _ _ h => h) (Or.inl ⟨by rfl, ?_⟩) ?_ ?_
  rotate_left
  · intro w'
    go_simp
    with_reducible rfl
  rotate_left
  · simp only [Act.put, List.setIfInBounds_toArray, List.set_cons_zero, List.set_cons_succ, i64_w, i32_w]
    rfl
  refine take_ (i := 3) (N := some 67) (v := ?_) (a' := ?_) #[true, true, true, true, false, true, true, true, false, false, false, true, false, false, false, false, false, false, false, false, false, false] rfl rfl (by kernel_rfl) (fun _ _ _ h => h) (Or.inl ⟨by rfl, ?_⟩) hHeld ?_ ?_
  rotate_left
  · rintro w' ⟨s0, s1, s2, s3, s4, s5⟩
    go_simp
    with_reducible rfl
  rotate_left
  · simp only [Act.put, List.setIfInBounds_toArray, List.set_cons_zero, List.set_cons_succ, i64_w, i32_w]
    rfl
  refine pure_ (i := 4) (N := some 68) (v := ?_) (a' := ?_) #[true, true, true, true, true, true, true, true, false, false, false, true, false, false, false, false, false, false, false, false, false, false] rfl rfl (by kernel_rfl) (fun _ _ _ h => h) (Or.inl ⟨by rfl, ?_⟩) ?_ ?_
  rotate_left
  · intro w'
    go_simp
    with_reducible rfl
  rotate_left
  · simp only [Act.put, List.setIfInBounds_toArray, List.set_cons_zero, List.set_cons_succ, i64_w, i32_w]
    rfl
  refine take_ (i := 8) (N := some 72) (v := ?_) (a' := ?_) #[true, true, true, true, true, true, true, true, true, false, false, true, false, false, false, false, false, false, false, false, false, false] rfl rfl (by kernel_rfl) (fun _ _ _ h => h) (Or.inl ⟨by rfl, ?_⟩) hHeld ?_ ?_
  rotate_left
  · rintro w' ⟨s0, s1, s2, s3, s4, s5⟩
    go_simp
    with_reducible rfl
  rotate_left
  · simp only [Act.put, List.setIfInBounds_toArray, List.set_cons_zero, List.set_cons_succ, i64_w, i32_w]
    rfl
  refine pure_ (i := 9) (N := some 73) (v := ?_) (a' := ?_) #[true, true, true, true, true, true, true, true, true, true, false, true, false, false, false, false, false, false, false, false, false, false] rfl rfl (by kernel_rfl) (fun _ _ _ h => h) (Or.inl ⟨by rfl, ?_⟩) ?_ ?_
  rotate_left
  · intro w'
    go_simp
    with_reducible rfl
  rotate_left
  · simp only [Act.put, List.setIfInBounds_toArray, List.set_cons_zero, List.set_cons_succ, i64_w, i32_w]
    rfl
  refine pure_ (i := 10) (N := some 74) (v := ?_) (a' := ?_) #[true, true, true, true, true, true, true, true, true, true, true, true, false, false, false, false, false, false, false, false, false, false] rfl rfl (by kernel_rfl) (fun _ _ _ h => h) (Or.inl ⟨by rfl, ?_⟩) ?_ ?_
  rotate_left
  · intro w'
    go_simp
    with_reducible rfl
  rotate_left
  · simp only [Act.put, List.setIfInBounds_toArray, List.set_cons_zero, List.set_cons_succ, i64_w, i32_w]
    rfl
  refine take_ (i := 12) (N := some 76) (v := ?_) (a' := ?_) #[true, true, true, true, true, true, true, true, true, true, true, true, true, false, false, false, false, false, false, false, false, false] rfl rfl (by kernel_rfl) (fun _ _ _ h => h) (Or.inl ⟨by rfl, ?_⟩) hHeld ?_ ?_
  rotate_left
  · rintro w' ⟨s0, s1, s2, s3, s4, s5⟩
    go_simp
    with_reducible rfl
  rotate_left
  · simp only [Act.put, List.setIfInBounds_toArray, List.set_cons_zero, List.set_cons_succ, i64_w, i32_w]
    rfl
  refine one_ (i := 13) (N := some 77) #[true, true, true, true, true, true, true, true, true, true, true, true, true, true, false, false, false, false, false, false, false, false] rfl rfl (by kernel_rfl) (by decide) (fun K hK => ?_)
  refine goes_ Try.func96 (by kernel_rfl) rfl #[.int .u16 80] (by rfl) rfl rfl (by simp only [List.map_toArray, List.map_cons, List.map_nil]; rfl) ?_
  with_reducible refine (riddleref5_size.calls 10 _ _ _ HS.out).mono ?_
  rintro e w3 ⟨rfl, ⟨nd, rfl⟩⟩
  refine ⟨_, rfl, ?_⟩
  refine hK.out _ _ ⟨(KK.out _ (by repeat (first | (with_reducible exact Below.refl _ _) | apply pw_below_drewN | apply below_drew1))).1, (KK.out _ (by repeat (first | (with_reducible exact Below.refl _ _) | apply pw_below_drewN | apply below_drew1))).2.1, (KK.out _ (by repeat (first | (with_reducible exact Below.refl _ _) | apply pw_below_drewN | apply below_drew1))).2.2.1, (KK.out _ (by repeat (first | (with_reducible exact Below.refl _ _) | apply pw_below_drewN | apply below_drew1))).2.2.2.1, (KK.out _ (by repeat (first | (with_reducible exact Below.refl _ _) | apply pw_below_drewN | apply below_drew1))).2.2.2.2.1, (KK.out _ (by repeat (first | (with_reducible exact Below.refl _ _) | apply pw_below_drewN | apply below_drew1))).2.2.2.2.2⟩ (fun hHeld => ?_)
  clear hK K
  refine norm_ (a' := ?_) ?_ ?_
  rotate_left
  · show Act.put _ (some 77) _ = _
    simp only [Act.put, List.setIfInBounds_toArray, List.set_cons_zero, List.set_cons_succ, i64_w, i32_w]
    rfl
  refine one_ (i := 14) (N := some 78) #[true, true, true, true, true, true, true, true, true, true, true, true, true, true, true, false, false, false, false, false, false, false] rfl rfl (by kernel_rfl) (by decide) (fun K hK => ?_)
  refine goes_ Try.func95 (by kernel_rfl) rfl #[.slice A p.length c, .int .u64 (IntKind.u64.wrap (IntKind.u64.wrap k + IntKind.u64.wrap M.x)), .int .i64 s] (by rfl) rfl rfl (by simp only [List.map_toArray, List.map_cons, List.map_nil]; rfl) ?_
  with_reducible refine (riddleref5_read.calls 10 A c p _ _ _ _ _ (KC.out _ (by repeat (first | (with_reducible exact Below.refl _ _) | apply pw_below_drewN | apply below_drew1))) HC.out HR.out).mono ?_
  rintro e w3 ⟨rfl, ⟨nd2, rfl⟩⟩
  refine ⟨_, rfl, ?_⟩
  refine hK.out _ _ ⟨(KK.out _ (by repeat (first | (with_reducible exact Below.refl _ _) | apply pw_below_drewN | apply below_drew1))).1, (KK.out _ (by repeat (first | (with_reducible exact Below.refl _ _) | apply pw_below_drewN | apply below_drew1))).2.1, (KK.out _ (by repeat (first | (with_reducible exact Below.refl _ _) | apply pw_below_drewN | apply below_drew1))).2.2.1, (KK.out _ (by repeat (first | (with_reducible exact Below.refl _ _) | apply pw_below_drewN | apply below_drew1))).2.2.2.1, (KK.out _ (by repeat (first | (with_reducible exact Below.refl _ _) | apply pw_below_drewN | apply below_drew1))).2.2.2.2.1, (KK.out _ (by repeat (first | (with_reducible exact Below.refl _ _) | apply pw_below_drewN | apply below_drew1))).2.2.2.2.2⟩ (fun hHeld => ?_)
  clear hK K
  refine norm_ (a' := ?_) ?_ ?_
  rotate_left
  · show Act.put _ (some 78) _ = _
    simp only [Act.put, List.setIfInBounds_toArray, List.set_cons_zero, List.set_cons_succ, i64_w, i32_w]
    rfl
  refine pure_ (i := 15) (N := some 63) (v := ?_) (a' := ?_) #[true, true, true, true, true, true, true, true, true, true, true, true, true, true, true, true, false, false, false, false, false, false] rfl rfl (by kernel_rfl) (fun _ _ _ h => h) (Or.inl ⟨by rfl, ?_⟩) ?_ ?_
  rotate_left
  · intro w'
    go_simp
    with_reducible rfl
  rotate_left
  · simp only [Act.put, List.setIfInBounds_toArray, List.set_cons_zero, List.set_cons_succ, i64_w, i32_w]
    rfl
  refine pure_ (i := 16) (N := some 79) (v := ?_) (a' := ?_) #[true, true, true, true, true, true, true, true, true, true, true, true, true, true, true, true, true, false, false, false, false, false] rfl rfl (by kernel_rfl) (fun _ _ _ h => h) (Or.inl ⟨by rfl, ?_⟩) ?_ ?_
  rotate_left
  · intro w'
    go_simp
    with_reducible rfl
  rotate_left
  · simp only [Act.put, List.setIfInBounds_toArray, List.set_cons_zero, List.set_cons_succ, i64_w, i32_w]
    rfl
  refine pure_ (i := 17) (N := some 80) (v := ?_) (a' := ?_) #[true, true, true, true, true, true, true, true, true, true, true, true, true, true, true, true, true, true, false, false, false, false] rfl rfl (by kernel_rfl) (fun _ _ _ h => h) (Or.inl ⟨by rfl, ?_⟩) ?_ ?_
  rotate_left
  · intro w'
    go_simp
    with_reducible rfl
  rotate_left
  · simp only [Act.put, List.setIfInBounds_toArray, List.set_cons_zero, List.set_cons_succ, i64_w, i32_w]
    rfl
  refine pure_ (i := 18) (N := some 81) (v := ?_) (a' := ?_) #[true, true, true, true, true, true, true, true, true, true, true, true, true, true, true, true, true, true, true, false, false, false] rfl rfl (by kernel_rfl) (fun _ _ _ h => h) (Or.inl ⟨by rfl, ?_⟩) ?_ ?_
  rotate_left
  · intro w'
    go_simp
    with_reducible rfl
  rotate_left
  · simp only [Act.put, List.setIfInBounds_toArray, List.set_cons_zero, List.set_cons_succ, i64_w, i32_w]
    rfl
  refine pure_ (i := 19) (N := some 82) (v := ?_) (a' := ?_) #[true, true, true, true, true, true, true, true, true, true, true, true, true, true, true, true, true, true, true, true, false, false] rfl rfl (by kernel_rfl) (fun _ _ _ h => h) (Or.inl ⟨by rfl, ?_⟩) ?_ ?_
  rotate_left
  · intro w'
    go_simp
    with_reducible rfl
  rotate_left
  · simp only [Act.put, List.setIfInBounds_toArray, List.set_cons_zero, List.set_cons_succ, i64_w, i32_w]
    rfl
  refine last_ (i := 20) (N := none) #[true, true, true, true, true, true, true, true, true, true, true, true, true, true, true, true, true, true, true, true, true, false] rfl rfl (by kernel_rfl) (by decide) (fun K hK => ?_)
  refine skip_ (w1 := ?_) (by rfl) rfl ?_ ?_
  rotate_left
  · go_simp
    rfl
  refine hK.out _ _ ?_
  clear hK K
  refine pure_ (i := 21) (N := some 7) (v := ?_) (a' := ?_) #[true, true, true, true, true, true, true, true, true, true, true, true, true, true, true, true, true, true, true, true, true, true] rfl rfl (by kernel_rfl) (fun _ _ _ h => h) (Or.inl ⟨by rfl, ?_⟩) ?_ ?_
  rotate_left
  · intro w'
    go_simp
    with_reducible rfl
  rotate_left
  · simp only [Act.put, List.setIfInBounds_toArray, List.set_cons_zero, List.set_cons_succ, i64_w, i32_w]
    rfl
  refine done_ (by kernel_rfl) ?_
  go_wp2
  go_ret
  exact ⟨rfl, blk_put (blk_below HM.out (by repeat (first | (with_reducible exact Below.refl _ _) | apply pw_below_drewN | apply below_drew1 | apply below_alloc))) 0 _ (mc_seta M _), Kp.set (S := fun k => k = gm) (g := gm) ((Kp.refl _ w).below (by repeat (first | (with_reducible exact Below.refl _ _) | apply pw_below_drewN | apply below_drew1 | apply below_alloc))) (.inl rfl) _ _⟩
set_option maxHeartbeats 4000000 in
set_option maxRecDepth 100000 in
theorem step_177 (w : World) (gm : Nat) (M : Mach) (v f i1 i2 k : Int) (p : List Int) (A : Option Addr) (c : Nat) (hM : w.heap[gm]? = some (.cells (mcells M) 97 (0, 0))) (hl : M.m.length = 16) (hp : Kd.C (Kd.int .u8) w A p.length p) (hc : p.length ≤ c) (hr : riddleref5_read.f 10 p (IntKind.u64.wrap k) 1 = some (v, f)) :
    Calls Try.prog 63 #[.pointer (some ⟨gm, 0, none⟩), .agg #[.int .u16 177, .int .u8 i1, .int .u8 i2, .int .u32 k], .slice A p.length c] w fun e w' => e = .returned (.int .i64 f) ∧ w'.heap[gm]? = some (.cells (mcells { M with x := IntKind.u32.wrap (4 * bits BinOp.and IntKind.u32 v 15) }) 97 (0, 0)) ∧ Kp (fun k => k = gm) w w' := by
  have ca := (blk_cell hM 0).trans (mc_a M)
  have fa := blk_frozen hM 0
  have cx := (blk_cell hM 1).trans (mc_x M)
  have fx := blk_frozen hM 1
  have hlt := blk_lt hM
  have HM := Aside0.mk hM
  clear hM
  go_enter Try.func63, Try.ntmps63
  have HC := Aside0.mk hc
  have KK : ∀ W, Below (w.alloc (.cells #[.int .u16 177, .int .u8 i1, .int .u8 i2, .int .u32 k] 45)).heap.size (w.alloc (.cells #[.int .u16 177, .int .u8 i1, .int .u8 i2, .int .u32 k] 45)) W → W.cell? ⟨w.heap.size, 0, none⟩ = some (.int .u16 177) ∧ W.cell? ⟨w.heap.size, 3, none⟩ = some (.int .u32 k) ∧ W.cell? ⟨gm, 0, none⟩ = some (.int .u32 M.a) ∧ W.cell? ⟨gm, 1, none⟩ = some (.int .u32 M.x) ∧ W.frozen? ⟨gm, 0, none⟩ = false ∧ W.frozen? ⟨gm, 1, none⟩ = false := by
    intro W hb
    have b0 := blk_below (blk_new w (.cells #[.int .u16 177, .int .u8 i1, .int .u8 i2, .int .u32 k] 45)) hb
    have bm := blk_below (blk_below HM.out (below_alloc (Below.refl _ _) _)) hb
    exact ⟨(blk_cell b0 0).trans rfl, (blk_cell b0 3).trans rfl, (blk_cell bm 0).trans rfl, (blk_cell bm 1).trans rfl, blk_frozen bm 0, blk_frozen bm 1⟩
  have KC : ∀ W, Below (w.alloc (.cells #[.int .u16 177, .int .u8 i1, .int .u8 i2, .int .u32 k] 45)).heap.size (w.alloc (.cells #[.int .u16 177, .int .u8 i1, .int .u8 i2, .int .u32 k] 45)) W → Kd.C (Kd.int .u8) W A p.length p := by
    intro W hb
    exact Kd.C_below (Kd.C_alloc hp _) hb
  have KK := Aside0.mk KK
  have KC := Aside0.mk KC
  have HR := Aside0.mk hr
  clear hr hp hc
  go_wp2_with (go_at_call 95; refine (riddleref5_read.calls 10 A c p _ _ _ _ _ (KC.out _ (by repeat (first | (with_reducible exact Below.refl _ _) | apply pw_below_drewN | apply below_drew1))) HC.out HR.out).mono ?_; rintro e w' ⟨rfl, ⟨nd2, rfl⟩⟩)
  go_ret
  exact ⟨rfl, blk_put (blk_put (blk_below HM.out (by repeat (first | (with_reducible exact Below.refl _ _) | apply pw_below_drewN | apply below_drew1 | apply below_alloc))) 1 _ (mc_setx M _)) 1 _ (mc_setx _ _), Kp.set (S := fun k => k = gm) (g := gm) (Kp.set (S := fun k => k = gm) (g := gm) ((Kp.refl _ w).below (by repeat (first | (with_reducible exact Below.refl _ _) | apply pw_below_drewN | apply below_drew1 | apply below_alloc))) (.inl rfl) _ _) (.inl rfl) _ _⟩
set_option maxHeartbeats 4000000 in
set_option maxRecDepth 100000 in
theorem step_cck (w : World) (gm : Nat) (M : Mach) (cc v f i1 i2 k : Int) (p : List Int) (A : Option Addr) (c : Nat) (hM : w.heap[gm]? = some (.cells (mcells M) 97 (0, 0))) (hl : M.m.length = 16) (hp : Kd.C (Kd.int .u8) w A p.length p) (hc : p.length ≤ c) (n0 : (cc == 0) = false) (n32 : (cc == 32) = false) (n40 : (cc == 40) = false) (n48 : (cc == 48) = false) (n64 : (cc == 64) = false) (n72 : (cc == 72) = false) (n80 : (cc == 80) = false) (n96 : (cc == 96) = false) (n128 : (cc == 128) = false) (n1 : (cc == 1) = false) (n97 : (cc == 97) = false) (n129 : (cc == 129) = false) (n177 : (cc == 177) = false) (n2 : (cc == 2) = false) (n3 : (cc == 3) = false) (n132 : (cc == 132) = false) (n7 : (cc == 7) = false) (n135 : (cc == 135) = false) (hbx : riddleref2_ByX.f 10 cc = some false) (hr : riddleref5_Operate.f cc M.a k = some (v, f)) :
    Calls Try.prog 63 #[.pointer (some ⟨gm, 0, none⟩), .agg #[.int .u16 cc, .int .u8 i1, .int .u8 i2, .int .u32 k], .slice A p.length c] w fun e w' => e = .returned (.int .i64 f) ∧ w'.heap[gm]? = some (.cells (mcells { M with a := v }) 97 (0, 0)) ∧ Kp (fun k => k = gm) w w' := by
  have ca := (blk_cell hM 0).trans (mc_a M)
  have fa := blk_frozen hM 0
  have cx := (blk_cell hM 1).trans (mc_x M)
  have fx := blk_frozen hM 1
  have hlt := blk_lt hM
  have HM := Aside0.mk hM
  clear hM
  go_enter Try.func63, Try.ntmps63
  have HC := Aside0.mk hc
  have KK : ∀ W, Below (w.alloc (.cells #[.int .u16 cc, .int .u8 i1, .int .u8 i2, .int .u32 k] 45)).heap.size (w.alloc (.cells #[.int .u16 cc, .int .u8 i1, .int .u8 i2, .int .u32 k] 45)) W → W.cell? ⟨w.heap.size, 0, none⟩ = some (.int .u16 cc) ∧ W.cell? ⟨w.heap.size, 3, none⟩ = some (.int .u32 k) ∧ W.cell? ⟨gm, 0, none⟩ = some (.int .u32 M.a) ∧ W.cell? ⟨gm, 1, none⟩ = some (.int .u32 M.x) ∧ W.frozen? ⟨gm, 0, none⟩ = false ∧ W.frozen? ⟨gm, 1, none⟩ = false := by
    intro W hb
    have b0 := blk_below (blk_new w (.cells #[.int .u16 cc, .int .u8 i1, .int .u8 i2, .int .u32 k] 45)) hb
    have bm := blk_below (blk_below HM.out (below_alloc (Below.refl _ _) _)) hb
    exact ⟨(blk_cell b0 0).trans rfl, (blk_cell b0 3).trans rfl, (blk_cell bm 0).trans rfl, (blk_cell bm 1).trans rfl, blk_frozen bm 0, blk_frozen bm 1⟩
  have KC : ∀ W, Below (w.alloc (.cells #[.int .u16 cc, .int .u8 i1, .int .u8 i2, .int .u32 k] 45)).heap.size (w.alloc (.cells #[.int .u16 cc, .int .u8 i1, .int .u8 i2, .int .u32 k] 45)) W → Kd.C (Kd.int .u8) W A p.length p := by
    intro W hb
    exact Kd.C_below (Kd.C_alloc hp _) hb
  have KK := Aside0.mk KK
  have KC := Aside0.mk KC
  have HBX := Aside0.mk hbx
  have HR := Aside0.mk hr
  clear hbx hr hp hc
  go_wp2_with (go_at_call 58; refine (riddleref2_ByX.calls 10 _ _ _ HBX.out).mono ?_; rintro e w' ⟨rfl, ⟨nd, rfl⟩⟩)
  refine start_ (n := 16) (S := fun w' => w'.cell? ⟨w.heap.size, 0, none⟩ = some (.int .u16 cc) ∧ w'.cell? ⟨w.heap.size, 3, none⟩ = some (.int .u32 k) ∧ w'.cell? ⟨gm, 0, none⟩ = some (.int .u32 M.a) ∧ w'.cell? ⟨gm, 1, none⟩ = some (.int .u32 M.x) ∧ w'.frozen? ⟨gm, 0, none⟩ = false ∧ w'.frozen? ⟨gm, 1, none⟩ = false) (ds := [14]) #[false, false, false, false, false, false, false, false, false, false, false, false, false, false, false, false] (by kernel_rfl) rfl rfl ⟨(KK.out _ (by repeat (first | (with_reducible exact Below.refl _ _) | apply pw_below_drewN | apply below_drew1))).1, (KK.out _ (by repeat (first | (with_reducible exact Below.refl _ _) | apply pw_below_drewN | apply below_drew1))).2.1, (KK.out _ (by repeat (first | (with_reducible exact Below.refl _ _) | apply pw_below_drewN | apply below_drew1))).2.2.1, (KK.out _ (by repeat (first | (with_reducible exact Below.refl _ _) | apply pw_below_drewN | apply below_drew1))).2.2.2.1, (KK.out _ (by repeat (first | (with_reducible exact Below.refl _ _) | apply pw_below_drewN | apply below_drew1))).2.2.2.2.1, (KK.out _ (by repeat (first | (with_reducible exact Below.refl _ _) | apply pw_below_drewN | apply below_drew1))).2.2.2.2.2⟩ (fun hHeld => ?_)
  refine pure_ (i := 0) (N := some 21) (v := ?_) (a' := ?_) #[true, false, false, false, false, false, false, false, false, false, false, false, false, false, false, false] rfl rfl (by kernel_rfl) (fun _ _ _ h => h) (Or.inl ⟨by rfl, ?_⟩) ?_ ?_
  rotate_left
  · intro w'
    go_simp
    with_reducible rfl
  rotate_left
  · simp only [Act.put, List.setIfInBounds_toArray, List.set_cons_zero, List.set_cons_succ, i64_w, i32_w]
    rfl
  refine pure_ (i := 1) (N := some 22) (v := ?_) (a' := ?_) #[true, true, false, false, false, false, false, false, false, false, false, false, false, false, false, false] rfl rfl (by kernel_rfl) (fun _ _ _ h => h) (Or.inl ⟨by rfl, ?_⟩) ?_ ?_
  rotate_left
  · intro w'
    go_simp
    with_reducible rfl
  rotate_left
  · simp only [Act.put, List.setIfInBounds_toArray, List.set_cons_zero, List.set_cons_succ, i64_w, i32_w]
    rfl
  refine pure_ (i := 3) (N := some 24) (v := ?_) (a' := ?_) #[true, true, false, true, false, false, false, false, false, false, false, false, false, false, false, false] rfl rfl (by kernel_rfl) (fun _ _ _ h => h) (Or.inl ⟨by rfl, ?_⟩) ?_ ?_
  rotate_left
  · intro w'
    go_simp
    with_reducible rfl
  rotate_left
  · simp only [Act.put, List.setIfInBounds_toArray, List.set_cons_zero, List.set_cons_succ, i64_w, i32_w]
    rfl
  refine pure_ (i := 4) (N := some 25) (v := ?_) (a' := ?_) #[true, true, false, true, true, false, false, false, false, false, false, false, false, false, false, false] rfl rfl (by kernel_rfl) (fun _ _ _ h => h) (Or.inl ⟨by rfl, ?_⟩) ?_ ?_
  rotate_left
  · intro w'
    go_simp
    with_reducible rfl
  rotate_left
  · simp only [Act.put, List.setIfInBounds_toArray, List.set_cons_zero, List.set_cons_succ, i64_w, i32_w]
    rfl
  refine pure_ (i := 5) (N := some 26) (v := ?_) (a' := ?_) #[true, true, false, true, true, true, false, false, false, false, false, false, false, false, false, false] rfl rfl (by kernel_rfl) (fun _ _ _ h => h) (Or.inl ⟨by rfl, ?_⟩) ?_ ?_
  rotate_left
  · intro w'
    go_simp
    with_reducible rfl
  rotate_left
  · simp only [Act.put, List.setIfInBounds_toArray, List.set_cons_zero, List.set_cons_succ, i64_w, i32_w]
    rfl
  refine pure_ (i := 7) (N := some 28) (v := ?_) (a' := ?_) #[true, true, false, true, true, true, false, true, false, false, false, false, false, false, false, false] rfl rfl (by kernel_rfl) (fun _ _ _ h => h) (Or.inl ⟨by rfl, ?_⟩) ?_ ?_
  rotate_left
  · intro w'
    go_simp
    with_reducible rfl
  rotate_left
  · simp only [Act.put, List.setIfInBounds_toArray, List.set_cons_zero, List.set_cons_succ, i64_w, i32_w]
    rfl
  refine take_ (i := 2) (N := some 23) (v := ?_) (a' := ?_) #[true, true, true, true, true, true, false, true, false, false, false, false, false, false, false, false] rfl rfl (by kernel_rfl) (fun _ _ _ h => h) (Or.inl ⟨by rfl, ?_⟩) hHeld ?_ ?_
  rotate_left
  · rintro w' ⟨s0, s1, s2, s3, s4, s5⟩
    go_simp
    with_reducible rfl
  rotate_left
  · simp only [Act.put, List.setIfInBounds_toArray, List.set_cons_zero, List.set_cons_succ, i64_w, i32_w]
    rfl
  refine take_ (i := 6) (N := some 27) (v := ?_) (a' := ?_) #[true, true, true, true, true, true, true, true, false, false, false, false, false, false, false, false] rfl rfl (by kernel_rfl) (fun _ _ _ h => h) (Or.inl ⟨by rfl, ?_⟩) hHeld ?_ ?_
  rotate_left
  · rintro w' ⟨s0, s1, s2, s3, s4, s5⟩
    go_simp
    with_reducible rfl
  rotate_left
  · simp only [Act.put, List.setIfInBounds_toArray, List.set_cons_zero, List.set_cons_succ, i64_w, i32_w]
    rfl
  refine one_ (i := 8) (N := some 29) #[true, true, true, true, true, true, true, true, true, false, false, false, false, false, false, false] rfl rfl (by kernel_rfl) (by decide) (fun K hK => ?_)
  refine goes_ Try.func97 (by kernel_rfl) rfl #[.int .u16 cc, .int .u32 M.a, .int .u32 k] (by rfl) rfl rfl (by simp only [List.map_toArray, List.map_cons, List.map_nil]; rfl) ?_
  with_reducible refine (riddleref5_Operate.calls _ _ _ _ _ _ HR.out).mono ?_
  rintro e w3 ⟨rfl, ⟨nd2, rfl⟩⟩
  refine ⟨_, rfl, ?_⟩
  refine hK.out _ _ ⟨(KK.out _ (by repeat (first | (with_reducible exact Below.refl _ _) | apply pw_below_drewN | apply below_drew1))).1, (KK.out _ (by repeat (first | (with_reducible exact Below.refl _ _) | apply pw_below_drewN | apply below_drew1))).2.1, (KK.out _ (by repeat (first | (with_reducible exact Below.refl _ _) | apply pw_below_drewN | apply below_drew1))).2.2.1, (KK.out _ (by repeat (first | (with_reducible exact Below.refl _ _) | apply pw_below_drewN | apply below_drew1))).2.2.2.1, (KK.out _ (by repeat (first | (with_reducible exact Below.refl _ _) | apply pw_below_drewN | apply below_drew1))).2.2.2.2.1, (KK.out _ (by repeat (first | (with_reducible exact Below.refl _ _) | apply pw_below_drewN | apply below_drew1))).2.2.2.2.2⟩ (fun hHeld => ?_)
  clear hK K
  refine norm_ (a' := ?_) ?_ ?_
  rotate_left
  · show Act.put _ (some 29) _ = _
    simp only [Act.put, List.setIfInBounds_toArray, List.set_cons_zero, List.set_cons_succ, i64_w, i32_w]
    rfl
  refine pure_ (i := 9) (N := some 20) (v := ?_) (a' := ?_) #[true, true, true, true, true, true, true, true, true, true, false, false, false, false, false, false] rfl rfl (by kernel_rfl) (fun _ _ _ h => h) (Or.inl ⟨by rfl, ?_⟩) ?_ ?_
  rotate_left
  · intro w'
    go_simp
    with_reducible rfl
  rotate_left
  · simp only [Act.put, List.setIfInBounds_toArray, List.set_cons_zero, List.set_cons_succ, i64_w, i32_w]
    rfl
  refine pure_ (i := 10) (N := some 30) (v := ?_) (a' := ?_) #[true, true, true, true, true, true, true, true, true, true, true, false, false, false, false, false] rfl rfl (by kernel_rfl) (fun _ _ _ h => h) (Or.inl ⟨by rfl, ?_⟩) ?_ ?_
  rotate_left
  · intro w'
    go_simp
    with_reducible rfl
  rotate_left
  · simp only [Act.put, List.setIfInBounds_toArray, List.set_cons_zero, List.set_cons_succ, i64_w, i32_w]
    rfl
  refine pure_ (i := 11) (N := some 31) (v := ?_) (a' := ?_) #[true, true, true, true, true, true, true, true, true, true, true, true, false, false, false, false] rfl rfl (by kernel_rfl) (fun _ _ _ h => h) (Or.inl ⟨by rfl, ?_⟩) ?_ ?_
  rotate_left
  · intro w'
    go_simp
    with_reducible rfl
  rotate_left
  · simp only [Act.put, List.setIfInBounds_toArray, List.set_cons_zero, List.set_cons_succ, i64_w, i32_w]
    rfl
  refine pure_ (i := 12) (N := some 32) (v := ?_) (a' := ?_) #[true, true, true, true, true, true, true, true, true, true, true, true, true, false, false, false] rfl rfl (by kernel_rfl) (fun _ _ _ h => h) (Or.inl ⟨by rfl, ?_⟩) ?_ ?_
  rotate_left
  · intro w'
    go_simp
    with_reducible rfl
  rotate_left
  · simp only [Act.put, List.setIfInBounds_toArray, List.set_cons_zero, List.set_cons_succ, i64_w, i32_w]
    rfl
  refine pure_ (i := 13) (N := some 33) (v := ?_) (a' := ?_) #[true, true, true, true, true, true, true, true, true, true, true, true, true, true, false, false] rfl rfl (by kernel_rfl) (fun _ _ _ h => h) (Or.inl ⟨by rfl, ?_⟩) ?_ ?_
  rotate_left
  · intro w'
    go_simp
    with_reducible rfl
  rotate_left
  · simp only [Act.put, List.setIfInBounds_toArray, List.set_cons_zero, List.set_cons_succ, i64_w, i32_w]
    rfl
  refine last_ (i := 14) (N := none) #[true, true, true, true, true, true, true, true, true, true, true, true, true, true, true, false] rfl rfl (by kernel_rfl) (by decide) (fun K hK => ?_)
  refine skip_ (w1 := ?_) (by rfl) rfl ?_ ?_
  rotate_left
  · go_simp
    rfl
  refine hK.out _ _ ?_
  clear hK K
  refine pure_ (i := 15) (N := some 7) (v := ?_) (a' := ?_) #[true, true, true, true, true, true, true, true, true, true, true, true, true, true, true, true] rfl rfl (by kernel_rfl) (fun _ _ _ h => h) (Or.inl ⟨by rfl, ?_⟩) ?_ ?_
  rotate_left
  · intro w'
    go_simp
    with_reducible rfl
  rotate_left
  · simp only [Act.put, List.setIfInBounds_toArray, List.set_cons_zero, List.set_cons_succ, i64_w, i32_w]
    rfl
  refine done_ (by kernel_rfl) ?_
  go_wp2
  go_ret
  exact ⟨rfl, blk_put (blk_below HM.out (by repeat (first | (with_reducible exact Below.refl _ _) | apply pw_below_drewN | apply below_drew1 | apply below_alloc))) 0 _ (mc_seta M _), Kp.set (S := fun k => k = gm) (g := gm) ((Kp.refl _ w).below (by repeat (first | (with_reducible exact Below.refl _ _) | apply pw_below_drewN | apply below_drew1 | apply below_alloc))) (.inl rfl) _ _⟩
set_option maxHeartbeats 4000000 in
set_option maxRecDepth 100000 in
theorem step_ccx (w : World) (gm : Nat) (M : Mach) (cc v f i1 i2 k : Int) (p : List Int) (A : Option Addr) (c : Nat) (hM : w.heap[gm]? = some (.cells (mcells M) 97 (0, 0))) (hl : M.m.length = 16) (hp : Kd.C (Kd.int .u8) w A p.length p) (hc : p.length ≤ c) (n0 : (cc == 0) = false) (n32 : (cc == 32) = false) (n40 : (cc == 40) = false) (n48 : (cc == 48) = false) (n64 : (cc == 64) = false) (n72 : (cc == 72) = false) (n80 : (cc == 80) = false) (n96 : (cc == 96) = false) (n128 : (cc == 128) = false) (n1 : (cc == 1) = false) (n97 : (cc == 97) = false) (n129 : (cc == 129) = false) (n177 : (cc == 177) = false) (n2 : (cc == 2) = false) (n3 : (cc == 3) = false) (n132 : (cc == 132) = false) (n7 : (cc == 7) = false) (n135 : (cc == 135) = false) (hbx : riddleref2_ByX.f 10 cc = some true) (hr : riddleref5_Operate.f cc M.a M.x = some (v, f)) :
    Calls Try.prog 63 #[.pointer (some ⟨gm, 0, none⟩), .agg #[.int .u16 cc, .int .u8 i1, .int .u8 i2, .int .u32 k], .slice A p.length c] w fun e w' => e = .returned (.int .i64 f) ∧ w'.heap[gm]? = some (.cells (mcells { M with a := v }) 97 (0, 0)) ∧ Kp (fun k => k = gm) w w' := by
  have ca := (blk_cell hM 0).trans (mc_a M)
  have fa := blk_frozen hM 0
  have cx := (blk_cell hM 1).trans (mc_x M)
  have fx := blk_frozen hM 1
  have hlt := blk_lt hM
  have HM := Aside0.mk hM
  clear hM
  go_enter Try.func63, Try.ntmps63
  have HC := Aside0.mk hc
  have KK : ∀ W, Below (w.alloc (.cells #[.int .u16 cc, .int .u8 i1, .int .u8 i2, .int .u32 k] 45)).heap.size (w.alloc (.cells #[.int .u16 cc, .int .u8 i1, .int .u8 i2, .int .u32 k] 45)) W → W.cell? ⟨w.heap.size, 0, none⟩ = some (.int .u16 cc) ∧ W.cell? ⟨w.heap.size, 3, none⟩ = some (.int .u32 k) ∧ W.cell? ⟨gm, 0, none⟩ = some (.int .u32 M.a) ∧ W.cell? ⟨gm, 1, none⟩ = some (.int .u32 M.x) ∧ W.frozen? ⟨gm, 0, none⟩ = false ∧ W.frozen? ⟨gm, 1, none⟩ = false := by
    intro W hb
    have b0 := blk_below (blk_new w (.cells #[.int .u16 cc, .int .u8 i1, .int .u8 i2, .int .u32 k] 45)) hb
    have bm := blk_below (blk_below HM.out (below_alloc (Below.refl _ _) _)) hb
    exact ⟨(blk_cell b0 0).trans rfl, (blk_cell b0 3).trans rfl, (blk_cell bm 0).trans rfl, (blk_cell bm 1).trans rfl, blk_frozen bm 0, blk_frozen bm 1⟩
  have KC : ∀ W, Below (w.alloc (.cells #[.int .u16 cc, .int .u8 i1, .int .u8 i2, .int .u32 k] 45)).heap.size (w.alloc (.cells #[.int .u16 cc, .int .u8 i1, .int .u8 i2, .int .u32 k] 45)) W → Kd.C (Kd.int .u8) W A p.length p := by
    intro W hb
    exact Kd.C_below (Kd.C_alloc hp _) hb
  have KK := Aside0.mk KK
  have KC := Aside0.mk KC
  have HBX := Aside0.mk hbx
  have HR := Aside0.mk hr
  clear hbx hr hp hc
  go_wp2_with (go_at_call 58; refine (riddleref2_ByX.calls 10 _ _ _ HBX.out).mono ?_; rintro e w' ⟨rfl, ⟨nd, rfl⟩⟩)
  refine start_ (n := 16) (S := fun w' => w'.cell? ⟨w.heap.size, 0, none⟩ = some (.int .u16 cc) ∧ w'.cell? ⟨w.heap.size, 3, none⟩ = some (.int .u32 k) ∧ w'.cell? ⟨gm, 0, none⟩ = some (.int .u32 M.a) ∧ w'.cell? ⟨gm, 1, none⟩ = some (.int .u32 M.x) ∧ w'.frozen? ⟨gm, 0, none⟩ = false ∧ w'.frozen? ⟨gm, 1, none⟩ = false) (ds := [14]) #[false, false, false, false, false, false, false, false, false, false, false, false, false, false, false, false] (by kernel_rfl) rfl rfl ⟨(KK.out _ (by repeat (first | (with_reducible exact Below.refl _ _) | apply pw_below_drewN | apply below_drew1))).1, (KK.out _ (by repeat (first | (with_reducible exact Below.refl _ _) | apply pw_below_drewN | apply below_drew1))).2.1, (KK.out _ (by repeat (first | (with_reducible exact Below.refl _ _) | apply pw_below_drewN | apply below_drew1))).2.2.1, (KK.out _ (by repeat (first | (with_reducible exact Below.refl _ _) | apply pw_below_drewN | apply below_drew1))).2.2.2.1, (KK.out _ (by repeat (first | (with_reducible exact Below.refl _ _) | apply pw_below_drewN | apply below_drew1))).2.2.2.2.1, (KK.out _ (by repeat (first | (with_reducible exact Below.refl _ _) | apply pw_below_drewN | apply below_drew1))).2.2.2.2.2⟩ (fun hHeld => ?_)
  refine pure_ (i := 0) (N := some 21) (v := ?_) (a' := ?_) #[true, false, false, false, false, false, false, false, false, false, false, false, false, false, false, false] rfl rfl (by kernel_rfl) (fun _ _ _ h => h) (Or.inl ⟨by rfl, ?_⟩) ?_ ?_
  rotate_left
  · intro w'
    go_simp
    with_reducible rfl
  rotate_left
  · simp only [Act.put, List.setIfInBounds_toArray, List.set_cons_zero, List.set_cons_succ, i64_w, i32_w]
    rfl
  refine pure_ (i := 1) (N := some 22) (v := ?_) (a' := ?_) #[true, true, false, false, false, false, false, false, false, false, false, false, false, false, false, false] rfl rfl (by kernel_rfl) (fun _ _ _ h => h) (Or.inl ⟨by rfl, ?_⟩) ?_ ?_
  rotate_left
  · intro w'
    go_simp
    with_reducible rfl
  rotate_left
  · simp only [Act.put, List.setIfInBounds_toArray, List.set_cons_zero, List.set_cons_succ, i64_w, i32_w]
    rfl
  refine pure_ (i := 3) (N := some 24) (v := ?_) (a' := ?_) #[true, true, false, true, false, false, false, false, false, false, false, false, false, false, false, false] rfl rfl (by kernel_rfl) (fun _ _ _ h => h) (Or.inl ⟨by rfl, ?_⟩) ?_ ?_
  rotate_left
  · intro w'
    go_simp
    with_reducible rfl
  rotate_left
  · simp only [Act.put, List.setIfInBounds_toArray, List.set_cons_zero, List.set_cons_succ, i64_w, i32_w]
    rfl
  refine pure_ (i := 4) (N := some 25) (v := ?_) (a' := ?_) #[true, true, false, true, true, false, false, false, false, false, false, false, false, false, false, false] rfl rfl (by kernel_rfl) (fun _ _ _ h => h) (Or.inl ⟨by rfl, ?_⟩) ?_ ?_
  rotate_left
  · intro w'
    go_simp
    with_reducible rfl
  rotate_left
  · simp only [Act.put, List.setIfInBounds_toArray, List.set_cons_zero, List.set_cons_succ, i64_w, i32_w]
    rfl
  refine pure_ (i := 5) (N := some 26) (v := ?_) (a' := ?_) #[true, true, false, true, true, true, false, false, false, false, false, false, false, false, false, false] rfl rfl (by kernel_rfl) (fun _ _ _ h => h) (Or.inl ⟨by rfl, ?_⟩) ?_ ?_
  rotate_left
  · intro w'
    go_simp
    with_reducible rfl
  rotate_left
  · simp only [Act.put, List.setIfInBounds_toArray, List.set_cons_zero, List.set_cons_succ, i64_w, i32_w]
    rfl
  refine pure_ (i := 7) (N := some 28) (v := ?_) (a' := ?_) #[true, true, false, true, true, true, false, true, false, false, false, false, false, false, false, false] rfl rfl (by kernel_rfl) (fun _ _ _ h => h) (Or.inl ⟨by rfl, ?_⟩) ?_ ?_
  rotate_left
  · intro w'
    go_simp
    with_reducible rfl
  rotate_left
  · simp only [Act.put, List.setIfInBounds_toArray, List.set_cons_zero, List.set_cons_succ, i64_w, i32_w]
    rfl
  refine take_ (i := 2) (N := some 23) (v := ?_) (a' := ?_) #[true, true, true, true, true, true, false, true, false, false, false, false, false, false, false, false] rfl rfl (by kernel_rfl) (fun _ _ _ h => h) (Or.inl ⟨by rfl, ?_⟩) hHeld ?_ ?_
  rotate_left
  · rintro w' ⟨s0, s1, s2, s3, s4, s5⟩
    go_simp
    with_reducible rfl
  rotate_left
  · simp only [Act.put, List.setIfInBounds_toArray, List.set_cons_zero, List.set_cons_succ, i64_w, i32_w]
    rfl
  refine take_ (i := 6) (N := some 27) (v := ?_) (a' := ?_) #[true, true, true, true, true, true, true, true, false, false, false, false, false, false, false, false] rfl rfl (by kernel_rfl) (fun _ _ _ h => h) (Or.inl ⟨by rfl, ?_⟩) hHeld ?_ ?_
  rotate_left
  · rintro w' ⟨s0, s1, s2, s3, s4, s5⟩
    go_simp
    with_reducible rfl
  rotate_left
  · simp only [Act.put, List.setIfInBounds_toArray, List.set_cons_zero, List.set_cons_succ, i64_w, i32_w]
    rfl
  refine one_ (i := 8) (N := some 29) #[true, true, true, true, true, true, true, true, true, false, false, false, false, false, false, false] rfl rfl (by kernel_rfl) (by decide) (fun K hK => ?_)
  refine goes_ Try.func97 (by kernel_rfl) rfl #[.int .u16 cc, .int .u32 M.a, .int .u32 M.x] (by rfl) rfl rfl (by simp only [List.map_toArray, List.map_cons, List.map_nil]; rfl) ?_
  with_reducible refine (riddleref5_Operate.calls _ _ _ _ _ _ HR.out).mono ?_
  rintro e w3 ⟨rfl, ⟨nd2, rfl⟩⟩
  refine ⟨_, rfl, ?_⟩
  refine hK.out _ _ ⟨(KK.out _ (by repeat (first | (with_reducible exact Below.refl _ _) | apply pw_below_drewN | apply below_drew1))).1, (KK.out _ (by repeat (first | (with_reducible exact Below.refl _ _) | apply pw_below_drewN | apply below_drew1))).2.1, (KK.out _ (by repeat (first | (with_reducible exact Below.refl _ _) | apply pw_below_drewN | apply below_drew1))).2.2.1, (KK.out _ (by repeat (first | (with_reducible exact Below.refl _ _) | apply pw_below_drewN | apply below_drew1))).2.2.2.1, (KK.out _ (by repeat (first | (with_reducible exact Below.refl _ _) | apply pw_below_drewN | apply below_drew1))).2.2.2.2.1, (KK.out _ (by repeat (first | (with_reducible exact Below.refl _ _) | apply pw_below_drewN | apply below_drew1))).2.2.2.2.2⟩ (fun hHeld => ?_)
  clear hK K
  refine norm_ (a' := ?_) ?_ ?_
  rotate_left
  · show Act.put _ (some 29) _ = _
    simp only [Act.put, List.setIfInBounds_toArray, List.set_cons_zero, List.set_cons_succ, i64_w, i32_w]
    rfl
  refine pure_ (i := 9) (N := some 20) (v := ?_) (a' := ?_) #[true, true, true, true, true, true, true, true, true, true, false, false, false, false, false, false] rfl rfl (by kernel_rfl) (fun _ _ _ h => h) (Or.inl ⟨by rfl, ?_⟩) ?_ ?_
  rotate_left
  · intro w'
    go_simp
    with_reducible rfl
  rotate_left
  · simp only [Act.put, List.setIfInBounds_toArray, List.set_cons_zero, List.set_cons_succ, i64_w, i32_w]
    rfl
  refine pure_ (i := 10) (N := some 30) (v := ?_) (a' := ?_) #[true, true, true, true, true, true, true, true, true, true, true, false, false, false, false, false] rfl rfl (by kernel_rfl) (fun _ _ _ h => h) (Or.inl ⟨by rfl, ?_⟩) ?_ ?_
  rotate_left
  · intro w'
    go_simp
    with_reducible rfl
  rotate_left
  · simp only [Act.put, List.setIfInBounds_toArray, List.set_cons_zero, List.set_cons_succ, i64_w, i32_w]
    rfl
  refine pure_ (i := 11) (N := some 31) (v := ?_) (a' := ?_) #[true, true, true, true, true, true, true, true, true, true, true, true, false, false, false, false] rfl rfl (by kernel_rfl) (fun _ _ _ h => h) (Or.inl ⟨by rfl, ?_⟩) ?_ ?_
  rotate_left
  · intro w'
    go_simp
    with_reducible rfl
  rotate_left
  · simp only [Act.put, List.setIfInBounds_toArray, List.set_cons_zero, List.set_cons_succ, i64_w, i32_w]
    rfl
  refine pure_ (i := 12) (N := some 32) (v := ?_) (a' := ?_) #[true, true, true, true, true, true, true, true, true, true, true, true, true, false, false, false] rfl rfl (by kernel_rfl) (fun _ _ _ h => h) (Or.inl ⟨by rfl, ?_⟩) ?_ ?_
  rotate_left
  · intro w'
    go_simp
    with_reducible rfl
  rotate_left
  · simp only [Act.put, List.setIfInBounds_toArray, List.set_cons_zero, List.set_cons_succ, i64_w, i32_w]
    rfl
  refine pure_ (i := 13) (N := some 33) (v := ?_) (a' := ?_) #[true, true, true, true, true, true, true, true, true, true, true, true, true, true, false, false] rfl rfl (by kernel_rfl) (fun _ _ _ h => h) (Or.inl ⟨by rfl, ?_⟩) ?_ ?_
  rotate_left
  · intro w'
    go_simp
    with_reducible rfl
  rotate_left
  · simp only [Act.put, List.setIfInBounds_toArray, List.set_cons_zero, List.set_cons_succ, i64_w, i32_w]
    rfl
  refine last_ (i := 14) (N := none) #[true, true, true, true, true, true, true, true, true, true, true, true, true, true, true, false] rfl rfl (by kernel_rfl) (by decide) (fun K hK => ?_)
  refine skip_ (w1 := ?_) (by rfl) rfl ?_ ?_
  rotate_left
  · go_simp
    rfl
  refine hK.out _ _ ?_
  clear hK K
  refine pure_ (i := 15) (N := some 7) (v := ?_) (a' := ?_) #[true, true, true, true, true, true, true, true, true, true, true, true, true, true, true, true] rfl rfl (by kernel_rfl) (fun _ _ _ h => h) (Or.inl ⟨by rfl, ?_⟩) ?_ ?_
  rotate_left
  · intro w'
    go_simp
    with_reducible rfl
  rotate_left
  · simp only [Act.put, List.setIfInBounds_toArray, List.set_cons_zero, List.set_cons_succ, i64_w, i32_w]
    rfl
  refine done_ (by kernel_rfl) ?_
  go_wp2
  go_ret
  exact ⟨rfl, blk_put (blk_below HM.out (by repeat (first | (with_reducible exact Below.refl _ _) | apply pw_below_drewN | apply below_drew1 | apply below_alloc))) 0 _ (mc_seta M _), Kp.set (S := fun k => k = gm) (g := gm) ((Kp.refl _ w).below (by repeat (first | (with_reducible exact Below.refl _ _) | apply pw_below_drewN | apply below_drew1 | apply below_alloc))) (.inl rfl) _ _⟩
end Go.Proofs.Ytdkalnkplgfgoaa.Ln
