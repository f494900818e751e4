/- Lemmas and walks for the statements of the texts ZQZ..: the declarations that they need, taken together by a program of this session. Conditions: as each says. -/
import Derived.Test.YtdkalnkplgfgoaaZQb
import Derived.Test.YtdkalnkplgfgoaaZQf
set_option maxHeartbeats 4000000
set_option maxRecDepth 100000
set_option linter.unusedVariables false
set_option linter.unusedSimpArgs false
namespace Go.Proofs.Ytdkalnkplgfgoaa.Ln
open Go.RowKit Go.Maps Go.Proofs.YtdkalnkplgfgoaaW.PrintWords Go.Proofs.YtdkalnkplgfgoaaW.PrintLast Go.Proofs.YtdkalnkplgfgoaaW.PrintMore Go.Proofs.Ytdkalnkplgfgoaa.PA
theorem xB (w : World) (gs : Nat) (s : St) (c v r i1 i2 k : Int) (hS : w.heap[gs]? = some (.cells (aA s) 151 (0, 0))) (hl : s.length = 18) (e0 : gS s 0 = some v) (e1 : gS s 1 = some 0) (hn : (c == 132) = false) (h8 : (Go.bits .and .u16 c 8 != 0) = true) (hs1 : (c == 108) = false) (hs2 : (c == 124) = false) (hd1 : (c == 60) = false) (hd2 : (c == 156) = false) (hr : PA.bK.f (Go.bits .andNot .u16 c 8) v 0 = some (r, true)) :
 Calls Try.prog 166 #[.pointer (some ⟨gs, 0, none⟩), .agg #[.int .u16 c, .int .u8 i1, .int .u8 i2, .int .u32 k]] w fun e w' => e = .returned (.agg #[.int .u16 0, .int .u8 0, .int .u8 0, .int .u32 r]) ∧ Below w.heap.size w w' := by
 have c0 : _ = some (Value.bool true) := (ae hS 0).trans ((di (s := s) (i := 0) (by omega)).trans (by rw [e0]; rfl))
 have c1 : _ = some (Value.int .u32 v) := (ae hS 1).trans ((gM (s := s) (i := 0) (by omega)).trans (by rw [e0]; rfl))
 have c2 : _ = some (Value.bool true) := (ae hS 2).trans ((di (s := s) (i := 1) (by omega)).trans (by rw [e1]; rfl))
 have c3 : _ = some (Value.int .u32 0) := (ae hS 3).trans ((gM (s := s) (i := 1) (by omega)).trans (by rw [e1]; rfl))
 have hlt := av hS
 have HS := aa.mk hS
 have HC := fun W => PA.bK.calls (Go.bits .andNot .u16 c 8) v 0 r true W hr
 have HC := aa.mk HC
 clear hS hr
 go_enter Try.func166, Try.ntmps166
 go_upto_region 16 with (fail)
 refine forget (fun W => ∃ gi, gi = w.heap.size ∧ Below w.heap.size w W ∧ W.heap[gi]? = some (.cells #[.int .u16 ((Go.bits .andNot .u16 c 8)), .int .u8 0, .int .u8 0, .int .u32 0] 45 (0, 0)) ∧ W.heap[gi + 1]? = some (.cells #[.int .u16 0, .int .u8 0, .int .u8 0, .int .u32 0] 45 (0, 0))) ⟨_, rfl, bY _ _ _, kM _ _ _, eB _ _ _⟩ ?_
 rintro W ⟨gi, egi, hb, hi, hr⟩
 rw [← egi]
 have x1 := au hb c1
 have y0 : _ = some (Value.int .u16 ((Go.bits .andNot .u16 c 8))) := (ae hi 0).trans rfl
 have y3 : _ = some (Value.int .u32 0) := (ae hi 3).trans rfl
 have HB := aa.mk hb
 have HI := aa.mk hi
 have HR := aa.mk hr
 have EG := aa.mk egi
 clear hb hi hr c0 c1 egi
 go_quiet ((go_at_call 155; exact Calls.quiet_of ((HC.out _).mono fun _ _ ⟨he, ⟨m, hm⟩⟩ => ⟨he, m, hm⟩)))
 have z0 : _ = some (Value.int .u16 0) := (ae HR.out 0).trans rfl
 have z1 : _ = some (Value.int .u8 0) := (ae HR.out 1).trans rfl
 have z2 : _ = some (Value.int .u8 0) := (ae HR.out 2).trans rfl
 have z3 : _ = some (Value.int .u32 0) := (ae HR.out 3).trans rfl
 have t0 := af HR.out 0
 have t1 := af HR.out 1
 have t2 := af HR.out 2
 have t3 := af HR.out 3
 go_wp2
 have hq := aD (Below.refl W.heap.size W) nq
 refine bodyPost_ret (results_cell_row rfl _ _ (gi + 1) 45 (#[.int .u16 0, .int .u8 0, .int .u8 0, .int .u32 r]) (0, 0) _ rfl (jB (ah HR.out hq) _ _ _ _) Try.underlying45 rfl (by kernel_rfl)) rfl ?_
 exact ⟨rfl, fE (ay HB.out hq) (by have := EG.out; omega) _ _ _ _⟩
theorem xz (w : World) (gs : Nat) (s : St) (c i1 i2 k : Int) (hS : w.heap[gs]? = some (.cells (aA s) 151 (0, 0))) (hl : s.length = 18) (e0 : gS s 0 = none) (e1 : gS s 1 = some 0) (hn : (c == 132) = false) (h8 : (Go.bits .and .u16 c 8 != 0) = true) (hs1 : (c == 108) = false) (hs2 : (c == 124) = false) (hd1 : (c == 60) = false) (hd2 : (c == 156) = false) (ha : ((Go.bits .andNot .u16 c 8) == 84) = false) (hm : ((Go.bits .andNot .u16 c 8) == 36) = false) :
 Calls Try.prog 166 #[.pointer (some ⟨gs, 0, none⟩), .agg #[.int .u16 c, .int .u8 i1, .int .u8 i2, .int .u32 k]] w fun e w' => e = .returned (.agg #[.int .u16 (Go.bits .andNot .u16 c 8), .int .u8 0, .int .u8 0, .int .u32 0]) ∧ Below w.heap.size w w' := by
 have c0 : _ = some (Value.bool false) := (ae hS 0).trans ((di (s := s) (i := 0) (by omega)).trans (by rw [e0]; rfl))
 have c2 : _ = some (Value.bool true) := (ae hS 2).trans ((di (s := s) (i := 1) (by omega)).trans (by rw [e1]; rfl))
 have c3 : _ = some (Value.int .u32 0) := (ae hS 3).trans ((gM (s := s) (i := 1) (by omega)).trans (by rw [e1]; rfl))
 have hlt := av hS
 have HS := aa.mk hS
 clear hS
 go_enter Try.func166, Try.ntmps166
 go_wp2
 refine bodyPost_ret (results_cell_row rfl _ _ (w.heap.size + 1) 45 (#[.int .u16 (Go.bits .andNot .u16 c 8), .int .u8 0, .int .u8 0, .int .u32 0]) (0, 0) _ rfl (eB _ _ _) Try.underlying45 rfl (by kernel_rfl)) rfl ?_
 exact ⟨rfl, bY _ _ _⟩
theorem xC (w : World) (gs : Nat) (s : St) (c v y r i1 i2 k : Int) (hS : w.heap[gs]? = some (.cells (aA s) 151 (0, 0))) (hl : s.length = 18) (e0 : gS s 0 = some v) (e1 : gS s 1 = some y) (hn : (c == 132) = false) (h8 : (Go.bits .and .u16 c 8 != 0) = true) (hs1 : (c == 108) = false) (hs2 : (c == 124) = false) (hd1 : (c == 60) = false) (hd2 : (c == 156) = false) (hz : (y == 0) = false) (hr : PA.bK.f (Go.bits .andNot .u16 c 8) v y = some (r, true)) :
 Calls Try.prog 166 #[.pointer (some ⟨gs, 0, none⟩), .agg #[.int .u16 c, .int .u8 i1, .int .u8 i2, .int .u32 k]] w fun e w' => e = .returned (.agg #[.int .u16 0, .int .u8 0, .int .u8 0, .int .u32 r]) ∧ Below w.heap.size w w' := by
 have c0 : _ = some (Value.bool true) := (ae hS 0).trans ((di (s := s) (i := 0) (by omega)).trans (by rw [e0]; rfl))
 have c1 : _ = some (Value.int .u32 v) := (ae hS 1).trans ((gM (s := s) (i := 0) (by omega)).trans (by rw [e0]; rfl))
 have c2 : _ = some (Value.bool true) := (ae hS 2).trans ((di (s := s) (i := 1) (by omega)).trans (by rw [e1]; rfl))
 have c3 : _ = some (Value.int .u32 y) := (ae hS 3).trans ((gM (s := s) (i := 1) (by omega)).trans (by rw [e1]; rfl))
 have hlt := av hS
 have HS := aa.mk hS
 have HC := fun W => PA.bK.calls (Go.bits .andNot .u16 c 8) v y r true W hr
 have HC := aa.mk HC
 clear hS hr
 go_enter Try.func166, Try.ntmps166
 go_upto_region 16 with (fail)
 refine forget (fun W => ∃ gi, gi = w.heap.size ∧ Below w.heap.size w W ∧ W.heap[gi]? = some (.cells #[.int .u16 ((Go.bits .andNot .u16 c 8)), .int .u8 0, .int .u8 0, .int .u32 y] 45 (0, 0)) ∧ W.heap[gi + 1]? = some (.cells #[.int .u16 0, .int .u8 0, .int .u8 0, .int .u32 0] 45 (0, 0))) ⟨_, rfl, bY _ _ _, kM _ _ _, eB _ _ _⟩ ?_
 rintro W ⟨gi, egi, hb, hi, hr⟩
 rw [← egi]
 have x1 := au hb c1
 have y0 : _ = some (Value.int .u16 ((Go.bits .andNot .u16 c 8))) := (ae hi 0).trans rfl
 have y3 : _ = some (Value.int .u32 y) := (ae hi 3).trans rfl
 have HB := aa.mk hb
 have HI := aa.mk hi
 have HR := aa.mk hr
 have EG := aa.mk egi
 clear hb hi hr c0 c1 egi
 go_quiet ((go_at_call 155; exact Calls.quiet_of ((HC.out _).mono fun _ _ ⟨he, ⟨m, hm⟩⟩ => ⟨he, m, hm⟩)))
 have z0 : _ = some (Value.int .u16 0) := (ae HR.out 0).trans rfl
 have z1 : _ = some (Value.int .u8 0) := (ae HR.out 1).trans rfl
 have z2 : _ = some (Value.int .u8 0) := (ae HR.out 2).trans rfl
 have z3 : _ = some (Value.int .u32 0) := (ae HR.out 3).trans rfl
 have t0 := af HR.out 0
 have t1 := af HR.out 1
 have t2 := af HR.out 2
 have t3 := af HR.out 3
 go_wp2
 have hq := aD (Below.refl W.heap.size W) nq
 refine bodyPost_ret (results_cell_row rfl _ _ (gi + 1) 45 (#[.int .u16 0, .int .u8 0, .int .u8 0, .int .u32 r]) (0, 0) _ rfl (jB (ah HR.out hq) _ _ _ _) Try.underlying45 rfl (by kernel_rfl)) rfl ?_
 exact ⟨rfl, fE (ay HB.out hq) (by have := EG.out; omega) _ _ _ _⟩
theorem xA (w : World) (gs : Nat) (s : St) (c y i1 i2 k : Int) (hS : w.heap[gs]? = some (.cells (aA s) 151 (0, 0))) (hl : s.length = 18) (e0 : gS s 0 = none) (e1 : gS s 1 = some y) (hn : (c == 132) = false) (h8 : (Go.bits .and .u16 c 8 != 0) = true) (hs1 : (c == 108) = false) (hs2 : (c == 124) = false) (hd1 : (c == 60) = false) (hd2 : (c == 156) = false) (hz : (y == 0) = false) :
 Calls Try.prog 166 #[.pointer (some ⟨gs, 0, none⟩), .agg #[.int .u16 c, .int .u8 i1, .int .u8 i2, .int .u32 k]] w fun e w' => e = .returned (.agg #[.int .u16 (Go.bits .andNot .u16 c 8), .int .u8 0, .int .u8 0, .int .u32 y]) ∧ Below w.heap.size w w' := by
 have c0 : _ = some (Value.bool false) := (ae hS 0).trans ((di (s := s) (i := 0) (by omega)).trans (by rw [e0]; rfl))
 have c2 : _ = some (Value.bool true) := (ae hS 2).trans ((di (s := s) (i := 1) (by omega)).trans (by rw [e1]; rfl))
 have c3 : _ = some (Value.int .u32 y) := (ae hS 3).trans ((gM (s := s) (i := 1) (by omega)).trans (by rw [e1]; rfl))
 have hlt := av hS
 have HS := aa.mk hS
 clear hS
 go_enter Try.func166, Try.ntmps166
 go_wp2
 refine bodyPost_ret (results_cell_row rfl _ _ (w.heap.size + 1) 45 (#[.int .u16 (Go.bits .andNot .u16 c 8), .int .u8 0, .int .u8 0, .int .u32 y]) (0, 0) _ rfl (eB _ _ _) Try.underlying45 rfl (by kernel_rfl)) rfl ?_
 exact ⟨rfl, bY _ _ _⟩
theorem xI (w : World) (gs : Nat) (s : St) (v r i1 i2 k : Int) (hS : w.heap[gs]? = some (.cells (aA s) 151 (0, 0))) (hl : s.length = 18) (e0 : gS s 0 = some v) (e1 : gS s 1 = some 0) (hy : decide (31 < 0) = false) (hr : PA.bK.f (Go.bits .andNot .u16 108 8) v 0 = some (r, true)) :
 Calls Try.prog 166 #[.pointer (some ⟨gs, 0, none⟩), .agg #[.int .u16 108, .int .u8 i1, .int .u8 i2, .int .u32 k]] w fun e w' => e = .returned (.agg #[.int .u16 0, .int .u8 0, .int .u8 0, .int .u32 r]) ∧ Below w.heap.size w w' := by
 have c0 : _ = some (Value.bool true) := (ae hS 0).trans ((di (s := s) (i := 0) (by omega)).trans (by rw [e0]; rfl))
 have c1 : _ = some (Value.int .u32 v) := (ae hS 1).trans ((gM (s := s) (i := 0) (by omega)).trans (by rw [e0]; rfl))
 have c2 : _ = some (Value.bool true) := (ae hS 2).trans ((di (s := s) (i := 1) (by omega)).trans (by rw [e1]; rfl))
 have c3 : _ = some (Value.int .u32 0) := (ae hS 3).trans ((gM (s := s) (i := 1) (by omega)).trans (by rw [e1]; rfl))
 have hlt := av hS
 have HS := aa.mk hS
 have HC := fun W => PA.bK.calls (Go.bits .andNot .u16 108 8) v 0 r true W hr
 have HC := aa.mk HC
 clear hS hr
 go_enter Try.func166, Try.ntmps166
 go_upto_region 16 with (fail)
 refine forget (fun W => ∃ gi, gi = w.heap.size ∧ Below w.heap.size w W ∧ W.heap[gi]? = some (.cells #[.int .u16 ((Go.bits .andNot .u16 108 8)), .int .u8 0, .int .u8 0, .int .u32 0] 45 (0, 0)) ∧ W.heap[gi + 1]? = some (.cells #[.int .u16 0, .int .u8 0, .int .u8 0, .int .u32 0] 45 (0, 0))) ⟨_, rfl, bY _ _ _, kM _ _ _, eB _ _ _⟩ ?_
 rintro W ⟨gi, egi, hb, hi, hr⟩
 rw [← egi]
 have x1 := au hb c1
 have y0 : _ = some (Value.int .u16 ((Go.bits .andNot .u16 108 8))) := (ae hi 0).trans rfl
 have y3 : _ = some (Value.int .u32 0) := (ae hi 3).trans rfl
 have HB := aa.mk hb
 have HI := aa.mk hi
 have HR := aa.mk hr
 have EG := aa.mk egi
 clear hb hi hr c0 c1 egi
 go_quiet ((go_at_call 155; exact Calls.quiet_of ((HC.out _).mono fun _ _ ⟨he, ⟨m, hm⟩⟩ => ⟨he, m, hm⟩)))
 have z0 : _ = some (Value.int .u16 0) := (ae HR.out 0).trans rfl
 have z1 : _ = some (Value.int .u8 0) := (ae HR.out 1).trans rfl
 have z2 : _ = some (Value.int .u8 0) := (ae HR.out 2).trans rfl
 have z3 : _ = some (Value.int .u32 0) := (ae HR.out 3).trans rfl
 have t0 := af HR.out 0
 have t1 := af HR.out 1
 have t2 := af HR.out 2
 have t3 := af HR.out 3
 go_wp2
 have hq := aD (Below.refl W.heap.size W) nq
 refine bodyPost_ret (results_cell_row rfl _ _ (gi + 1) 45 (#[.int .u16 0, .int .u8 0, .int .u8 0, .int .u32 r]) (0, 0) _ rfl (jB (ah HR.out hq) _ _ _ _) Try.underlying45 rfl (by kernel_rfl)) rfl ?_
 exact ⟨rfl, fE (ay HB.out hq) (by have := EG.out; omega) _ _ _ _⟩
theorem xG (w : World) (gs : Nat) (s : St) (i1 i2 k : Int) (hS : w.heap[gs]? = some (.cells (aA s) 151 (0, 0))) (hl : s.length = 18) (e0 : gS s 0 = none) (e1 : gS s 1 = some 0) (hy : decide (31 < 0) = false) :
 Calls Try.prog 166 #[.pointer (some ⟨gs, 0, none⟩), .agg #[.int .u16 108, .int .u8 i1, .int .u8 i2, .int .u32 k]] w fun e w' => e = .returned (.agg #[.int .u16 (Go.bits .andNot .u16 108 8), .int .u8 0, .int .u8 0, .int .u32 0]) ∧ Below w.heap.size w w' := by
 have c0 : _ = some (Value.bool false) := (ae hS 0).trans ((di (s := s) (i := 0) (by omega)).trans (by rw [e0]; rfl))
 have c2 : _ = some (Value.bool true) := (ae hS 2).trans ((di (s := s) (i := 1) (by omega)).trans (by rw [e1]; rfl))
 have c3 : _ = some (Value.int .u32 0) := (ae hS 3).trans ((gM (s := s) (i := 1) (by omega)).trans (by rw [e1]; rfl))
 have hlt := av hS
 have HS := aa.mk hS
 clear hS
 go_enter Try.func166, Try.ntmps166
 go_wp2
 refine bodyPost_ret (results_cell_row rfl _ _ (w.heap.size + 1) 45 (#[.int .u16 (Go.bits .andNot .u16 108 8), .int .u8 0, .int .u8 0, .int .u32 0]) (0, 0) _ rfl (eB _ _ _) Try.underlying45 rfl (by kernel_rfl)) rfl ?_
 exact ⟨rfl, bY _ _ _⟩
theorem xJ (w : World) (gs : Nat) (s : St) (v y r i1 i2 k : Int) (hS : w.heap[gs]? = some (.cells (aA s) 151 (0, 0))) (hl : s.length = 18) (e0 : gS s 0 = some v) (e1 : gS s 1 = some y) (hy : decide (31 < y) = false) (hz : (y == 0) = false) (hr : PA.bK.f (Go.bits .andNot .u16 108 8) v y = some (r, true)) :
 Calls Try.prog 166 #[.pointer (some ⟨gs, 0, none⟩), .agg #[.int .u16 108, .int .u8 i1, .int .u8 i2, .int .u32 k]] w fun e w' => e = .returned (.agg #[.int .u16 0, .int .u8 0, .int .u8 0, .int .u32 r]) ∧ Below w.heap.size w w' := by
 have c0 : _ = some (Value.bool true) := (ae hS 0).trans ((di (s := s) (i := 0) (by omega)).trans (by rw [e0]; rfl))
 have c1 : _ = some (Value.int .u32 v) := (ae hS 1).trans ((gM (s := s) (i := 0) (by omega)).trans (by rw [e0]; rfl))
 have c2 : _ = some (Value.bool true) := (ae hS 2).trans ((di (s := s) (i := 1) (by omega)).trans (by rw [e1]; rfl))
 have c3 : _ = some (Value.int .u32 y) := (ae hS 3).trans ((gM (s := s) (i := 1) (by omega)).trans (by rw [e1]; rfl))
 have hlt := av hS
 have HS := aa.mk hS
 have HC := fun W => PA.bK.calls (Go.bits .andNot .u16 108 8) v y r true W hr
 have HC := aa.mk HC
 clear hS hr
 go_enter Try.func166, Try.ntmps166
 go_upto_region 16 with (fail)
 refine forget (fun W => ∃ gi, gi = w.heap.size ∧ Below w.heap.size w W ∧ W.heap[gi]? = some (.cells #[.int .u16 ((Go.bits .andNot .u16 108 8)), .int .u8 0, .int .u8 0, .int .u32 y] 45 (0, 0)) ∧ W.heap[gi + 1]? = some (.cells #[.int .u16 0, .int .u8 0, .int .u8 0, .int .u32 0] 45 (0, 0))) ⟨_, rfl, bY _ _ _, kM _ _ _, eB _ _ _⟩ ?_
 rintro W ⟨gi, egi, hb, hi, hr⟩
 rw [← egi]
 have x1 := au hb c1
 have y0 : _ = some (Value.int .u16 ((Go.bits .andNot .u16 108 8))) := (ae hi 0).trans rfl
 have y3 : _ = some (Value.int .u32 y) := (ae hi 3).trans rfl
 have HB := aa.mk hb
 have HI := aa.mk hi
 have HR := aa.mk hr
 have EG := aa.mk egi
 clear hb hi hr c0 c1 egi
 go_quiet ((go_at_call 155; exact Calls.quiet_of ((HC.out _).mono fun _ _ ⟨he, ⟨m, hm⟩⟩ => ⟨he, m, hm⟩)))
 have z0 : _ = some (Value.int .u16 0) := (ae HR.out 0).trans rfl
 have z1 : _ = some (Value.int .u8 0) := (ae HR.out 1).trans rfl
 have z2 : _ = some (Value.int .u8 0) := (ae HR.out 2).trans rfl
 have z3 : _ = some (Value.int .u32 0) := (ae HR.out 3).trans rfl
 have t0 := af HR.out 0
 have t1 := af HR.out 1
 have t2 := af HR.out 2
 have t3 := af HR.out 3
 go_wp2
 have hq := aD (Below.refl W.heap.size W) nq
 refine bodyPost_ret (results_cell_row rfl _ _ (gi + 1) 45 (#[.int .u16 0, .int .u8 0, .int .u8 0, .int .u32 r]) (0, 0) _ rfl (jB (ah HR.out hq) _ _ _ _) Try.underlying45 rfl (by kernel_rfl)) rfl ?_
 exact ⟨rfl, fE (ay HB.out hq) (by have := EG.out; omega) _ _ _ _⟩
theorem xH (w : World) (gs : Nat) (s : St) (y i1 i2 k : Int) (hS : w.heap[gs]? = some (.cells (aA s) 151 (0, 0))) (hl : s.length = 18) (e0 : gS s 0 = none) (e1 : gS s 1 = some y) (hy : decide (31 < y) = false) (hz : (y == 0) = false) :
 Calls Try.prog 166 #[.pointer (some ⟨gs, 0, none⟩), .agg #[.int .u16 108, .int .u8 i1, .int .u8 i2, .int .u32 k]] w fun e w' => e = .returned (.agg #[.int .u16 (Go.bits .andNot .u16 108 8), .int .u8 0, .int .u8 0, .int .u32 y]) ∧ Below w.heap.size w w' := by
 have c0 : _ = some (Value.bool false) := (ae hS 0).trans ((di (s := s) (i := 0) (by omega)).trans (by rw [e0]; rfl))
 have c2 : _ = some (Value.bool true) := (ae hS 2).trans ((di (s := s) (i := 1) (by omega)).trans (by rw [e1]; rfl))
 have c3 : _ = some (Value.int .u32 y) := (ae hS 3).trans ((gM (s := s) (i := 1) (by omega)).trans (by rw [e1]; rfl))
 have hlt := av hS
 have HS := aa.mk hS
 clear hS
 go_enter Try.func166, Try.ntmps166
 go_wp2
 refine bodyPost_ret (results_cell_row rfl _ _ (w.heap.size + 1) 45 (#[.int .u16 (Go.bits .andNot .u16 108 8), .int .u8 0, .int .u8 0, .int .u32 y]) (0, 0) _ rfl (eB _ _ _) Try.underlying45 rfl (by kernel_rfl)) rfl ?_
 exact ⟨rfl, bY _ _ _⟩
theorem xM (w : World) (gs : Nat) (s : St) (v r i1 i2 k : Int) (hS : w.heap[gs]? = some (.cells (aA s) 151 (0, 0))) (hl : s.length = 18) (e0 : gS s 0 = some v) (e1 : gS s 1 = some 0) (hy : decide (31 < 0) = false) (hr : PA.bK.f (Go.bits .andNot .u16 124 8) v 0 = some (r, true)) :
 Calls Try.prog 166 #[.pointer (some ⟨gs, 0, none⟩), .agg #[.int .u16 124, .int .u8 i1, .int .u8 i2, .int .u32 k]] w fun e w' => e = .returned (.agg #[.int .u16 0, .int .u8 0, .int .u8 0, .int .u32 r]) ∧ Below w.heap.size w w' := by
 have c0 : _ = some (Value.bool true) := (ae hS 0).trans ((di (s := s) (i := 0) (by omega)).trans (by rw [e0]; rfl))
 have c1 : _ = some (Value.int .u32 v) := (ae hS 1).trans ((gM (s := s) (i := 0) (by omega)).trans (by rw [e0]; rfl))
 have c2 : _ = some (Value.bool true) := (ae hS 2).trans ((di (s := s) (i := 1) (by omega)).trans (by rw [e1]; rfl))
 have c3 : _ = some (Value.int .u32 0) := (ae hS 3).trans ((gM (s := s) (i := 1) (by omega)).trans (by rw [e1]; rfl))
 have hlt := av hS
 have HS := aa.mk hS
 have HC := fun W => PA.bK.calls (Go.bits .andNot .u16 124 8) v 0 r true W hr
 have HC := aa.mk HC
 clear hS hr
 go_enter Try.func166, Try.ntmps166
 go_upto_region 16 with (fail)
 refine forget (fun W => ∃ gi, gi = w.heap.size ∧ Below w.heap.size w W ∧ W.heap[gi]? = some (.cells #[.int .u16 ((Go.bits .andNot .u16 124 8)), .int .u8 0, .int .u8 0, .int .u32 0] 45 (0, 0)) ∧ W.heap[gi + 1]? = some (.cells #[.int .u16 0, .int .u8 0, .int .u8 0, .int .u32 0] 45 (0, 0))) ⟨_, rfl, bY _ _ _, kM _ _ _, eB _ _ _⟩ ?_
 rintro W ⟨gi, egi, hb, hi, hr⟩
 rw [← egi]
 have x1 := au hb c1
 have y0 : _ = some (Value.int .u16 ((Go.bits .andNot .u16 124 8))) := (ae hi 0).trans rfl
 have y3 : _ = some (Value.int .u32 0) := (ae hi 3).trans rfl
 have HB := aa.mk hb
 have HI := aa.mk hi
 have HR := aa.mk hr
 have EG := aa.mk egi
 clear hb hi hr c0 c1 egi
 go_quiet ((go_at_call 155; exact Calls.quiet_of ((HC.out _).mono fun _ _ ⟨he, ⟨m, hm⟩⟩ => ⟨he, m, hm⟩)))
 have z0 : _ = some (Value.int .u16 0) := (ae HR.out 0).trans rfl
 have z1 : _ = some (Value.int .u8 0) := (ae HR.out 1).trans rfl
 have z2 : _ = some (Value.int .u8 0) := (ae HR.out 2).trans rfl
 have z3 : _ = some (Value.int .u32 0) := (ae HR.out 3).trans rfl
 have t0 := af HR.out 0
 have t1 := af HR.out 1
 have t2 := af HR.out 2
 have t3 := af HR.out 3
 go_wp2
 have hq := aD (Below.refl W.heap.size W) nq
 refine bodyPost_ret (results_cell_row rfl _ _ (gi + 1) 45 (#[.int .u16 0, .int .u8 0, .int .u8 0, .int .u32 r]) (0, 0) _ rfl (jB (ah HR.out hq) _ _ _ _) Try.underlying45 rfl (by kernel_rfl)) rfl ?_
 exact ⟨rfl, fE (ay HB.out hq) (by have := EG.out; omega) _ _ _ _⟩
theorem xK (w : World) (gs : Nat) (s : St) (i1 i2 k : Int) (hS : w.heap[gs]? = some (.cells (aA s) 151 (0, 0))) (hl : s.length = 18) (e0 : gS s 0 = none) (e1 : gS s 1 = some 0) (hy : decide (31 < 0) = false) :
 Calls Try.prog 166 #[.pointer (some ⟨gs, 0, none⟩), .agg #[.int .u16 124, .int .u8 i1, .int .u8 i2, .int .u32 k]] w fun e w' => e = .returned (.agg #[.int .u16 (Go.bits .andNot .u16 124 8), .int .u8 0, .int .u8 0, .int .u32 0]) ∧ Below w.heap.size w w' := by
 have c0 : _ = some (Value.bool false) := (ae hS 0).trans ((di (s := s) (i := 0) (by omega)).trans (by rw [e0]; rfl))
 have c2 : _ = some (Value.bool true) := (ae hS 2).trans ((di (s := s) (i := 1) (by omega)).trans (by rw [e1]; rfl))
 have c3 : _ = some (Value.int .u32 0) := (ae hS 3).trans ((gM (s := s) (i := 1) (by omega)).trans (by rw [e1]; rfl))
 have hlt := av hS
 have HS := aa.mk hS
 clear hS
 go_enter Try.func166, Try.ntmps166
 go_wp2
 refine bodyPost_ret (results_cell_row rfl _ _ (w.heap.size + 1) 45 (#[.int .u16 (Go.bits .andNot .u16 124 8), .int .u8 0, .int .u8 0, .int .u32 0]) (0, 0) _ rfl (eB _ _ _) Try.underlying45 rfl (by kernel_rfl)) rfl ?_
 exact ⟨rfl, bY _ _ _⟩
theorem xN (w : World) (gs : Nat) (s : St) (v y r i1 i2 k : Int) (hS : w.heap[gs]? = some (.cells (aA s) 151 (0, 0))) (hl : s.length = 18) (e0 : gS s 0 = some v) (e1 : gS s 1 = some y) (hy : decide (31 < y) = false) (hz : (y == 0) = false) (hr : PA.bK.f (Go.bits .andNot .u16 124 8) v y = some (r, true)) :
 Calls Try.prog 166 #[.pointer (some ⟨gs, 0, none⟩), .agg #[.int .u16 124, .int .u8 i1, .int .u8 i2, .int .u32 k]] w fun e w' => e = .returned (.agg #[.int .u16 0, .int .u8 0, .int .u8 0, .int .u32 r]) ∧ Below w.heap.size w w' := by
 have c0 : _ = some (Value.bool true) := (ae hS 0).trans ((di (s := s) (i := 0) (by omega)).trans (by rw [e0]; rfl))
 have c1 : _ = some (Value.int .u32 v) := (ae hS 1).trans ((gM (s := s) (i := 0) (by omega)).trans (by rw [e0]; rfl))
 have c2 : _ = some (Value.bool true) := (ae hS 2).trans ((di (s := s) (i := 1) (by omega)).trans (by rw [e1]; rfl))
 have c3 : _ = some (Value.int .u32 y) := (ae hS 3).trans ((gM (s := s) (i := 1) (by omega)).trans (by rw [e1]; rfl))
 have hlt := av hS
 have HS := aa.mk hS
 have HC := fun W => PA.bK.calls (Go.bits .andNot .u16 124 8) v y r true W hr
 have HC := aa.mk HC
 clear hS hr
 go_enter Try.func166, Try.ntmps166
 go_upto_region 16 with (fail)
 refine forget (fun W => ∃ gi, gi = w.heap.size ∧ Below w.heap.size w W ∧ W.heap[gi]? = some (.cells #[.int .u16 ((Go.bits .andNot .u16 124 8)), .int .u8 0, .int .u8 0, .int .u32 y] 45 (0, 0)) ∧ W.heap[gi + 1]? = some (.cells #[.int .u16 0, .int .u8 0, .int .u8 0, .int .u32 0] 45 (0, 0))) ⟨_, rfl, bY _ _ _, kM _ _ _, eB _ _ _⟩ ?_
 rintro W ⟨gi, egi, hb, hi, hr⟩
 rw [← egi]
 have x1 := au hb c1
 have y0 : _ = some (Value.int .u16 ((Go.bits .andNot .u16 124 8))) := (ae hi 0).trans rfl
 have y3 : _ = some (Value.int .u32 y) := (ae hi 3).trans rfl
 have HB := aa.mk hb
 have HI := aa.mk hi
 have HR := aa.mk hr
 have EG := aa.mk egi
 clear hb hi hr c0 c1 egi
 go_quiet ((go_at_call 155; exact Calls.quiet_of ((HC.out _).mono fun _ _ ⟨he, ⟨m, hm⟩⟩ => ⟨he, m, hm⟩)))
 have z0 : _ = some (Value.int .u16 0) := (ae HR.out 0).trans rfl
 have z1 : _ = some (Value.int .u8 0) := (ae HR.out 1).trans rfl
 have z2 : _ = some (Value.int .u8 0) := (ae HR.out 2).trans rfl
 have z3 : _ = some (Value.int .u32 0) := (ae HR.out 3).trans rfl
 have t0 := af HR.out 0
 have t1 := af HR.out 1
 have t2 := af HR.out 2
 have t3 := af HR.out 3
 go_wp2
 have hq := aD (Below.refl W.heap.size W) nq
 refine bodyPost_ret (results_cell_row rfl _ _ (gi + 1) 45 (#[.int .u16 0, .int .u8 0, .int .u8 0, .int .u32 r]) (0, 0) _ rfl (jB (ah HR.out hq) _ _ _ _) Try.underlying45 rfl (by kernel_rfl)) rfl ?_
 exact ⟨rfl, fE (ay HB.out hq) (by have := EG.out; omega) _ _ _ _⟩
theorem xL (w : World) (gs : Nat) (s : St) (y i1 i2 k : Int) (hS : w.heap[gs]? = some (.cells (aA s) 151 (0, 0))) (hl : s.length = 18) (e0 : gS s 0 = none) (e1 : gS s 1 = some y) (hy : decide (31 < y) = false) (hz : (y == 0) = false) :
 Calls Try.prog 166 #[.pointer (some ⟨gs, 0, none⟩), .agg #[.int .u16 124, .int .u8 i1, .int .u8 i2, .int .u32 k]] w fun e w' => e = .returned (.agg #[.int .u16 (Go.bits .andNot .u16 124 8), .int .u8 0, .int .u8 0, .int .u32 y]) ∧ Below w.heap.size w w' := by
 have c0 : _ = some (Value.bool false) := (ae hS 0).trans ((di (s := s) (i := 0) (by omega)).trans (by rw [e0]; rfl))
 have c2 : _ = some (Value.bool true) := (ae hS 2).trans ((di (s := s) (i := 1) (by omega)).trans (by rw [e1]; rfl))
 have c3 : _ = some (Value.int .u32 y) := (ae hS 3).trans ((gM (s := s) (i := 1) (by omega)).trans (by rw [e1]; rfl))
 have hlt := av hS
 have HS := aa.mk hS
 clear hS
 go_enter Try.func166, Try.ntmps166
 go_wp2
 refine bodyPost_ret (results_cell_row rfl _ _ (w.heap.size + 1) 45 (#[.int .u16 (Go.bits .andNot .u16 124 8), .int .u8 0, .int .u8 0, .int .u32 y]) (0, 0) _ rfl (eB _ _ _) Try.underlying45 rfl (by kernel_rfl)) rfl ?_
 exact ⟨rfl, bY _ _ _⟩
theorem xy (w : World) (gs : Nat) (s : St) (v y r i1 i2 k : Int) (hS : w.heap[gs]? = some (.cells (aA s) 151 (0, 0))) (hl : s.length = 18) (e0 : gS s 0 = some v) (e1 : gS s 1 = some y) (hz : (y == 0) = false) (hr : PA.bK.f (Go.bits .andNot .u16 60 8) v y = some (r, true)) :
 Calls Try.prog 166 #[.pointer (some ⟨gs, 0, none⟩), .agg #[.int .u16 60, .int .u8 i1, .int .u8 i2, .int .u32 k]] w fun e w' => e = .returned (.agg #[.int .u16 0, .int .u8 0, .int .u8 0, .int .u32 r]) ∧ Below w.heap.size w w' := by
 have c0 : _ = some (Value.bool true) := (ae hS 0).trans ((di (s := s) (i := 0) (by omega)).trans (by rw [e0]; rfl))
 have c1 : _ = some (Value.int .u32 v) := (ae hS 1).trans ((gM (s := s) (i := 0) (by omega)).trans (by rw [e0]; rfl))
 have c2 : _ = some (Value.bool true) := (ae hS 2).trans ((di (s := s) (i := 1) (by omega)).trans (by rw [e1]; rfl))
 have c3 : _ = some (Value.int .u32 y) := (ae hS 3).trans ((gM (s := s) (i := 1) (by omega)).trans (by rw [e1]; rfl))
 have hlt := av hS
 have HS := aa.mk hS
 have HC := fun W => PA.bK.calls (Go.bits .andNot .u16 60 8) v y r true W hr
 have HC := aa.mk HC
 clear hS hr
 go_enter Try.func166, Try.ntmps166
 go_upto_region 16 with (fail)
 refine forget (fun W => ∃ gi, gi = w.heap.size ∧ Below w.heap.size w W ∧ W.heap[gi]? = some (.cells #[.int .u16 ((Go.bits .andNot .u16 60 8)), .int .u8 0, .int .u8 0, .int .u32 y] 45 (0, 0)) ∧ W.heap[gi + 1]? = some (.cells #[.int .u16 0, .int .u8 0, .int .u8 0, .int .u32 0] 45 (0, 0))) ⟨_, rfl, bY _ _ _, kM _ _ _, eB _ _ _⟩ ?_
 rintro W ⟨gi, egi, hb, hi, hr⟩
 rw [← egi]
 have x1 := au hb c1
 have y0 : _ = some (Value.int .u16 ((Go.bits .andNot .u16 60 8))) := (ae hi 0).trans rfl
 have y3 : _ = some (Value.int .u32 y) := (ae hi 3).trans rfl
 have HB := aa.mk hb
 have HI := aa.mk hi
 have HR := aa.mk hr
 have EG := aa.mk egi
 clear hb hi hr c0 c1 egi
 go_quiet ((go_at_call 155; exact Calls.quiet_of ((HC.out _).mono fun _ _ ⟨he, ⟨m, hm⟩⟩ => ⟨he, m, hm⟩)))
 have z0 : _ = some (Value.int .u16 0) := (ae HR.out 0).trans rfl
 have z1 : _ = some (Value.int .u8 0) := (ae HR.out 1).trans rfl
 have z2 : _ = some (Value.int .u8 0) := (ae HR.out 2).trans rfl
 have z3 : _ = some (Value.int .u32 0) := (ae HR.out 3).trans rfl
 have t0 := af HR.out 0
 have t1 := af HR.out 1
 have t2 := af HR.out 2
 have t3 := af HR.out 3
 go_wp2
 have hq := aD (Below.refl W.heap.size W) nq
 refine bodyPost_ret (results_cell_row rfl _ _ (gi + 1) 45 (#[.int .u16 0, .int .u8 0, .int .u8 0, .int .u32 r]) (0, 0) _ rfl (jB (ah HR.out hq) _ _ _ _) Try.underlying45 rfl (by kernel_rfl)) rfl ?_
 exact ⟨rfl, fE (ay HB.out hq) (by have := EG.out; omega) _ _ _ _⟩
theorem xx (w : World) (gs : Nat) (s : St) (y i1 i2 k : Int) (hS : w.heap[gs]? = some (.cells (aA s) 151 (0, 0))) (hl : s.length = 18) (e0 : gS s 0 = none) (e1 : gS s 1 = some y) (hz : (y == 0) = false) :
 Calls Try.prog 166 #[.pointer (some ⟨gs, 0, none⟩), .agg #[.int .u16 60, .int .u8 i1, .int .u8 i2, .int .u32 k]] w fun e w' => e = .returned (.agg #[.int .u16 (Go.bits .andNot .u16 60 8), .int .u8 0, .int .u8 0, .int .u32 y]) ∧ Below w.heap.size w w' := by
 have c0 : _ = some (Value.bool false) := (ae hS 0).trans ((di (s := s) (i := 0) (by omega)).trans (by rw [e0]; rfl))
 have c2 : _ = some (Value.bool true) := (ae hS 2).trans ((di (s := s) (i := 1) (by omega)).trans (by rw [e1]; rfl))
 have c3 : _ = some (Value.int .u32 y) := (ae hS 3).trans ((gM (s := s) (i := 1) (by omega)).trans (by rw [e1]; rfl))
 have hlt := av hS
 have HS := aa.mk hS
 clear hS
 go_enter Try.func166, Try.ntmps166
 go_wp2
 refine bodyPost_ret (results_cell_row rfl _ _ (w.heap.size + 1) 45 (#[.int .u16 (Go.bits .andNot .u16 60 8), .int .u8 0, .int .u8 0, .int .u32 y]) (0, 0) _ rfl (eB _ _ _) Try.underlying45 rfl (by kernel_rfl)) rfl ?_
 exact ⟨rfl, bY _ _ _⟩
theorem xE (w : World) (gs : Nat) (s : St) (v y r i1 i2 k : Int) (hS : w.heap[gs]? = some (.cells (aA s) 151 (0, 0))) (hl : s.length = 18) (e0 : gS s 0 = some v) (e1 : gS s 1 = some y) (hz : (y == 0) = false) (hr : PA.bK.f (Go.bits .andNot .u16 156 8) v y = some (r, true)) :
 Calls Try.prog 166 #[.pointer (some ⟨gs, 0, none⟩), .agg #[.int .u16 156, .int .u8 i1, .int .u8 i2, .int .u32 k]] w fun e w' => e = .returned (.agg #[.int .u16 0, .int .u8 0, .int .u8 0, .int .u32 r]) ∧ Below w.heap.size w w' := by
 have c0 : _ = some (Value.bool true) := (ae hS 0).trans ((di (s := s) (i := 0) (by omega)).trans (by rw [e0]; rfl))
 have c1 : _ = some (Value.int .u32 v) := (ae hS 1).trans ((gM (s := s) (i := 0) (by omega)).trans (by rw [e0]; rfl))
 have c2 : _ = some (Value.bool true) := (ae hS 2).trans ((di (s := s) (i := 1) (by omega)).trans (by rw [e1]; rfl))
 have c3 : _ = some (Value.int .u32 y) := (ae hS 3).trans ((gM (s := s) (i := 1) (by omega)).trans (by rw [e1]; rfl))
 have hlt := av hS
 have HS := aa.mk hS
 have HC := fun W => PA.bK.calls (Go.bits .andNot .u16 156 8) v y r true W hr
 have HC := aa.mk HC
 clear hS hr
 go_enter Try.func166, Try.ntmps166
 go_upto_region 16 with (fail)
 refine forget (fun W => ∃ gi, gi = w.heap.size ∧ Below w.heap.size w W ∧ W.heap[gi]? = some (.cells #[.int .u16 ((Go.bits .andNot .u16 156 8)), .int .u8 0, .int .u8 0, .int .u32 y] 45 (0, 0)) ∧ W.heap[gi + 1]? = some (.cells #[.int .u16 0, .int .u8 0, .int .u8 0, .int .u32 0] 45 (0, 0))) ⟨_, rfl, bY _ _ _, kM _ _ _, eB _ _ _⟩ ?_
 rintro W ⟨gi, egi, hb, hi, hr⟩
 rw [← egi]
 have x1 := au hb c1
 have y0 : _ = some (Value.int .u16 ((Go.bits .andNot .u16 156 8))) := (ae hi 0).trans rfl
 have y3 : _ = some (Value.int .u32 y) := (ae hi 3).trans rfl
 have HB := aa.mk hb
 have HI := aa.mk hi
 have HR := aa.mk hr
 have EG := aa.mk egi
 clear hb hi hr c0 c1 egi
 go_quiet ((go_at_call 155; exact Calls.quiet_of ((HC.out _).mono fun _ _ ⟨he, ⟨m, hm⟩⟩ => ⟨he, m, hm⟩)))
 have z0 : _ = some (Value.int .u16 0) := (ae HR.out 0).trans rfl
 have z1 : _ = some (Value.int .u8 0) := (ae HR.out 1).trans rfl
 have z2 : _ = some (Value.int .u8 0) := (ae HR.out 2).trans rfl
 have z3 : _ = some (Value.int .u32 0) := (ae HR.out 3).trans rfl
 have t0 := af HR.out 0
 have t1 := af HR.out 1
 have t2 := af HR.out 2
 have t3 := af HR.out 3
 go_wp2
 have hq := aD (Below.refl W.heap.size W) nq
 refine bodyPost_ret (results_cell_row rfl _ _ (gi + 1) 45 (#[.int .u16 0, .int .u8 0, .int .u8 0, .int .u32 r]) (0, 0) _ rfl (jB (ah HR.out hq) _ _ _ _) Try.underlying45 rfl (by kernel_rfl)) rfl ?_
 exact ⟨rfl, fE (ay HB.out hq) (by have := EG.out; omega) _ _ _ _⟩
theorem xD (w : World) (gs : Nat) (s : St) (y i1 i2 k : Int) (hS : w.heap[gs]? = some (.cells (aA s) 151 (0, 0))) (hl : s.length = 18) (e0 : gS s 0 = none) (e1 : gS s 1 = some y) (hz : (y == 0) = false) :
 Calls Try.prog 166 #[.pointer (some ⟨gs, 0, none⟩), .agg #[.int .u16 156, .int .u8 i1, .int .u8 i2, .int .u32 k]] w fun e w' => e = .returned (.agg #[.int .u16 (Go.bits .andNot .u16 156 8), .int .u8 0, .int .u8 0, .int .u32 y]) ∧ Below w.heap.size w w' := by
 have c0 : _ = some (Value.bool false) := (ae hS 0).trans ((di (s := s) (i := 0) (by omega)).trans (by rw [e0]; rfl))
 have c2 : _ = some (Value.bool true) := (ae hS 2).trans ((di (s := s) (i := 1) (by omega)).trans (by rw [e1]; rfl))
 have c3 : _ = some (Value.int .u32 y) := (ae hS 3).trans ((gM (s := s) (i := 1) (by omega)).trans (by rw [e1]; rfl))
 have hlt := av hS
 have HS := aa.mk hS
 clear hS
 go_enter Try.func166, Try.ntmps166
 go_wp2
 refine bodyPost_ret (results_cell_row rfl _ _ (w.heap.size + 1) 45 (#[.int .u16 (Go.bits .andNot .u16 156 8), .int .u8 0, .int .u8 0, .int .u32 y]) (0, 0) _ rfl (eB _ _ _) Try.underlying45 rfl (by kernel_rfl)) rfl ?_
 exact ⟨rfl, bY _ _ _⟩
theorem alu_xdz (w : World) (gs : Nat) (s : St) (i1 i2 k : Int) (hS : w.heap[gs]? = some (.cells (aA s) 151 (0, 0))) (hl : s.length = 18) (e1 : gS s 1 = some 0) :
 Calls Try.prog 166 #[.pointer (some ⟨gs, 0, none⟩), .agg #[.int .u16 60, .int .u8 i1, .int .u8 i2, .int .u32 k]] w fun e w' => e = .returned (.agg #[.int .u16 60, .int .u8 i1, .int .u8 i2, .int .u32 k]) ∧ Below w.heap.size w w' := by
 have c2 : _ = some (Value.bool true) := (ae hS 2).trans ((di (s := s) (i := 1) (by omega)).trans (by rw [e1]; rfl))
 have c3 : _ = some (Value.int .u32 0) := (ae hS 3).trans ((gM (s := s) (i := 1) (by omega)).trans (by rw [e1]; rfl))
 have hlt := av hS
 have HS := aa.mk hS
 clear hS
 go_enter Try.func166, Try.ntmps166
 go_wp2
 refine bodyPost_ret (results_cell_row rfl _ _ (w.heap.size + 1) 45 (#[.int .u16 60, .int .u8 i1, .int .u8 i2, .int .u32 k]) (0, 0) _ rfl (eB _ _ _) Try.underlying45 rfl (by kernel_rfl)) rfl ?_
 exact ⟨rfl, bY _ _ _⟩
theorem alu_xmz (w : World) (gs : Nat) (s : St) (i1 i2 k : Int) (hS : w.heap[gs]? = some (.cells (aA s) 151 (0, 0))) (hl : s.length = 18) (e1 : gS s 1 = some 0) :
 Calls Try.prog 166 #[.pointer (some ⟨gs, 0, none⟩), .agg #[.int .u16 156, .int .u8 i1, .int .u8 i2, .int .u32 k]] w fun e w' => e = .returned (.agg #[.int .u16 156, .int .u8 i1, .int .u8 i2, .int .u32 k]) ∧ Below w.heap.size w w' := by
 have c2 : _ = some (Value.bool true) := (ae hS 2).trans ((di (s := s) (i := 1) (by omega)).trans (by rw [e1]; rfl))
 have c3 : _ = some (Value.int .u32 0) := (ae hS 3).trans ((gM (s := s) (i := 1) (by omega)).trans (by rw [e1]; rfl))
 have hlt := av hS
 have HS := aa.mk hS
 clear hS
 go_enter Try.func166, Try.ntmps166
 go_wp2
 refine bodyPost_ret (results_cell_row rfl _ _ (w.heap.size + 1) 45 (#[.int .u16 156, .int .u8 i1, .int .u8 i2, .int .u32 k]) (0, 0) _ rfl (eB _ _ _) Try.underlying45 rfl (by kernel_rfl)) rfl ?_
 exact ⟨rfl, bY _ _ _⟩
theorem alu_xa0 (w : World) (gs : Nat) (s : St) (i1 i2 k : Int) (hS : w.heap[gs]? = some (.cells (aA s) 151 (0, 0))) (hl : s.length = 18) (e0 : gS s 0 = none) (e1 : gS s 1 = some 0) :
 Calls Try.prog 166 #[.pointer (some ⟨gs, 0, none⟩), .agg #[.int .u16 92, .int .u8 i1, .int .u8 i2, .int .u32 k]] w fun e w' => e = .returned (.agg #[.int .u16 0, .int .u8 0, .int .u8 0, .int .u32 0]) ∧ Below w.heap.size w w' := by
 have c0 : _ = some (Value.bool false) := (ae hS 0).trans ((di (s := s) (i := 0) (by omega)).trans (by rw [e0]; rfl))
 have c2 : _ = some (Value.bool true) := (ae hS 2).trans ((di (s := s) (i := 1) (by omega)).trans (by rw [e1]; rfl))
 have c3 : _ = some (Value.int .u32 0) := (ae hS 3).trans ((gM (s := s) (i := 1) (by omega)).trans (by rw [e1]; rfl))
 have hlt := av hS
 have HS := aa.mk hS
 clear hS
 go_enter Try.func166, Try.ntmps166
 go_wp2
 refine bodyPost_ret (results_cell_row rfl _ _ (w.heap.size + 1) 45 (#[.int .u16 0, .int .u8 0, .int .u8 0, .int .u32 0]) (0, 0) _ rfl (eB _ _ _) Try.underlying45 rfl (by kernel_rfl)) rfl ?_
 exact ⟨rfl, bY _ _ _⟩
theorem alu_xu0 (w : World) (gs : Nat) (s : St) (i1 i2 k : Int) (hS : w.heap[gs]? = some (.cells (aA s) 151 (0, 0))) (hl : s.length = 18) (e0 : gS s 0 = none) (e1 : gS s 1 = some 0) :
 Calls Try.prog 166 #[.pointer (some ⟨gs, 0, none⟩), .agg #[.int .u16 44, .int .u8 i1, .int .u8 i2, .int .u32 k]] w fun e w' => e = .returned (.agg #[.int .u16 0, .int .u8 0, .int .u8 0, .int .u32 0]) ∧ Below w.heap.size w w' := by
 have c0 : _ = some (Value.bool false) := (ae hS 0).trans ((di (s := s) (i := 0) (by omega)).trans (by rw [e0]; rfl))
 have c2 : _ = some (Value.bool true) := (ae hS 2).trans ((di (s := s) (i := 1) (by omega)).trans (by rw [e1]; rfl))
 have c3 : _ = some (Value.int .u32 0) := (ae hS 3).trans ((gM (s := s) (i := 1) (by omega)).trans (by rw [e1]; rfl))
 have hlt := av hS
 have HS := aa.mk hS
 clear hS
 go_enter Try.func166, Try.ntmps166
 go_wp2
 refine bodyPost_ret (results_cell_row rfl _ _ (w.heap.size + 1) 45 (#[.int .u16 0, .int .u8 0, .int .u8 0, .int .u32 0]) (0, 0) _ rfl (eB _ _ _) Try.underlying45 rfl (by kernel_rfl)) rfl ?_
 exact ⟨rfl, bY _ _ _⟩
theorem bf {a b : Int} (h : a ≠ b) : (a == b) = false := beq_eq_false_iff_ne.mpr h
theorem alu_K (w : World) (gs : Nat) (s : St) (i : S45) (hS : w.heap[gs]? = some (.cells (aA s) 151 (0, 0))) (hw : Wst s) (hc : i.f0 ∈ fo) (hk : Rg i.f3) (h52 : (i.f0 = 52 ∨ i.f0 = 148) → i.f3 ≠ 0) (h31 : (i.f0 = 100 ∨ i.f0 = 116) → i.f3 ≤ 31) :
 Calls Try.prog 166 #[.pointer (some ⟨gs, 0, none⟩), eF i] w fun e w' => e = .returned (eF (jg s i)) ∧ Below w.heap.size w w' := by
 obtain ⟨c, i1, i2, k⟩ := i
 dsimp only at hc hk h52 h31
 have H : ∀ x ∈ fo, x ≠ 132 ∧ (Go.bits .and .u16 x 8 != 0) = false := by decide +kernel
 obtain ⟨n1, n2⟩ := H c hc
 unfold jg
 cases e : gS s 0 with
 | some a => exact alu_k1 w gs s c a (opP c a k).1 i1 i2 k hS hw.len e (bf n1) n2 (sM hc hk.1 h52 h31)
 | none =>
  dsimp only
  by_cases q : k = 0 ∧ (c = 84 ∨ c = 36)
  · rw [if_pos q]
    obtain ⟨q0, rfl | rfl⟩ := q
    · exact alu_k84 w gs s i1 i2 k hS hw.len e q0
    exact alu_k36 w gs s i1 i2 k hS hw.len e q0
  rw [if_neg q]
  by_cases q0 : k = 0
  · subst q0
    exact alu_kz w gs s c i1 i2 0 hS hw.len e (bf n1) n2 rfl (bf (fun h => q ⟨rfl, .inl h⟩)) (bf (fun h => q ⟨rfl, .inr h⟩))
  exact alu_kn w gs s c i1 i2 k hS hw.len e (bf n1) n2 (bf q0)
theorem alu_X (w : World) (gs : Nat) (s : St) (c i1 i2 k y : Int) (hS : w.heap[gs]? = some (.cells (aA s) 151 (0, 0))) (hw : Wst s) (hc : c ∈ gF) (e1 : gS s 1 = some y) (hy : Rg y) (hf : ¬ ((c = 108 ∨ c = 124) ∧ y > 31)) (hz : ¬ (y = 0 ∧ (c = 60 ∨ c = 156))) :
 Calls Try.prog 166 #[.pointer (some ⟨gs, 0, none⟩), eF ⟨c, i1, i2, k⟩] w fun e w' => e = .returned (eF (jg s ⟨c - 8, 0, 0, y⟩)) ∧ Below w.heap.size w w' := by
 have H : ∀ x ∈ gF, x ≠ 132 ∧ (Go.bits .and .u16 x 8 != 0) = true ∧ Go.bits .andNot .u16 x 8 = x - 8 ∧ x - 8 ∈ fo ∧ (x - 8 = 52 ∨ x - 8 = 148 → x = 60 ∨ x = 156) ∧ (x - 8 = 100 ∨ x - 8 = 116 → x = 108 ∨ x = 124) ∧ (x - 8 = 84 ↔ x = 92) ∧ (x - 8 = 36 ↔ x = 44) := by decide +kernel
 obtain ⟨n1, n2, n3, n4, n5, n6, n7, n8⟩ := H c hc
 have hR : ∀ a, PA.bK.f (Go.bits .andNot .u16 c 8) a y = some ((opP (c - 8) a y).1, true) := fun a => by
  rw [n3]
  exact sM n4 hy.1 (fun h h0 => hz ⟨h0, n5 h⟩) (fun h => by have := n6 h; omega)
 have hy31 : (c = 108 ∨ c = 124) → decide (31 < y) = false := fun h => decide_eq_false (by omega)
 unfold jg
 dsimp only
 cases e : gS s 0 with
 | some a =>
  dsimp only
  by_cases q0 : y = 0
  · subst q0
    by_cases c1 : c = 108
    · subst c1; exact xI w gs s a _ i1 i2 k hS hw.len e e1 (hy31 (.inl rfl)) (hR a)
    by_cases c2 : c = 124
    · subst c2; exact xM w gs s a _ i1 i2 k hS hw.len e e1 (hy31 (.inr rfl)) (hR a)
    have c3 : c ≠ 60 := fun h => hz ⟨rfl, .inl h⟩
    have c4 : c ≠ 156 := fun h => hz ⟨rfl, .inr h⟩
    exact xB w gs s c a _ i1 i2 k hS hw.len e e1 (bf n1) n2 (bf c1) (bf c2) (bf c3) (bf c4) (hR a)
  by_cases c1 : c = 108
  · subst c1; exact xJ w gs s a y _ i1 i2 k hS hw.len e e1 (hy31 (.inl rfl)) (bf q0) (hR a)
  by_cases c2 : c = 124
  · subst c2; exact xN w gs s a y _ i1 i2 k hS hw.len e e1 (hy31 (.inr rfl)) (bf q0) (hR a)
  by_cases c3 : c = 60
  · subst c3; exact xy w gs s a y _ i1 i2 k hS hw.len e e1 (bf q0) (hR a)
  by_cases c4 : c = 156
  · subst c4; exact xE w gs s a y _ i1 i2 k hS hw.len e e1 (bf q0) (hR a)
  exact xC w gs s c a y _ i1 i2 k hS hw.len e e1 (bf n1) n2 (bf c1) (bf c2) (bf c3) (bf c4) (bf q0) (hR a)
 | none =>
  dsimp only
  by_cases q0 : y = 0
  · subst q0
    by_cases c5 : c = 92
    · subst c5
      rw [if_pos (by decide)]
      exact alu_xa0 w gs s i1 i2 k hS hw.len e e1
    by_cases c6 : c = 44
    · subst c6
      rw [if_pos (by decide)]
      exact alu_xu0 w gs s i1 i2 k hS hw.len e e1
    rw [if_neg (by rintro ⟨_, h | h⟩; exact c5 (n7.1 h); exact c6 (n8.1 h)), ← n3]
    by_cases c1 : c = 108
    · subst c1; exact xG w gs s i1 i2 k hS hw.len e e1 (hy31 (.inl rfl))
    by_cases c2 : c = 124
    · subst c2; exact xK w gs s i1 i2 k hS hw.len e e1 (hy31 (.inr rfl))
    have c3 : c ≠ 60 := fun h => hz ⟨rfl, .inl h⟩
    have c4 : c ≠ 156 := fun h => hz ⟨rfl, .inr h⟩
    exact xz w gs s c i1 i2 k hS hw.len e e1 (bf n1) n2 (bf c1) (bf c2) (bf c3) (bf c4) (by rw [n3]; exact bf (fun h => c5 (n7.1 h))) (by rw [n3]; exact bf (fun h => c6 (n8.1 h)))
  rw [if_neg (fun h => q0 h.1), ← n3]
  by_cases c1 : c = 108
  · subst c1; exact xH w gs s y i1 i2 k hS hw.len e e1 (hy31 (.inl rfl)) (bf q0)
  by_cases c2 : c = 124
  · subst c2; exact xL w gs s y i1 i2 k hS hw.len e e1 (hy31 (.inr rfl)) (bf q0)
  by_cases c3 : c = 60
  · subst c3; exact xx w gs s y i1 i2 k hS hw.len e e1 (bf q0)
  by_cases c4 : c = 156
  · subst c4; exact xD w gs s y i1 i2 k hS hw.len e e1 (bf q0)
  exact xA w gs s c y i1 i2 k hS hw.len e e1 (bf n1) n2 (bf c1) (bf c2) (bf c3) (bf c4) (bf q0)
theorem vV (w : World) (gs : Nat) (s : St) (i : S45) (hS : w.heap[gs]? = some (.cells (aA s) 151 (0, 0))) (hw : Wst s) (hc : stB i.f0 i.f3 = true) (hk : Rg i.f3) (ha : i.f0 = 132 ∨ i.f0 ∈ fo ∨ i.f0 ∈ gF) :
 Calls Try.prog 166 #[.pointer (some ⟨gs, 0, none⟩), eF i] w fun e w' => e = .returned (eF (sW s i)) ∧ Below w.heap.size w w' := by
 obtain ⟨hm, _, h52, h31⟩ := gQ hc
 unfold sW
 by_cases c1 : i.f0 = 132
 · rw [if_pos c1]
   obtain ⟨c, i1, i2, k⟩ := i
   dsimp only at c1
   subst c1
   cases e : gS s 0 with
   | some a => exact alu_n1 w gs s a i1 i2 k hS hw.len e
   | none => exact alu_n0 w gs s i1 i2 k hS hw.len e
 rw [if_neg c1]
 by_cases c2 : i.f0 ∈ gF
 · rw [if_pos c2]
   obtain ⟨c, i1, i2, k⟩ := i
   dsimp only at c1 c2
   have H : ∀ x ∈ gF, (Go.bits .and .u16 x 8 != 0) = true := by decide +kernel
   cases e : gS s 1 with
   | none => exact alu_x0 w gs s c i1 i2 k hS hw.len e (bf c1) (H c c2)
   | some y =>
    dsimp only
    have hy := hw.rg 1 y e
    by_cases d1 : (c = 108 ∨ c = 124) ∧ y > 31
    · rw [if_pos d1]
      obtain ⟨rfl | rfl, d⟩ := d1
      · exact alu_xf1 w gs s y i1 i2 k hS hw.len e (decide_eq_true d)
      exact alu_xf2 w gs s y i1 i2 k hS hw.len e (decide_eq_true d)
    rw [if_neg d1]
    by_cases d2 : y = 0 ∧ (c = 60 ∨ c = 156)
    · rw [if_pos d2]
      obtain ⟨rfl, rfl | rfl⟩ := d2
      · exact alu_xdz w gs s i1 i2 k hS hw.len e
      exact alu_xmz w gs s i1 i2 k hS hw.len e
    rw [if_neg d2]
    exact alu_X w gs s c i1 i2 k y hS hw c2 e hy d1 d2
 rw [if_neg c2]
 exact alu_K w gs s i hS hw ((ha.resolve_left c1).resolve_right c2) hk h52 h31
theorem bZ {s : St} {i : Nat} (h : i < s.length) : (aA s)[i * 2]? = some (.bool (gS s i).isSome) := by rw [Nat.mul_comm]; exact di h
theorem dE {s : St} {i : Nat} (h : i < s.length) : (aA s)[i * 2 + 1]? = some (.int .u32 ((gS s i).getD 0)) := by rw [Nat.mul_comm]; exact gM h
theorem zt (w : World) (gs : Nat) (s : St) (v i1 i2 : Int) (k : Nat) (hS : w.heap[gs]? = some (.cells (aA s) 151 (0, 0))) (hl : s.length = 18) (hk : k < 16) (e0 : gS s (2 + k) = some v) :
 Calls Try.prog 165 #[.pointer (some ⟨gs, 0, none⟩), .agg #[.int .u16 96, .int .u8 i1, .int .u8 i2, .int .u32 (k : Int)]] w fun e w' => e = .returned (.agg #[.int .u16 0, .int .u8 0, .int .u8 0, .int .u32 v]) ∧ Below w.heap.size w w' := by
 have c0 : _ = some (Value.bool true) := (ae hS ((2 + k) * 2)).trans ((bZ (s := s) (i := 2 + k) (by omega)).trans (by rw [e0]; rfl))
 have c1 : _ = some (Value.int .u32 v) := (ae hS ((2 + k) * 2 + 1)).trans ((dE (s := s) (i := 2 + k) (by omega)).trans (by rw [e0]; rfl))
 have hlt := av hS
 have hlt1 : gs < w.heap.size + 1 := by omega
 have hlt2 : gs < w.heap.size + 1 + 1 := by omega
 have HS := aa.mk hS
 clear hS
 go_enter Try.func165, Try.ntmps165
 go_wp2
 go_region
 go_wp2
 refine bodyPost_ret (results_cell_row rfl _ _ (w.heap.size + 1) 45 (#[.int .u16 0, .int .u8 0, .int .u8 0, .int .u32 v]) (0, 0) _ rfl (ah (eB _ _ _) (ak (ai (Below.refl _ _) _))) Try.underlying45 rfl (by kernel_rfl)) rfl ?_
 exact ⟨rfl, ak (ai (bY _ _ _) _)⟩
theorem zq (w : World) (gs : Nat) (s : St) (i1 i2 : Int) (k : Nat) (hS : w.heap[gs]? = some (.cells (aA s) 151 (0, 0))) (hl : s.length = 18) (hk : k < 16) (e0 : gS s (2 + k) = none) :
 Calls Try.prog 165 #[.pointer (some ⟨gs, 0, none⟩), .agg #[.int .u16 96, .int .u8 i1, .int .u8 i2, .int .u32 (k : Int)]] w fun e w' => e = .returned (.agg #[.int .u16 96, .int .u8 i1, .int .u8 i2, .int .u32 (k : Int)]) ∧ Below w.heap.size w w' := by
 have c0 : _ = some (Value.bool false) := (ae hS ((2 + k) * 2)).trans ((bZ (s := s) (i := 2 + k) (by omega)).trans (by rw [e0]; rfl))
 have c1 : _ = some (Value.int .u32 0) := (ae hS ((2 + k) * 2 + 1)).trans ((dE (s := s) (i := 2 + k) (by omega)).trans (by rw [e0]; rfl))
 have hlt := av hS
 have hlt1 : gs < w.heap.size + 1 := by omega
 have hlt2 : gs < w.heap.size + 1 + 1 := by omega
 have HS := aa.mk hS
 clear hS
 go_enter Try.func165, Try.ntmps165
 go_wp2
 go_region
 go_wp2
 refine bodyPost_ret (results_cell_row rfl _ _ (w.heap.size + 1) 45 (#[.int .u16 96, .int .u8 i1, .int .u8 i2, .int .u32 (k : Int)]) (0, 0) _ rfl (ah (eB _ _ _) (ak (ai (Below.refl _ _) _))) Try.underlying45 rfl (by kernel_rfl)) rfl ?_
 exact ⟨rfl, ak (ai (bY _ _ _) _)⟩
theorem zw (w : World) (gs : Nat) (s : St) (v i1 i2 : Int) (k : Nat) (hS : w.heap[gs]? = some (.cells (aA s) 151 (0, 0))) (hl : s.length = 18) (hk : k < 16) (e0 : gS s (2 + k) = some v) :
 Calls Try.prog 165 #[.pointer (some ⟨gs, 0, none⟩), .agg #[.int .u16 97, .int .u8 i1, .int .u8 i2, .int .u32 (k : Int)]] w fun e w' => e = .returned (.agg #[.int .u16 1, .int .u8 0, .int .u8 0, .int .u32 v]) ∧ Below w.heap.size w w' := by
 have c0 : _ = some (Value.bool true) := (ae hS ((2 + k) * 2)).trans ((bZ (s := s) (i := 2 + k) (by omega)).trans (by rw [e0]; rfl))
 have c1 : _ = some (Value.int .u32 v) := (ae hS ((2 + k) * 2 + 1)).trans ((dE (s := s) (i := 2 + k) (by omega)).trans (by rw [e0]; rfl))
 have hlt := av hS
 have hlt1 : gs < w.heap.size + 1 := by omega
 have hlt2 : gs < w.heap.size + 1 + 1 := by omega
 have HS := aa.mk hS
 clear hS
 go_enter Try.func165, Try.ntmps165
 go_wp2
 go_region
 go_wp2
 refine bodyPost_ret (results_cell_row rfl _ _ (w.heap.size + 1) 45 (#[.int .u16 1, .int .u8 0, .int .u8 0, .int .u32 v]) (0, 0) _ rfl (ah (eB _ _ _) (ak (ai (Below.refl _ _) _))) Try.underlying45 rfl (by kernel_rfl)) rfl ?_
 exact ⟨rfl, ak (ai (bY _ _ _) _)⟩
theorem zu (w : World) (gs : Nat) (s : St) (i1 i2 : Int) (k : Nat) (hS : w.heap[gs]? = some (.cells (aA s) 151 (0, 0))) (hl : s.length = 18) (hk : k < 16) (e0 : gS s (2 + k) = none) :
 Calls Try.prog 165 #[.pointer (some ⟨gs, 0, none⟩), .agg #[.int .u16 97, .int .u8 i1, .int .u8 i2, .int .u32 (k : Int)]] w fun e w' => e = .returned (.agg #[.int .u16 97, .int .u8 i1, .int .u8 i2, .int .u32 (k : Int)]) ∧ Below w.heap.size w w' := by
 have c0 : _ = some (Value.bool false) := (ae hS ((2 + k) * 2)).trans ((bZ (s := s) (i := 2 + k) (by omega)).trans (by rw [e0]; rfl))
 have c1 : _ = some (Value.int .u32 0) := (ae hS ((2 + k) * 2 + 1)).trans ((dE (s := s) (i := 2 + k) (by omega)).trans (by rw [e0]; rfl))
 have hlt := av hS
 have hlt1 : gs < w.heap.size + 1 := by omega
 have hlt2 : gs < w.heap.size + 1 + 1 := by omega
 have HS := aa.mk hS
 clear hS
 go_enter Try.func165, Try.ntmps165
 go_wp2
 go_region
 go_wp2
 refine bodyPost_ret (results_cell_row rfl _ _ (w.heap.size + 1) 45 (#[.int .u16 97, .int .u8 i1, .int .u8 i2, .int .u32 (k : Int)]) (0, 0) _ rfl (ah (eB _ _ _) (ak (ai (Below.refl _ _) _))) Try.underlying45 rfl (by kernel_rfl)) rfl ?_
 exact ⟨rfl, ak (ai (bY _ _ _) _)⟩
theorem zg (w : World) (gs : Nat) (s : St) (i1 i2 : Int) (k : Int) (hS : w.heap[gs]? = some (.cells (aA s) 151 (0, 0))) (hl : s.length = 18) (e0 : gS s 1 = none) :
 Calls Try.prog 165 #[.pointer (some ⟨gs, 0, none⟩), .agg #[.int .u16 64, .int .u8 i1, .int .u8 i2, .int .u32 k]] w fun e w' => e = .returned (.agg #[.int .u16 64, .int .u8 i1, .int .u8 i2, .int .u32 k]) ∧ Below w.heap.size w w' := by
 have c0 : _ = some (Value.bool false) := (ae hS (2)).trans ((bZ (s := s) (i := 1) (by omega)).trans (by rw [e0]; rfl))
 have c1 : _ = some (Value.int .u32 0) := (ae hS (2 + 1)).trans ((dE (s := s) (i := 1) (by omega)).trans (by rw [e0]; rfl))
 have hlt := av hS
 have hlt1 : gs < w.heap.size + 1 := by omega
 have hlt2 : gs < w.heap.size + 1 + 1 := by omega
 have HS := aa.mk hS
 clear hS
 go_enter Try.func165, Try.ntmps165
 go_wp2
 refine bodyPost_ret (results_cell_row rfl _ _ (w.heap.size + 1) 45 (#[.int .u16 64, .int .u8 i1, .int .u8 i2, .int .u32 k]) (0, 0) _ rfl (ah (eB _ _ _) (ai (Below.refl _ _) _)) Try.underlying45 rfl (by kernel_rfl)) rfl ?_
 exact ⟨rfl, ai (bY _ _ _) _⟩
theorem zh (w : World) (gs : Nat) (s : St) (y i1 i2 : Int) (k : Int) (hS : w.heap[gs]? = some (.cells (aA s) 151 (0, 0))) (hl : s.length = 18) (e0 : gS s 1 = some y) (hle : decide (IntKind.u64.wrap (IntKind.u64.wrap y + IntKind.u64.wrap k) ≤ 4294967295) = true) :
 Calls Try.prog 165 #[.pointer (some ⟨gs, 0, none⟩), .agg #[.int .u16 64, .int .u8 i1, .int .u8 i2, .int .u32 k]] w fun e w' => e = .returned (.agg #[.int .u16 32, .int .u8 0, .int .u8 0, .int .u32 (IntKind.u32.wrap (y + k))]) ∧ Below w.heap.size w w' := by
 have c0 : _ = some (Value.bool true) := (ae hS (2)).trans ((bZ (s := s) (i := 1) (by omega)).trans (by rw [e0]; rfl))
 have c1 : _ = some (Value.int .u32 y) := (ae hS (2 + 1)).trans ((dE (s := s) (i := 1) (by omega)).trans (by rw [e0]; rfl))
 have hlt := av hS
 have hlt1 : gs < w.heap.size + 1 := by omega
 have hlt2 : gs < w.heap.size + 1 + 1 := by omega
 have HS := aa.mk hS
 clear hS
 go_enter Try.func165, Try.ntmps165
 go_wp2
 refine bodyPost_ret (results_cell_row rfl _ _ (w.heap.size + 1) 45 (#[.int .u16 32, .int .u8 0, .int .u8 0, .int .u32 (IntKind.u32.wrap (y + k))]) (0, 0) _ rfl (ah (eB _ _ _) (ai (Below.refl _ _) _)) Try.underlying45 rfl (by kernel_rfl)) rfl ?_
 exact ⟨rfl, ai (bY _ _ _) _⟩
theorem zf (w : World) (gs : Nat) (s : St) (y i1 i2 : Int) (k : Int) (hS : w.heap[gs]? = some (.cells (aA s) 151 (0, 0))) (hl : s.length = 18) (e0 : gS s 1 = some y) (hle : decide (IntKind.u64.wrap (IntKind.u64.wrap y + IntKind.u64.wrap k) ≤ 4294967295) = false) :
 Calls Try.prog 165 #[.pointer (some ⟨gs, 0, none⟩), .agg #[.int .u16 64, .int .u8 i1, .int .u8 i2, .int .u32 k]] w fun e w' => e = .returned (.agg #[.int .u16 64, .int .u8 i1, .int .u8 i2, .int .u32 k]) ∧ Below w.heap.size w w' := by
 have c0 : _ = some (Value.bool true) := (ae hS (2)).trans ((bZ (s := s) (i := 1) (by omega)).trans (by rw [e0]; rfl))
 have c1 : _ = some (Value.int .u32 y) := (ae hS (2 + 1)).trans ((dE (s := s) (i := 1) (by omega)).trans (by rw [e0]; rfl))
 have hlt := av hS
 have hlt1 : gs < w.heap.size + 1 := by omega
 have hlt2 : gs < w.heap.size + 1 + 1 := by omega
 have HS := aa.mk hS
 clear hS
 go_enter Try.func165, Try.ntmps165
 go_wp2
 refine bodyPost_ret (results_cell_row rfl _ _ (w.heap.size + 1) 45 (#[.int .u16 64, .int .u8 i1, .int .u8 i2, .int .u32 k]) (0, 0) _ rfl (ah (eB _ _ _) (ai (Below.refl _ _) _)) Try.underlying45 rfl (by kernel_rfl)) rfl ?_
 exact ⟨rfl, ai (bY _ _ _) _⟩
theorem zk (w : World) (gs : Nat) (s : St) (i1 i2 : Int) (k : Int) (hS : w.heap[gs]? = some (.cells (aA s) 151 (0, 0))) (hl : s.length = 18) (e0 : gS s 1 = none) :
 Calls Try.prog 165 #[.pointer (some ⟨gs, 0, none⟩), .agg #[.int .u16 72, .int .u8 i1, .int .u8 i2, .int .u32 k]] w fun e w' => e = .returned (.agg #[.int .u16 72, .int .u8 i1, .int .u8 i2, .int .u32 k]) ∧ Below w.heap.size w w' := by
 have c0 : _ = some (Value.bool false) := (ae hS (2)).trans ((bZ (s := s) (i := 1) (by omega)).trans (by rw [e0]; rfl))
 have c1 : _ = some (Value.int .u32 0) := (ae hS (2 + 1)).trans ((dE (s := s) (i := 1) (by omega)).trans (by rw [e0]; rfl))
 have hlt := av hS
 have hlt1 : gs < w.heap.size + 1 := by omega
 have hlt2 : gs < w.heap.size + 1 + 1 := by omega
 have HS := aa.mk hS
 clear hS
 go_enter Try.func165, Try.ntmps165
 go_wp2
 refine bodyPost_ret (results_cell_row rfl _ _ (w.heap.size + 1) 45 (#[.int .u16 72, .int .u8 i1, .int .u8 i2, .int .u32 k]) (0, 0) _ rfl (ah (eB _ _ _) (ai (Below.refl _ _) _)) Try.underlying45 rfl (by kernel_rfl)) rfl ?_
 exact ⟨rfl, ai (bY _ _ _) _⟩
theorem zl (w : World) (gs : Nat) (s : St) (y i1 i2 : Int) (k : Int) (hS : w.heap[gs]? = some (.cells (aA s) 151 (0, 0))) (hl : s.length = 18) (e0 : gS s 1 = some y) (hle : decide (IntKind.u64.wrap (IntKind.u64.wrap y + IntKind.u64.wrap k) ≤ 4294967295) = true) :
 Calls Try.prog 165 #[.pointer (some ⟨gs, 0, none⟩), .agg #[.int .u16 72, .int .u8 i1, .int .u8 i2, .int .u32 k]] w fun e w' => e = .returned (.agg #[.int .u16 40, .int .u8 0, .int .u8 0, .int .u32 (IntKind.u32.wrap (y + k))]) ∧ Below w.heap.size w w' := by
 have c0 : _ = some (Value.bool true) := (ae hS (2)).trans ((bZ (s := s) (i := 1) (by omega)).trans (by rw [e0]; rfl))
 have c1 : _ = some (Value.int .u32 y) := (ae hS (2 + 1)).trans ((dE (s := s) (i := 1) (by omega)).trans (by rw [e0]; rfl))
 have hlt := av hS
 have hlt1 : gs < w.heap.size + 1 := by omega
 have hlt2 : gs < w.heap.size + 1 + 1 := by omega
 have HS := aa.mk hS
 clear hS
 go_enter Try.func165, Try.ntmps165
 go_wp2
 refine bodyPost_ret (results_cell_row rfl _ _ (w.heap.size + 1) 45 (#[.int .u16 40, .int .u8 0, .int .u8 0, .int .u32 (IntKind.u32.wrap (y + k))]) (0, 0) _ rfl (ah (eB _ _ _) (ai (Below.refl _ _) _)) Try.underlying45 rfl (by kernel_rfl)) rfl ?_
 exact ⟨rfl, ai (bY _ _ _) _⟩
theorem zi (w : World) (gs : Nat) (s : St) (y i1 i2 : Int) (k : Int) (hS : w.heap[gs]? = some (.cells (aA s) 151 (0, 0))) (hl : s.length = 18) (e0 : gS s 1 = some y) (hle : decide (IntKind.u64.wrap (IntKind.u64.wrap y + IntKind.u64.wrap k) ≤ 4294967295) = false) :
 Calls Try.prog 165 #[.pointer (some ⟨gs, 0, none⟩), .agg #[.int .u16 72, .int .u8 i1, .int .u8 i2, .int .u32 k]] w fun e w' => e = .returned (.agg #[.int .u16 72, .int .u8 i1, .int .u8 i2, .int .u32 k]) ∧ Below w.heap.size w w' := by
 have c0 : _ = some (Value.bool true) := (ae hS (2)).trans ((bZ (s := s) (i := 1) (by omega)).trans (by rw [e0]; rfl))
 have c1 : _ = some (Value.int .u32 y) := (ae hS (2 + 1)).trans ((dE (s := s) (i := 1) (by omega)).trans (by rw [e0]; rfl))
 have hlt := av hS
 have hlt1 : gs < w.heap.size + 1 := by omega
 have hlt2 : gs < w.heap.size + 1 + 1 := by omega
 have HS := aa.mk hS
 clear hS
 go_enter Try.func165, Try.ntmps165
 go_wp2
 refine bodyPost_ret (results_cell_row rfl _ _ (w.heap.size + 1) 45 (#[.int .u16 72, .int .u8 i1, .int .u8 i2, .int .u32 k]) (0, 0) _ rfl (ah (eB _ _ _) (ai (Below.refl _ _) _)) Try.underlying45 rfl (by kernel_rfl)) rfl ?_
 exact ⟨rfl, ai (bY _ _ _) _⟩
theorem zn (w : World) (gs : Nat) (s : St) (i1 i2 : Int) (k : Int) (hS : w.heap[gs]? = some (.cells (aA s) 151 (0, 0))) (hl : s.length = 18) (e0 : gS s 1 = none) :
 Calls Try.prog 165 #[.pointer (some ⟨gs, 0, none⟩), .agg #[.int .u16 80, .int .u8 i1, .int .u8 i2, .int .u32 k]] w fun e w' => e = .returned (.agg #[.int .u16 80, .int .u8 i1, .int .u8 i2, .int .u32 k]) ∧ Below w.heap.size w w' := by
 have c0 : _ = some (Value.bool false) := (ae hS (2)).trans ((bZ (s := s) (i := 1) (by omega)).trans (by rw [e0]; rfl))
 have c1 : _ = some (Value.int .u32 0) := (ae hS (2 + 1)).trans ((dE (s := s) (i := 1) (by omega)).trans (by rw [e0]; rfl))
 have hlt := av hS
 have hlt1 : gs < w.heap.size + 1 := by omega
 have hlt2 : gs < w.heap.size + 1 + 1 := by omega
 have HS := aa.mk hS
 clear hS
 go_enter Try.func165, Try.ntmps165
 go_wp2
 refine bodyPost_ret (results_cell_row rfl _ _ (w.heap.size + 1) 45 (#[.int .u16 80, .int .u8 i1, .int .u8 i2, .int .u32 k]) (0, 0) _ rfl (ah (eB _ _ _) (ai (Below.refl _ _) _)) Try.underlying45 rfl (by kernel_rfl)) rfl ?_
 exact ⟨rfl, ai (bY _ _ _) _⟩
theorem zo (w : World) (gs : Nat) (s : St) (y i1 i2 : Int) (k : Int) (hS : w.heap[gs]? = some (.cells (aA s) 151 (0, 0))) (hl : s.length = 18) (e0 : gS s 1 = some y) (hle : decide (IntKind.u64.wrap (IntKind.u64.wrap y + IntKind.u64.wrap k) ≤ 4294967295) = true) :
 Calls Try.prog 165 #[.pointer (some ⟨gs, 0, none⟩), .agg #[.int .u16 80, .int .u8 i1, .int .u8 i2, .int .u32 k]] w fun e w' => e = .returned (.agg #[.int .u16 48, .int .u8 0, .int .u8 0, .int .u32 (IntKind.u32.wrap (y + k))]) ∧ Below w.heap.size w w' := by
 have c0 : _ = some (Value.bool true) := (ae hS (2)).trans ((bZ (s := s) (i := 1) (by omega)).trans (by rw [e0]; rfl))
 have c1 : _ = some (Value.int .u32 y) := (ae hS (2 + 1)).trans ((dE (s := s) (i := 1) (by omega)).trans (by rw [e0]; rfl))
 have hlt := av hS
 have hlt1 : gs < w.heap.size + 1 := by omega
 have hlt2 : gs < w.heap.size + 1 + 1 := by omega
 have HS := aa.mk hS
 clear hS
 go_enter Try.func165, Try.ntmps165
 go_wp2
 refine bodyPost_ret (results_cell_row rfl _ _ (w.heap.size + 1) 45 (#[.int .u16 48, .int .u8 0, .int .u8 0, .int .u32 (IntKind.u32.wrap (y + k))]) (0, 0) _ rfl (ah (eB _ _ _) (ai (Below.refl _ _) _)) Try.underlying45 rfl (by kernel_rfl)) rfl ?_
 exact ⟨rfl, ai (bY _ _ _) _⟩
theorem zm (w : World) (gs : Nat) (s : St) (y i1 i2 : Int) (k : Int) (hS : w.heap[gs]? = some (.cells (aA s) 151 (0, 0))) (hl : s.length = 18) (e0 : gS s 1 = some y) (hle : decide (IntKind.u64.wrap (IntKind.u64.wrap y + IntKind.u64.wrap k) ≤ 4294967295) = false) :
 Calls Try.prog 165 #[.pointer (some ⟨gs, 0, none⟩), .agg #[.int .u16 80, .int .u8 i1, .int .u8 i2, .int .u32 k]] w fun e w' => e = .returned (.agg #[.int .u16 80, .int .u8 i1, .int .u8 i2, .int .u32 k]) ∧ Below w.heap.size w w' := by
 have c0 : _ = some (Value.bool true) := (ae hS (2)).trans ((bZ (s := s) (i := 1) (by omega)).trans (by rw [e0]; rfl))
 have c1 : _ = some (Value.int .u32 y) := (ae hS (2 + 1)).trans ((dE (s := s) (i := 1) (by omega)).trans (by rw [e0]; rfl))
 have hlt := av hS
 have hlt1 : gs < w.heap.size + 1 := by omega
 have hlt2 : gs < w.heap.size + 1 + 1 := by omega
 have HS := aa.mk hS
 clear hS
 go_enter Try.func165, Try.ntmps165
 go_wp2
 refine bodyPost_ret (results_cell_row rfl _ _ (w.heap.size + 1) 45 (#[.int .u16 80, .int .u8 i1, .int .u8 i2, .int .u32 k]) (0, 0) _ rfl (ah (eB _ _ _) (ai (Below.refl _ _) _)) Try.underlying45 rfl (by kernel_rfl)) rfl ?_
 exact ⟨rfl, ai (bY _ _ _) _⟩
theorem load_o (w : World) (gs : Nat) (s : St) (c i1 i2 : Int) (k : Int) (hS : w.heap[gs]? = some (.cells (aA s) 151 (0, 0))) (hl : s.length = 18) (h1 : (c == 96) = false) (h2 : (c == 97) = false) (h3 : (c == 64) = false) (h4 : (c == 72) = false) (h5 : (c == 80) = false) :
 Calls Try.prog 165 #[.pointer (some ⟨gs, 0, none⟩), .agg #[.int .u16 c, .int .u8 i1, .int .u8 i2, .int .u32 k]] w fun e w' => e = .returned (.agg #[.int .u16 c, .int .u8 i1, .int .u8 i2, .int .u32 k]) ∧ Below w.heap.size w w' := by
 have hlt := av hS
 have hlt1 : gs < w.heap.size + 1 := by omega
 have hlt2 : gs < w.heap.size + 1 + 1 := by omega
 have HS := aa.mk hS
 clear hS
 go_enter Try.func165, Try.ntmps165
 go_wp2
 refine bodyPost_ret (results_cell_row rfl _ _ (w.heap.size + 1) 45 (#[.int .u16 c, .int .u8 i1, .int .u8 i2, .int .u32 k]) (0, 0) _ rfl (eB _ _ _) Try.underlying45 rfl (by kernel_rfl)) rfl ?_
 exact ⟨rfl, bY _ _ _⟩
theorem ug (w : World) (gs : Nat) (s : St) (i : S45) (hS : w.heap[gs]? = some (.cells (aA s) 151 (0, 0))) (hw : Wst s) (hc : stB i.f0 i.f3 = true) (hk : Rg i.f3) :
 Calls Try.prog 165 #[.pointer (some ⟨gs, 0, none⟩), eF i] w fun e w' => e = .returned (eF (nC s i)) ∧ Below w.heap.size w w' := by
 obtain ⟨_, h16, _, _⟩ := gQ hc
 obtain ⟨c, i1, i2, k⟩ := i
 dsimp only at h16 hk
 have hk0 := hk.1
 unfold nC
 dsimp only
 by_cases c1 : c = 96
 · rw [if_pos c1]; subst c1
   have hk6 := h16 (by omega)
   obtain ⟨n, rfl⟩ : ∃ n : Nat, k = (n : Int) := ⟨k.toNat, by omega⟩
   rw [Int.toNat_natCast]
   cases e : gS s (2 + n) with
   | some v => exact zt w gs s v i1 i2 n hS hw.len (by omega) e
   | none => exact zq w gs s i1 i2 n hS hw.len (by omega) e
 rw [if_neg c1]
 by_cases c2 : c = 97
 · rw [if_pos c2]; subst c2
   have hk6 := h16 (by omega)
   obtain ⟨n, rfl⟩ : ∃ n : Nat, k = (n : Int) := ⟨k.toNat, by omega⟩
   rw [Int.toNat_natCast]
   cases e : gS s (2 + n) with
   | some v => exact zw w gs s v i1 i2 n hS hw.len (by omega) e
   | none => exact zu w gs s i1 i2 n hS hw.len (by omega) e
 rw [if_neg c2]
 by_cases c3 : c = 64 ∨ c = 72 ∨ c = 80
 · rw [if_pos c3]
   cases e : gS s 1 with
   | none =>
    rcases c3 with rfl | rfl | rfl
    · exact zg w gs s i1 i2 k hS hw.len e
    · exact zk w gs s i1 i2 k hS hw.len e
    exact zn w gs s i1 i2 k hS hw.len e
   | some y =>
    dsimp only
    have hy := hw.rg 1 y e
    have hy0 := hy.1
    have hy1 := hy.2
    have hk1 := hk.2
    have hwr : IntKind.u64.wrap (IntKind.u64.wrap y + IntKind.u64.wrap k) = y + k := by simp only [IntKind.wrap_u64]; omega
    by_cases q : y + k ≤ 4294967295
    · rw [if_pos q]
      have hd : decide (IntKind.u64.wrap (IntKind.u64.wrap y + IntKind.u64.wrap k) ≤ 4294967295) = true := by rw [hwr]; exact decide_eq_true q
      have hr : IntKind.u32.wrap (y + k) = y + k := sO ⟨by omega, by omega⟩
      rcases c3 with rfl | rfl | rfl
      · have := zh w gs s y i1 i2 k hS hw.len e hd
        rw [hr] at this; exact this
      · have := zl w gs s y i1 i2 k hS hw.len e hd
        rw [hr] at this; exact this
      have := zo w gs s y i1 i2 k hS hw.len e hd
      rw [hr] at this; exact this
    rw [if_neg q]
    have hd : decide (IntKind.u64.wrap (IntKind.u64.wrap y + IntKind.u64.wrap k) ≤ 4294967295) = false := by rw [hwr]; exact decide_eq_false q
    rcases c3 with rfl | rfl | rfl
    · exact zf w gs s y i1 i2 k hS hw.len e hd
    · exact zi w gs s y i1 i2 k hS hw.len e hd
    exact zm w gs s y i1 i2 k hS hw.len e hd
 rw [if_neg c3]
 exact load_o w gs s c i1 i2 k hS hw.len (bf c1) (bf c2) (bf (fun h => c3 (.inl h))) (bf (fun h => c3 (.inr (.inl h)))) (bf (fun h => c3 (.inr (.inr h))))
theorem idle_z4 (w : World) (gs : Nat) (s : St) (i1 i2 : Int) (k : Int) (hS : w.heap[gs]? = some (.cells (aA s) 151 (0, 0))) (hl : s.length = 18) :
 Calls Try.prog 167 #[.pointer (some ⟨gs, 0, none⟩), .agg #[.int .u16 4, .int .u8 i1, .int .u8 i2, .int .u32 k]] w fun e w' => e = .returned (.bool (k == 0)) ∧ Below w.heap.size w w' := by
 have hlt := av hS
 have HS := aa.mk hS
 clear hS
 go_enter Try.func167, Try.ntmps167
 go_wp2
 go_ret
 exact ⟨rfl, ai (Below.refl _ _) _⟩
theorem yT (w : World) (gs : Nat) (s : St) (i1 i2 : Int) (k : Int) (hS : w.heap[gs]? = some (.cells (aA s) 151 (0, 0))) (hl : s.length = 18) :
 Calls Try.prog 167 #[.pointer (some ⟨gs, 0, none⟩), .agg #[.int .u16 20, .int .u8 i1, .int .u8 i2, .int .u32 k]] w fun e w' => e = .returned (.bool (k == 0)) ∧ Below w.heap.size w w' := by
 have hlt := av hS
 have HS := aa.mk hS
 clear hS
 go_enter Try.func167, Try.ntmps167
 go_wp2
 go_ret
 exact ⟨rfl, ai (Below.refl _ _) _⟩
theorem yU (w : World) (gs : Nat) (s : St) (i1 i2 : Int) (k : Int) (hS : w.heap[gs]? = some (.cells (aA s) 151 (0, 0))) (hl : s.length = 18) :
 Calls Try.prog 167 #[.pointer (some ⟨gs, 0, none⟩), .agg #[.int .u16 68, .int .u8 i1, .int .u8 i2, .int .u32 k]] w fun e w' => e = .returned (.bool (k == 0)) ∧ Below w.heap.size w w' := by
 have hlt := av hS
 have HS := aa.mk hS
 clear hS
 go_enter Try.func167, Try.ntmps167
 go_wp2
 go_ret
 exact ⟨rfl, ai (Below.refl _ _) _⟩
theorem wH (w : World) (gs : Nat) (s : St) (i1 i2 : Int) (k : Int) (hS : w.heap[gs]? = some (.cells (aA s) 151 (0, 0))) (hl : s.length = 18) :
 Calls Try.prog 167 #[.pointer (some ⟨gs, 0, none⟩), .agg #[.int .u16 164, .int .u8 i1, .int .u8 i2, .int .u32 k]] w fun e w' => e = .returned (.bool (k == 0)) ∧ Below w.heap.size w w' := by
 have hlt := av hS
 have HS := aa.mk hS
 clear hS
 go_enter Try.func167, Try.ntmps167
 go_wp2
 go_ret
 exact ⟨rfl, ai (Below.refl _ _) _⟩
theorem wF (w : World) (gs : Nat) (s : St) (i1 i2 : Int) (k : Int) (hS : w.heap[gs]? = some (.cells (aA s) 151 (0, 0))) (hl : s.length = 18) :
 Calls Try.prog 167 #[.pointer (some ⟨gs, 0, none⟩), .agg #[.int .u16 100, .int .u8 i1, .int .u8 i2, .int .u32 k]] w fun e w' => e = .returned (.bool (k == 0)) ∧ Below w.heap.size w w' := by
 have hlt := av hS
 have HS := aa.mk hS
 clear hS
 go_enter Try.func167, Try.ntmps167
 go_wp2
 go_ret
 exact ⟨rfl, ai (Below.refl _ _) _⟩
theorem wG (w : World) (gs : Nat) (s : St) (i1 i2 : Int) (k : Int) (hS : w.heap[gs]? = some (.cells (aA s) 151 (0, 0))) (hl : s.length = 18) :
 Calls Try.prog 167 #[.pointer (some ⟨gs, 0, none⟩), .agg #[.int .u16 116, .int .u8 i1, .int .u8 i2, .int .u32 k]] w fun e w' => e = .returned (.bool (k == 0)) ∧ Below w.heap.size w w' := by
 have hlt := av hS
 have HS := aa.mk hS
 clear hS
 go_enter Try.func167, Try.ntmps167
 go_wp2
 go_ret
 exact ⟨rfl, ai (Below.refl _ _) _⟩
theorem yJ (w : World) (gs : Nat) (s : St) (i1 i2 : Int) (k : Int) (hS : w.heap[gs]? = some (.cells (aA s) 151 (0, 0))) (hl : s.length = 18) :
 Calls Try.prog 167 #[.pointer (some ⟨gs, 0, none⟩), .agg #[.int .u16 36, .int .u8 i1, .int .u8 i2, .int .u32 k]] w fun e w' => e = .returned (.bool (k == 1)) ∧ Below w.heap.size w w' := by
 have hlt := av hS
 have HS := aa.mk hS
 clear hS
 go_enter Try.func167, Try.ntmps167
 go_wp2
 go_ret
 exact ⟨rfl, ai (Below.refl _ _) _⟩
theorem yK (w : World) (gs : Nat) (s : St) (i1 i2 : Int) (k : Int) (hS : w.heap[gs]? = some (.cells (aA s) 151 (0, 0))) (hl : s.length = 18) :
 Calls Try.prog 167 #[.pointer (some ⟨gs, 0, none⟩), .agg #[.int .u16 52, .int .u8 i1, .int .u8 i2, .int .u32 k]] w fun e w' => e = .returned (.bool (k == 1)) ∧ Below w.heap.size w w' := by
 have hlt := av hS
 have HS := aa.mk hS
 clear hS
 go_enter Try.func167, Try.ntmps167
 go_wp2
 go_ret
 exact ⟨rfl, ai (Below.refl _ _) _⟩
theorem yI (w : World) (gs : Nat) (s : St) (i1 i2 : Int) (k : Int) (hS : w.heap[gs]? = some (.cells (aA s) 151 (0, 0))) (hl : s.length = 18) :
 Calls Try.prog 167 #[.pointer (some ⟨gs, 0, none⟩), .agg #[.int .u16 84, .int .u8 i1, .int .u8 i2, .int .u32 k]] w fun e w' => e = .returned (.bool (k == 4294967295)) ∧ Below w.heap.size w w' := by
 have hlt := av hS
 have HS := aa.mk hS
 clear hS
 go_enter Try.func167, Try.ntmps167
 go_wp2
 go_ret
 exact ⟨rfl, ai (Below.refl _ _) _⟩
theorem idle_no (w : World) (gs : Nat) (s : St) (c i1 i2 : Int) (k : Int) (hS : w.heap[gs]? = some (.cells (aA s) 151 (0, 0))) (hl : s.length = 18) (n0 : (c == 0) = false) (n1 : (c == 1) = false) (n2 : (c == 2) = false) (n3 : (c == 3) = false) (n4 : (c == 4) = false) (n20 : (c == 20) = false) (n68 : (c == 68) = false) (n164 : (c == 164) = false) (n100 : (c == 100) = false) (n116 : (c == 116) = false) (n36 : (c == 36) = false) (n52 : (c == 52) = false) (n84 : (c == 84) = false) :
 Calls Try.prog 167 #[.pointer (some ⟨gs, 0, none⟩), .agg #[.int .u16 c, .int .u8 i1, .int .u8 i2, .int .u32 k]] w fun e w' => e = .returned (.bool false) ∧ Below w.heap.size w w' := by
 have hlt := av hS
 have HS := aa.mk hS
 clear hS
 go_enter Try.func167, Try.ntmps167
 go_wp2
 go_ret
 exact ⟨rfl, ai (Below.refl _ _) _⟩
theorem yN (w : World) (gs : Nat) (s : St) (i1 i2 : Int) (k : Nat) (hS : w.heap[gs]? = some (.cells (aA s) 151 (0, 0))) (hl : s.length = 18) (hk : k < 16) (e0 : gS s 0 = none) :
 Calls Try.prog 167 #[.pointer (some ⟨gs, 0, none⟩), .agg #[.int .u16 2, .int .u8 i1, .int .u8 i2, .int .u32 (k : Int)]] w fun e w' => e = .returned (.bool false) ∧ Below w.heap.size w w' := by
 have c0a : _ = some (Value.bool false) := (ae hS (0)).trans ((bZ (s := s) (i := 0) (by omega)).trans (by rw [e0]; rfl))
 have c0b : _ = some (Value.int .u32 0) := (ae hS (1)).trans ((dE (s := s) (i := 0) (by omega)).trans (by rw [e0]; rfl))
 have hlt := av hS
 have HS := aa.mk hS
 clear hS
 go_enter Try.func167, Try.ntmps167
 go_wp2
 go_region
 go_wp2
 go_ret
 exact ⟨rfl, ak (ai (Below.refl _ _) _)⟩
theorem yM (w : World) (gs : Nat) (s : St) (v i1 i2 : Int) (k : Nat) (hS : w.heap[gs]? = some (.cells (aA s) 151 (0, 0))) (hl : s.length = 18) (hk : k < 16) (e0 : gS s 0 = some v) (e1 : gS s (2 + k) = none) :
 Calls Try.prog 167 #[.pointer (some ⟨gs, 0, none⟩), .agg #[.int .u16 2, .int .u8 i1, .int .u8 i2, .int .u32 (k : Int)]] w fun e w' => e = .returned (.bool false) ∧ Below w.heap.size w w' := by
 have c0a : _ = some (Value.bool true) := (ae hS (0)).trans ((bZ (s := s) (i := 0) (by omega)).trans (by rw [e0]; rfl))
 have c0b : _ = some (Value.int .u32 v) := (ae hS (1)).trans ((dE (s := s) (i := 0) (by omega)).trans (by rw [e0]; rfl))
 have c1a : _ = some (Value.bool false) := (ae hS ((2 + k) * 2)).trans ((bZ (s := s) (i := 2 + k) (by omega)).trans (by rw [e1]; rfl))
 have c1b : _ = some (Value.int .u32 0) := (ae hS ((2 + k) * 2 + 1)).trans ((dE (s := s) (i := 2 + k) (by omega)).trans (by rw [e1]; rfl))
 have hlt := av hS
 have HS := aa.mk hS
 clear hS
 go_enter Try.func167, Try.ntmps167
 go_wp2
 go_region
 go_wp2
 go_ret
 exact ⟨rfl, ak (ai (Below.refl _ _) _)⟩
theorem yO (w : World) (gs : Nat) (s : St) (v i1 i2 : Int) (k : Nat) (hS : w.heap[gs]? = some (.cells (aA s) 151 (0, 0))) (hl : s.length = 18) (hk : k < 16) (e0 : gS s 0 = some v) (e1 : gS s (2 + k) = some v) :
 Calls Try.prog 167 #[.pointer (some ⟨gs, 0, none⟩), .agg #[.int .u16 2, .int .u8 i1, .int .u8 i2, .int .u32 (k : Int)]] w fun e w' => e = .returned (.bool true) ∧ Below w.heap.size w w' := by
 have c0a : _ = some (Value.bool true) := (ae hS (0)).trans ((bZ (s := s) (i := 0) (by omega)).trans (by rw [e0]; rfl))
 have c0b : _ = some (Value.int .u32 v) := (ae hS (1)).trans ((dE (s := s) (i := 0) (by omega)).trans (by rw [e0]; rfl))
 have c1a : _ = some (Value.bool true) := (ae hS ((2 + k) * 2)).trans ((bZ (s := s) (i := 2 + k) (by omega)).trans (by rw [e1]; rfl))
 have c1b : _ = some (Value.int .u32 v) := (ae hS ((2 + k) * 2 + 1)).trans ((dE (s := s) (i := 2 + k) (by omega)).trans (by rw [e1]; rfl))
 have hlt := av hS
 have HS := aa.mk hS
 clear hS
 go_enter Try.func167, Try.ntmps167
 go_wp2
 go_region
 go_wp2
 go_ret
 exact ⟨rfl, ak (ai (Below.refl _ _) _)⟩
theorem yL (w : World) (gs : Nat) (s : St) (v u i1 i2 : Int) (k : Nat) (hS : w.heap[gs]? = some (.cells (aA s) 151 (0, 0))) (hl : s.length = 18) (hk : k < 16) (e0 : gS s 0 = some v) (e1 : gS s (2 + k) = some u) (hne : u ≠ v) :
 Calls Try.prog 167 #[.pointer (some ⟨gs, 0, none⟩), .agg #[.int .u16 2, .int .u8 i1, .int .u8 i2, .int .u32 (k : Int)]] w fun e w' => e = .returned (.bool false) ∧ Below w.heap.size w w' := by
 have c0a : _ = some (Value.bool true) := (ae hS (0)).trans ((bZ (s := s) (i := 0) (by omega)).trans (by rw [e0]; rfl))
 have c0b : _ = some (Value.int .u32 v) := (ae hS (1)).trans ((dE (s := s) (i := 0) (by omega)).trans (by rw [e0]; rfl))
 have c1a : _ = some (Value.bool true) := (ae hS ((2 + k) * 2)).trans ((bZ (s := s) (i := 2 + k) (by omega)).trans (by rw [e1]; rfl))
 have c1b : _ = some (Value.int .u32 u) := (ae hS ((2 + k) * 2 + 1)).trans ((dE (s := s) (i := 2 + k) (by omega)).trans (by rw [e1]; rfl))
 have hlt := av hS
 have HS := aa.mk hS
 clear hS
 go_enter Try.func167, Try.ntmps167
 go_wp2
 go_region
 go_wp2
 go_ret
 exact ⟨rfl, ak (ai (Below.refl _ _) _)⟩
theorem yR (w : World) (gs : Nat) (s : St) (i1 i2 : Int) (k : Nat) (hS : w.heap[gs]? = some (.cells (aA s) 151 (0, 0))) (hl : s.length = 18) (hk : k < 16) (e0 : gS s 1 = none) :
 Calls Try.prog 167 #[.pointer (some ⟨gs, 0, none⟩), .agg #[.int .u16 3, .int .u8 i1, .int .u8 i2, .int .u32 (k : Int)]] w fun e w' => e = .returned (.bool false) ∧ Below w.heap.size w w' := by
 have c0a : _ = some (Value.bool false) := (ae hS (2)).trans ((bZ (s := s) (i := 1) (by omega)).trans (by rw [e0]; rfl))
 have c0b : _ = some (Value.int .u32 0) := (ae hS (3)).trans ((dE (s := s) (i := 1) (by omega)).trans (by rw [e0]; rfl))
 have hlt := av hS
 have HS := aa.mk hS
 clear hS
 go_enter Try.func167, Try.ntmps167
 go_wp2
 go_region
 go_wp2
 go_ret
 exact ⟨rfl, ak (ai (Below.refl _ _) _)⟩
theorem yQ (w : World) (gs : Nat) (s : St) (v i1 i2 : Int) (k : Nat) (hS : w.heap[gs]? = some (.cells (aA s) 151 (0, 0))) (hl : s.length = 18) (hk : k < 16) (e0 : gS s 1 = some v) (e1 : gS s (2 + k) = none) :
 Calls Try.prog 167 #[.pointer (some ⟨gs, 0, none⟩), .agg #[.int .u16 3, .int .u8 i1, .int .u8 i2, .int .u32 (k : Int)]] w fun e w' => e = .returned (.bool false) ∧ Below w.heap.size w w' := by
 have c0a : _ = some (Value.bool true) := (ae hS (2)).trans ((bZ (s := s) (i := 1) (by omega)).trans (by rw [e0]; rfl))
 have c0b : _ = some (Value.int .u32 v) := (ae hS (3)).trans ((dE (s := s) (i := 1) (by omega)).trans (by rw [e0]; rfl))
 have c1a : _ = some (Value.bool false) := (ae hS ((2 + k) * 2)).trans ((bZ (s := s) (i := 2 + k) (by omega)).trans (by rw [e1]; rfl))
 have c1b : _ = some (Value.int .u32 0) := (ae hS ((2 + k) * 2 + 1)).trans ((dE (s := s) (i := 2 + k) (by omega)).trans (by rw [e1]; rfl))
 have hlt := av hS
 have HS := aa.mk hS
 clear hS
 go_enter Try.func167, Try.ntmps167
 go_wp2
 go_region
 go_wp2
 go_ret
 exact ⟨rfl, ak (ai (Below.refl _ _) _)⟩
theorem yS (w : World) (gs : Nat) (s : St) (v i1 i2 : Int) (k : Nat) (hS : w.heap[gs]? = some (.cells (aA s) 151 (0, 0))) (hl : s.length = 18) (hk : k < 16) (e0 : gS s 1 = some v) (e1 : gS s (2 + k) = some v) :
 Calls Try.prog 167 #[.pointer (some ⟨gs, 0, none⟩), .agg #[.int .u16 3, .int .u8 i1, .int .u8 i2, .int .u32 (k : Int)]] w fun e w' => e = .returned (.bool true) ∧ Below w.heap.size w w' := by
 have c0a : _ = some (Value.bool true) := (ae hS (2)).trans ((bZ (s := s) (i := 1) (by omega)).trans (by rw [e0]; rfl))
 have c0b : _ = some (Value.int .u32 v) := (ae hS (3)).trans ((dE (s := s) (i := 1) (by omega)).trans (by rw [e0]; rfl))
 have c1a : _ = some (Value.bool true) := (ae hS ((2 + k) * 2)).trans ((bZ (s := s) (i := 2 + k) (by omega)).trans (by rw [e1]; rfl))
 have c1b : _ = some (Value.int .u32 v) := (ae hS ((2 + k) * 2 + 1)).trans ((dE (s := s) (i := 2 + k) (by omega)).trans (by rw [e1]; rfl))
 have hlt := av hS
 have HS := aa.mk hS
 clear hS
 go_enter Try.func167, Try.ntmps167
 go_wp2
 go_region
 go_wp2
 go_ret
 exact ⟨rfl, ak (ai (Below.refl _ _) _)⟩
theorem yP (w : World) (gs : Nat) (s : St) (v u i1 i2 : Int) (k : Nat) (hS : w.heap[gs]? = some (.cells (aA s) 151 (0, 0))) (hl : s.length = 18) (hk : k < 16) (e0 : gS s 1 = some v) (e1 : gS s (2 + k) = some u) (hne : u ≠ v) :
 Calls Try.prog 167 #[.pointer (some ⟨gs, 0, none⟩), .agg #[.int .u16 3, .int .u8 i1, .int .u8 i2, .int .u32 (k : Int)]] w fun e w' => e = .returned (.bool false) ∧ Below w.heap.size w w' := by
 have c0a : _ = some (Value.bool true) := (ae hS (2)).trans ((bZ (s := s) (i := 1) (by omega)).trans (by rw [e0]; rfl))
 have c0b : _ = some (Value.int .u32 v) := (ae hS (3)).trans ((dE (s := s) (i := 1) (by omega)).trans (by rw [e0]; rfl))
 have c1a : _ = some (Value.bool true) := (ae hS ((2 + k) * 2)).trans ((bZ (s := s) (i := 2 + k) (by omega)).trans (by rw [e1]; rfl))
 have c1b : _ = some (Value.int .u32 u) := (ae hS ((2 + k) * 2 + 1)).trans ((dE (s := s) (i := 2 + k) (by omega)).trans (by rw [e1]; rfl))
 have hlt := av hS
 have HS := aa.mk hS
 clear hS
 go_enter Try.func167, Try.ntmps167
 go_wp2
 go_region
 go_wp2
 go_ret
 exact ⟨rfl, ak (ai (Below.refl _ _) _)⟩
theorem yD (w : World) (gs : Nat) (s : St) (i1 i2 : Int) (k : Int) (hS : w.heap[gs]? = some (.cells (aA s) 151 (0, 0))) (hl : s.length = 18) (e0 : gS s 0 = none) :
 Calls Try.prog 167 #[.pointer (some ⟨gs, 0, none⟩), .agg #[.int .u16 0, .int .u8 i1, .int .u8 i2, .int .u32 k]] w fun e w' => e = .returned (.bool false) ∧ Below w.heap.size w w' := by
 have c0a : _ = some (Value.bool false) := (ae hS (0)).trans ((bZ (s := s) (i := 0) (by omega)).trans (by rw [e0]; rfl))
 have c0b : _ = some (Value.int .u32 0) := (ae hS (1)).trans ((dE (s := s) (i := 0) (by omega)).trans (by rw [e0]; rfl))
 have hlt := av hS
 have HS := aa.mk hS
 clear hS
 go_enter Try.func167, Try.ntmps167
 go_upto_region 3 with (fail)
 refine forget (fun W => ∃ gi, gi = w.heap.size ∧ Below w.heap.size w W ∧ W.heap[gi]? = some (.cells #[.int .u16 0, .int .u8 i1, .int .u8 i2, .int .u32 k] 45 (0, 0))) ⟨_, rfl, ai (Below.refl _ _) _, heap_alloc_new _ _⟩ ?_
 rintro W ⟨gi, egi, hb, hi⟩
 rw [← egi]
 have x0 := au hb c0a
 have x1 := au hb c0b
 have y3 : _ = some (Value.int .u32 k) := (ae hi 3).trans rfl
 have HB := aa.mk hb
 have EG := aa.mk egi
 have HCL : aa (∀ w3, Below W.drew.heap.size W.drew w3 → w3.cell? ⟨gs, 0, none⟩ = some (.bool false) ∧ w3.cell? ⟨gs, 1, none⟩ = some (.int .u32 0) ∧ w3.cell? ⟨gi, 3, none⟩ = some (.int .u32 k)) :=
  ⟨fun w3 h3 => ⟨au h3 (show W.drew.cell? _ = _ from x0), au h3 (show W.drew.cell? _ = _ from x1), au h3 (show W.drew.cell? _ = _ from y3)⟩⟩
 clear hb hi egi c0a c0b
 go_region_held3 (fun w' => w'.cell? ⟨gs, 0, none⟩ = some (.bool false) ∧ w'.cell? ⟨gs, 1, none⟩ = some (.int .u32 0) ∧ w'.cell? ⟨gi, 3, none⟩ = some (.int .u32 k)) (first | exact ⟨x0, x1, y3⟩ | exact HCL.out _ hk) ((go_at_call 125; refine (PA.gL.calls k true k W.drew rfl).mono ?_; rintro e w3 ⟨rfl, hk⟩))
 have HB3 := ay HB.out (ay (ak (Below.refl W.heap.size W)) hk)
 go_wp2
 go_ret
 exact ⟨rfl, HB3⟩
theorem yE (w : World) (gs : Nat) (s : St) (i1 i2 : Int) (k : Int) (hS : w.heap[gs]? = some (.cells (aA s) 151 (0, 0))) (hl : s.length = 18) (e0 : gS s 0 = some k) :
 Calls Try.prog 167 #[.pointer (some ⟨gs, 0, none⟩), .agg #[.int .u16 0, .int .u8 i1, .int .u8 i2, .int .u32 k]] w fun e w' => e = .returned (.bool true) ∧ Below w.heap.size w w' := by
 have c0a : _ = some (Value.bool true) := (ae hS (0)).trans ((bZ (s := s) (i := 0) (by omega)).trans (by rw [e0]; rfl))
 have c0b : _ = some (Value.int .u32 k) := (ae hS (1)).trans ((dE (s := s) (i := 0) (by omega)).trans (by rw [e0]; rfl))
 have hlt := av hS
 have HS := aa.mk hS
 clear hS
 go_enter Try.func167, Try.ntmps167
 go_upto_region 3 with (fail)
 refine forget (fun W => ∃ gi, gi = w.heap.size ∧ Below w.heap.size w W ∧ W.heap[gi]? = some (.cells #[.int .u16 0, .int .u8 i1, .int .u8 i2, .int .u32 k] 45 (0, 0))) ⟨_, rfl, ai (Below.refl _ _) _, heap_alloc_new _ _⟩ ?_
 rintro W ⟨gi, egi, hb, hi⟩
 rw [← egi]
 have x0 := au hb c0a
 have x1 := au hb c0b
 have y3 : _ = some (Value.int .u32 k) := (ae hi 3).trans rfl
 have HB := aa.mk hb
 have EG := aa.mk egi
 have HCL : aa (∀ w3, Below W.drew.heap.size W.drew w3 → w3.cell? ⟨gs, 0, none⟩ = some (.bool true) ∧ w3.cell? ⟨gs, 1, none⟩ = some (.int .u32 k) ∧ w3.cell? ⟨gi, 3, none⟩ = some (.int .u32 k)) :=
  ⟨fun w3 h3 => ⟨au h3 (show W.drew.cell? _ = _ from x0), au h3 (show W.drew.cell? _ = _ from x1), au h3 (show W.drew.cell? _ = _ from y3)⟩⟩
 clear hb hi egi c0a c0b
 go_region_held3 (fun w' => w'.cell? ⟨gs, 0, none⟩ = some (.bool true) ∧ w'.cell? ⟨gs, 1, none⟩ = some (.int .u32 k) ∧ w'.cell? ⟨gi, 3, none⟩ = some (.int .u32 k)) (first | exact ⟨x0, x1, y3⟩ | exact HCL.out _ hk) ((go_at_call 125; refine (PA.gL.calls k true k W.drew rfl).mono ?_; rintro e w3 ⟨rfl, hk⟩))
 have HB3 := ay HB.out (ay (ak (Below.refl W.heap.size W)) hk)
 go_wp2
 go_ret
 exact ⟨rfl, HB3⟩
theorem yC (w : World) (gs : Nat) (s : St) (v i1 i2 : Int) (k : Int) (hS : w.heap[gs]? = some (.cells (aA s) 151 (0, 0))) (hl : s.length = 18) (e0 : gS s 0 = some v) (hne : v ≠ k) :
 Calls Try.prog 167 #[.pointer (some ⟨gs, 0, none⟩), .agg #[.int .u16 0, .int .u8 i1, .int .u8 i2, .int .u32 k]] w fun e w' => e = .returned (.bool false) ∧ Below w.heap.size w w' := by
 have c0a : _ = some (Value.bool true) := (ae hS (0)).trans ((bZ (s := s) (i := 0) (by omega)).trans (by rw [e0]; rfl))
 have c0b : _ = some (Value.int .u32 v) := (ae hS (1)).trans ((dE (s := s) (i := 0) (by omega)).trans (by rw [e0]; rfl))
 have hlt := av hS
 have HS := aa.mk hS
 clear hS
 go_enter Try.func167, Try.ntmps167
 go_upto_region 3 with (fail)
 refine forget (fun W => ∃ gi, gi = w.heap.size ∧ Below w.heap.size w W ∧ W.heap[gi]? = some (.cells #[.int .u16 0, .int .u8 i1, .int .u8 i2, .int .u32 k] 45 (0, 0))) ⟨_, rfl, ai (Below.refl _ _) _, heap_alloc_new _ _⟩ ?_
 rintro W ⟨gi, egi, hb, hi⟩
 rw [← egi]
 have x0 := au hb c0a
 have x1 := au hb c0b
 have y3 : _ = some (Value.int .u32 k) := (ae hi 3).trans rfl
 have HB := aa.mk hb
 have EG := aa.mk egi
 have HCL : aa (∀ w3, Below W.drew.heap.size W.drew w3 → w3.cell? ⟨gs, 0, none⟩ = some (.bool true) ∧ w3.cell? ⟨gs, 1, none⟩ = some (.int .u32 v) ∧ w3.cell? ⟨gi, 3, none⟩ = some (.int .u32 k)) :=
  ⟨fun w3 h3 => ⟨au h3 (show W.drew.cell? _ = _ from x0), au h3 (show W.drew.cell? _ = _ from x1), au h3 (show W.drew.cell? _ = _ from y3)⟩⟩
 clear hb hi egi c0a c0b
 go_region_held3 (fun w' => w'.cell? ⟨gs, 0, none⟩ = some (.bool true) ∧ w'.cell? ⟨gs, 1, none⟩ = some (.int .u32 v) ∧ w'.cell? ⟨gi, 3, none⟩ = some (.int .u32 k)) (first | exact ⟨x0, x1, y3⟩ | exact HCL.out _ hk) ((go_at_call 125; refine (PA.gL.calls k true k W.drew rfl).mono ?_; rintro e w3 ⟨rfl, hk⟩))
 have HB3 := ay HB.out (ay (ak (Below.refl W.heap.size W)) hk)
 go_wp2
 go_ret
 exact ⟨rfl, HB3⟩
theorem yG (w : World) (gs : Nat) (s : St) (i1 i2 : Int) (k : Int) (hS : w.heap[gs]? = some (.cells (aA s) 151 (0, 0))) (hl : s.length = 18) (e0 : gS s 1 = none) :
 Calls Try.prog 167 #[.pointer (some ⟨gs, 0, none⟩), .agg #[.int .u16 1, .int .u8 i1, .int .u8 i2, .int .u32 k]] w fun e w' => e = .returned (.bool false) ∧ Below w.heap.size w w' := by
 have c0a : _ = some (Value.bool false) := (ae hS (2)).trans ((bZ (s := s) (i := 1) (by omega)).trans (by rw [e0]; rfl))
 have c0b : _ = some (Value.int .u32 0) := (ae hS (3)).trans ((dE (s := s) (i := 1) (by omega)).trans (by rw [e0]; rfl))
 have hlt := av hS
 have HS := aa.mk hS
 clear hS
 go_enter Try.func167, Try.ntmps167
 go_upto_region 5 with (fail)
 refine forget (fun W => ∃ gi, gi = w.heap.size ∧ Below w.heap.size w W ∧ W.heap[gi]? = some (.cells #[.int .u16 1, .int .u8 i1, .int .u8 i2, .int .u32 k] 45 (0, 0))) ⟨_, rfl, ai (Below.refl _ _) _, heap_alloc_new _ _⟩ ?_
 rintro W ⟨gi, egi, hb, hi⟩
 rw [← egi]
 have x0 := au hb c0a
 have x1 := au hb c0b
 have y3 : _ = some (Value.int .u32 k) := (ae hi 3).trans rfl
 have HB := aa.mk hb
 have EG := aa.mk egi
 have HCL : aa (∀ w3, Below W.drew.heap.size W.drew w3 → w3.cell? ⟨gs, 2, none⟩ = some (.bool false) ∧ w3.cell? ⟨gs, 3, none⟩ = some (.int .u32 0) ∧ w3.cell? ⟨gi, 3, none⟩ = some (.int .u32 k)) :=
  ⟨fun w3 h3 => ⟨au h3 (show W.drew.cell? _ = _ from x0), au h3 (show W.drew.cell? _ = _ from x1), au h3 (show W.drew.cell? _ = _ from y3)⟩⟩
 clear hb hi egi c0a c0b
 go_region_held3 (fun w' => w'.cell? ⟨gs, 2, none⟩ = some (.bool false) ∧ w'.cell? ⟨gs, 3, none⟩ = some (.int .u32 0) ∧ w'.cell? ⟨gi, 3, none⟩ = some (.int .u32 k)) (first | exact ⟨x0, x1, y3⟩ | exact HCL.out _ hk) ((go_at_call 125; refine (PA.gL.calls k true k W.drew rfl).mono ?_; rintro e w3 ⟨rfl, hk⟩))
 have HB3 := ay HB.out (ay (ak (Below.refl W.heap.size W)) hk)
 go_wp2
 go_ret
 exact ⟨rfl, HB3⟩
theorem yH (w : World) (gs : Nat) (s : St) (i1 i2 : Int) (k : Int) (hS : w.heap[gs]? = some (.cells (aA s) 151 (0, 0))) (hl : s.length = 18) (e0 : gS s 1 = some k) :
 Calls Try.prog 167 #[.pointer (some ⟨gs, 0, none⟩), .agg #[.int .u16 1, .int .u8 i1, .int .u8 i2, .int .u32 k]] w fun e w' => e = .returned (.bool true) ∧ Below w.heap.size w w' := by
 have c0a : _ = some (Value.bool true) := (ae hS (2)).trans ((bZ (s := s) (i := 1) (by omega)).trans (by rw [e0]; rfl))
 have c0b : _ = some (Value.int .u32 k) := (ae hS (3)).trans ((dE (s := s) (i := 1) (by omega)).trans (by rw [e0]; rfl))
 have hlt := av hS
 have HS := aa.mk hS
 clear hS
 go_enter Try.func167, Try.ntmps167
 go_upto_region 5 with (fail)
 refine forget (fun W => ∃ gi, gi = w.heap.size ∧ Below w.heap.size w W ∧ W.heap[gi]? = some (.cells #[.int .u16 1, .int .u8 i1, .int .u8 i2, .int .u32 k] 45 (0, 0))) ⟨_, rfl, ai (Below.refl _ _) _, heap_alloc_new _ _⟩ ?_
 rintro W ⟨gi, egi, hb, hi⟩
 rw [← egi]
 have x0 := au hb c0a
 have x1 := au hb c0b
 have y3 : _ = some (Value.int .u32 k) := (ae hi 3).trans rfl
 have HB := aa.mk hb
 have EG := aa.mk egi
 have HCL : aa (∀ w3, Below W.drew.heap.size W.drew w3 → w3.cell? ⟨gs, 2, none⟩ = some (.bool true) ∧ w3.cell? ⟨gs, 3, none⟩ = some (.int .u32 k) ∧ w3.cell? ⟨gi, 3, none⟩ = some (.int .u32 k)) :=
  ⟨fun w3 h3 => ⟨au h3 (show W.drew.cell? _ = _ from x0), au h3 (show W.drew.cell? _ = _ from x1), au h3 (show W.drew.cell? _ = _ from y3)⟩⟩
 clear hb hi egi c0a c0b
 go_region_held3 (fun w' => w'.cell? ⟨gs, 2, none⟩ = some (.bool true) ∧ w'.cell? ⟨gs, 3, none⟩ = some (.int .u32 k) ∧ w'.cell? ⟨gi, 3, none⟩ = some (.int .u32 k)) (first | exact ⟨x0, x1, y3⟩ | exact HCL.out _ hk) ((go_at_call 125; refine (PA.gL.calls k true k W.drew rfl).mono ?_; rintro e w3 ⟨rfl, hk⟩))
 have HB3 := ay HB.out (ay (ak (Below.refl W.heap.size W)) hk)
 go_wp2
 go_ret
 exact ⟨rfl, HB3⟩
theorem yF (w : World) (gs : Nat) (s : St) (v i1 i2 : Int) (k : Int) (hS : w.heap[gs]? = some (.cells (aA s) 151 (0, 0))) (hl : s.length = 18) (e0 : gS s 1 = some v) (hne : v ≠ k) :
 Calls Try.prog 167 #[.pointer (some ⟨gs, 0, none⟩), .agg #[.int .u16 1, .int .u8 i1, .int .u8 i2, .int .u32 k]] w fun e w' => e = .returned (.bool false) ∧ Below w.heap.size w w' := by
 have c0a : _ = some (Value.bool true) := (ae hS (2)).trans ((bZ (s := s) (i := 1) (by omega)).trans (by rw [e0]; rfl))
 have c0b : _ = some (Value.int .u32 v) := (ae hS (3)).trans ((dE (s := s) (i := 1) (by omega)).trans (by rw [e0]; rfl))
 have hlt := av hS
 have HS := aa.mk hS
 clear hS
 go_enter Try.func167, Try.ntmps167
 go_upto_region 5 with (fail)
 refine forget (fun W => ∃ gi, gi = w.heap.size ∧ Below w.heap.size w W ∧ W.heap[gi]? = some (.cells #[.int .u16 1, .int .u8 i1, .int .u8 i2, .int .u32 k] 45 (0, 0))) ⟨_, rfl, ai (Below.refl _ _) _, heap_alloc_new _ _⟩ ?_
 rintro W ⟨gi, egi, hb, hi⟩
 rw [← egi]
 have x0 := au hb c0a
 have x1 := au hb c0b
 have y3 : _ = some (Value.int .u32 k) := (ae hi 3).trans rfl
 have HB := aa.mk hb
 have EG := aa.mk egi
 have HCL : aa (∀ w3, Below W.drew.heap.size W.drew w3 → w3.cell? ⟨gs, 2, none⟩ = some (.bool true) ∧ w3.cell? ⟨gs, 3, none⟩ = some (.int .u32 v) ∧ w3.cell? ⟨gi, 3, none⟩ = some (.int .u32 k)) :=
  ⟨fun w3 h3 => ⟨au h3 (show W.drew.cell? _ = _ from x0), au h3 (show W.drew.cell? _ = _ from x1), au h3 (show W.drew.cell? _ = _ from y3)⟩⟩
 clear hb hi egi c0a c0b
 go_region_held3 (fun w' => w'.cell? ⟨gs, 2, none⟩ = some (.bool true) ∧ w'.cell? ⟨gs, 3, none⟩ = some (.int .u32 v) ∧ w'.cell? ⟨gi, 3, none⟩ = some (.int .u32 k)) (first | exact ⟨x0, x1, y3⟩ | exact HCL.out _ hk) ((go_at_call 125; refine (PA.gL.calls k true k W.drew rfl).mono ?_; rintro e w3 ⟨rfl, hk⟩))
 have HB3 := ay HB.out (ay (ak (Below.refl W.heap.size W)) hk)
 go_wp2
 go_ret
 exact ⟨rfl, HB3⟩
theorem gY (w : World) (gs : Nat) (s : St) (i : S45) (hS : w.heap[gs]? = some (.cells (aA s) 151 (0, 0))) (hw : Wst s) (hc : stB i.f0 i.f3 = true) (hk : Rg i.f3) :
 Calls Try.prog 167 #[.pointer (some ⟨gs, 0, none⟩), eF i] w fun e w' => e = .returned (.bool (iA s i)) ∧ Below w.heap.size w w' := by
 obtain ⟨_, h16, _, _⟩ := gQ hc
 obtain ⟨c, i1, i2, k⟩ := i
 dsimp only at h16 hk
 have hk0 := hk.1
 have hl := hw.len
 unfold iA
 dsimp only
 by_cases c0 : c = 0
 · rw [if_pos c0]; subst c0
   cases e : gS s 0 with
   | none => exact yD w gs s i1 i2 k hS hl e
   | some v =>
    by_cases q : v = k
    · subst q
      rw [decide_eq_true rfl]; exact yE w gs s i1 i2 v hS hl e
    rw [decide_eq_false (fun h => q (Option.some.inj h))]; exact yC w gs s v i1 i2 k hS hl e q
 rw [if_neg c0]
 by_cases c1 : c = 1
 · rw [if_pos c1]; subst c1
   cases e : gS s 1 with
   | none => exact yG w gs s i1 i2 k hS hl e
   | some v =>
    by_cases q : v = k
    · subst q
      rw [decide_eq_true rfl]; exact yH w gs s i1 i2 v hS hl e
    rw [decide_eq_false (fun h => q (Option.some.inj h))]; exact yF w gs s v i1 i2 k hS hl e q
 rw [if_neg c1]
 by_cases c2 : c = 2
 · rw [if_pos c2]; subst c2
   have hk6 := h16 (by omega)
   obtain ⟨n, rfl⟩ : ∃ n : Nat, k = (n : Int) := ⟨k.toNat, by omega⟩
   rw [Int.toNat_natCast]
   cases e : gS s 0 with
   | none => exact yN w gs s i1 i2 n hS hl (by omega) e
   | some v =>
    cases e1 : gS s (2 + n) with
    | none => exact yM w gs s v i1 i2 n hS hl (by omega) e e1
    | some u =>
     by_cases q : u = v
     · subst q
       rw [decide_eq_true rfl]; exact yO w gs s u i1 i2 n hS hl (by omega) e e1
     rw [decide_eq_false (fun h => q (Option.some.inj h))]; exact yL w gs s v u i1 i2 n hS hl (by omega) e e1 q
 rw [if_neg c2]
 by_cases c3 : c = 3
 · rw [if_pos c3]; subst c3
   have hk6 := h16 (by omega)
   obtain ⟨n, rfl⟩ : ∃ n : Nat, k = (n : Int) := ⟨k.toNat, by omega⟩
   rw [Int.toNat_natCast]
   cases e : gS s 1 with
   | none => exact yR w gs s i1 i2 n hS hl (by omega) e
   | some v =>
    cases e1 : gS s (2 + n) with
    | none => exact yQ w gs s v i1 i2 n hS hl (by omega) e e1
    | some u =>
     by_cases q : u = v
     · subst q
       rw [decide_eq_true rfl]; exact yS w gs s u i1 i2 n hS hl (by omega) e e1
     rw [decide_eq_false (fun h => q (Option.some.inj h))]; exact yP w gs s v u i1 i2 n hS hl (by omega) e e1 q
 rw [if_neg c3]
 by_cases c4 : c = 4 ∨ c = 20 ∨ c = 68 ∨ c = 164 ∨ c = 100 ∨ c = 116
 · rw [if_pos c4]
   rcases c4 with rfl | rfl | rfl | rfl | rfl | rfl
   · exact idle_z4 w gs s i1 i2 k hS hl
   · exact yT w gs s i1 i2 k hS hl
   · exact yU w gs s i1 i2 k hS hl
   · exact wH w gs s i1 i2 k hS hl
   · exact wF w gs s i1 i2 k hS hl
   exact wG w gs s i1 i2 k hS hl
 rw [if_neg c4]
 by_cases c5 : c = 36 ∨ c = 52
 · rw [if_pos c5]
   rcases c5 with rfl | rfl
   · exact yJ w gs s i1 i2 k hS hl
   exact yK w gs s i1 i2 k hS hl
 rw [if_neg c5]
 by_cases c6 : c = 84
 · rw [if_pos c6]; subst c6
   exact yI w gs s i1 i2 k hS hl
 rw [if_neg c6]
 exact idle_no w gs s c i1 i2 k hS hl (bf c0) (bf c1) (bf c2) (bf c3) (bf (by omega)) (bf (by omega)) (bf (by omega)) (bf (by omega)) (bf (by omega)) (bf (by omega)) (bf (by omega)) (bf (by omega)) (bf c6)
theorem simp_o (w : World) (gs : Nat) (s : St) (j : S45) (hS : w.heap[gs]? = some (.cells (aA s) 151 (0, 0))) (hw : Wst s) (hc : stB j.f0 j.f3 = true) (hk : Rg j.f3)
 (n0 : (aT j.f0 == 0) = false) (n1 : (aT j.f0 == 1) = false) (n7 : (aT j.f0 == 7) = false) (n4 : (aT j.f0 == 4) = false) :
 Calls Try.prog 159 #[.pointer (some ⟨gs, 0, none⟩), eF j] w fun e w' => e = .returned (.tuple #[eF j, .bool (!iA s j)]) ∧ Below w.heap.size w w' := by
 have HS := aa.mk hS
 have HW := aa.mk hw
 have HJ := aa.mk (And.intro hc hk)
 have HC := aa.mk (fun W => aG.calls (0 + 8) j.f0 (aT j.f0) W (gK j.f0 0).1)
 clear hS hw hc hk
 unfold eF at *
 go_enter Try.func159, Try.ntmps159
 go_upto_region 1 with (fail)
 refine forget (fun W => ∃ gi, gi = w.heap.size ∧ Below w.heap.size w W ∧ W.heap[gi]? = some (.cells #[.int .u16 j.f0, .int .u8 j.f1, .int .u8 j.f2, .int .u32 j.f3] 45 (0, 0)) ∧ W.heap[gi + 1]? = some (.cells #[.int .u16 0, .int .u8 0, .int .u8 0, .int .u32 0] 45 (0, 0))) ⟨_, rfl, bY _ _ _, kM _ _ _, eB _ _ _⟩ ?_
 rintro W ⟨gi, egi, hb, hi, hr⟩
 rw [← egi]
 have y0 : _ = some (Value.int .u16 j.f0) := (ae hi 0).trans rfl
 have HB := aa.mk hb
 have HI := aa.mk hi
 have HR := aa.mk hr
 have EG := aa.mk egi
 clear hb hi hr egi
 go_upto_region 12 with (go_at_call 99; refine (HC.out _).mono ?_; rintro e w' ⟨rfl, ⟨nd, rfl⟩⟩)
 have hq := aD (Below.refl W.heap.size W) nd
 refine forget (fun V => Below w.heap.size w V ∧ V.heap[gs]? = some (.cells (aA s) 151 (0, 0)) ∧ V.heap[gi]? = some (.cells #[.int .u16 j.f0, .int .u8 j.f1, .int .u8 j.f2, .int .u32 j.f3] 45 (0, 0)) ∧ V.heap[gi + 1]? = some (.cells #[.int .u16 0, .int .u8 0, .int .u8 0, .int .u32 0] 45 (0, 0)))
  ⟨ay HB.out hq, ah (ah HS.out HB.out) hq, ah HI.out hq, ah HR.out hq⟩ ?_
 clear hq y0 HB HS HI HR
 rintro V ⟨hb, hs, hi, hr⟩
 have p0 : _ = some (Value.int .u16 j.f0) := (ae hi 0).trans rfl
 have p1 : _ = some (Value.int .u8 j.f1) := (ae hi 1).trans rfl
 have p2 : _ = some (Value.int .u8 j.f2) := (ae hi 2).trans rfl
 have p3 : _ = some (Value.int .u32 j.f3) := (ae hi 3).trans rfl
 have z0 : _ = some (Value.int .u16 0) := (ae hr 0).trans rfl
 have z1 : _ = some (Value.int .u8 0) := (ae hr 1).trans rfl
 have z2 : _ = some (Value.int .u8 0) := (ae hr 2).trans rfl
 have z3 : _ = some (Value.int .u32 0) := (ae hr 3).trans rfl
 have t0 := af hr 0
 have t1 := af hr 1
 have t2 := af hr 2
 have t3 := af hr 3
 have HSC : aa (∀ V', Below V.heap.size V V' → V'.heap[gs]? = some (.cells (aA s) 151 (0, 0))) := ⟨fun V' h => ah hs h⟩
 have KC : aa (∀ V' V'', Below V.heap.size V V' → Below V'.heap.size V' V'' → V''.cell? ⟨gi, 0, none⟩ = some (.int .u16 j.f0) ∧ V''.cell? ⟨gi, 1, none⟩ = some (.int .u8 j.f1) ∧ V''.cell? ⟨gi, 2, none⟩ = some (.int .u8 j.f2) ∧ V''.cell? ⟨gi, 3, none⟩ = some (.int .u32 j.f3) ∧
  V''.cell? ⟨gi + 1, 0, none⟩ = some (.int .u16 0) ∧ V''.cell? ⟨gi + 1, 1, none⟩ = some (.int .u8 0) ∧ V''.cell? ⟨gi + 1, 2, none⟩ = some (.int .u8 0) ∧ V''.cell? ⟨gi + 1, 3, none⟩ = some (.int .u32 0) ∧ V''.frozen? ⟨gi + 1, 0, none⟩ = false ∧ V''.frozen? ⟨gi + 1, 1, none⟩ = false ∧ V''.frozen? ⟨gi + 1, 2, none⟩ = false ∧ V''.frozen? ⟨gi + 1, 3, none⟩ = false) :=
  ⟨fun V' V'' h1 h2 => by
   have b0 := ah (ah hi h1) h2
   have b1 := ah (ah hr h1) h2
   exact ⟨(ae b0 0).trans rfl, (ae b0 1).trans rfl, (ae b0 2).trans rfl, (ae b0 3).trans rfl, (ae b1 0).trans rfl, (ae b1 1).trans rfl, (ae b1 2).trans rfl, (ae b1 3).trans rfl, af b1 0, af b1 1, af b1 2, af b1 3⟩⟩
 have HB := aa.mk hb
 have HR := aa.mk hr
 clear hb hs hi hr
 refine dR 7 (fun w' => w'.cell? ⟨gi, 0, none⟩ = some (.int .u16 j.f0) ∧ w'.cell? ⟨gi, 1, none⟩ = some (.int .u8 j.f1) ∧ w'.cell? ⟨gi, 2, none⟩ = some (.int .u8 j.f2) ∧ w'.cell? ⟨gi, 3, none⟩ = some (.int .u32 j.f3) ∧ w'.cell? ⟨gi + 1, 0, none⟩ = some (.int .u16 0) ∧ w'.cell? ⟨gi + 1, 1, none⟩ = some (.int .u8 0) ∧ w'.cell? ⟨gi + 1, 2, none⟩ = some (.int .u8 0) ∧ w'.cell? ⟨gi + 1, 3, none⟩ = some (.int .u32 0) ∧ w'.frozen? ⟨gi + 1, 0, none⟩ = false ∧ w'.frozen? ⟨gi + 1, 1, none⟩ = false ∧ w'.frozen? ⟨gi + 1, 2, none⟩ = false ∧ w'.frozen? ⟨gi + 1, 3, none⟩ = false) [5] ⟨p0, p1, p2, p3, z0, z1, z2, z3, t0, t1, t2, t3⟩ (fun hHeld => ?_)
 refine aC 1 55 ?_
 refine cK 0 54 hHeld ?_
 refine cK 2 56 hHeld ?_
 refine fT 3 (some 57) (fun K hK => ?_)
 refine d9 Try.func167 #[.pointer (some ⟨gs, 0, none⟩), eF j] ?_
 with_reducible refine (gY _ gs s j (HSC.out _ eu) HW.out HJ.out.1 HJ.out.2).mono ?_
 rintro e w3 ⟨rfl, hk3⟩
 refine ⟨_, rfl, ?_⟩
 refine hK.out _ _ (KC.out _ _ eu hk3) (fun hHeld => ?_)
 clear hK K
 refine dP 57 ?_
 refine aC 4 58 ?_
 refine eH 5 none (fun K hK => ?_)
 refine fP ?_
 refine hK.out _ _ ?_
 clear hK K
 refine aC 6 5 ?_
 refine gU (by kernel_rfl) ?_
 go_wp2
 have h1 := ay (ak (Below.refl V.heap.size V)) hk3
 refine bodyPost_ret (fw rfl _ _ (gi + 1) 45 #[.int .u16 j.f0, .int .u8 j.f1, .int .u8 j.f2, .int .u32 j.f3] (0, 0) _ rfl (jB (ah HR.out h1) _ _ _ _) Try.underlying45 rfl (by kernel_rfl)) rfl ?_
 exact ⟨rfl, fE (ay HB.out h1) (by have := EG.out; omega) _ _ _ _⟩
end Go.Proofs.Ytdkalnkplgfgoaa.Ln
