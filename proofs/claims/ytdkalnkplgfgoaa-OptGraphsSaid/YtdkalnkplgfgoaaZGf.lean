/- Lemmas and walks for the statements of the texts ZGZ..: the declarations that they need, taken together by a program of this session. Conditions: as each says. -/
import Derived.Test.YtdkalnkplgfgoaaZGa
import Derived.Test.YtdkalnkplgfgoaaZGb
import Derived.Test.YtdkalnkplgfgoaaZGc
import Derived.Test.YtdkalnkplgfgoaaZGe
set_option maxHeartbeats 8000000
set_option maxRecDepth 100000
set_option linter.unusedVariables false
set_option linter.unusedSimpArgs false
namespace Go.Proofs.Ytdkalnkplgfgoaa.PA
open Go.RowKit Go.Proofs.YtdkalnkplgfgoaaW.PrintWords Go.Proofs.YtdkalnkplgfgoaaW.PrintLast Go.Proofs.YtdkalnkplgfgoaaW.PrintMore
attribute [local go_sem] dY d9 fC fD dP dQ dZ ek
def bK.f (a0 : Int) (a1 : Int) (a2 : Int) : Option (Int × Bool) := if (Go.bits .andNot .u16 a0 8) = 4 then (some ((a1 + a2) % 4294967296, true)) else (if (Go.bits .andNot .u16 a0 8) = 20 then (some ((a1 - a2) % 4294967296, true)) else (if (Go.bits .andNot .u16 a0 8) = 36 then (some ((a1 * a2) % 4294967296, true)) else (if (Go.bits .andNot .u16 a0 8) = 68 then (some (Go.bits .or .u32 a1 a2, true)) else (if (Go.bits .andNot .u16 a0 8) = 84 then (some (Go.bits .and .u32 a1 a2, true)) else (if (Go.bits .andNot .u16 a0 8) = 164 then (some (Go.bits .xor .u32 a1 a2, true)) else (if (Go.bits .andNot .u16 a0 8) = 100 then (if 0 ≤ a2 then (some (shl .u32 a1 a2, true)) else (none)) else (if (Go.bits .andNot .u16 a0 8) = 116 then (if 0 ≤ a2 then (some (shr .u32 a1 a2, true)) else (none)) else (if a2 = 0 then (some (0, false)) else (if (Go.bits .andNot .u16 a0 8) = 52 then (some ((Int.tdiv a1 a2) % 4294967296, true)) else (some (Int.tmod a1 a2, true)))))))))))
theorem bK.calls (a0 : Int) (a1 : Int) (a2 : Int) (r1 : Int) (r2 : Bool) (w : World) (h : bK.f a0 a1 a2 = some (r1, r2)) :
 Calls Try.prog 155 #[.int .u16 a0, .int .u32 a1, .int .u32 a2] w fun e w' => e = .returned (.tuple #[.int .u32 r1, .bool r2]) ∧ cz w w' := by
 have H : (if (Go.bits .andNot .u16 a0 8) = 4 then (some ((a1 + a2) % 4294967296, true)) else (if (Go.bits .andNot .u16 a0 8) = 20 then (some ((a1 - a2) % 4294967296, true)) else (if (Go.bits .andNot .u16 a0 8) = 36 then (some ((a1 * a2) % 4294967296, true)) else (if (Go.bits .andNot .u16 a0 8) = 68 then (some (Go.bits .or .u32 a1 a2, true)) else (if (Go.bits .andNot .u16 a0 8) = 84 then (some (Go.bits .and .u32 a1 a2, true)) else (if (Go.bits .andNot .u16 a0 8) = 164 then (some (Go.bits .xor .u32 a1 a2, true)) else (if (Go.bits .andNot .u16 a0 8) = 100 then (if 0 ≤ a2 then (some (shl .u32 a1 a2, true)) else (none)) else (if (Go.bits .andNot .u16 a0 8) = 116 then (if 0 ≤ a2 then (some (shr .u32 a1 a2, true)) else (none)) else (if a2 = 0 then (some (0, false)) else (if (Go.bits .andNot .u16 a0 8) = 52 then (some ((Int.tdiv a1 a2) % 4294967296, true)) else (some (Int.tmod a1 a2, true)))))))))))) = some (r1, r2) := h
 clear h
 iterate 2
  replace H := bO H
  obtain ⟨H, -, _, _⟩ | ⟨H, c4, _, _⟩ := H
  · obtain ⟨rfl, rfl⟩ := so2 H
    go_enter Try.func155, Try.ntmps155
    go_wp2
    go_ret2
    exact ⟨aZ, bJ⟩
 iterate 2
  replace H := bO H
  obtain ⟨H, -, _, _⟩ | ⟨H, c6, _, _⟩ := H
  · obtain ⟨rfl, rfl⟩ := so2 H
    go_enter Try.func155, Try.ntmps155
    go_wp2
    go_ret2
    exact ⟨aZ, bJ⟩
 iterate 2
  replace H := bO H
  obtain ⟨H, -, _, _⟩ | ⟨H, c8, _, _⟩ := H
  · obtain ⟨rfl, rfl⟩ := so2 H
    go_enter Try.func155, Try.ntmps155
    go_wp2
    go_ret2
    exact ⟨aZ, bJ⟩
 replace H := bO H
 obtain ⟨H, -, _, _⟩ | ⟨H, c10, _, _⟩ := H
 · replace H := nN H
   obtain ⟨H, c11⟩ | ⟨H, c11⟩ := H
   · have c11b0 := eq_true c11
     have c11b1 : decide (0 ≤ a2) = true := decide_eq_true c11
     clear c11
     obtain ⟨ji12, hji12⟩ : ∃ j_ : Int, (shl .u32 a1 a2) = j_ := ⟨_, rfl⟩
     replace H : (some (ji12, true)) = some (r1, r2) := by first | (rw [hji12] at H; exact H) | (simp only [hji12] at H ⊢; exact H)
     have hji12_ : (IntKind.u32.wrap (a1 * 2 ^ min a2.toNat 32)) = ji12 := hji12
     have hji12z : a2 ≤ 32 → (IntKind.u32.wrap (a1 * 2 ^ a2.toNat)) = ji12 := xH hji12
     obtain ⟨rfl, rfl⟩ := so2 H
     go_enter Try.func155, Try.ntmps155
     go_wp2
     go_ret2
     exact ⟨by first | rfl | (simp; done) | (simp only [← hji12] <;> (first | rfl | simp)) | (simp [*]; done), bJ⟩
   exact absurd H (by simp)
 replace H := bO H
 obtain ⟨H, -, _, _⟩ | ⟨H, c13, _, _⟩ := H
 · replace H := nN H
   obtain ⟨H, c14⟩ | ⟨H, c14⟩ := H
   · have c14b0 := eq_true c14
     have c14b1 : decide (0 ≤ a2) = true := decide_eq_true c14
     clear c14
     obtain ⟨ji15, hji15⟩ : ∃ j_ : Int, (shr .u32 a1 a2) = j_ := ⟨_, rfl⟩
     replace H : (some (ji15, true)) = some (r1, r2) := by first | (rw [hji15] at H; exact H) | (simp only [hji15] at H ⊢; exact H)
     have hji15_ : (a1 / 2 ^ min a2.toNat 32) = ji15 := hji15
     have hji15z : a2 ≤ 32 → (a1 / 2 ^ a2.toNat) = ji15 := xI hji15
     obtain ⟨rfl, rfl⟩ := so2 H
     go_enter Try.func155, Try.ntmps155
     go_wp2
     go_ret2
     exact ⟨by first | rfl | (simp; done) | (simp only [← hji15] <;> (first | rfl | simp)) | (simp [*]; done), bJ⟩
   exact absurd H (by simp)
 iterate 2
  replace H := bO H
  obtain ⟨H, -, _, _⟩ | ⟨H, c16, _, _⟩ := H
  · obtain ⟨rfl, rfl⟩ := so2 H
    go_enter Try.func155, Try.ntmps155
    go_wp2
    go_ret2
    exact ⟨aZ, bJ⟩
 obtain ⟨rfl, rfl⟩ := so2 H
 go_enter Try.func155, Try.ntmps155
 go_wp2
 go_ret2
 exact ⟨aZ, bJ⟩
def gZ.f (a0 : Int) (a1 : Int) (a2 : Int) : Option (Bool) := if (Go.bits .andNot .u16 a0 8) = 21 then (some (a1 == a2)) else (if (Go.bits .andNot .u16 a0 8) = 37 then (some (decide (a1 > a2))) else (if (Go.bits .andNot .u16 a0 8) = 53 then (some (decide (a1 ≥ a2))) else (some ((Go.bits .and .u32 a1 a2) != 0))))
theorem gZ.calls (a0 : Int) (a1 : Int) (a2 : Int) (r : Bool) (w : World) (h : gZ.f a0 a1 a2 = some r) :
 Calls Try.prog 157 #[.int .u16 a0, .int .u32 a1, .int .u32 a2] w fun e w' => e = .returned (.bool r) ∧ cz w w' := by
 have H : (if (Go.bits .andNot .u16 a0 8) = 21 then (some (a1 == a2)) else (if (Go.bits .andNot .u16 a0 8) = 37 then (some (decide (a1 > a2))) else (if (Go.bits .andNot .u16 a0 8) = 53 then (some (decide (a1 ≥ a2))) else (some ((Go.bits .and .u32 a1 a2) != 0))))) = some r := h
 clear h
 replace H := bO H
 obtain ⟨H, -, _, _⟩ | ⟨H, c4, _, _⟩ := H
 · cases H
   go_enter Try.func157, Try.ntmps157
   go_wp2
   go_ret
   exact ⟨aZ, bJ⟩
 iterate 2
  replace H := bO H
  obtain ⟨H, -, _, _⟩ | ⟨H, c5, _, _⟩ := H
  · cases H
    go_enter Try.func157, Try.ntmps157
    go_wp2
    go_ret
    exact ⟨aZ, bJ⟩
 cases H
 go_enter Try.func157, Try.ntmps157
 go_wp2
 go_ret
 exact ⟨aZ, bJ⟩
def gV.f (a0 : Int) : Option (Bool × Int) := some (true, a0)
theorem gV.calls (a0 : Int) (r1 : Bool) (r2 : Int) (w : World) (h : gV.f a0 = some (r1, r2)) :
 Calls Try.prog 125 #[.int .u32 a0] w fun e w' => e = .returned (.agg #[.bool r1, .int .u32 r2]) ∧ Below w.heap.size w w' := by
 have hu149 := Try.underlying149
 have HB := aa.mk (Below.refl w.heap.size w)
 have H : (some (true, a0)) = some (r1, r2) := h
 clear h
 obtain ⟨rfl, rfl⟩ := so2 H
 go_enter Try.func125, Try.ntmps125
 go_wp2_with ((with_reducible refine aT (N := 2) rfl ?_); refine dW (N := 2) (cs := #[.bool false, .int .u32 0]) (t := 149) ?_; intro gb562 hg w2 hbox hb; have GE562 := geN HB hg; have BK562 := aa.mk hbox; replace HB := di HB hb; clear hb hbox hg; have hcz3_0 : w2.cell? ⟨gb562, 0, none⟩ = some (.bool false) := (ae BK562.out 0).trans rfl; have hcz3_1 : w2.cell? ⟨gb562, 1, none⟩ = some (.int .u32 0) := (ae BK562.out 1).trans rfl; have hfz3_0 := aj BK562.out 0; have hfz3_1 := aj BK562.out 1)
 refine bodyPost_ret (results_cell_row rfl _ _ gb562 149 #[.bool true, .int .u32 a0] (0, 0) _ rfl (by (with_reducible repeat (first | refine bg ?_ _ | refine bv ?_ | refine aG ?_ _)); refine aQ (cs := #[.bool true, .int .u32 0]) ?_ 1 _ rfl; (with_reducible repeat (first | refine bg ?_ _ | refine bv ?_ | refine aG ?_ _)); refine aQ (cs := #[.bool false, .int .u32 0]) ?_ 0 _ rfl; (with_reducible repeat (first | refine bg ?_ _ | refine bv ?_ | refine aG ?_ _)); exact BK562.out) Try.underlying149 rfl (by kernel_rfl)) rfl ?_
 exact ⟨dB, bE⟩
def ja.f (a0_0 : Int) (a0_1 : Int) (a0_2 : Int) (a0_3 : Int) : Option (Int × Int × Bool) := if a0_0 = 96 then (some (wrap64 (2 + (wrap64 (a0_3))), 0, true)) else (if a0_0 = 97 then (some (wrap64 (2 + (wrap64 (a0_3))), 1, true)) else (if a0_0 = 2 then (some (0, wrap64 (2 + (wrap64 (a0_3))), true)) else (if a0_0 = 3 then (some (1, wrap64 (2 + (wrap64 (a0_3))), true)) else (if a0_0 = 7 then (some (0, 1, true)) else (if a0_0 = 135 then (some (1, 0, true)) else (some (0, 0, false)))))))
theorem ja.calls (a0_0 : Int) (a0_1 : Int) (a0_2 : Int) (a0_3 : Int) (r1 : Int) (r2 : Int) (r3 : Bool) (w : World) (h : ja.f a0_0 a0_1 a0_2 a0_3 = some (r1, r2, r3)) :
 Calls Try.prog 131 #[.agg #[.int .u16 a0_0, .int .u8 a0_1, .int .u8 a0_2, .int .u32 a0_3]] w fun e w' => e = .returned (.tuple #[.int .i64 r1, .int .i64 r2, .bool r3]) ∧ Below w.heap.size w w' := by
 have hu45 := Try.underlying45
 have HB := aa.mk (Below.refl w.heap.size w)
 have H : (if a0_0 = 96 then (some (wrap64 (2 + (wrap64 (a0_3))), 0, true)) else (if a0_0 = 97 then (some (wrap64 (2 + (wrap64 (a0_3))), 1, true)) else (if a0_0 = 2 then (some (0, wrap64 (2 + (wrap64 (a0_3))), true)) else (if a0_0 = 3 then (some (1, wrap64 (2 + (wrap64 (a0_3))), true)) else (if a0_0 = 7 then (some (0, 1, true)) else (if a0_0 = 135 then (some (1, 0, true)) else (some (0, 0, false)))))))) = some (r1, r2, r3) := h
 clear h
 iterate 2
  replace H := bO H
  obtain ⟨H, -, _, _⟩ | ⟨H, c2, _, _⟩ := H
  · obtain ⟨rfl, rfl, rfl⟩ := so3 H
    go_enter Try.func131, Try.ntmps131
    go_wp2_with ((with_reducible refine aT (N := 1) rfl ?_); refine dW (N := 1) (cs := #[.int .u16 a0_0, .int .u8 a0_1, .int .u8 a0_2, .int .u32 a0_3]) (t := 45) ?_; intro gb563 hg w3 hbox hb; have GE563 := geN HB hg; have BK563 := aa.mk hbox; replace HB := di HB hb; clear hb hbox hg; obtain ⟨_, _, _, _, _, _, _, _⟩ := cz4 BK563)
    repeat (go_quiet (first | ((with_reducible refine aT (N := 1) rfl ?_); refine dW (N := 1) (cs := #[.int .u16 a0_0, .int .u8 a0_1, .int .u8 a0_2, .int .u32 a0_3]) (t := 45) ?_; intro gb563 hg w3 hbox hb; have GE563 := geN HB hg; have BK563 := aa.mk hbox; replace HB := di HB hb; clear hb hbox hg; obtain ⟨_, _, _, _, _, _, _, _⟩ := cz4 BK563)); try go_wp2_with ((with_reducible refine aT (N := 1) rfl ?_); refine dW (N := 1) (cs := #[.int .u16 a0_0, .int .u8 a0_1, .int .u8 a0_2, .int .u32 a0_3]) (t := 45) ?_; intro gb563 hg w3 hbox hb; have GE563 := geN HB hg; have BK563 := aa.mk hbox; replace HB := di HB hb; clear hb hbox hg; obtain ⟨_, _, _, _, _, _, _, _⟩ := cz4 BK563))
    go_ret3
    exact ⟨dB, bE⟩
 iterate 2
  replace H := bO H
  obtain ⟨H, -, _, _⟩ | ⟨H, c8, _, _⟩ := H
  · obtain ⟨rfl, rfl, rfl⟩ := so3 H
    go_enter Try.func131, Try.ntmps131
    go_wp2_with ((with_reducible refine aT (N := 1) rfl ?_); refine dW (N := 1) (cs := #[.int .u16 a0_0, .int .u8 a0_1, .int .u8 a0_2, .int .u32 a0_3]) (t := 45) ?_; intro gb563 hg w9 hbox hb; have GE563 := geN HB hg; have BK563 := aa.mk hbox; replace HB := di HB hb; clear hb hbox hg; obtain ⟨_, _, _, _, _, _, _, _⟩ := cz4 BK563)
    repeat (go_quiet (first | ((with_reducible refine aT (N := 1) rfl ?_); refine dW (N := 1) (cs := #[.int .u16 a0_0, .int .u8 a0_1, .int .u8 a0_2, .int .u32 a0_3]) (t := 45) ?_; intro gb563 hg w9 hbox hb; have GE563 := geN HB hg; have BK563 := aa.mk hbox; replace HB := di HB hb; clear hb hbox hg; obtain ⟨_, _, _, _, _, _, _, _⟩ := cz4 BK563)); try go_wp2_with ((with_reducible refine aT (N := 1) rfl ?_); refine dW (N := 1) (cs := #[.int .u16 a0_0, .int .u8 a0_1, .int .u8 a0_2, .int .u32 a0_3]) (t := 45) ?_; intro gb563 hg w9 hbox hb; have GE563 := geN HB hg; have BK563 := aa.mk hbox; replace HB := di HB hb; clear hb hbox hg; obtain ⟨_, _, _, _, _, _, _, _⟩ := cz4 BK563))
    go_ret3
    exact ⟨dB, bE⟩
 iterate 2
  replace H := bO H
  obtain ⟨H, -, _, _⟩ | ⟨H, c14, _, _⟩ := H
  · obtain ⟨rfl, rfl, rfl⟩ := so3 H
    go_enter Try.func131, Try.ntmps131
    go_wp2_with ((with_reducible refine aT (N := 1) rfl ?_); refine dW (N := 1) (cs := #[.int .u16 a0_0, .int .u8 a0_1, .int .u8 a0_2, .int .u32 a0_3]) (t := 45) ?_; intro gb563 hg w15 hbox hb; have GE563 := geN HB hg; have BK563 := aa.mk hbox; replace HB := di HB hb; clear hb hbox hg; obtain ⟨_, _, _, _, _, _, _, _⟩ := cz4 BK563)
    repeat (go_quiet (first | ((with_reducible refine aT (N := 1) rfl ?_); refine dW (N := 1) (cs := #[.int .u16 a0_0, .int .u8 a0_1, .int .u8 a0_2, .int .u32 a0_3]) (t := 45) ?_; intro gb563 hg w15 hbox hb; have GE563 := geN HB hg; have BK563 := aa.mk hbox; replace HB := di HB hb; clear hb hbox hg; obtain ⟨_, _, _, _, _, _, _, _⟩ := cz4 BK563)); try go_wp2_with ((with_reducible refine aT (N := 1) rfl ?_); refine dW (N := 1) (cs := #[.int .u16 a0_0, .int .u8 a0_1, .int .u8 a0_2, .int .u32 a0_3]) (t := 45) ?_; intro gb563 hg w15 hbox hb; have GE563 := geN HB hg; have BK563 := aa.mk hbox; replace HB := di HB hb; clear hb hbox hg; obtain ⟨_, _, _, _, _, _, _, _⟩ := cz4 BK563))
    go_ret3
    exact ⟨dB, bE⟩
 obtain ⟨rfl, rfl, rfl⟩ := so3 H
 go_enter Try.func131, Try.ntmps131
 go_wp2_with ((with_reducible refine aT (N := 1) rfl ?_); refine dW (N := 1) (cs := #[.int .u16 a0_0, .int .u8 a0_1, .int .u8 a0_2, .int .u32 a0_3]) (t := 45) ?_; intro gb563 hg w20 hbox hb; have GE563 := geN HB hg; have BK563 := aa.mk hbox; replace HB := di HB hb; clear hb hbox hg; obtain ⟨_, _, _, _, _, _, _, _⟩ := cz4 BK563)
 repeat (go_quiet (first | ((with_reducible refine aT (N := 1) rfl ?_); refine dW (N := 1) (cs := #[.int .u16 a0_0, .int .u8 a0_1, .int .u8 a0_2, .int .u32 a0_3]) (t := 45) ?_; intro gb563 hg w20 hbox hb; have GE563 := geN HB hg; have BK563 := aa.mk hbox; replace HB := di HB hb; clear hb hbox hg; obtain ⟨_, _, _, _, _, _, _, _⟩ := cz4 BK563)); try go_wp2_with ((with_reducible refine aT (N := 1) rfl ?_); refine dW (N := 1) (cs := #[.int .u16 a0_0, .int .u8 a0_1, .int .u8 a0_2, .int .u32 a0_3]) (t := 45) ?_; intro gb563 hg w20 hbox hb; have GE563 := geN HB hg; have BK563 := aa.mk hbox; replace HB := di HB hb; clear hb hbox hg; obtain ⟨_, _, _, _, _, _, _, _⟩ := cz4 BK563))
 go_ret3
 exact ⟨dB, bE⟩
def dD.j0 : Nat → Int → Bool → Int → Int → Int → Int → Option (Int)
 | 0, _, _, _, _, _, _ => none
 | k + 1, x5, x8, x565000, x565001, x565002, x565003 => if x8 = true then (some (wrap64 (2 + (wrap64 (x565003))))) else (if x5 = 7 then (if x565000 = 7 then (some 1) else (some 0)) else (some 0))
def dD.f (k : Nat) (a0_0 : Int) (a0_1 : Int) (a0_2 : Int) (a0_3 : Int) : Option (Int) := (aD.f k a0_0).bind fun t565 => (if t565 = 1 then (some 1) else (if t565 = 2 then (dD.j0 k t565 (t565 == 2) a0_0 a0_1 a0_2 a0_3) else (dD.j0 k t565 (t565 == 3) a0_0 a0_1 a0_2 a0_3)))
theorem dD.calls (k : Nat) (a0_0 : Int) (a0_1 : Int) (a0_2 : Int) (a0_3 : Int) (r : Int) (w : World) (h : dD.f k a0_0 a0_1 a0_2 a0_3 = some r) :
 Calls Try.prog 133 #[.agg #[.int .u16 a0_0, .int .u8 a0_1, .int .u8 a0_2, .int .u32 a0_3]] w fun e w' => e = .returned (.int .i64 r) ∧ Below w.heap.size w w' := by
 have hu45 := Try.underlying45
 have HB := aa.mk (Below.refl w.heap.size w)
 have H : ((aD.f k a0_0).bind fun t565 => (if t565 = 1 then (some 1) else (if t565 = 2 then (dD.j0 k t565 (t565 == 2) a0_0 a0_1 a0_2 a0_3) else (dD.j0 k t565 (t565 == 3) a0_0 a0_1 a0_2 a0_3)))) = some r := h
 clear h
 replace H := bnd H
 obtain ⟨t565, A2, H⟩ := H
 replace H := bO H
 obtain ⟨H, -, _, _⟩ | ⟨H, c3, _, _⟩ := H
 · cases H
   go_enter Try.func133, Try.ntmps133
   go_wp2_with (first | ((with_reducible refine aT (N := 1) rfl ?_); refine dW (N := 1) (cs := #[.int .u16 a0_0, .int .u8 a0_1, .int .u8 a0_2, .int .u32 a0_3]) (t := 45) ?_; intro gb564 hg w4 hbox hb; have GE564 := geN HB hg; have BK564 := aa.mk hbox; replace HB := di HB hb; clear hb hbox hg; obtain ⟨_, _, _, _, _, _, _, _⟩ := cz4 BK564) | (go_at_call 99; (with_reducible refine (aD.calls _ _ _ _ A2.out).mono ?_); rintro e w' ⟨rfl, ⟨nd, rfl⟩⟩))
   go_ret
   exact ⟨dB, bE⟩
 have HC6 := aa.mk H
 clear H
 go_enter Try.func133, Try.ntmps133
 go_upto_if 8 with (first | ((with_reducible refine aT (N := 1) rfl ?_); refine dW (N := 1) (cs := #[.int .u16 a0_0, .int .u8 a0_1, .int .u8 a0_2, .int .u32 a0_3]) (t := 45) ?_; intro gb564 hg w7 hbox hb; have GE564 := geN HB hg; have BK564 := aa.mk hbox; replace HB := di HB hb; clear hb hbox hg; obtain ⟨_, _, _, _, _, _, _, _⟩ := cz4 BK564) | (go_at_call 99; (with_reducible refine (aD.calls _ _ _ _ A2.out).mono ?_); rintro e w' ⟨rfl, ⟨nd, rfl⟩⟩))
 (try simp only [Act.put, List.setIfInBounds_toArray, List.set_cons_zero, List.set_cons_succ])
 go_cut [8] (fun v8 wc => ∃ (kq : Nat) (x8_5 : Bool), v8 = .bool x8_5 ∧ aa (dD.j0 kq t565 x8_5 a0_0 a0_1 a0_2 a0_3 = some r) ∧ aa (kq ≤ k) ∧ aa (wc.heap[gb564]? = some (.cells #[.int .u16 a0_0, .int .u8 a0_1, .int .u8 a0_2, .int .u32 a0_3] 45 (0, 0))) ∧ aa (Below w.heap.size w wc))
 case first =>
  have H := HC6.out
  clear HC6
  replace H := bO H
  obtain ⟨H, -, c9b0, _⟩ | ⟨H, c9, c9b0, _⟩ := H
  · (first | rw [c9b0] | (simp only [dH, dG]; rw [c9b0]) | skip)
    replace H := aa.mk H
    go_wp2
    go_meet
    case rel => exact ⟨_, _, aZ, H, ⟨le0⟩, ⟨iV⟩, ⟨bE⟩⟩
  (first | rw [c9b0] | (simp only [dH, dG]; rw [c9b0]) | skip)
  replace H := aa.mk H
  go_wp2
  go_meet
  case rel => exact ⟨_, _, aZ, H, ⟨le0⟩, ⟨iV⟩, ⟨bE⟩⟩
 case rest =>
  clear HC6
  obtain ⟨kq, x8_5, rfl, HA, HJ5, BK564, HB⟩ := hcut
  cases kq with
  | zero => exact absurd HA.out (by simp [dD.j0])
  | succ kj5 =>
   have H := HA.out
   clear HA
   simp only [dD.j0] at H
   by_cases c10 : x8_5 = true
   · subst c10
     have H1 : (some (wrap64 (2 + (wrap64 (a0_3))))) = some r := by rw [if_pos rfl] at H; exact H
     clear H
     have H := H1
     clear H1
     cases H
     obtain ⟨_, _, _, _, _, _, _, _⟩ := cz4 BK564
     go_wp2
     go_ret
     exact ⟨dB, bE⟩
   replace c10 := Bool.eq_false_iff.mpr c10
   subst c10
   have H1 : (if t565 = 7 then (if a0_0 = 7 then (some 1) else (some 0)) else (some 0)) = some r := by rw [if_neg (show ¬ (false = true) by decide)] at H; exact H
   clear H
   have H := H1
   clear H1
   replace H := bO H
   obtain ⟨H, -, _, _⟩ | ⟨H, c12, _, _⟩ := H
   · replace H := bO H
     obtain ⟨H, -, _, _⟩ | ⟨H, c13, _, _⟩ := H
     · cases H
       obtain ⟨_, _, _, _, _, _, _, _⟩ := cz4 BK564
       go_wp2
       go_ret
       exact ⟨dB, bE⟩
     cases H
     obtain ⟨_, _, _, _, _, _, _, _⟩ := cz4 BK564
     go_wp2
     go_ret
     exact ⟨dB, bE⟩
   cases H
   go_wp2
   go_ret
   exact ⟨dB, bE⟩
end Go.Proofs.Ytdkalnkplgfgoaa.PA
namespace Go.Proofs.Ytdkalnkplgfgoaa.Ln
open Go.RowKit Go.Maps Go.Proofs.YtdkalnkplgfgoaaW.PrintWords Go.Proofs.YtdkalnkplgfgoaaW.PrintLast Go.Proofs.YtdkalnkplgfgoaaW.PrintMore Go.Proofs.Ytdkalnkplgfgoaa.PA
theorem Bb (k : Nat) (c : Int) : PA.aD.f k c = aD.f k c := rfl
theorem andN_K : ∀ c ∈ eQ, Go.bits .andNot .u16 c 8 = c := by decide +kernel
theorem tN {c a k : Int} (hc : c ∈ eQ) (hk : 0 ≤ k) (h52 : (c = 52 ∨ c = 148) → k ≠ 0) (h31 : (c = 100 ∨ c = 116) → k ≤ 31) : PA.bK.f c a k = some ((opP c a k).1, true) := by
 have hb := andN_K c hc
 unfold PA.bK.f
 rw [hb]
 simp only [eQ, List.mem_cons, List.not_mem_nil, or_false] at hc
 rcases hc with rfl | rfl | rfl | rfl | rfl | rfl | rfl | rfl | rfl | rfl
 · rfl
 · rfl
 · rfl
 · rw [AU, if_neg (h52 (.inl rfl)), if_neg (by decide), if_neg (by decide), if_neg (by decide), if_neg (by decide), if_neg (by decide), if_neg (by decide), if_neg (by decide), if_neg (by decide), if_neg (h52 (.inl rfl))]; rfl
 · rfl
 · rfl
 · have := h31 (.inl rfl)
   rw [rV hk, if_neg (show ¬ k > 31 by omega), if_neg (by decide), if_neg (by decide), if_neg (by decide), if_neg (by decide), if_neg (by decide), if_neg (by decide), if_pos rfl, if_pos hk]
 · have := h31 (.inr rfl)
   rw [rW hk, if_neg (show ¬ k > 31 by omega), if_neg (by decide), if_neg (by decide), if_neg (by decide), if_neg (by decide), if_neg (by decide), if_neg (by decide), if_neg (by decide), if_pos rfl, if_pos hk]
 · rw [AR, if_neg (h52 (.inr rfl)), if_neg (by decide), if_neg (by decide), if_neg (by decide), if_neg (by decide), if_neg (by decide), if_neg (by decide), if_neg (by decide), if_neg (by decide), if_neg (h52 (.inr rfl))]; rfl
 rfl
theorem holds_f {c a k : Int} (hc : jmB c = true) (hx : c ∉ tX) : PA.gZ.f c a k = some (hoK c a k) := by
 have hm : c ∈ ([21, 29, 37, 45, 53, 61, 69, 77] : List Int) := of_decide_eq_true hc
 simp only [tX, List.mem_cons, List.not_mem_nil, or_false] at hm hx
 have H : c ∈ ([21, 37, 53, 69] : List Int) := by simp only [List.mem_cons, List.not_mem_nil, or_false]; omega
 have G : ∀ c ∈ ([21, 37, 53, 69] : List Int), Go.bits .andNot .u16 c 8 = c := by decide +kernel
 unfold PA.gZ.f hoK
 rw [G c H]
 by_cases h1 : c = 21
 · rw [if_pos h1, if_pos h1]
 rw [if_neg h1, if_neg h1]
 by_cases h2 : c = 37
 · rw [if_pos h2, if_pos h2]
 rw [if_neg h2, if_neg h2]
 by_cases h3 : c = 53
 · rw [if_pos h3, if_pos h3]
 rw [if_neg h3, if_neg h3]
theorem uj : ∀ c ∈ stL, (aN c = 0 ↔ c ∈ ([0, 32, 40, 48, 64, 72, 80, 96, 128] : List Int)) ∧ (aN c = 1 ↔ c ∈ ([1, 97, 129, 177] : List Int)) ∧ (aN c = 2 ↔ c = 2) ∧ (aN c = 3 ↔ c = 3) ∧ (aN c = 4 ↔ c = 132 ∨ c ∈ eQ ∨ c ∈ gB) ∧ aN c ≠ 5 ∧ aN c ≠ 6 ∧ (aN c = 7 ↔ c = 7 ∨ c = 135) ∧ aN c ≠ -1 := by
 decide +kernel
theorem uf {i : S45} (hc : stB i.f0 i.f3 = true) (hk : Rg i.f3) (k : Nat) : PA.dD.f (k + 8) i.f0 i.f1 i.f2 i.f3 = some (wrF i : Int) := by
 obtain ⟨hm, h16, _⟩ := gL hc
 obtain ⟨h0, h1, h2, h3, h4, h5, h6, h7, h8⟩ := uj i.f0 hm
 have hk0 := hk.1
 have hk1 := hk.2
 have e : wrap64 (2 + wrap64 i.f3) = 2 + i.f3 := by rw [w64 (n := i.f3) (by omega) (by omega), w64 (by omega) (by omega)]
 unfold PA.dD.f
 rw [Bb, (gT i.f0 k).1]
 simp only [Option.bind_some]
 have hj : ∀ b : Bool, PA.dD.j0 (k + 7 + 1) (aN i.f0) b i.f0 i.f1 i.f2 i.f3 = if b = true then some (2 + i.f3) else if aN i.f0 = 7 then (if i.f0 = 7 then some 1 else some 0) else some 0 := fun b => by
  rw [PA.dD.j0, e]
 rw [hj, hj]
 unfold wrF
 simp only [List.mem_cons, List.not_mem_nil, or_false] at h1
 by_cases c1 : aN i.f0 = 1
 · rw [if_pos c1, if_pos (by have := h1.1 c1; omega)]; rfl
 rw [if_neg c1]
 have n1 : ¬ (i.f0 = 1 ∨ i.f0 = 97 ∨ i.f0 = 129 ∨ i.f0 = 177) := fun h => c1 (h1.2 h)
 by_cases c2 : aN i.f0 = 2
 · have := h2.1 c2
   rw [if_pos c2, if_pos (beq_iff_eq.mpr c2), if_neg (by omega), if_pos (.inl this)]
   congr 1; omega
 rw [if_neg c2]
 by_cases c3 : aN i.f0 = 3
 · have := h3.1 c3
   rw [if_pos (beq_iff_eq.mpr c3), if_neg (by omega), if_pos (.inr this)]
   congr 1; omega
 rw [if_neg (by simpa using c3)]
 have n2 : i.f0 ≠ 2 := fun h => c2 (h2.2 h)
 have n3 : i.f0 ≠ 3 := fun h => c3 (h3.2 h)
 by_cases c7 : aN i.f0 = 7
 · rw [if_pos c7]
   by_cases q : i.f0 = 7
   · rw [if_pos q, if_pos (by omega)]; rfl
   rw [if_neg q, if_neg (by omega), if_neg (by omega)]; rfl
 have := mt h7.2 c7
 rw [if_neg c7, if_neg (by omega), if_neg (by omega)]; rfl
theorem moves_f {i : S45} (hk : Rg i.f3) : PA.ja.f i.f0 i.f1 i.f2 i.f3 = some (match mvF i with | some (f, t) => ((f : Int), (t : Int), true) | none => (0, 0, false)) := by
 have hk0 := hk.1
 have hk1 := hk.2
 have e : wrap64 (2 + wrap64 i.f3) = ((2 + i.f3.toNat : Nat) : Int) := by rw [w64 (n := i.f3) (by omega) (by omega), w64 (by omega) (by omega)]; omega
 unfold PA.ja.f mvF
 rw [e]
 by_cases c1 : i.f0 = 96
 · rw [if_pos c1, if_pos c1]; rfl
 rw [if_neg c1, if_neg c1]
 by_cases c2 : i.f0 = 97
 · rw [if_pos c2, if_pos c2]; rfl
 rw [if_neg c2, if_neg c2]
 by_cases c3 : i.f0 = 2
 · rw [if_pos c3, if_pos c3]; rfl
 rw [if_neg c3, if_neg c3]
 by_cases c4 : i.f0 = 3
 · rw [if_pos c4, if_pos c4]; rfl
 rw [if_neg c4, if_neg c4]
 by_cases c5 : i.f0 = 7
 · rw [if_pos c5, if_pos c5]; rfl
 rw [if_neg c5, if_neg c5]
 by_cases c6 : i.f0 = 135
 · rw [if_pos c6, if_pos c6]; rfl
 rw [if_neg c6, if_neg c6]
theorem y8 {c K : Int} (hc : stB c K = true) (k : Nat) : ∃ u1 u2, fe.f (k + 8) c = some (u1, u2, decide (c ∈ flL)) := by
 have hm := (gL hc).1
 have hkn : kn c = true := by
  have H : ∀ x ∈ stL, kn x = true := by decide
  exact H c hm
 have H : ∀ x ∈ stL, gY.f x = some (decide (x ∈ flL)) := by decide +kernel
 obtain ⟨⟨u2, u3, e⟩, _⟩ := vv c k
 unfold fe.f at e ⊢
 rw [(lD c k).1, hkn] at e ⊢
 simp only [Option.bind_some, if_true, H c hm] at e ⊢
 obtain ⟨x, hx, e⟩ := Option.bind_eq_some_iff.1 e
 obtain ⟨y, hy, e⟩ := Option.bind_eq_some_iff.1 e
 rw [hx, hy]
 exact ⟨_, _, rfl⟩
def iZ (o : Option Int) : List Value := [.bool o.isSome, .int .u32 (o.getD 0)]
def aC (s : St) : Array Value := (s.flatMap iZ).toArray
theorem zb (s : St) : ∀ i, i < s.length → (s.flatMap iZ)[2 * i]? = some (.bool (gS s i).isSome) ∧ (s.flatMap iZ)[2 * i + 1]? = some (.int .u32 ((gS s i).getD 0)) := by
 induction s with
 | nil => intro i h; cases h
 | cons o r ih =>
  intro i h
  cases i with
  | zero => exact ⟨rfl, rfl⟩
  | succ i =>
   have := ih i (by simpa using h)
   exact this
theorem dm {s : St} {i : Nat} (h : i < s.length) : (aC s)[2 * i]? = some (.bool (gS s i).isSome) := by
 unfold aC; rw [List.getElem?_toArray]; exact (zb s i h).1
theorem gW {s : St} {i : Nat} (h : i < s.length) : (aC s)[2 * i + 1]? = some (.int .u32 ((gS s i).getD 0)) := by
 unfold aC; rw [List.getElem?_toArray]; exact (zb s i h).2
theorem ze (o : Option Int) : ∀ (s : St) (i : Nat), i < s.length → ((s.flatMap iZ).set (2 * i) (.bool o.isSome)).set (2 * i + 1) (.int .u32 (o.getD 0)) = (s.set i o).flatMap iZ := by
 intro s
 induction s with
 | nil => intro i h; cases h
 | cons a r ih =>
  intro i h
  cases i with
  | zero => rfl
  | succ i =>
   have := ih i (by simpa using h)
   show Value.bool a.isSome :: Value.int .u32 (a.getD 0) :: (((r.flatMap iZ).set (2 * i) _).set (2 * i + 1) _) = _
   rw [this]; rfl
theorem sc_set {s : St} {i : Nat} (o : Option Int) (h : i < s.length) : ((aC s).setIfInBounds (2 * i) (.bool o.isSome)).setIfInBounds (2 * i + 1) (.int .u32 (o.getD 0)) = aC (s.set i o) := by
 unfold aC
 rw [List.setIfInBounds_toArray, List.setIfInBounds_toArray, ze o s i h]
theorem size_alloc (w : World) (o : Obj) : (w.alloc o).heap.size = w.heap.size + 1 := by show (w.heap.push o).size = _; exact Array.size_push ..
theorem eZ (w : World) (o1 o2 : Obj) : ((w.alloc o1).alloc o2).heap[w.heap.size + 1]? = some o2 := by
 have := heap_alloc_new (w.alloc o1) o2
 rwa [size_alloc] at this
theorem kY (w : World) (o1 o2 : Obj) : ((w.alloc o1).alloc o2).heap[w.heap.size]? = some o1 := by
 rw [← heap_alloc_new w o1]
 show ((w.heap.push o1).push o2)[w.heap.size]? = (w.heap.push o1)[w.heap.size]?
 rw [Array.getElem?_push, if_neg (by rw [Array.size_push]; omega)]
theorem bX (w : World) (o1 o2 : Obj) : Below w.heap.size w ((w.alloc o1).alloc o2) := ah (ah (Below.refl _ w) _) _
def fw (i : S45) : Value := .agg #[.int .u16 i.f0, .int .u8 i.f1, .int .u8 i.f2, .int .u32 i.f3]
theorem jU {W : World} {g : Nat} {a b c d : Value} {T : TypeId} (h : W.heap[g]? = some (.cells #[a, b, c, d] T (0, 0))) (v0 v1 v2 v3 : Value) :
 ((((W.setCell ⟨g, 0, none⟩ v0).setCell ⟨g, 1, none⟩ v1).setCell ⟨g, 2, none⟩ v2).setCell ⟨g, 3, none⟩ v3).heap[g]? = some (.cells #[v0, v1, v2, v3] T (0, 0)) :=
 aQ (aQ (aQ (aQ h 0 _ rfl) 1 _ rfl) 2 _ rfl) 3 _ rfl
theorem fP {w W : World} {g : Nat} (h : Below w.heap.size w W) (hg : w.heap.size ≤ g) (v0 v1 v2 v3 : Value) :
 Below w.heap.size w ((((W.setCell ⟨g, 0, none⟩ v0).setCell ⟨g, 1, none⟩ v1).setCell ⟨g, 2, none⟩ v2).setCell ⟨g, 3, none⟩ v3) :=
 cZ (cZ (cZ (cZ h hg) hg) hg) hg
theorem alu_n1 (w : World) (gs : Nat) (s : St) (v i1 i2 k : Int) (hS : w.heap[gs]? = some (.cells (aC s) 151 (0, 0))) (hl : s.length = 18) (e0 : gS s 0 = some v) :
 Calls Try.prog 166 #[.pointer (some ⟨gs, 0, none⟩), .agg #[.int .u16 132, .int .u8 i1, .int .u8 i2, .int .u32 k]] w fun e w' => e = .returned (.agg #[.int .u16 0, .int .u8 0, .int .u8 0, .int .u32 (IntKind.u32.wrap (-v))]) ∧ Below w.heap.size w w' := by
 have c0 : _ = some (Value.bool true) := (ae hS 0).trans ((dm (s := s) (i := 0) (by omega)).trans (by rw [e0]; rfl))
 have c1 : _ = some (Value.int .u32 v) := (ae hS 1).trans ((gW (s := s) (i := 0) (by omega)).trans (by rw [e0]; rfl))
 have hlt := av hS
 have HS := aa.mk hS
 clear hS
 go_enter Try.func166, Try.ntmps166
 go_wp2
 refine bodyPost_ret (results_cell_row rfl _ _ (w.heap.size + 1) 45 (#[.int .u16 0, .int .u8 0, .int .u8 0, .int .u32 (IntKind.u32.wrap (-v))]) (0, 0) _ rfl (eZ _ _ _) Try.underlying45 rfl (by kernel_rfl)) rfl ?_
 exact ⟨rfl, bX _ _ _⟩
theorem alu_n0 (w : World) (gs : Nat) (s : St) (i1 i2 k : Int) (hS : w.heap[gs]? = some (.cells (aC s) 151 (0, 0))) (hl : s.length = 18) (e0 : gS s 0 = none) :
 Calls Try.prog 166 #[.pointer (some ⟨gs, 0, none⟩), .agg #[.int .u16 132, .int .u8 i1, .int .u8 i2, .int .u32 k]] w fun e w' => e = .returned (.agg #[.int .u16 132, .int .u8 i1, .int .u8 i2, .int .u32 k]) ∧ Below w.heap.size w w' := by
 have c0 : _ = some (Value.bool false) := (ae hS 0).trans ((dm (s := s) (i := 0) (by omega)).trans (by rw [e0]; rfl))
 have hlt := av hS
 have HS := aa.mk hS
 clear hS
 go_enter Try.func166, Try.ntmps166
 go_wp2
 refine bodyPost_ret (results_cell_row rfl _ _ (w.heap.size + 1) 45 (#[.int .u16 132, .int .u8 i1, .int .u8 i2, .int .u32 k]) (0, 0) _ rfl (eZ _ _ _) Try.underlying45 rfl (by kernel_rfl)) rfl ?_
 exact ⟨rfl, bX _ _ _⟩
theorem alu_k1 (w : World) (gs : Nat) (s : St) (c v r i1 i2 k : Int) (hS : w.heap[gs]? = some (.cells (aC s) 151 (0, 0))) (hl : s.length = 18) (e0 : gS s 0 = some v) (hn : (c == 132) = false) (h8 : (Go.bits .and .u16 c 8 != 0) = false) (hr : PA.bK.f c v k = some (r, true)) :
 Calls Try.prog 166 #[.pointer (some ⟨gs, 0, none⟩), .agg #[.int .u16 c, .int .u8 i1, .int .u8 i2, .int .u32 k]] w fun e w' => e = .returned (.agg #[.int .u16 0, .int .u8 0, .int .u8 0, .int .u32 r]) ∧ Below w.heap.size w w' := by
 have c0 : _ = some (Value.bool true) := (ae hS 0).trans ((dm (s := s) (i := 0) (by omega)).trans (by rw [e0]; rfl))
 have c1 : _ = some (Value.int .u32 v) := (ae hS 1).trans ((gW (s := s) (i := 0) (by omega)).trans (by rw [e0]; rfl))
 have hlt := av hS
 have HS := aa.mk hS
 have HC := fun W => PA.bK.calls c v k r true W hr
 have HC := aa.mk HC
 clear hS hr
 go_enter Try.func166, Try.ntmps166
 go_upto_region 16 with (fail)
 refine forget (fun W => ∃ gi, gi = w.heap.size ∧ Below w.heap.size w W ∧ W.heap[gi]? = some (.cells #[.int .u16 (c), .int .u8 i1, .int .u8 i2, .int .u32 k] 45 (0, 0)) ∧ W.heap[gi + 1]? = some (.cells #[.int .u16 0, .int .u8 0, .int .u8 0, .int .u32 0] 45 (0, 0))) ⟨_, rfl, bX _ _ _, kY _ _ _, eZ _ _ _⟩ ?_
 rintro W ⟨gi, egi, hb, hi, hr⟩
 rw [← egi]
 have x1 := ai hb c1
 have y0 : _ = some (Value.int .u16 (c)) := (ae hi 0).trans rfl
 have y3 : _ = some (Value.int .u32 k) := (ae hi 3).trans rfl
 have HB := aa.mk hb
 have HI := aa.mk hi
 have HR := aa.mk hr
 have EG := aa.mk egi
 clear hb hi hr c0 c1 egi
 go_quiet ((go_at_call 155; exact Calls.quiet_of ((HC.out _).mono fun _ _ ⟨he, ⟨m, hm⟩⟩ => ⟨he, m, hm⟩)))
 obtain ⟨z0, z1, z2, z3, t0, t1, t2, t3⟩ := cz4 ⟨HR.out⟩
 go_wp2
 have hq := aA (Below.refl W.heap.size W) nq
 refine bodyPost_ret (results_cell_row rfl _ _ (gi + 1) 45 (#[.int .u16 0, .int .u8 0, .int .u8 0, .int .u32 r]) (0, 0) _ rfl (jU (ak HR.out hq) _ _ _ _) Try.underlying45 rfl (by kernel_rfl)) rfl ?_
 exact ⟨rfl, fP (ax HB.out hq) (by have := EG.out; omega) _ _ _ _⟩
theorem alu_k84 (w : World) (gs : Nat) (s : St) (i1 i2 k : Int) (hS : w.heap[gs]? = some (.cells (aC s) 151 (0, 0))) (hl : s.length = 18) (e0 : gS s 0 = none) (hk : k = 0) :
 Calls Try.prog 166 #[.pointer (some ⟨gs, 0, none⟩), .agg #[.int .u16 84, .int .u8 i1, .int .u8 i2, .int .u32 k]] w fun e w' => e = .returned (.agg #[.int .u16 0, .int .u8 0, .int .u8 0, .int .u32 0]) ∧ Below w.heap.size w w' := by
 have c0 : _ = some (Value.bool false) := (ae hS 0).trans ((dm (s := s) (i := 0) (by omega)).trans (by rw [e0]; rfl))
 subst hk
 have hlt := av hS
 have HS := aa.mk hS
 clear hS
 go_enter Try.func166, Try.ntmps166
 go_wp2
 refine bodyPost_ret (results_cell_row rfl _ _ (w.heap.size + 1) 45 (#[.int .u16 0, .int .u8 0, .int .u8 0, .int .u32 0]) (0, 0) _ rfl (eZ _ _ _) Try.underlying45 rfl (by kernel_rfl)) rfl ?_
 exact ⟨rfl, bX _ _ _⟩
theorem alu_k36 (w : World) (gs : Nat) (s : St) (i1 i2 k : Int) (hS : w.heap[gs]? = some (.cells (aC s) 151 (0, 0))) (hl : s.length = 18) (e0 : gS s 0 = none) (hk : k = 0) :
 Calls Try.prog 166 #[.pointer (some ⟨gs, 0, none⟩), .agg #[.int .u16 36, .int .u8 i1, .int .u8 i2, .int .u32 k]] w fun e w' => e = .returned (.agg #[.int .u16 0, .int .u8 0, .int .u8 0, .int .u32 0]) ∧ Below w.heap.size w w' := by
 have c0 : _ = some (Value.bool false) := (ae hS 0).trans ((dm (s := s) (i := 0) (by omega)).trans (by rw [e0]; rfl))
 subst hk
 have hlt := av hS
 have HS := aa.mk hS
 clear hS
 go_enter Try.func166, Try.ntmps166
 go_wp2
 refine bodyPost_ret (results_cell_row rfl _ _ (w.heap.size + 1) 45 (#[.int .u16 0, .int .u8 0, .int .u8 0, .int .u32 0]) (0, 0) _ rfl (eZ _ _ _) Try.underlying45 rfl (by kernel_rfl)) rfl ?_
 exact ⟨rfl, bX _ _ _⟩
theorem alu_kz (w : World) (gs : Nat) (s : St) (c i1 i2 k : Int) (hS : w.heap[gs]? = some (.cells (aC s) 151 (0, 0))) (hl : s.length = 18) (e0 : gS s 0 = none) (hn : (c == 132) = false) (h8 : (Go.bits .and .u16 c 8 != 0) = false) (hk : k = 0) (ha : (c == 84) = false) (hm : (c == 36) = false) :
 Calls Try.prog 166 #[.pointer (some ⟨gs, 0, none⟩), .agg #[.int .u16 c, .int .u8 i1, .int .u8 i2, .int .u32 k]] w fun e w' => e = .returned (.agg #[.int .u16 c, .int .u8 i1, .int .u8 i2, .int .u32 0]) ∧ Below w.heap.size w w' := by
 have c0 : _ = some (Value.bool false) := (ae hS 0).trans ((dm (s := s) (i := 0) (by omega)).trans (by rw [e0]; rfl))
 subst hk
 have hlt := av hS
 have HS := aa.mk hS
 clear hS
 go_enter Try.func166, Try.ntmps166
 go_wp2
 refine bodyPost_ret (results_cell_row rfl _ _ (w.heap.size + 1) 45 (#[.int .u16 c, .int .u8 i1, .int .u8 i2, .int .u32 0]) (0, 0) _ rfl (eZ _ _ _) Try.underlying45 rfl (by kernel_rfl)) rfl ?_
 exact ⟨rfl, bX _ _ _⟩
theorem alu_kn (w : World) (gs : Nat) (s : St) (c i1 i2 k : Int) (hS : w.heap[gs]? = some (.cells (aC s) 151 (0, 0))) (hl : s.length = 18) (e0 : gS s 0 = none) (hn : (c == 132) = false) (h8 : (Go.bits .and .u16 c 8 != 0) = false) (hk : (k == 0) = false) :
 Calls Try.prog 166 #[.pointer (some ⟨gs, 0, none⟩), .agg #[.int .u16 c, .int .u8 i1, .int .u8 i2, .int .u32 k]] w fun e w' => e = .returned (.agg #[.int .u16 c, .int .u8 i1, .int .u8 i2, .int .u32 k]) ∧ Below w.heap.size w w' := by
 have c0 : _ = some (Value.bool false) := (ae hS 0).trans ((dm (s := s) (i := 0) (by omega)).trans (by rw [e0]; rfl))
 have hlt := av hS
 have HS := aa.mk hS
 clear hS
 go_enter Try.func166, Try.ntmps166
 go_wp2
 refine bodyPost_ret (results_cell_row rfl _ _ (w.heap.size + 1) 45 (#[.int .u16 c, .int .u8 i1, .int .u8 i2, .int .u32 k]) (0, 0) _ rfl (eZ _ _ _) Try.underlying45 rfl (by kernel_rfl)) rfl ?_
 exact ⟨rfl, bX _ _ _⟩
theorem alu_x0 (w : World) (gs : Nat) (s : St) (c i1 i2 k : Int) (hS : w.heap[gs]? = some (.cells (aC s) 151 (0, 0))) (hl : s.length = 18) (e1 : gS s 1 = none) (hn : (c == 132) = false) (h8 : (Go.bits .and .u16 c 8 != 0) = true) :
 Calls Try.prog 166 #[.pointer (some ⟨gs, 0, none⟩), .agg #[.int .u16 c, .int .u8 i1, .int .u8 i2, .int .u32 k]] w fun e w' => e = .returned (.agg #[.int .u16 c, .int .u8 i1, .int .u8 i2, .int .u32 k]) ∧ Below w.heap.size w w' := by
 have c2 : _ = some (Value.bool false) := (ae hS 2).trans ((dm (s := s) (i := 1) (by omega)).trans (by rw [e1]; rfl))
 have hlt := av hS
 have HS := aa.mk hS
 clear hS
 go_enter Try.func166, Try.ntmps166
 go_wp2
 refine bodyPost_ret (results_cell_row rfl _ _ (w.heap.size + 1) 45 (#[.int .u16 c, .int .u8 i1, .int .u8 i2, .int .u32 k]) (0, 0) _ rfl (eZ _ _ _) Try.underlying45 rfl (by kernel_rfl)) rfl ?_
 exact ⟨rfl, bX _ _ _⟩
theorem alu_xf1 (w : World) (gs : Nat) (s : St) (y i1 i2 k : Int) (hS : w.heap[gs]? = some (.cells (aC s) 151 (0, 0))) (hl : s.length = 18) (e1 : gS s 1 = some y) (hy : decide (31 < y) = true) :
 Calls Try.prog 166 #[.pointer (some ⟨gs, 0, none⟩), .agg #[.int .u16 108, .int .u8 i1, .int .u8 i2, .int .u32 k]] w fun e w' => e = .returned (.agg #[.int .u16 0, .int .u8 0, .int .u8 0, .int .u32 0]) ∧ Below w.heap.size w w' := by
 have c2 : _ = some (Value.bool true) := (ae hS 2).trans ((dm (s := s) (i := 1) (by omega)).trans (by rw [e1]; rfl))
 have c3 : _ = some (Value.int .u32 y) := (ae hS 3).trans ((gW (s := s) (i := 1) (by omega)).trans (by rw [e1]; rfl))
 have hlt := av hS
 have HS := aa.mk hS
 clear hS
 go_enter Try.func166, Try.ntmps166
 go_wp2
 refine bodyPost_ret (results_cell_row rfl _ _ (w.heap.size + 1) 45 (#[.int .u16 0, .int .u8 0, .int .u8 0, .int .u32 0]) (0, 0) _ rfl (eZ _ _ _) Try.underlying45 rfl (by kernel_rfl)) rfl ?_
 exact ⟨rfl, bX _ _ _⟩
theorem alu_xf2 (w : World) (gs : Nat) (s : St) (y i1 i2 k : Int) (hS : w.heap[gs]? = some (.cells (aC s) 151 (0, 0))) (hl : s.length = 18) (e1 : gS s 1 = some y) (hy : decide (31 < y) = true) :
 Calls Try.prog 166 #[.pointer (some ⟨gs, 0, none⟩), .agg #[.int .u16 124, .int .u8 i1, .int .u8 i2, .int .u32 k]] w fun e w' => e = .returned (.agg #[.int .u16 0, .int .u8 0, .int .u8 0, .int .u32 0]) ∧ Below w.heap.size w w' := by
 have c2 : _ = some (Value.bool true) := (ae hS 2).trans ((dm (s := s) (i := 1) (by omega)).trans (by rw [e1]; rfl))
 have c3 : _ = some (Value.int .u32 y) := (ae hS 3).trans ((gW (s := s) (i := 1) (by omega)).trans (by rw [e1]; rfl))
 have hlt := av hS
 have HS := aa.mk hS
 clear hS
 go_enter Try.func166, Try.ntmps166
 go_wp2
 refine bodyPost_ret (results_cell_row rfl _ _ (w.heap.size + 1) 45 (#[.int .u16 0, .int .u8 0, .int .u8 0, .int .u32 0]) (0, 0) _ rfl (eZ _ _ _) Try.underlying45 rfl (by kernel_rfl)) rfl ?_
 exact ⟨rfl, bX _ _ _⟩
theorem yh (w : World) (gs : Nat) (s : St) (c v r i1 i2 k : Int) (hS : w.heap[gs]? = some (.cells (aC s) 151 (0, 0))) (hl : s.length = 18) (e0 : gS s 0 = some v) (e1 : gS s 1 = some 0) (hn : (c == 132) = false) (h8 : (Go.bits .and .u16 c 8 != 0) = true) (hs1 : (c == 108) = false) (hs2 : (c == 124) = false) (hd1 : (c == 60) = false) (hd2 : (c == 156) = false) (hr : PA.bK.f (Go.bits .andNot .u16 c 8) v 0 = some (r, true)) :
 Calls Try.prog 166 #[.pointer (some ⟨gs, 0, none⟩), .agg #[.int .u16 c, .int .u8 i1, .int .u8 i2, .int .u32 k]] w fun e w' => e = .returned (.agg #[.int .u16 0, .int .u8 0, .int .u8 0, .int .u32 r]) ∧ Below w.heap.size w w' := by
 have c0 : _ = some (Value.bool true) := (ae hS 0).trans ((dm (s := s) (i := 0) (by omega)).trans (by rw [e0]; rfl))
 have c1 : _ = some (Value.int .u32 v) := (ae hS 1).trans ((gW (s := s) (i := 0) (by omega)).trans (by rw [e0]; rfl))
 have c2 : _ = some (Value.bool true) := (ae hS 2).trans ((dm (s := s) (i := 1) (by omega)).trans (by rw [e1]; rfl))
 have c3 : _ = some (Value.int .u32 0) := (ae hS 3).trans ((gW (s := s) (i := 1) (by omega)).trans (by rw [e1]; rfl))
 have hlt := av hS
 have HS := aa.mk hS
 have HC := fun W => PA.bK.calls (Go.bits .andNot .u16 c 8) v 0 r true W hr
 have HC := aa.mk HC
 clear hS hr
 go_enter Try.func166, Try.ntmps166
 go_upto_region 16 with (fail)
 refine forget (fun W => ∃ gi, gi = w.heap.size ∧ Below w.heap.size w W ∧ W.heap[gi]? = some (.cells #[.int .u16 ((Go.bits .andNot .u16 c 8)), .int .u8 0, .int .u8 0, .int .u32 0] 45 (0, 0)) ∧ W.heap[gi + 1]? = some (.cells #[.int .u16 0, .int .u8 0, .int .u8 0, .int .u32 0] 45 (0, 0))) ⟨_, rfl, bX _ _ _, kY _ _ _, eZ _ _ _⟩ ?_
 rintro W ⟨gi, egi, hb, hi, hr⟩
 rw [← egi]
 have x1 := ai hb c1
 have y0 : _ = some (Value.int .u16 ((Go.bits .andNot .u16 c 8))) := (ae hi 0).trans rfl
 have y3 : _ = some (Value.int .u32 0) := (ae hi 3).trans rfl
 have HB := aa.mk hb
 have HI := aa.mk hi
 have HR := aa.mk hr
 have EG := aa.mk egi
 clear hb hi hr c0 c1 egi
 go_quiet ((go_at_call 155; exact Calls.quiet_of ((HC.out _).mono fun _ _ ⟨he, ⟨m, hm⟩⟩ => ⟨he, m, hm⟩)))
 obtain ⟨z0, z1, z2, z3, t0, t1, t2, t3⟩ := cz4 ⟨HR.out⟩
 go_wp2
 have hq := aA (Below.refl W.heap.size W) nq
 refine bodyPost_ret (results_cell_row rfl _ _ (gi + 1) 45 (#[.int .u16 0, .int .u8 0, .int .u8 0, .int .u32 r]) (0, 0) _ rfl (jU (ak HR.out hq) _ _ _ _) Try.underlying45 rfl (by kernel_rfl)) rfl ?_
 exact ⟨rfl, fP (ax HB.out hq) (by have := EG.out; omega) _ _ _ _⟩
theorem yc (w : World) (gs : Nat) (s : St) (c i1 i2 k : Int) (hS : w.heap[gs]? = some (.cells (aC s) 151 (0, 0))) (hl : s.length = 18) (e0 : gS s 0 = none) (e1 : gS s 1 = some 0) (hn : (c == 132) = false) (h8 : (Go.bits .and .u16 c 8 != 0) = true) (hs1 : (c == 108) = false) (hs2 : (c == 124) = false) (hd1 : (c == 60) = false) (hd2 : (c == 156) = false) (ha : ((Go.bits .andNot .u16 c 8) == 84) = false) (hm : ((Go.bits .andNot .u16 c 8) == 36) = false) :
 Calls Try.prog 166 #[.pointer (some ⟨gs, 0, none⟩), .agg #[.int .u16 c, .int .u8 i1, .int .u8 i2, .int .u32 k]] w fun e w' => e = .returned (.agg #[.int .u16 (Go.bits .andNot .u16 c 8), .int .u8 0, .int .u8 0, .int .u32 0]) ∧ Below w.heap.size w w' := by
 have c0 : _ = some (Value.bool false) := (ae hS 0).trans ((dm (s := s) (i := 0) (by omega)).trans (by rw [e0]; rfl))
 have c2 : _ = some (Value.bool true) := (ae hS 2).trans ((dm (s := s) (i := 1) (by omega)).trans (by rw [e1]; rfl))
 have c3 : _ = some (Value.int .u32 0) := (ae hS 3).trans ((gW (s := s) (i := 1) (by omega)).trans (by rw [e1]; rfl))
 have hlt := av hS
 have HS := aa.mk hS
 clear hS
 go_enter Try.func166, Try.ntmps166
 go_wp2
 refine bodyPost_ret (results_cell_row rfl _ _ (w.heap.size + 1) 45 (#[.int .u16 (Go.bits .andNot .u16 c 8), .int .u8 0, .int .u8 0, .int .u32 0]) (0, 0) _ rfl (eZ _ _ _) Try.underlying45 rfl (by kernel_rfl)) rfl ?_
 exact ⟨rfl, bX _ _ _⟩
theorem yj (w : World) (gs : Nat) (s : St) (c v y r i1 i2 k : Int) (hS : w.heap[gs]? = some (.cells (aC s) 151 (0, 0))) (hl : s.length = 18) (e0 : gS s 0 = some v) (e1 : gS s 1 = some y) (hn : (c == 132) = false) (h8 : (Go.bits .and .u16 c 8 != 0) = true) (hs1 : (c == 108) = false) (hs2 : (c == 124) = false) (hd1 : (c == 60) = false) (hd2 : (c == 156) = false) (hz : (y == 0) = false) (hr : PA.bK.f (Go.bits .andNot .u16 c 8) v y = some (r, true)) :
 Calls Try.prog 166 #[.pointer (some ⟨gs, 0, none⟩), .agg #[.int .u16 c, .int .u8 i1, .int .u8 i2, .int .u32 k]] w fun e w' => e = .returned (.agg #[.int .u16 0, .int .u8 0, .int .u8 0, .int .u32 r]) ∧ Below w.heap.size w w' := by
 have c0 : _ = some (Value.bool true) := (ae hS 0).trans ((dm (s := s) (i := 0) (by omega)).trans (by rw [e0]; rfl))
 have c1 : _ = some (Value.int .u32 v) := (ae hS 1).trans ((gW (s := s) (i := 0) (by omega)).trans (by rw [e0]; rfl))
 have c2 : _ = some (Value.bool true) := (ae hS 2).trans ((dm (s := s) (i := 1) (by omega)).trans (by rw [e1]; rfl))
 have c3 : _ = some (Value.int .u32 y) := (ae hS 3).trans ((gW (s := s) (i := 1) (by omega)).trans (by rw [e1]; rfl))
 have hlt := av hS
 have HS := aa.mk hS
 have HC := fun W => PA.bK.calls (Go.bits .andNot .u16 c 8) v y r true W hr
 have HC := aa.mk HC
 clear hS hr
 go_enter Try.func166, Try.ntmps166
 go_upto_region 16 with (fail)
 refine forget (fun W => ∃ gi, gi = w.heap.size ∧ Below w.heap.size w W ∧ W.heap[gi]? = some (.cells #[.int .u16 ((Go.bits .andNot .u16 c 8)), .int .u8 0, .int .u8 0, .int .u32 y] 45 (0, 0)) ∧ W.heap[gi + 1]? = some (.cells #[.int .u16 0, .int .u8 0, .int .u8 0, .int .u32 0] 45 (0, 0))) ⟨_, rfl, bX _ _ _, kY _ _ _, eZ _ _ _⟩ ?_
 rintro W ⟨gi, egi, hb, hi, hr⟩
 rw [← egi]
 have x1 := ai hb c1
 have y0 : _ = some (Value.int .u16 ((Go.bits .andNot .u16 c 8))) := (ae hi 0).trans rfl
 have y3 : _ = some (Value.int .u32 y) := (ae hi 3).trans rfl
 have HB := aa.mk hb
 have HI := aa.mk hi
 have HR := aa.mk hr
 have EG := aa.mk egi
 clear hb hi hr c0 c1 egi
 go_quiet ((go_at_call 155; exact Calls.quiet_of ((HC.out _).mono fun _ _ ⟨he, ⟨m, hm⟩⟩ => ⟨he, m, hm⟩)))
 obtain ⟨z0, z1, z2, z3, t0, t1, t2, t3⟩ := cz4 ⟨HR.out⟩
 go_wp2
 have hq := aA (Below.refl W.heap.size W) nq
 refine bodyPost_ret (results_cell_row rfl _ _ (gi + 1) 45 (#[.int .u16 0, .int .u8 0, .int .u8 0, .int .u32 r]) (0, 0) _ rfl (jU (ak HR.out hq) _ _ _ _) Try.underlying45 rfl (by kernel_rfl)) rfl ?_
 exact ⟨rfl, fP (ax HB.out hq) (by have := EG.out; omega) _ _ _ _⟩
theorem yg (w : World) (gs : Nat) (s : St) (c y i1 i2 k : Int) (hS : w.heap[gs]? = some (.cells (aC s) 151 (0, 0))) (hl : s.length = 18) (e0 : gS s 0 = none) (e1 : gS s 1 = some y) (hn : (c == 132) = false) (h8 : (Go.bits .and .u16 c 8 != 0) = true) (hs1 : (c == 108) = false) (hs2 : (c == 124) = false) (hd1 : (c == 60) = false) (hd2 : (c == 156) = false) (hz : (y == 0) = false) :
 Calls Try.prog 166 #[.pointer (some ⟨gs, 0, none⟩), .agg #[.int .u16 c, .int .u8 i1, .int .u8 i2, .int .u32 k]] w fun e w' => e = .returned (.agg #[.int .u16 (Go.bits .andNot .u16 c 8), .int .u8 0, .int .u8 0, .int .u32 y]) ∧ Below w.heap.size w w' := by
 have c0 : _ = some (Value.bool false) := (ae hS 0).trans ((dm (s := s) (i := 0) (by omega)).trans (by rw [e0]; rfl))
 have c2 : _ = some (Value.bool true) := (ae hS 2).trans ((dm (s := s) (i := 1) (by omega)).trans (by rw [e1]; rfl))
 have c3 : _ = some (Value.int .u32 y) := (ae hS 3).trans ((gW (s := s) (i := 1) (by omega)).trans (by rw [e1]; rfl))
 have hlt := av hS
 have HS := aa.mk hS
 clear hS
 go_enter Try.func166, Try.ntmps166
 go_wp2
 refine bodyPost_ret (results_cell_row rfl _ _ (w.heap.size + 1) 45 (#[.int .u16 (Go.bits .andNot .u16 c 8), .int .u8 0, .int .u8 0, .int .u32 y]) (0, 0) _ rfl (eZ _ _ _) Try.underlying45 rfl (by kernel_rfl)) rfl ?_
 exact ⟨rfl, bX _ _ _⟩
theorem yu (w : World) (gs : Nat) (s : St) (v r i1 i2 k : Int) (hS : w.heap[gs]? = some (.cells (aC s) 151 (0, 0))) (hl : s.length = 18) (e0 : gS s 0 = some v) (e1 : gS s 1 = some 0) (hy : decide (31 < 0) = false) (hr : PA.bK.f (Go.bits .andNot .u16 108 8) v 0 = some (r, true)) :
 Calls Try.prog 166 #[.pointer (some ⟨gs, 0, none⟩), .agg #[.int .u16 108, .int .u8 i1, .int .u8 i2, .int .u32 k]] w fun e w' => e = .returned (.agg #[.int .u16 0, .int .u8 0, .int .u8 0, .int .u32 r]) ∧ Below w.heap.size w w' := by
 have c0 : _ = some (Value.bool true) := (ae hS 0).trans ((dm (s := s) (i := 0) (by omega)).trans (by rw [e0]; rfl))
 have c1 : _ = some (Value.int .u32 v) := (ae hS 1).trans ((gW (s := s) (i := 0) (by omega)).trans (by rw [e0]; rfl))
 have c2 : _ = some (Value.bool true) := (ae hS 2).trans ((dm (s := s) (i := 1) (by omega)).trans (by rw [e1]; rfl))
 have c3 : _ = some (Value.int .u32 0) := (ae hS 3).trans ((gW (s := s) (i := 1) (by omega)).trans (by rw [e1]; rfl))
 have hlt := av hS
 have HS := aa.mk hS
 have HC := fun W => PA.bK.calls (Go.bits .andNot .u16 108 8) v 0 r true W hr
 have HC := aa.mk HC
 clear hS hr
 go_enter Try.func166, Try.ntmps166
 go_upto_region 16 with (fail)
 refine forget (fun W => ∃ gi, gi = w.heap.size ∧ Below w.heap.size w W ∧ W.heap[gi]? = some (.cells #[.int .u16 ((Go.bits .andNot .u16 108 8)), .int .u8 0, .int .u8 0, .int .u32 0] 45 (0, 0)) ∧ W.heap[gi + 1]? = some (.cells #[.int .u16 0, .int .u8 0, .int .u8 0, .int .u32 0] 45 (0, 0))) ⟨_, rfl, bX _ _ _, kY _ _ _, eZ _ _ _⟩ ?_
 rintro W ⟨gi, egi, hb, hi, hr⟩
 rw [← egi]
 have x1 := ai hb c1
 have y0 : _ = some (Value.int .u16 ((Go.bits .andNot .u16 108 8))) := (ae hi 0).trans rfl
 have y3 : _ = some (Value.int .u32 0) := (ae hi 3).trans rfl
 have HB := aa.mk hb
 have HI := aa.mk hi
 have HR := aa.mk hr
 have EG := aa.mk egi
 clear hb hi hr c0 c1 egi
 go_quiet ((go_at_call 155; exact Calls.quiet_of ((HC.out _).mono fun _ _ ⟨he, ⟨m, hm⟩⟩ => ⟨he, m, hm⟩)))
 obtain ⟨z0, z1, z2, z3, t0, t1, t2, t3⟩ := cz4 ⟨HR.out⟩
 go_wp2
 have hq := aA (Below.refl W.heap.size W) nq
 refine bodyPost_ret (results_cell_row rfl _ _ (gi + 1) 45 (#[.int .u16 0, .int .u8 0, .int .u8 0, .int .u32 r]) (0, 0) _ rfl (jU (ak HR.out hq) _ _ _ _) Try.underlying45 rfl (by kernel_rfl)) rfl ?_
 exact ⟨rfl, fP (ax HB.out hq) (by have := EG.out; omega) _ _ _ _⟩
theorem yo (w : World) (gs : Nat) (s : St) (i1 i2 k : Int) (hS : w.heap[gs]? = some (.cells (aC s) 151 (0, 0))) (hl : s.length = 18) (e0 : gS s 0 = none) (e1 : gS s 1 = some 0) (hy : decide (31 < 0) = false) :
 Calls Try.prog 166 #[.pointer (some ⟨gs, 0, none⟩), .agg #[.int .u16 108, .int .u8 i1, .int .u8 i2, .int .u32 k]] w fun e w' => e = .returned (.agg #[.int .u16 (Go.bits .andNot .u16 108 8), .int .u8 0, .int .u8 0, .int .u32 0]) ∧ Below w.heap.size w w' := by
 have c0 : _ = some (Value.bool false) := (ae hS 0).trans ((dm (s := s) (i := 0) (by omega)).trans (by rw [e0]; rfl))
 have c2 : _ = some (Value.bool true) := (ae hS 2).trans ((dm (s := s) (i := 1) (by omega)).trans (by rw [e1]; rfl))
 have c3 : _ = some (Value.int .u32 0) := (ae hS 3).trans ((gW (s := s) (i := 1) (by omega)).trans (by rw [e1]; rfl))
 have hlt := av hS
 have HS := aa.mk hS
 clear hS
 go_enter Try.func166, Try.ntmps166
 go_wp2
 refine bodyPost_ret (results_cell_row rfl _ _ (w.heap.size + 1) 45 (#[.int .u16 (Go.bits .andNot .u16 108 8), .int .u8 0, .int .u8 0, .int .u32 0]) (0, 0) _ rfl (eZ _ _ _) Try.underlying45 rfl (by kernel_rfl)) rfl ?_
 exact ⟨rfl, bX _ _ _⟩
theorem yw (w : World) (gs : Nat) (s : St) (v y r i1 i2 k : Int) (hS : w.heap[gs]? = some (.cells (aC s) 151 (0, 0))) (hl : s.length = 18) (e0 : gS s 0 = some v) (e1 : gS s 1 = some y) (hy : decide (31 < y) = false) (hz : (y == 0) = false) (hr : PA.bK.f (Go.bits .andNot .u16 108 8) v y = some (r, true)) :
 Calls Try.prog 166 #[.pointer (some ⟨gs, 0, none⟩), .agg #[.int .u16 108, .int .u8 i1, .int .u8 i2, .int .u32 k]] w fun e w' => e = .returned (.agg #[.int .u16 0, .int .u8 0, .int .u8 0, .int .u32 r]) ∧ Below w.heap.size w w' := by
 have c0 : _ = some (Value.bool true) := (ae hS 0).trans ((dm (s := s) (i := 0) (by omega)).trans (by rw [e0]; rfl))
 have c1 : _ = some (Value.int .u32 v) := (ae hS 1).trans ((gW (s := s) (i := 0) (by omega)).trans (by rw [e0]; rfl))
 have c2 : _ = some (Value.bool true) := (ae hS 2).trans ((dm (s := s) (i := 1) (by omega)).trans (by rw [e1]; rfl))
 have c3 : _ = some (Value.int .u32 y) := (ae hS 3).trans ((gW (s := s) (i := 1) (by omega)).trans (by rw [e1]; rfl))
 have hlt := av hS
 have HS := aa.mk hS
 have HC := fun W => PA.bK.calls (Go.bits .andNot .u16 108 8) v y r true W hr
 have HC := aa.mk HC
 clear hS hr
 go_enter Try.func166, Try.ntmps166
 go_upto_region 16 with (fail)
 refine forget (fun W => ∃ gi, gi = w.heap.size ∧ Below w.heap.size w W ∧ W.heap[gi]? = some (.cells #[.int .u16 ((Go.bits .andNot .u16 108 8)), .int .u8 0, .int .u8 0, .int .u32 y] 45 (0, 0)) ∧ W.heap[gi + 1]? = some (.cells #[.int .u16 0, .int .u8 0, .int .u8 0, .int .u32 0] 45 (0, 0))) ⟨_, rfl, bX _ _ _, kY _ _ _, eZ _ _ _⟩ ?_
 rintro W ⟨gi, egi, hb, hi, hr⟩
 rw [← egi]
 have x1 := ai hb c1
 have y0 : _ = some (Value.int .u16 ((Go.bits .andNot .u16 108 8))) := (ae hi 0).trans rfl
 have y3 : _ = some (Value.int .u32 y) := (ae hi 3).trans rfl
 have HB := aa.mk hb
 have HI := aa.mk hi
 have HR := aa.mk hr
 have EG := aa.mk egi
 clear hb hi hr c0 c1 egi
 go_quiet ((go_at_call 155; exact Calls.quiet_of ((HC.out _).mono fun _ _ ⟨he, ⟨m, hm⟩⟩ => ⟨he, m, hm⟩)))
 obtain ⟨z0, z1, z2, z3, t0, t1, t2, t3⟩ := cz4 ⟨HR.out⟩
 go_wp2
 have hq := aA (Below.refl W.heap.size W) nq
 refine bodyPost_ret (results_cell_row rfl _ _ (gi + 1) 45 (#[.int .u16 0, .int .u8 0, .int .u8 0, .int .u32 r]) (0, 0) _ rfl (jU (ak HR.out hq) _ _ _ _) Try.underlying45 rfl (by kernel_rfl)) rfl ?_
 exact ⟨rfl, fP (ax HB.out hq) (by have := EG.out; omega) _ _ _ _⟩
theorem yt (w : World) (gs : Nat) (s : St) (y i1 i2 k : Int) (hS : w.heap[gs]? = some (.cells (aC s) 151 (0, 0))) (hl : s.length = 18) (e0 : gS s 0 = none) (e1 : gS s 1 = some y) (hy : decide (31 < y) = false) (hz : (y == 0) = false) :
 Calls Try.prog 166 #[.pointer (some ⟨gs, 0, none⟩), .agg #[.int .u16 108, .int .u8 i1, .int .u8 i2, .int .u32 k]] w fun e w' => e = .returned (.agg #[.int .u16 (Go.bits .andNot .u16 108 8), .int .u8 0, .int .u8 0, .int .u32 y]) ∧ Below w.heap.size w w' := by
 have c0 : _ = some (Value.bool false) := (ae hS 0).trans ((dm (s := s) (i := 0) (by omega)).trans (by rw [e0]; rfl))
 have c2 : _ = some (Value.bool true) := (ae hS 2).trans ((dm (s := s) (i := 1) (by omega)).trans (by rw [e1]; rfl))
 have c3 : _ = some (Value.int .u32 y) := (ae hS 3).trans ((gW (s := s) (i := 1) (by omega)).trans (by rw [e1]; rfl))
 have hlt := av hS
 have HS := aa.mk hS
 clear hS
 go_enter Try.func166, Try.ntmps166
 go_wp2
 refine bodyPost_ret (results_cell_row rfl _ _ (w.heap.size + 1) 45 (#[.int .u16 (Go.bits .andNot .u16 108 8), .int .u8 0, .int .u8 0, .int .u32 y]) (0, 0) _ rfl (eZ _ _ _) Try.underlying45 rfl (by kernel_rfl)) rfl ?_
 exact ⟨rfl, bX _ _ _⟩
theorem yA (w : World) (gs : Nat) (s : St) (v r i1 i2 k : Int) (hS : w.heap[gs]? = some (.cells (aC s) 151 (0, 0))) (hl : s.length = 18) (e0 : gS s 0 = some v) (e1 : gS s 1 = some 0) (hy : decide (31 < 0) = false) (hr : PA.bK.f (Go.bits .andNot .u16 124 8) v 0 = some (r, true)) :
 Calls Try.prog 166 #[.pointer (some ⟨gs, 0, none⟩), .agg #[.int .u16 124, .int .u8 i1, .int .u8 i2, .int .u32 k]] w fun e w' => e = .returned (.agg #[.int .u16 0, .int .u8 0, .int .u8 0, .int .u32 r]) ∧ Below w.heap.size w w' := by
 have c0 : _ = some (Value.bool true) := (ae hS 0).trans ((dm (s := s) (i := 0) (by omega)).trans (by rw [e0]; rfl))
 have c1 : _ = some (Value.int .u32 v) := (ae hS 1).trans ((gW (s := s) (i := 0) (by omega)).trans (by rw [e0]; rfl))
 have c2 : _ = some (Value.bool true) := (ae hS 2).trans ((dm (s := s) (i := 1) (by omega)).trans (by rw [e1]; rfl))
 have c3 : _ = some (Value.int .u32 0) := (ae hS 3).trans ((gW (s := s) (i := 1) (by omega)).trans (by rw [e1]; rfl))
 have hlt := av hS
 have HS := aa.mk hS
 have HC := fun W => PA.bK.calls (Go.bits .andNot .u16 124 8) v 0 r true W hr
 have HC := aa.mk HC
 clear hS hr
 go_enter Try.func166, Try.ntmps166
 go_upto_region 16 with (fail)
 refine forget (fun W => ∃ gi, gi = w.heap.size ∧ Below w.heap.size w W ∧ W.heap[gi]? = some (.cells #[.int .u16 ((Go.bits .andNot .u16 124 8)), .int .u8 0, .int .u8 0, .int .u32 0] 45 (0, 0)) ∧ W.heap[gi + 1]? = some (.cells #[.int .u16 0, .int .u8 0, .int .u8 0, .int .u32 0] 45 (0, 0))) ⟨_, rfl, bX _ _ _, kY _ _ _, eZ _ _ _⟩ ?_
 rintro W ⟨gi, egi, hb, hi, hr⟩
 rw [← egi]
 have x1 := ai hb c1
 have y0 : _ = some (Value.int .u16 ((Go.bits .andNot .u16 124 8))) := (ae hi 0).trans rfl
 have y3 : _ = some (Value.int .u32 0) := (ae hi 3).trans rfl
 have HB := aa.mk hb
 have HI := aa.mk hi
 have HR := aa.mk hr
 have EG := aa.mk egi
 clear hb hi hr c0 c1 egi
 go_quiet ((go_at_call 155; exact Calls.quiet_of ((HC.out _).mono fun _ _ ⟨he, ⟨m, hm⟩⟩ => ⟨he, m, hm⟩)))
 obtain ⟨z0, z1, z2, z3, t0, t1, t2, t3⟩ := cz4 ⟨HR.out⟩
 go_wp2
 have hq := aA (Below.refl W.heap.size W) nq
 refine bodyPost_ret (results_cell_row rfl _ _ (gi + 1) 45 (#[.int .u16 0, .int .u8 0, .int .u8 0, .int .u32 r]) (0, 0) _ rfl (jU (ak HR.out hq) _ _ _ _) Try.underlying45 rfl (by kernel_rfl)) rfl ?_
 exact ⟨rfl, fP (ax HB.out hq) (by have := EG.out; omega) _ _ _ _⟩
theorem yx (w : World) (gs : Nat) (s : St) (i1 i2 k : Int) (hS : w.heap[gs]? = some (.cells (aC s) 151 (0, 0))) (hl : s.length = 18) (e0 : gS s 0 = none) (e1 : gS s 1 = some 0) (hy : decide (31 < 0) = false) :
 Calls Try.prog 166 #[.pointer (some ⟨gs, 0, none⟩), .agg #[.int .u16 124, .int .u8 i1, .int .u8 i2, .int .u32 k]] w fun e w' => e = .returned (.agg #[.int .u16 (Go.bits .andNot .u16 124 8), .int .u8 0, .int .u8 0, .int .u32 0]) ∧ Below w.heap.size w w' := by
 have c0 : _ = some (Value.bool false) := (ae hS 0).trans ((dm (s := s) (i := 0) (by omega)).trans (by rw [e0]; rfl))
 have c2 : _ = some (Value.bool true) := (ae hS 2).trans ((dm (s := s) (i := 1) (by omega)).trans (by rw [e1]; rfl))
 have c3 : _ = some (Value.int .u32 0) := (ae hS 3).trans ((gW (s := s) (i := 1) (by omega)).trans (by rw [e1]; rfl))
 have hlt := av hS
 have HS := aa.mk hS
 clear hS
 go_enter Try.func166, Try.ntmps166
 go_wp2
 refine bodyPost_ret (results_cell_row rfl _ _ (w.heap.size + 1) 45 (#[.int .u16 (Go.bits .andNot .u16 124 8), .int .u8 0, .int .u8 0, .int .u32 0]) (0, 0) _ rfl (eZ _ _ _) Try.underlying45 rfl (by kernel_rfl)) rfl ?_
 exact ⟨rfl, bX _ _ _⟩
theorem yB (w : World) (gs : Nat) (s : St) (v y r i1 i2 k : Int) (hS : w.heap[gs]? = some (.cells (aC s) 151 (0, 0))) (hl : s.length = 18) (e0 : gS s 0 = some v) (e1 : gS s 1 = some y) (hy : decide (31 < y) = false) (hz : (y == 0) = false) (hr : PA.bK.f (Go.bits .andNot .u16 124 8) v y = some (r, true)) :
 Calls Try.prog 166 #[.pointer (some ⟨gs, 0, none⟩), .agg #[.int .u16 124, .int .u8 i1, .int .u8 i2, .int .u32 k]] w fun e w' => e = .returned (.agg #[.int .u16 0, .int .u8 0, .int .u8 0, .int .u32 r]) ∧ Below w.heap.size w w' := by
 have c0 : _ = some (Value.bool true) := (ae hS 0).trans ((dm (s := s) (i := 0) (by omega)).trans (by rw [e0]; rfl))
 have c1 : _ = some (Value.int .u32 v) := (ae hS 1).trans ((gW (s := s) (i := 0) (by omega)).trans (by rw [e0]; rfl))
 have c2 : _ = some (Value.bool true) := (ae hS 2).trans ((dm (s := s) (i := 1) (by omega)).trans (by rw [e1]; rfl))
 have c3 : _ = some (Value.int .u32 y) := (ae hS 3).trans ((gW (s := s) (i := 1) (by omega)).trans (by rw [e1]; rfl))
 have hlt := av hS
 have HS := aa.mk hS
 have HC := fun W => PA.bK.calls (Go.bits .andNot .u16 124 8) v y r true W hr
 have HC := aa.mk HC
 clear hS hr
 go_enter Try.func166, Try.ntmps166
 go_upto_region 16 with (fail)
 refine forget (fun W => ∃ gi, gi = w.heap.size ∧ Below w.heap.size w W ∧ W.heap[gi]? = some (.cells #[.int .u16 ((Go.bits .andNot .u16 124 8)), .int .u8 0, .int .u8 0, .int .u32 y] 45 (0, 0)) ∧ W.heap[gi + 1]? = some (.cells #[.int .u16 0, .int .u8 0, .int .u8 0, .int .u32 0] 45 (0, 0))) ⟨_, rfl, bX _ _ _, kY _ _ _, eZ _ _ _⟩ ?_
 rintro W ⟨gi, egi, hb, hi, hr⟩
 rw [← egi]
 have x1 := ai hb c1
 have y0 : _ = some (Value.int .u16 ((Go.bits .andNot .u16 124 8))) := (ae hi 0).trans rfl
 have y3 : _ = some (Value.int .u32 y) := (ae hi 3).trans rfl
 have HB := aa.mk hb
 have HI := aa.mk hi
 have HR := aa.mk hr
 have EG := aa.mk egi
 clear hb hi hr c0 c1 egi
 go_quiet ((go_at_call 155; exact Calls.quiet_of ((HC.out _).mono fun _ _ ⟨he, ⟨m, hm⟩⟩ => ⟨he, m, hm⟩)))
 obtain ⟨z0, z1, z2, z3, t0, t1, t2, t3⟩ := cz4 ⟨HR.out⟩
 go_wp2
 have hq := aA (Below.refl W.heap.size W) nq
 refine bodyPost_ret (results_cell_row rfl _ _ (gi + 1) 45 (#[.int .u16 0, .int .u8 0, .int .u8 0, .int .u32 r]) (0, 0) _ rfl (jU (ak HR.out hq) _ _ _ _) Try.underlying45 rfl (by kernel_rfl)) rfl ?_
 exact ⟨rfl, fP (ax HB.out hq) (by have := EG.out; omega) _ _ _ _⟩
theorem yz (w : World) (gs : Nat) (s : St) (y i1 i2 k : Int) (hS : w.heap[gs]? = some (.cells (aC s) 151 (0, 0))) (hl : s.length = 18) (e0 : gS s 0 = none) (e1 : gS s 1 = some y) (hy : decide (31 < y) = false) (hz : (y == 0) = false) :
 Calls Try.prog 166 #[.pointer (some ⟨gs, 0, none⟩), .agg #[.int .u16 124, .int .u8 i1, .int .u8 i2, .int .u32 k]] w fun e w' => e = .returned (.agg #[.int .u16 (Go.bits .andNot .u16 124 8), .int .u8 0, .int .u8 0, .int .u32 y]) ∧ Below w.heap.size w w' := by
 have c0 : _ = some (Value.bool false) := (ae hS 0).trans ((dm (s := s) (i := 0) (by omega)).trans (by rw [e0]; rfl))
 have c2 : _ = some (Value.bool true) := (ae hS 2).trans ((dm (s := s) (i := 1) (by omega)).trans (by rw [e1]; rfl))
 have c3 : _ = some (Value.int .u32 y) := (ae hS 3).trans ((gW (s := s) (i := 1) (by omega)).trans (by rw [e1]; rfl))
 have hlt := av hS
 have HS := aa.mk hS
 clear hS
 go_enter Try.func166, Try.ntmps166
 go_wp2
 refine bodyPost_ret (results_cell_row rfl _ _ (w.heap.size + 1) 45 (#[.int .u16 (Go.bits .andNot .u16 124 8), .int .u8 0, .int .u8 0, .int .u32 y]) (0, 0) _ rfl (eZ _ _ _) Try.underlying45 rfl (by kernel_rfl)) rfl ?_
 exact ⟨rfl, bX _ _ _⟩
theorem xZ (w : World) (gs : Nat) (s : St) (v y r i1 i2 k : Int) (hS : w.heap[gs]? = some (.cells (aC s) 151 (0, 0))) (hl : s.length = 18) (e0 : gS s 0 = some v) (e1 : gS s 1 = some y) (hz : (y == 0) = false) (hr : PA.bK.f (Go.bits .andNot .u16 60 8) v y = some (r, true)) :
 Calls Try.prog 166 #[.pointer (some ⟨gs, 0, none⟩), .agg #[.int .u16 60, .int .u8 i1, .int .u8 i2, .int .u32 k]] w fun e w' => e = .returned (.agg #[.int .u16 0, .int .u8 0, .int .u8 0, .int .u32 r]) ∧ Below w.heap.size w w' := by
 have c0 : _ = some (Value.bool true) := (ae hS 0).trans ((dm (s := s) (i := 0) (by omega)).trans (by rw [e0]; rfl))
 have c1 : _ = some (Value.int .u32 v) := (ae hS 1).trans ((gW (s := s) (i := 0) (by omega)).trans (by rw [e0]; rfl))
 have c2 : _ = some (Value.bool true) := (ae hS 2).trans ((dm (s := s) (i := 1) (by omega)).trans (by rw [e1]; rfl))
 have c3 : _ = some (Value.int .u32 y) := (ae hS 3).trans ((gW (s := s) (i := 1) (by omega)).trans (by rw [e1]; rfl))
 have hlt := av hS
 have HS := aa.mk hS
 have HC := fun W => PA.bK.calls (Go.bits .andNot .u16 60 8) v y r true W hr
 have HC := aa.mk HC
 clear hS hr
 go_enter Try.func166, Try.ntmps166
 go_upto_region 16 with (fail)
 refine forget (fun W => ∃ gi, gi = w.heap.size ∧ Below w.heap.size w W ∧ W.heap[gi]? = some (.cells #[.int .u16 ((Go.bits .andNot .u16 60 8)), .int .u8 0, .int .u8 0, .int .u32 y] 45 (0, 0)) ∧ W.heap[gi + 1]? = some (.cells #[.int .u16 0, .int .u8 0, .int .u8 0, .int .u32 0] 45 (0, 0))) ⟨_, rfl, bX _ _ _, kY _ _ _, eZ _ _ _⟩ ?_
 rintro W ⟨gi, egi, hb, hi, hr⟩
 rw [← egi]
 have x1 := ai hb c1
 have y0 : _ = some (Value.int .u16 ((Go.bits .andNot .u16 60 8))) := (ae hi 0).trans rfl
 have y3 : _ = some (Value.int .u32 y) := (ae hi 3).trans rfl
 have HB := aa.mk hb
 have HI := aa.mk hi
 have HR := aa.mk hr
 have EG := aa.mk egi
 clear hb hi hr c0 c1 egi
 go_quiet ((go_at_call 155; exact Calls.quiet_of ((HC.out _).mono fun _ _ ⟨he, ⟨m, hm⟩⟩ => ⟨he, m, hm⟩)))
 obtain ⟨z0, z1, z2, z3, t0, t1, t2, t3⟩ := cz4 ⟨HR.out⟩
 go_wp2
 have hq := aA (Below.refl W.heap.size W) nq
 refine bodyPost_ret (results_cell_row rfl _ _ (gi + 1) 45 (#[.int .u16 0, .int .u8 0, .int .u8 0, .int .u32 r]) (0, 0) _ rfl (jU (ak HR.out hq) _ _ _ _) Try.underlying45 rfl (by kernel_rfl)) rfl ?_
 exact ⟨rfl, fP (ax HB.out hq) (by have := EG.out; omega) _ _ _ _⟩
theorem xY (w : World) (gs : Nat) (s : St) (y i1 i2 k : Int) (hS : w.heap[gs]? = some (.cells (aC s) 151 (0, 0))) (hl : s.length = 18) (e0 : gS s 0 = none) (e1 : gS s 1 = some y) (hz : (y == 0) = false) :
 Calls Try.prog 166 #[.pointer (some ⟨gs, 0, none⟩), .agg #[.int .u16 60, .int .u8 i1, .int .u8 i2, .int .u32 k]] w fun e w' => e = .returned (.agg #[.int .u16 (Go.bits .andNot .u16 60 8), .int .u8 0, .int .u8 0, .int .u32 y]) ∧ Below w.heap.size w w' := by
 have c0 : _ = some (Value.bool false) := (ae hS 0).trans ((dm (s := s) (i := 0) (by omega)).trans (by rw [e0]; rfl))
 have c2 : _ = some (Value.bool true) := (ae hS 2).trans ((dm (s := s) (i := 1) (by omega)).trans (by rw [e1]; rfl))
 have c3 : _ = some (Value.int .u32 y) := (ae hS 3).trans ((gW (s := s) (i := 1) (by omega)).trans (by rw [e1]; rfl))
 have hlt := av hS
 have HS := aa.mk hS
 clear hS
 go_enter Try.func166, Try.ntmps166
 go_wp2
 refine bodyPost_ret (results_cell_row rfl _ _ (w.heap.size + 1) 45 (#[.int .u16 (Go.bits .andNot .u16 60 8), .int .u8 0, .int .u8 0, .int .u32 y]) (0, 0) _ rfl (eZ _ _ _) Try.underlying45 rfl (by kernel_rfl)) rfl ?_
 exact ⟨rfl, bX _ _ _⟩
theorem ym (w : World) (gs : Nat) (s : St) (v y r i1 i2 k : Int) (hS : w.heap[gs]? = some (.cells (aC s) 151 (0, 0))) (hl : s.length = 18) (e0 : gS s 0 = some v) (e1 : gS s 1 = some y) (hz : (y == 0) = false) (hr : PA.bK.f (Go.bits .andNot .u16 156 8) v y = some (r, true)) :
 Calls Try.prog 166 #[.pointer (some ⟨gs, 0, none⟩), .agg #[.int .u16 156, .int .u8 i1, .int .u8 i2, .int .u32 k]] w fun e w' => e = .returned (.agg #[.int .u16 0, .int .u8 0, .int .u8 0, .int .u32 r]) ∧ Below w.heap.size w w' := by
 have c0 : _ = some (Value.bool true) := (ae hS 0).trans ((dm (s := s) (i := 0) (by omega)).trans (by rw [e0]; rfl))
 have c1 : _ = some (Value.int .u32 v) := (ae hS 1).trans ((gW (s := s) (i := 0) (by omega)).trans (by rw [e0]; rfl))
 have c2 : _ = some (Value.bool true) := (ae hS 2).trans ((dm (s := s) (i := 1) (by omega)).trans (by rw [e1]; rfl))
 have c3 : _ = some (Value.int .u32 y) := (ae hS 3).trans ((gW (s := s) (i := 1) (by omega)).trans (by rw [e1]; rfl))
 have hlt := av hS
 have HS := aa.mk hS
 have HC := fun W => PA.bK.calls (Go.bits .andNot .u16 156 8) v y r true W hr
 have HC := aa.mk HC
 clear hS hr
 go_enter Try.func166, Try.ntmps166
 go_upto_region 16 with (fail)
 refine forget (fun W => ∃ gi, gi = w.heap.size ∧ Below w.heap.size w W ∧ W.heap[gi]? = some (.cells #[.int .u16 ((Go.bits .andNot .u16 156 8)), .int .u8 0, .int .u8 0, .int .u32 y] 45 (0, 0)) ∧ W.heap[gi + 1]? = some (.cells #[.int .u16 0, .int .u8 0, .int .u8 0, .int .u32 0] 45 (0, 0))) ⟨_, rfl, bX _ _ _, kY _ _ _, eZ _ _ _⟩ ?_
 rintro W ⟨gi, egi, hb, hi, hr⟩
 rw [← egi]
 have x1 := ai hb c1
 have y0 : _ = some (Value.int .u16 ((Go.bits .andNot .u16 156 8))) := (ae hi 0).trans rfl
 have y3 : _ = some (Value.int .u32 y) := (ae hi 3).trans rfl
 have HB := aa.mk hb
 have HI := aa.mk hi
 have HR := aa.mk hr
 have EG := aa.mk egi
 clear hb hi hr c0 c1 egi
 go_quiet ((go_at_call 155; exact Calls.quiet_of ((HC.out _).mono fun _ _ ⟨he, ⟨m, hm⟩⟩ => ⟨he, m, hm⟩)))
 obtain ⟨z0, z1, z2, z3, t0, t1, t2, t3⟩ := cz4 ⟨HR.out⟩
 go_wp2
 have hq := aA (Below.refl W.heap.size W) nq
 refine bodyPost_ret (results_cell_row rfl _ _ (gi + 1) 45 (#[.int .u16 0, .int .u8 0, .int .u8 0, .int .u32 r]) (0, 0) _ rfl (jU (ak HR.out hq) _ _ _ _) Try.underlying45 rfl (by kernel_rfl)) rfl ?_
 exact ⟨rfl, fP (ax HB.out hq) (by have := EG.out; omega) _ _ _ _⟩
theorem yl (w : World) (gs : Nat) (s : St) (y i1 i2 k : Int) (hS : w.heap[gs]? = some (.cells (aC s) 151 (0, 0))) (hl : s.length = 18) (e0 : gS s 0 = none) (e1 : gS s 1 = some y) (hz : (y == 0) = false) :
 Calls Try.prog 166 #[.pointer (some ⟨gs, 0, none⟩), .agg #[.int .u16 156, .int .u8 i1, .int .u8 i2, .int .u32 k]] w fun e w' => e = .returned (.agg #[.int .u16 (Go.bits .andNot .u16 156 8), .int .u8 0, .int .u8 0, .int .u32 y]) ∧ Below w.heap.size w w' := by
 have c0 : _ = some (Value.bool false) := (ae hS 0).trans ((dm (s := s) (i := 0) (by omega)).trans (by rw [e0]; rfl))
 have c2 : _ = some (Value.bool true) := (ae hS 2).trans ((dm (s := s) (i := 1) (by omega)).trans (by rw [e1]; rfl))
 have c3 : _ = some (Value.int .u32 y) := (ae hS 3).trans ((gW (s := s) (i := 1) (by omega)).trans (by rw [e1]; rfl))
 have hlt := av hS
 have HS := aa.mk hS
 clear hS
 go_enter Try.func166, Try.ntmps166
 go_wp2
 refine bodyPost_ret (results_cell_row rfl _ _ (w.heap.size + 1) 45 (#[.int .u16 (Go.bits .andNot .u16 156 8), .int .u8 0, .int .u8 0, .int .u32 y]) (0, 0) _ rfl (eZ _ _ _) Try.underlying45 rfl (by kernel_rfl)) rfl ?_
 exact ⟨rfl, bX _ _ _⟩
theorem alu_xdz (w : World) (gs : Nat) (s : St) (i1 i2 k : Int) (hS : w.heap[gs]? = some (.cells (aC s) 151 (0, 0))) (hl : s.length = 18) (e1 : gS s 1 = some 0) :
 Calls Try.prog 166 #[.pointer (some ⟨gs, 0, none⟩), .agg #[.int .u16 60, .int .u8 i1, .int .u8 i2, .int .u32 k]] w fun e w' => e = .returned (.agg #[.int .u16 60, .int .u8 i1, .int .u8 i2, .int .u32 k]) ∧ Below w.heap.size w w' := by
 have c2 : _ = some (Value.bool true) := (ae hS 2).trans ((dm (s := s) (i := 1) (by omega)).trans (by rw [e1]; rfl))
 have c3 : _ = some (Value.int .u32 0) := (ae hS 3).trans ((gW (s := s) (i := 1) (by omega)).trans (by rw [e1]; rfl))
 have hlt := av hS
 have HS := aa.mk hS
 clear hS
 go_enter Try.func166, Try.ntmps166
 go_wp2
 refine bodyPost_ret (results_cell_row rfl _ _ (w.heap.size + 1) 45 (#[.int .u16 60, .int .u8 i1, .int .u8 i2, .int .u32 k]) (0, 0) _ rfl (eZ _ _ _) Try.underlying45 rfl (by kernel_rfl)) rfl ?_
 exact ⟨rfl, bX _ _ _⟩
theorem alu_xmz (w : World) (gs : Nat) (s : St) (i1 i2 k : Int) (hS : w.heap[gs]? = some (.cells (aC s) 151 (0, 0))) (hl : s.length = 18) (e1 : gS s 1 = some 0) :
 Calls Try.prog 166 #[.pointer (some ⟨gs, 0, none⟩), .agg #[.int .u16 156, .int .u8 i1, .int .u8 i2, .int .u32 k]] w fun e w' => e = .returned (.agg #[.int .u16 156, .int .u8 i1, .int .u8 i2, .int .u32 k]) ∧ Below w.heap.size w w' := by
 have c2 : _ = some (Value.bool true) := (ae hS 2).trans ((dm (s := s) (i := 1) (by omega)).trans (by rw [e1]; rfl))
 have c3 : _ = some (Value.int .u32 0) := (ae hS 3).trans ((gW (s := s) (i := 1) (by omega)).trans (by rw [e1]; rfl))
 have hlt := av hS
 have HS := aa.mk hS
 clear hS
 go_enter Try.func166, Try.ntmps166
 go_wp2
 refine bodyPost_ret (results_cell_row rfl _ _ (w.heap.size + 1) 45 (#[.int .u16 156, .int .u8 i1, .int .u8 i2, .int .u32 k]) (0, 0) _ rfl (eZ _ _ _) Try.underlying45 rfl (by kernel_rfl)) rfl ?_
 exact ⟨rfl, bX _ _ _⟩
theorem alu_xa0 (w : World) (gs : Nat) (s : St) (i1 i2 k : Int) (hS : w.heap[gs]? = some (.cells (aC s) 151 (0, 0))) (hl : s.length = 18) (e0 : gS s 0 = none) (e1 : gS s 1 = some 0) :
 Calls Try.prog 166 #[.pointer (some ⟨gs, 0, none⟩), .agg #[.int .u16 92, .int .u8 i1, .int .u8 i2, .int .u32 k]] w fun e w' => e = .returned (.agg #[.int .u16 0, .int .u8 0, .int .u8 0, .int .u32 0]) ∧ Below w.heap.size w w' := by
 have c0 : _ = some (Value.bool false) := (ae hS 0).trans ((dm (s := s) (i := 0) (by omega)).trans (by rw [e0]; rfl))
 have c2 : _ = some (Value.bool true) := (ae hS 2).trans ((dm (s := s) (i := 1) (by omega)).trans (by rw [e1]; rfl))
 have c3 : _ = some (Value.int .u32 0) := (ae hS 3).trans ((gW (s := s) (i := 1) (by omega)).trans (by rw [e1]; rfl))
 have hlt := av hS
 have HS := aa.mk hS
 clear hS
 go_enter Try.func166, Try.ntmps166
 go_wp2
 refine bodyPost_ret (results_cell_row rfl _ _ (w.heap.size + 1) 45 (#[.int .u16 0, .int .u8 0, .int .u8 0, .int .u32 0]) (0, 0) _ rfl (eZ _ _ _) Try.underlying45 rfl (by kernel_rfl)) rfl ?_
 exact ⟨rfl, bX _ _ _⟩
theorem alu_xu0 (w : World) (gs : Nat) (s : St) (i1 i2 k : Int) (hS : w.heap[gs]? = some (.cells (aC s) 151 (0, 0))) (hl : s.length = 18) (e0 : gS s 0 = none) (e1 : gS s 1 = some 0) :
 Calls Try.prog 166 #[.pointer (some ⟨gs, 0, none⟩), .agg #[.int .u16 44, .int .u8 i1, .int .u8 i2, .int .u32 k]] w fun e w' => e = .returned (.agg #[.int .u16 0, .int .u8 0, .int .u8 0, .int .u32 0]) ∧ Below w.heap.size w w' := by
 have c0 : _ = some (Value.bool false) := (ae hS 0).trans ((dm (s := s) (i := 0) (by omega)).trans (by rw [e0]; rfl))
 have c2 : _ = some (Value.bool true) := (ae hS 2).trans ((dm (s := s) (i := 1) (by omega)).trans (by rw [e1]; rfl))
 have c3 : _ = some (Value.int .u32 0) := (ae hS 3).trans ((gW (s := s) (i := 1) (by omega)).trans (by rw [e1]; rfl))
 have hlt := av hS
 have HS := aa.mk hS
 clear hS
 go_enter Try.func166, Try.ntmps166
 go_wp2
 refine bodyPost_ret (results_cell_row rfl _ _ (w.heap.size + 1) 45 (#[.int .u16 0, .int .u8 0, .int .u8 0, .int .u32 0]) (0, 0) _ rfl (eZ _ _ _) Try.underlying45 rfl (by kernel_rfl)) rfl ?_
 exact ⟨rfl, bX _ _ _⟩
theorem bn {a b : Int} (h : a ≠ b) : (a == b) = false := beq_eq_false_iff_ne.mpr h
theorem alu_K (w : World) (gs : Nat) (s : St) (i : S45) (hS : w.heap[gs]? = some (.cells (aC s) 151 (0, 0))) (hw : Wst s) (hc : i.f0 ∈ eQ) (hk : Rg i.f3) (h52 : (i.f0 = 52 ∨ i.f0 = 148) → i.f3 ≠ 0) (h31 : (i.f0 = 100 ∨ i.f0 = 116) → i.f3 ≤ 31) :
 Calls Try.prog 166 #[.pointer (some ⟨gs, 0, none⟩), fw i] w fun e w' => e = .returned (fw (jF s i)) ∧ Below w.heap.size w w' := by
 obtain ⟨c, i1, i2, k⟩ := i
 dsimp only at hc hk h52 h31
 have H : ∀ x ∈ eQ, x ≠ 132 ∧ (Go.bits .and .u16 x 8 != 0) = false := by decide +kernel
 obtain ⟨n1, n2⟩ := H c hc
 unfold jF
 cases e : gS s 0 with
 | some a => exact alu_k1 w gs s c a (opP c a k).1 i1 i2 k hS hw.len e (bn n1) n2 (tN hc hk.1 h52 h31)
 | none =>
  dsimp only
  by_cases q : k = 0 ∧ (c = 84 ∨ c = 36)
  · rw [if_pos q]
    obtain ⟨q0, rfl | rfl⟩ := q
    · exact alu_k84 w gs s i1 i2 k hS hw.len e q0
    exact alu_k36 w gs s i1 i2 k hS hw.len e q0
  rw [if_neg q]
  by_cases q0 : k = 0
  · subst q0
    exact alu_kz w gs s c i1 i2 0 hS hw.len e (bn n1) n2 rfl (bn (fun h => q ⟨rfl, .inl h⟩)) (bn (fun h => q ⟨rfl, .inr h⟩))
  exact alu_kn w gs s c i1 i2 k hS hw.len e (bn n1) n2 (bn q0)
theorem alu_X (w : World) (gs : Nat) (s : St) (c i1 i2 k y : Int) (hS : w.heap[gs]? = some (.cells (aC s) 151 (0, 0))) (hw : Wst s) (hc : c ∈ gB) (e1 : gS s 1 = some y) (hy : Rg y) (hf : ¬ ((c = 108 ∨ c = 124) ∧ y > 31)) (hz : ¬ (y = 0 ∧ (c = 60 ∨ c = 156))) :
 Calls Try.prog 166 #[.pointer (some ⟨gs, 0, none⟩), fw ⟨c, i1, i2, k⟩] w fun e w' => e = .returned (fw (jF s ⟨c - 8, 0, 0, y⟩)) ∧ Below w.heap.size w w' := by
 have H : ∀ x ∈ gB, x ≠ 132 ∧ (Go.bits .and .u16 x 8 != 0) = true ∧ Go.bits .andNot .u16 x 8 = x - 8 ∧ x - 8 ∈ eQ ∧ (x - 8 = 52 ∨ x - 8 = 148 → x = 60 ∨ x = 156) ∧ (x - 8 = 100 ∨ x - 8 = 116 → x = 108 ∨ x = 124) ∧ (x - 8 = 84 ↔ x = 92) ∧ (x - 8 = 36 ↔ x = 44) := by decide +kernel
 obtain ⟨n1, n2, n3, n4, n5, n6, n7, n8⟩ := H c hc
 have hR : ∀ a, PA.bK.f (Go.bits .andNot .u16 c 8) a y = some ((opP (c - 8) a y).1, true) := fun a => by
  rw [n3]
  exact tN n4 hy.1 (fun h h0 => hz ⟨h0, n5 h⟩) (fun h => by have := n6 h; omega)
 have hy31 : (c = 108 ∨ c = 124) → decide (31 < y) = false := fun h => decide_eq_false (by omega)
 unfold jF
 dsimp only
 cases e : gS s 0 with
 | some a =>
  dsimp only
  by_cases q0 : y = 0
  · subst q0
    by_cases c1 : c = 108
    · subst c1; exact yu w gs s a _ i1 i2 k hS hw.len e e1 (hy31 (.inl rfl)) (hR a)
    by_cases c2 : c = 124
    · subst c2; exact yA w gs s a _ i1 i2 k hS hw.len e e1 (hy31 (.inr rfl)) (hR a)
    have c3 : c ≠ 60 := fun h => hz ⟨rfl, .inl h⟩
    have c4 : c ≠ 156 := fun h => hz ⟨rfl, .inr h⟩
    exact yh w gs s c a _ i1 i2 k hS hw.len e e1 (bn n1) n2 (bn c1) (bn c2) (bn c3) (bn c4) (hR a)
  by_cases c1 : c = 108
  · subst c1; exact yw w gs s a y _ i1 i2 k hS hw.len e e1 (hy31 (.inl rfl)) (bn q0) (hR a)
  by_cases c2 : c = 124
  · subst c2; exact yB w gs s a y _ i1 i2 k hS hw.len e e1 (hy31 (.inr rfl)) (bn q0) (hR a)
  by_cases c3 : c = 60
  · subst c3; exact xZ w gs s a y _ i1 i2 k hS hw.len e e1 (bn q0) (hR a)
  by_cases c4 : c = 156
  · subst c4; exact ym w gs s a y _ i1 i2 k hS hw.len e e1 (bn q0) (hR a)
  exact yj w gs s c a y _ i1 i2 k hS hw.len e e1 (bn n1) n2 (bn c1) (bn c2) (bn c3) (bn c4) (bn q0) (hR a)
 | none =>
  dsimp only
  by_cases q0 : y = 0
  · subst q0
    by_cases c5 : c = 92
    · subst c5
      rw [if_pos (by decide)]
      exact alu_xa0 w gs s i1 i2 k hS hw.len e e1
    by_cases c6 : c = 44
    · subst c6
      rw [if_pos (by decide)]
      exact alu_xu0 w gs s i1 i2 k hS hw.len e e1
    rw [if_neg (by rintro ⟨_, h | h⟩; exact c5 (n7.1 h); exact c6 (n8.1 h)), ← n3]
    by_cases c1 : c = 108
    · subst c1; exact yo w gs s i1 i2 k hS hw.len e e1 (hy31 (.inl rfl))
    by_cases c2 : c = 124
    · subst c2; exact yx w gs s i1 i2 k hS hw.len e e1 (hy31 (.inr rfl))
    have c3 : c ≠ 60 := fun h => hz ⟨rfl, .inl h⟩
    have c4 : c ≠ 156 := fun h => hz ⟨rfl, .inr h⟩
    exact yc w gs s c i1 i2 k hS hw.len e e1 (bn n1) n2 (bn c1) (bn c2) (bn c3) (bn c4) (by rw [n3]; exact bn (fun h => c5 (n7.1 h))) (by rw [n3]; exact bn (fun h => c6 (n8.1 h)))
  rw [if_neg (fun h => q0 h.1), ← n3]
  by_cases c1 : c = 108
  · subst c1; exact yt w gs s y i1 i2 k hS hw.len e e1 (hy31 (.inl rfl)) (bn q0)
  by_cases c2 : c = 124
  · subst c2; exact yz w gs s y i1 i2 k hS hw.len e e1 (hy31 (.inr rfl)) (bn q0)
  by_cases c3 : c = 60
  · subst c3; exact xY w gs s y i1 i2 k hS hw.len e e1 (bn q0)
  by_cases c4 : c = 156
  · subst c4; exact yl w gs s y i1 i2 k hS hw.len e e1 (bn q0)
  exact yg w gs s c y i1 i2 k hS hw.len e e1 (bn n1) n2 (bn c1) (bn c2) (bn c3) (bn c4) (bn q0)
theorem wK (w : World) (gs : Nat) (s : St) (i : S45) (hS : w.heap[gs]? = some (.cells (aC s) 151 (0, 0))) (hw : Wst s) (hc : stB i.f0 i.f3 = true) (hk : Rg i.f3) (ha : i.f0 = 132 ∨ i.f0 ∈ eQ ∨ i.f0 ∈ gB) :
 Calls Try.prog 166 #[.pointer (some ⟨gs, 0, none⟩), fw i] w fun e w' => e = .returned (fw (qZ s i)) ∧ Below w.heap.size w w' := by
 obtain ⟨hm, _, h52, h31⟩ := gL hc
 unfold qZ
 by_cases c1 : i.f0 = 132
 · rw [if_pos c1]
   obtain ⟨c, i1, i2, k⟩ := i
   dsimp only at c1
   subst c1
   cases e : gS s 0 with
   | some a => exact alu_n1 w gs s a i1 i2 k hS hw.len e
   | none => exact alu_n0 w gs s i1 i2 k hS hw.len e
 rw [if_neg c1]
 by_cases c2 : i.f0 ∈ gB
 · rw [if_pos c2]
   obtain ⟨c, i1, i2, k⟩ := i
   dsimp only at c1 c2
   have H : ∀ x ∈ gB, (Go.bits .and .u16 x 8 != 0) = true := by decide +kernel
   cases e : gS s 1 with
   | none => exact alu_x0 w gs s c i1 i2 k hS hw.len e (bn c1) (H c c2)
   | some y =>
    dsimp only
    have hy := hw.rg 1 y e
    by_cases d1 : (c = 108 ∨ c = 124) ∧ y > 31
    · rw [if_pos d1]
      obtain ⟨rfl | rfl, d⟩ := d1
      · exact alu_xf1 w gs s y i1 i2 k hS hw.len e (decide_eq_true d)
      exact alu_xf2 w gs s y i1 i2 k hS hw.len e (decide_eq_true d)
    rw [if_neg d1]
    by_cases d2 : y = 0 ∧ (c = 60 ∨ c = 156)
    · rw [if_pos d2]
      obtain ⟨rfl, rfl | rfl⟩ := d2
      · exact alu_xdz w gs s i1 i2 k hS hw.len e
      exact alu_xmz w gs s i1 i2 k hS hw.len e
    rw [if_neg d2]
    exact alu_X w gs s c i1 i2 k y hS hw c2 e hy d1 d2
 rw [if_neg c2]
 exact alu_K w gs s i hS hw ((ha.resolve_left c1).resolve_right c2) hk h52 h31
theorem bZ {s : St} {i : Nat} (h : i < s.length) : (aC s)[i * 2]? = some (.bool (gS s i).isSome) := by rw [Nat.mul_comm]; exact dm h
theorem dI {s : St} {i : Nat} (h : i < s.length) : (aC s)[i * 2 + 1]? = some (.int .u32 ((gS s i).getD 0)) := by rw [Nat.mul_comm]; exact gW h
theorem Al (w : World) (gs : Nat) (s : St) (v i1 i2 : Int) (k : Nat) (hS : w.heap[gs]? = some (.cells (aC s) 151 (0, 0))) (hl : s.length = 18) (hk : k < 16) (e0 : gS s (2 + k) = some v) :
 Calls Try.prog 165 #[.pointer (some ⟨gs, 0, none⟩), .agg #[.int .u16 96, .int .u8 i1, .int .u8 i2, .int .u32 (k : Int)]] w fun e w' => e = .returned (.agg #[.int .u16 0, .int .u8 0, .int .u8 0, .int .u32 v]) ∧ Below w.heap.size w w' := by
 have c0 : _ = some (Value.bool true) := (ae hS ((2 + k) * 2)).trans ((bZ (s := s) (i := 2 + k) (by omega)).trans (by rw [e0]; rfl))
 have c1 : _ = some (Value.int .u32 v) := (ae hS ((2 + k) * 2 + 1)).trans ((dI (s := s) (i := 2 + k) (by omega)).trans (by rw [e0]; rfl))
 have hlt := av hS
 have hlt1 : gs < w.heap.size + 1 := by omega
 have hlt2 : gs < w.heap.size + 1 + 1 := by omega
 have HS := aa.mk hS
 clear hS
 go_enter Try.func165, Try.ntmps165
 go_wp2
 go_region
 go_wp2
 refine bodyPost_ret (results_cell_row rfl _ _ (w.heap.size + 1) 45 (#[.int .u16 0, .int .u8 0, .int .u8 0, .int .u32 v]) (0, 0) _ rfl (ak (eZ _ _ _) (au (ah (Below.refl _ _) _))) Try.underlying45 rfl (by kernel_rfl)) rfl ?_
 exact ⟨rfl, au (ah (bX _ _ _) _)⟩
theorem Aj (w : World) (gs : Nat) (s : St) (i1 i2 : Int) (k : Nat) (hS : w.heap[gs]? = some (.cells (aC s) 151 (0, 0))) (hl : s.length = 18) (hk : k < 16) (e0 : gS s (2 + k) = none) :
 Calls Try.prog 165 #[.pointer (some ⟨gs, 0, none⟩), .agg #[.int .u16 96, .int .u8 i1, .int .u8 i2, .int .u32 (k : Int)]] w fun e w' => e = .returned (.agg #[.int .u16 96, .int .u8 i1, .int .u8 i2, .int .u32 (k : Int)]) ∧ Below w.heap.size w w' := by
 have c0 : _ = some (Value.bool false) := (ae hS ((2 + k) * 2)).trans ((bZ (s := s) (i := 2 + k) (by omega)).trans (by rw [e0]; rfl))
 have c1 : _ = some (Value.int .u32 0) := (ae hS ((2 + k) * 2 + 1)).trans ((dI (s := s) (i := 2 + k) (by omega)).trans (by rw [e0]; rfl))
 have hlt := av hS
 have hlt1 : gs < w.heap.size + 1 := by omega
 have hlt2 : gs < w.heap.size + 1 + 1 := by omega
 have HS := aa.mk hS
 clear hS
 go_enter Try.func165, Try.ntmps165
 go_wp2
 go_region
 go_wp2
 refine bodyPost_ret (results_cell_row rfl _ _ (w.heap.size + 1) 45 (#[.int .u16 96, .int .u8 i1, .int .u8 i2, .int .u32 (k : Int)]) (0, 0) _ rfl (ak (eZ _ _ _) (au (ah (Below.refl _ _) _))) Try.underlying45 rfl (by kernel_rfl)) rfl ?_
 exact ⟨rfl, au (ah (bX _ _ _) _)⟩
theorem Ao (w : World) (gs : Nat) (s : St) (v i1 i2 : Int) (k : Nat) (hS : w.heap[gs]? = some (.cells (aC s) 151 (0, 0))) (hl : s.length = 18) (hk : k < 16) (e0 : gS s (2 + k) = some v) :
 Calls Try.prog 165 #[.pointer (some ⟨gs, 0, none⟩), .agg #[.int .u16 97, .int .u8 i1, .int .u8 i2, .int .u32 (k : Int)]] w fun e w' => e = .returned (.agg #[.int .u16 1, .int .u8 0, .int .u8 0, .int .u32 v]) ∧ Below w.heap.size w w' := by
 have c0 : _ = some (Value.bool true) := (ae hS ((2 + k) * 2)).trans ((bZ (s := s) (i := 2 + k) (by omega)).trans (by rw [e0]; rfl))
 have c1 : _ = some (Value.int .u32 v) := (ae hS ((2 + k) * 2 + 1)).trans ((dI (s := s) (i := 2 + k) (by omega)).trans (by rw [e0]; rfl))
 have hlt := av hS
 have hlt1 : gs < w.heap.size + 1 := by omega
 have hlt2 : gs < w.heap.size + 1 + 1 := by omega
 have HS := aa.mk hS
 clear hS
 go_enter Try.func165, Try.ntmps165
 go_wp2
 go_region
 go_wp2
 refine bodyPost_ret (results_cell_row rfl _ _ (w.heap.size + 1) 45 (#[.int .u16 1, .int .u8 0, .int .u8 0, .int .u32 v]) (0, 0) _ rfl (ak (eZ _ _ _) (au (ah (Below.refl _ _) _))) Try.underlying45 rfl (by kernel_rfl)) rfl ?_
 exact ⟨rfl, au (ah (bX _ _ _) _)⟩
theorem Am (w : World) (gs : Nat) (s : St) (i1 i2 : Int) (k : Nat) (hS : w.heap[gs]? = some (.cells (aC s) 151 (0, 0))) (hl : s.length = 18) (hk : k < 16) (e0 : gS s (2 + k) = none) :
 Calls Try.prog 165 #[.pointer (some ⟨gs, 0, none⟩), .agg #[.int .u16 97, .int .u8 i1, .int .u8 i2, .int .u32 (k : Int)]] w fun e w' => e = .returned (.agg #[.int .u16 97, .int .u8 i1, .int .u8 i2, .int .u32 (k : Int)]) ∧ Below w.heap.size w w' := by
 have c0 : _ = some (Value.bool false) := (ae hS ((2 + k) * 2)).trans ((bZ (s := s) (i := 2 + k) (by omega)).trans (by rw [e0]; rfl))
 have c1 : _ = some (Value.int .u32 0) := (ae hS ((2 + k) * 2 + 1)).trans ((dI (s := s) (i := 2 + k) (by omega)).trans (by rw [e0]; rfl))
 have hlt := av hS
 have hlt1 : gs < w.heap.size + 1 := by omega
 have hlt2 : gs < w.heap.size + 1 + 1 := by omega
 have HS := aa.mk hS
 clear hS
 go_enter Try.func165, Try.ntmps165
 go_wp2
 go_region
 go_wp2
 refine bodyPost_ret (results_cell_row rfl _ _ (w.heap.size + 1) 45 (#[.int .u16 97, .int .u8 i1, .int .u8 i2, .int .u32 (k : Int)]) (0, 0) _ rfl (ak (eZ _ _ _) (au (ah (Below.refl _ _) _))) Try.underlying45 rfl (by kernel_rfl)) rfl ?_
 exact ⟨rfl, au (ah (bX _ _ _) _)⟩
theorem z8 (w : World) (gs : Nat) (s : St) (i1 i2 : Int) (k : Int) (hS : w.heap[gs]? = some (.cells (aC s) 151 (0, 0))) (hl : s.length = 18) (e0 : gS s 1 = none) :
 Calls Try.prog 165 #[.pointer (some ⟨gs, 0, none⟩), .agg #[.int .u16 64, .int .u8 i1, .int .u8 i2, .int .u32 k]] w fun e w' => e = .returned (.agg #[.int .u16 64, .int .u8 i1, .int .u8 i2, .int .u32 k]) ∧ Below w.heap.size w w' := by
 have c0 : _ = some (Value.bool false) := (ae hS (2)).trans ((bZ (s := s) (i := 1) (by omega)).trans (by rw [e0]; rfl))
 have c1 : _ = some (Value.int .u32 0) := (ae hS (2 + 1)).trans ((dI (s := s) (i := 1) (by omega)).trans (by rw [e0]; rfl))
 have hlt := av hS
 have hlt1 : gs < w.heap.size + 1 := by omega
 have hlt2 : gs < w.heap.size + 1 + 1 := by omega
 have HS := aa.mk hS
 clear hS
 go_enter Try.func165, Try.ntmps165
 go_wp2
 refine bodyPost_ret (results_cell_row rfl _ _ (w.heap.size + 1) 45 (#[.int .u16 64, .int .u8 i1, .int .u8 i2, .int .u32 k]) (0, 0) _ rfl (ak (eZ _ _ _) (ah (Below.refl _ _) _)) Try.underlying45 rfl (by kernel_rfl)) rfl ?_
 exact ⟨rfl, ah (bX _ _ _) _⟩
theorem Aa (w : World) (gs : Nat) (s : St) (y i1 i2 : Int) (k : Int) (hS : w.heap[gs]? = some (.cells (aC s) 151 (0, 0))) (hl : s.length = 18) (e0 : gS s 1 = some y) (hle : decide (IntKind.u64.wrap (IntKind.u64.wrap y + IntKind.u64.wrap k) ≤ 4294967295) = true) :
 Calls Try.prog 165 #[.pointer (some ⟨gs, 0, none⟩), .agg #[.int .u16 64, .int .u8 i1, .int .u8 i2, .int .u32 k]] w fun e w' => e = .returned (.agg #[.int .u16 32, .int .u8 0, .int .u8 0, .int .u32 (IntKind.u32.wrap (y + k))]) ∧ Below w.heap.size w w' := by
 have c0 : _ = some (Value.bool true) := (ae hS (2)).trans ((bZ (s := s) (i := 1) (by omega)).trans (by rw [e0]; rfl))
 have c1 : _ = some (Value.int .u32 y) := (ae hS (2 + 1)).trans ((dI (s := s) (i := 1) (by omega)).trans (by rw [e0]; rfl))
 have hlt := av hS
 have hlt1 : gs < w.heap.size + 1 := by omega
 have hlt2 : gs < w.heap.size + 1 + 1 := by omega
 have HS := aa.mk hS
 clear hS
 go_enter Try.func165, Try.ntmps165
 go_wp2
 refine bodyPost_ret (results_cell_row rfl _ _ (w.heap.size + 1) 45 (#[.int .u16 32, .int .u8 0, .int .u8 0, .int .u32 (IntKind.u32.wrap (y + k))]) (0, 0) _ rfl (ak (eZ _ _ _) (ah (Below.refl _ _) _)) Try.underlying45 rfl (by kernel_rfl)) rfl ?_
 exact ⟨rfl, ah (bX _ _ _) _⟩
theorem zZ (w : World) (gs : Nat) (s : St) (y i1 i2 : Int) (k : Int) (hS : w.heap[gs]? = some (.cells (aC s) 151 (0, 0))) (hl : s.length = 18) (e0 : gS s 1 = some y) (hle : decide (IntKind.u64.wrap (IntKind.u64.wrap y + IntKind.u64.wrap k) ≤ 4294967295) = false) :
 Calls Try.prog 165 #[.pointer (some ⟨gs, 0, none⟩), .agg #[.int .u16 64, .int .u8 i1, .int .u8 i2, .int .u32 k]] w fun e w' => e = .returned (.agg #[.int .u16 64, .int .u8 i1, .int .u8 i2, .int .u32 k]) ∧ Below w.heap.size w w' := by
 have c0 : _ = some (Value.bool true) := (ae hS (2)).trans ((bZ (s := s) (i := 1) (by omega)).trans (by rw [e0]; rfl))
 have c1 : _ = some (Value.int .u32 y) := (ae hS (2 + 1)).trans ((dI (s := s) (i := 1) (by omega)).trans (by rw [e0]; rfl))
 have hlt := av hS
 have hlt1 : gs < w.heap.size + 1 := by omega
 have hlt2 : gs < w.heap.size + 1 + 1 := by omega
 have HS := aa.mk hS
 clear hS
 go_enter Try.func165, Try.ntmps165
 go_wp2
 refine bodyPost_ret (results_cell_row rfl _ _ (w.heap.size + 1) 45 (#[.int .u16 64, .int .u8 i1, .int .u8 i2, .int .u32 k]) (0, 0) _ rfl (ak (eZ _ _ _) (ah (Below.refl _ _) _)) Try.underlying45 rfl (by kernel_rfl)) rfl ?_
 exact ⟨rfl, ah (bX _ _ _) _⟩
theorem Ae (w : World) (gs : Nat) (s : St) (i1 i2 : Int) (k : Int) (hS : w.heap[gs]? = some (.cells (aC s) 151 (0, 0))) (hl : s.length = 18) (e0 : gS s 1 = none) :
 Calls Try.prog 165 #[.pointer (some ⟨gs, 0, none⟩), .agg #[.int .u16 72, .int .u8 i1, .int .u8 i2, .int .u32 k]] w fun e w' => e = .returned (.agg #[.int .u16 72, .int .u8 i1, .int .u8 i2, .int .u32 k]) ∧ Below w.heap.size w w' := by
 have c0 : _ = some (Value.bool false) := (ae hS (2)).trans ((bZ (s := s) (i := 1) (by omega)).trans (by rw [e0]; rfl))
 have c1 : _ = some (Value.int .u32 0) := (ae hS (2 + 1)).trans ((dI (s := s) (i := 1) (by omega)).trans (by rw [e0]; rfl))
 have hlt := av hS
 have hlt1 : gs < w.heap.size + 1 := by omega
 have hlt2 : gs < w.heap.size + 1 + 1 := by omega
 have HS := aa.mk hS
 clear hS
 go_enter Try.func165, Try.ntmps165
 go_wp2
 refine bodyPost_ret (results_cell_row rfl _ _ (w.heap.size + 1) 45 (#[.int .u16 72, .int .u8 i1, .int .u8 i2, .int .u32 k]) (0, 0) _ rfl (ak (eZ _ _ _) (ah (Below.refl _ _) _)) Try.underlying45 rfl (by kernel_rfl)) rfl ?_
 exact ⟨rfl, ah (bX _ _ _) _⟩
theorem Af (w : World) (gs : Nat) (s : St) (y i1 i2 : Int) (k : Int) (hS : w.heap[gs]? = some (.cells (aC s) 151 (0, 0))) (hl : s.length = 18) (e0 : gS s 1 = some y) (hle : decide (IntKind.u64.wrap (IntKind.u64.wrap y + IntKind.u64.wrap k) ≤ 4294967295) = true) :
 Calls Try.prog 165 #[.pointer (some ⟨gs, 0, none⟩), .agg #[.int .u16 72, .int .u8 i1, .int .u8 i2, .int .u32 k]] w fun e w' => e = .returned (.agg #[.int .u16 40, .int .u8 0, .int .u8 0, .int .u32 (IntKind.u32.wrap (y + k))]) ∧ Below w.heap.size w w' := by
 have c0 : _ = some (Value.bool true) := (ae hS (2)).trans ((bZ (s := s) (i := 1) (by omega)).trans (by rw [e0]; rfl))
 have c1 : _ = some (Value.int .u32 y) := (ae hS (2 + 1)).trans ((dI (s := s) (i := 1) (by omega)).trans (by rw [e0]; rfl))
 have hlt := av hS
 have hlt1 : gs < w.heap.size + 1 := by omega
 have hlt2 : gs < w.heap.size + 1 + 1 := by omega
 have HS := aa.mk hS
 clear hS
 go_enter Try.func165, Try.ntmps165
 go_wp2
 refine bodyPost_ret (results_cell_row rfl _ _ (w.heap.size + 1) 45 (#[.int .u16 40, .int .u8 0, .int .u8 0, .int .u32 (IntKind.u32.wrap (y + k))]) (0, 0) _ rfl (ak (eZ _ _ _) (ah (Below.refl _ _) _)) Try.underlying45 rfl (by kernel_rfl)) rfl ?_
 exact ⟨rfl, ah (bX _ _ _) _⟩
theorem Ad (w : World) (gs : Nat) (s : St) (y i1 i2 : Int) (k : Int) (hS : w.heap[gs]? = some (.cells (aC s) 151 (0, 0))) (hl : s.length = 18) (e0 : gS s 1 = some y) (hle : decide (IntKind.u64.wrap (IntKind.u64.wrap y + IntKind.u64.wrap k) ≤ 4294967295) = false) :
 Calls Try.prog 165 #[.pointer (some ⟨gs, 0, none⟩), .agg #[.int .u16 72, .int .u8 i1, .int .u8 i2, .int .u32 k]] w fun e w' => e = .returned (.agg #[.int .u16 72, .int .u8 i1, .int .u8 i2, .int .u32 k]) ∧ Below w.heap.size w w' := by
 have c0 : _ = some (Value.bool true) := (ae hS (2)).trans ((bZ (s := s) (i := 1) (by omega)).trans (by rw [e0]; rfl))
 have c1 : _ = some (Value.int .u32 y) := (ae hS (2 + 1)).trans ((dI (s := s) (i := 1) (by omega)).trans (by rw [e0]; rfl))
 have hlt := av hS
 have hlt1 : gs < w.heap.size + 1 := by omega
 have hlt2 : gs < w.heap.size + 1 + 1 := by omega
 have HS := aa.mk hS
 clear hS
 go_enter Try.func165, Try.ntmps165
 go_wp2
 refine bodyPost_ret (results_cell_row rfl _ _ (w.heap.size + 1) 45 (#[.int .u16 72, .int .u8 i1, .int .u8 i2, .int .u32 k]) (0, 0) _ rfl (ak (eZ _ _ _) (ah (Below.refl _ _) _)) Try.underlying45 rfl (by kernel_rfl)) rfl ?_
 exact ⟨rfl, ah (bX _ _ _) _⟩
theorem Ah (w : World) (gs : Nat) (s : St) (i1 i2 : Int) (k : Int) (hS : w.heap[gs]? = some (.cells (aC s) 151 (0, 0))) (hl : s.length = 18) (e0 : gS s 1 = none) :
 Calls Try.prog 165 #[.pointer (some ⟨gs, 0, none⟩), .agg #[.int .u16 80, .int .u8 i1, .int .u8 i2, .int .u32 k]] w fun e w' => e = .returned (.agg #[.int .u16 80, .int .u8 i1, .int .u8 i2, .int .u32 k]) ∧ Below w.heap.size w w' := by
 have c0 : _ = some (Value.bool false) := (ae hS (2)).trans ((bZ (s := s) (i := 1) (by omega)).trans (by rw [e0]; rfl))
 have c1 : _ = some (Value.int .u32 0) := (ae hS (2 + 1)).trans ((dI (s := s) (i := 1) (by omega)).trans (by rw [e0]; rfl))
 have hlt := av hS
 have hlt1 : gs < w.heap.size + 1 := by omega
 have hlt2 : gs < w.heap.size + 1 + 1 := by omega
 have HS := aa.mk hS
 clear hS
 go_enter Try.func165, Try.ntmps165
 go_wp2
 refine bodyPost_ret (results_cell_row rfl _ _ (w.heap.size + 1) 45 (#[.int .u16 80, .int .u8 i1, .int .u8 i2, .int .u32 k]) (0, 0) _ rfl (ak (eZ _ _ _) (ah (Below.refl _ _) _)) Try.underlying45 rfl (by kernel_rfl)) rfl ?_
 exact ⟨rfl, ah (bX _ _ _) _⟩
theorem Ai (w : World) (gs : Nat) (s : St) (y i1 i2 : Int) (k : Int) (hS : w.heap[gs]? = some (.cells (aC s) 151 (0, 0))) (hl : s.length = 18) (e0 : gS s 1 = some y) (hle : decide (IntKind.u64.wrap (IntKind.u64.wrap y + IntKind.u64.wrap k) ≤ 4294967295) = true) :
 Calls Try.prog 165 #[.pointer (some ⟨gs, 0, none⟩), .agg #[.int .u16 80, .int .u8 i1, .int .u8 i2, .int .u32 k]] w fun e w' => e = .returned (.agg #[.int .u16 48, .int .u8 0, .int .u8 0, .int .u32 (IntKind.u32.wrap (y + k))]) ∧ Below w.heap.size w w' := by
 have c0 : _ = some (Value.bool true) := (ae hS (2)).trans ((bZ (s := s) (i := 1) (by omega)).trans (by rw [e0]; rfl))
 have c1 : _ = some (Value.int .u32 y) := (ae hS (2 + 1)).trans ((dI (s := s) (i := 1) (by omega)).trans (by rw [e0]; rfl))
 have hlt := av hS
 have hlt1 : gs < w.heap.size + 1 := by omega
 have hlt2 : gs < w.heap.size + 1 + 1 := by omega
 have HS := aa.mk hS
 clear hS
 go_enter Try.func165, Try.ntmps165
 go_wp2
 refine bodyPost_ret (results_cell_row rfl _ _ (w.heap.size + 1) 45 (#[.int .u16 48, .int .u8 0, .int .u8 0, .int .u32 (IntKind.u32.wrap (y + k))]) (0, 0) _ rfl (ak (eZ _ _ _) (ah (Below.refl _ _) _)) Try.underlying45 rfl (by kernel_rfl)) rfl ?_
 exact ⟨rfl, ah (bX _ _ _) _⟩
theorem Ag (w : World) (gs : Nat) (s : St) (y i1 i2 : Int) (k : Int) (hS : w.heap[gs]? = some (.cells (aC s) 151 (0, 0))) (hl : s.length = 18) (e0 : gS s 1 = some y) (hle : decide (IntKind.u64.wrap (IntKind.u64.wrap y + IntKind.u64.wrap k) ≤ 4294967295) = false) :
 Calls Try.prog 165 #[.pointer (some ⟨gs, 0, none⟩), .agg #[.int .u16 80, .int .u8 i1, .int .u8 i2, .int .u32 k]] w fun e w' => e = .returned (.agg #[.int .u16 80, .int .u8 i1, .int .u8 i2, .int .u32 k]) ∧ Below w.heap.size w w' := by
 have c0 : _ = some (Value.bool true) := (ae hS (2)).trans ((bZ (s := s) (i := 1) (by omega)).trans (by rw [e0]; rfl))
 have c1 : _ = some (Value.int .u32 y) := (ae hS (2 + 1)).trans ((dI (s := s) (i := 1) (by omega)).trans (by rw [e0]; rfl))
 have hlt := av hS
 have hlt1 : gs < w.heap.size + 1 := by omega
 have hlt2 : gs < w.heap.size + 1 + 1 := by omega
 have HS := aa.mk hS
 clear hS
 go_enter Try.func165, Try.ntmps165
 go_wp2
 refine bodyPost_ret (results_cell_row rfl _ _ (w.heap.size + 1) 45 (#[.int .u16 80, .int .u8 i1, .int .u8 i2, .int .u32 k]) (0, 0) _ rfl (ak (eZ _ _ _) (ah (Below.refl _ _) _)) Try.underlying45 rfl (by kernel_rfl)) rfl ?_
 exact ⟨rfl, ah (bX _ _ _) _⟩
theorem load_o (w : World) (gs : Nat) (s : St) (c i1 i2 : Int) (k : Int) (hS : w.heap[gs]? = some (.cells (aC s) 151 (0, 0))) (hl : s.length = 18) (h1 : (c == 96) = false) (h2 : (c == 97) = false) (h3 : (c == 64) = false) (h4 : (c == 72) = false) (h5 : (c == 80) = false) :
 Calls Try.prog 165 #[.pointer (some ⟨gs, 0, none⟩), .agg #[.int .u16 c, .int .u8 i1, .int .u8 i2, .int .u32 k]] w fun e w' => e = .returned (.agg #[.int .u16 c, .int .u8 i1, .int .u8 i2, .int .u32 k]) ∧ Below w.heap.size w w' := by
 have hlt := av hS
 have hlt1 : gs < w.heap.size + 1 := by omega
 have hlt2 : gs < w.heap.size + 1 + 1 := by omega
 have HS := aa.mk hS
 clear hS
 go_enter Try.func165, Try.ntmps165
 go_wp2
 refine bodyPost_ret (results_cell_row rfl _ _ (w.heap.size + 1) 45 (#[.int .u16 c, .int .u8 i1, .int .u8 i2, .int .u32 k]) (0, 0) _ rfl (eZ _ _ _) Try.underlying45 rfl (by kernel_rfl)) rfl ?_
 exact ⟨rfl, bX _ _ _⟩
theorem uC (w : World) (gs : Nat) (s : St) (i : S45) (hS : w.heap[gs]? = some (.cells (aC s) 151 (0, 0))) (hw : Wst s) (hc : stB i.f0 i.f3 = true) (hk : Rg i.f3) :
 Calls Try.prog 165 #[.pointer (some ⟨gs, 0, none⟩), fw i] w fun e w' => e = .returned (fw (nY s i)) ∧ Below w.heap.size w w' := by
 obtain ⟨_, h16, _, _⟩ := gL hc
 obtain ⟨c, i1, i2, k⟩ := i
 dsimp only at h16 hk
 have hk0 := hk.1
 unfold nY
 dsimp only
 by_cases c1 : c = 96
 · rw [if_pos c1]; subst c1
   have hk6 := h16 (by omega)
   obtain ⟨n, rfl⟩ : ∃ n : Nat, k = (n : Int) := ⟨k.toNat, by omega⟩
   rw [Int.toNat_natCast]
   cases e : gS s (2 + n) with
   | some v => exact Al w gs s v i1 i2 n hS hw.len (by omega) e
   | none => exact Aj w gs s i1 i2 n hS hw.len (by omega) e
 rw [if_neg c1]
 by_cases c2 : c = 97
 · rw [if_pos c2]; subst c2
   have hk6 := h16 (by omega)
   obtain ⟨n, rfl⟩ : ∃ n : Nat, k = (n : Int) := ⟨k.toNat, by omega⟩
   rw [Int.toNat_natCast]
   cases e : gS s (2 + n) with
   | some v => exact Ao w gs s v i1 i2 n hS hw.len (by omega) e
   | none => exact Am w gs s i1 i2 n hS hw.len (by omega) e
 rw [if_neg c2]
 by_cases c3 : c = 64 ∨ c = 72 ∨ c = 80
 · rw [if_pos c3]
   cases e : gS s 1 with
   | none =>
    rcases c3 with rfl | rfl | rfl
    · exact z8 w gs s i1 i2 k hS hw.len e
    · exact Ae w gs s i1 i2 k hS hw.len e
    exact Ah w gs s i1 i2 k hS hw.len e
   | some y =>
    dsimp only
    have hy := hw.rg 1 y e
    have hy0 := hy.1
    have hy1 := hy.2
    have hk1 := hk.2
    have hwr : IntKind.u64.wrap (IntKind.u64.wrap y + IntKind.u64.wrap k) = y + k := by simp only [IntKind.wrap_u64]; omega
    by_cases q : y + k ≤ 4294967295
    · rw [if_pos q]
      have hd : decide (IntKind.u64.wrap (IntKind.u64.wrap y + IntKind.u64.wrap k) ≤ 4294967295) = true := by rw [hwr]; exact decide_eq_true q
      have hr : IntKind.u32.wrap (y + k) = y + k := tQ ⟨by omega, by omega⟩
      rcases c3 with rfl | rfl | rfl
      · have := Aa w gs s y i1 i2 k hS hw.len e hd
        rw [hr] at this; exact this
      · have := Af w gs s y i1 i2 k hS hw.len e hd
        rw [hr] at this; exact this
      have := Ai w gs s y i1 i2 k hS hw.len e hd
      rw [hr] at this; exact this
    rw [if_neg q]
    have hd : decide (IntKind.u64.wrap (IntKind.u64.wrap y + IntKind.u64.wrap k) ≤ 4294967295) = false := by rw [hwr]; exact decide_eq_false q
    rcases c3 with rfl | rfl | rfl
    · exact zZ w gs s y i1 i2 k hS hw.len e hd
    · exact Ad w gs s y i1 i2 k hS hw.len e hd
    exact Ag w gs s y i1 i2 k hS hw.len e hd
 rw [if_neg c3]
 exact load_o w gs s c i1 i2 k hS hw.len (bn c1) (bn c2) (bn (fun h => c3 (.inl h))) (bn (fun h => c3 (.inr (.inl h)))) (bn (fun h => c3 (.inr (.inr h))))
theorem idle_z4 (w : World) (gs : Nat) (s : St) (i1 i2 : Int) (k : Int) (hS : w.heap[gs]? = some (.cells (aC s) 151 (0, 0))) (hl : s.length = 18) :
 Calls Try.prog 167 #[.pointer (some ⟨gs, 0, none⟩), .agg #[.int .u16 4, .int .u8 i1, .int .u8 i2, .int .u32 k]] w fun e w' => e = .returned (.bool (k == 0)) ∧ Below w.heap.size w w' := by
 have hlt := av hS
 have HS := aa.mk hS
 clear hS
 go_enter Try.func167, Try.ntmps167
 go_wp2
 go_ret
 exact ⟨rfl, ah (Below.refl _ _) _⟩
theorem zL (w : World) (gs : Nat) (s : St) (i1 i2 : Int) (k : Int) (hS : w.heap[gs]? = some (.cells (aC s) 151 (0, 0))) (hl : s.length = 18) :
 Calls Try.prog 167 #[.pointer (some ⟨gs, 0, none⟩), .agg #[.int .u16 20, .int .u8 i1, .int .u8 i2, .int .u32 k]] w fun e w' => e = .returned (.bool (k == 0)) ∧ Below w.heap.size w w' := by
 have hlt := av hS
 have HS := aa.mk hS
 clear hS
 go_enter Try.func167, Try.ntmps167
 go_wp2
 go_ret
 exact ⟨rfl, ah (Below.refl _ _) _⟩
theorem zM (w : World) (gs : Nat) (s : St) (i1 i2 : Int) (k : Int) (hS : w.heap[gs]? = some (.cells (aC s) 151 (0, 0))) (hl : s.length = 18) :
 Calls Try.prog 167 #[.pointer (some ⟨gs, 0, none⟩), .agg #[.int .u16 68, .int .u8 i1, .int .u8 i2, .int .u32 k]] w fun e w' => e = .returned (.bool (k == 0)) ∧ Below w.heap.size w w' := by
 have hlt := av hS
 have HS := aa.mk hS
 clear hS
 go_enter Try.func167, Try.ntmps167
 go_wp2
 go_ret
 exact ⟨rfl, ah (Below.refl _ _) _⟩
theorem wZ (w : World) (gs : Nat) (s : St) (i1 i2 : Int) (k : Int) (hS : w.heap[gs]? = some (.cells (aC s) 151 (0, 0))) (hl : s.length = 18) :
 Calls Try.prog 167 #[.pointer (some ⟨gs, 0, none⟩), .agg #[.int .u16 164, .int .u8 i1, .int .u8 i2, .int .u32 k]] w fun e w' => e = .returned (.bool (k == 0)) ∧ Below w.heap.size w w' := by
 have hlt := av hS
 have HS := aa.mk hS
 clear hS
 go_enter Try.func167, Try.ntmps167
 go_wp2
 go_ret
 exact ⟨rfl, ah (Below.refl _ _) _⟩
theorem wX (w : World) (gs : Nat) (s : St) (i1 i2 : Int) (k : Int) (hS : w.heap[gs]? = some (.cells (aC s) 151 (0, 0))) (hl : s.length = 18) :
 Calls Try.prog 167 #[.pointer (some ⟨gs, 0, none⟩), .agg #[.int .u16 100, .int .u8 i1, .int .u8 i2, .int .u32 k]] w fun e w' => e = .returned (.bool (k == 0)) ∧ Below w.heap.size w w' := by
 have hlt := av hS
 have HS := aa.mk hS
 clear hS
 go_enter Try.func167, Try.ntmps167
 go_wp2
 go_ret
 exact ⟨rfl, ah (Below.refl _ _) _⟩
theorem wY (w : World) (gs : Nat) (s : St) (i1 i2 : Int) (k : Int) (hS : w.heap[gs]? = some (.cells (aC s) 151 (0, 0))) (hl : s.length = 18) :
 Calls Try.prog 167 #[.pointer (some ⟨gs, 0, none⟩), .agg #[.int .u16 116, .int .u8 i1, .int .u8 i2, .int .u32 k]] w fun e w' => e = .returned (.bool (k == 0)) ∧ Below w.heap.size w w' := by
 have hlt := av hS
 have HS := aa.mk hS
 clear hS
 go_enter Try.func167, Try.ntmps167
 go_wp2
 go_ret
 exact ⟨rfl, ah (Below.refl _ _) _⟩
theorem zA (w : World) (gs : Nat) (s : St) (i1 i2 : Int) (k : Int) (hS : w.heap[gs]? = some (.cells (aC s) 151 (0, 0))) (hl : s.length = 18) :
 Calls Try.prog 167 #[.pointer (some ⟨gs, 0, none⟩), .agg #[.int .u16 36, .int .u8 i1, .int .u8 i2, .int .u32 k]] w fun e w' => e = .returned (.bool (k == 1)) ∧ Below w.heap.size w w' := by
 have hlt := av hS
 have HS := aa.mk hS
 clear hS
 go_enter Try.func167, Try.ntmps167
 go_wp2
 go_ret
 exact ⟨rfl, ah (Below.refl _ _) _⟩
theorem zB (w : World) (gs : Nat) (s : St) (i1 i2 : Int) (k : Int) (hS : w.heap[gs]? = some (.cells (aC s) 151 (0, 0))) (hl : s.length = 18) :
 Calls Try.prog 167 #[.pointer (some ⟨gs, 0, none⟩), .agg #[.int .u16 52, .int .u8 i1, .int .u8 i2, .int .u32 k]] w fun e w' => e = .returned (.bool (k == 1)) ∧ Below w.heap.size w w' := by
 have hlt := av hS
 have HS := aa.mk hS
 clear hS
 go_enter Try.func167, Try.ntmps167
 go_wp2
 go_ret
 exact ⟨rfl, ah (Below.refl _ _) _⟩
theorem zz (w : World) (gs : Nat) (s : St) (i1 i2 : Int) (k : Int) (hS : w.heap[gs]? = some (.cells (aC s) 151 (0, 0))) (hl : s.length = 18) :
 Calls Try.prog 167 #[.pointer (some ⟨gs, 0, none⟩), .agg #[.int .u16 84, .int .u8 i1, .int .u8 i2, .int .u32 k]] w fun e w' => e = .returned (.bool (k == 4294967295)) ∧ Below w.heap.size w w' := by
 have hlt := av hS
 have HS := aa.mk hS
 clear hS
 go_enter Try.func167, Try.ntmps167
 go_wp2
 go_ret
 exact ⟨rfl, ah (Below.refl _ _) _⟩
theorem idle_no (w : World) (gs : Nat) (s : St) (c i1 i2 : Int) (k : Int) (hS : w.heap[gs]? = some (.cells (aC s) 151 (0, 0))) (hl : s.length = 18) (n0 : (c == 0) = false) (n1 : (c == 1) = false) (n2 : (c == 2) = false) (n3 : (c == 3) = false) (n4 : (c == 4) = false) (n20 : (c == 20) = false) (n68 : (c == 68) = false) (n164 : (c == 164) = false) (n100 : (c == 100) = false) (n116 : (c == 116) = false) (n36 : (c == 36) = false) (n52 : (c == 52) = false) (n84 : (c == 84) = false) :
 Calls Try.prog 167 #[.pointer (some ⟨gs, 0, none⟩), .agg #[.int .u16 c, .int .u8 i1, .int .u8 i2, .int .u32 k]] w fun e w' => e = .returned (.bool false) ∧ Below w.heap.size w w' := by
 have hlt := av hS
 have HS := aa.mk hS
 clear hS
 go_enter Try.func167, Try.ntmps167
 go_wp2
 go_ret
 exact ⟨rfl, ah (Below.refl _ _) _⟩
theorem zF (w : World) (gs : Nat) (s : St) (i1 i2 : Int) (k : Nat) (hS : w.heap[gs]? = some (.cells (aC s) 151 (0, 0))) (hl : s.length = 18) (hk : k < 16) (e0 : gS s 0 = none) :
 Calls Try.prog 167 #[.pointer (some ⟨gs, 0, none⟩), .agg #[.int .u16 2, .int .u8 i1, .int .u8 i2, .int .u32 (k : Int)]] w fun e w' => e = .returned (.bool false) ∧ Below w.heap.size w w' := by
 have c0a : _ = some (Value.bool false) := (ae hS (0)).trans ((bZ (s := s) (i := 0) (by omega)).trans (by rw [e0]; rfl))
 have c0b : _ = some (Value.int .u32 0) := (ae hS (1)).trans ((dI (s := s) (i := 0) (by omega)).trans (by rw [e0]; rfl))
 have hlt := av hS
 have HS := aa.mk hS
 clear hS
 go_enter Try.func167, Try.ntmps167
 go_wp2
 go_region
 go_wp2
 go_ret
 exact ⟨rfl, au (ah (Below.refl _ _) _)⟩
theorem zD (w : World) (gs : Nat) (s : St) (v i1 i2 : Int) (k : Nat) (hS : w.heap[gs]? = some (.cells (aC s) 151 (0, 0))) (hl : s.length = 18) (hk : k < 16) (e0 : gS s 0 = some v) (e1 : gS s (2 + k) = none) :
 Calls Try.prog 167 #[.pointer (some ⟨gs, 0, none⟩), .agg #[.int .u16 2, .int .u8 i1, .int .u8 i2, .int .u32 (k : Int)]] w fun e w' => e = .returned (.bool false) ∧ Below w.heap.size w w' := by
 have c0a : _ = some (Value.bool true) := (ae hS (0)).trans ((bZ (s := s) (i := 0) (by omega)).trans (by rw [e0]; rfl))
 have c0b : _ = some (Value.int .u32 v) := (ae hS (1)).trans ((dI (s := s) (i := 0) (by omega)).trans (by rw [e0]; rfl))
 have c1a : _ = some (Value.bool false) := (ae hS ((2 + k) * 2)).trans ((bZ (s := s) (i := 2 + k) (by omega)).trans (by rw [e1]; rfl))
 have c1b : _ = some (Value.int .u32 0) := (ae hS ((2 + k) * 2 + 1)).trans ((dI (s := s) (i := 2 + k) (by omega)).trans (by rw [e1]; rfl))
 have hlt := av hS
 have HS := aa.mk hS
 clear hS
 go_enter Try.func167, Try.ntmps167
 go_wp2
 go_region
 go_wp2
 go_ret
 exact ⟨rfl, au (ah (Below.refl _ _) _)⟩
theorem zG (w : World) (gs : Nat) (s : St) (v i1 i2 : Int) (k : Nat) (hS : w.heap[gs]? = some (.cells (aC s) 151 (0, 0))) (hl : s.length = 18) (hk : k < 16) (e0 : gS s 0 = some v) (e1 : gS s (2 + k) = some v) :
 Calls Try.prog 167 #[.pointer (some ⟨gs, 0, none⟩), .agg #[.int .u16 2, .int .u8 i1, .int .u8 i2, .int .u32 (k : Int)]] w fun e w' => e = .returned (.bool true) ∧ Below w.heap.size w w' := by
 have c0a : _ = some (Value.bool true) := (ae hS (0)).trans ((bZ (s := s) (i := 0) (by omega)).trans (by rw [e0]; rfl))
 have c0b : _ = some (Value.int .u32 v) := (ae hS (1)).trans ((dI (s := s) (i := 0) (by omega)).trans (by rw [e0]; rfl))
 have c1a : _ = some (Value.bool true) := (ae hS ((2 + k) * 2)).trans ((bZ (s := s) (i := 2 + k) (by omega)).trans (by rw [e1]; rfl))
 have c1b : _ = some (Value.int .u32 v) := (ae hS ((2 + k) * 2 + 1)).trans ((dI (s := s) (i := 2 + k) (by omega)).trans (by rw [e1]; rfl))
 have hlt := av hS
 have HS := aa.mk hS
 clear hS
 go_enter Try.func167, Try.ntmps167
 go_wp2
 go_region
 go_wp2
 go_ret
 exact ⟨rfl, au (ah (Below.refl _ _) _)⟩
theorem zC (w : World) (gs : Nat) (s : St) (v u i1 i2 : Int) (k : Nat) (hS : w.heap[gs]? = some (.cells (aC s) 151 (0, 0))) (hl : s.length = 18) (hk : k < 16) (e0 : gS s 0 = some v) (e1 : gS s (2 + k) = some u) (hne : u ≠ v) :
 Calls Try.prog 167 #[.pointer (some ⟨gs, 0, none⟩), .agg #[.int .u16 2, .int .u8 i1, .int .u8 i2, .int .u32 (k : Int)]] w fun e w' => e = .returned (.bool false) ∧ Below w.heap.size w w' := by
 have c0a : _ = some (Value.bool true) := (ae hS (0)).trans ((bZ (s := s) (i := 0) (by omega)).trans (by rw [e0]; rfl))
 have c0b : _ = some (Value.int .u32 v) := (ae hS (1)).trans ((dI (s := s) (i := 0) (by omega)).trans (by rw [e0]; rfl))
 have c1a : _ = some (Value.bool true) := (ae hS ((2 + k) * 2)).trans ((bZ (s := s) (i := 2 + k) (by omega)).trans (by rw [e1]; rfl))
 have c1b : _ = some (Value.int .u32 u) := (ae hS ((2 + k) * 2 + 1)).trans ((dI (s := s) (i := 2 + k) (by omega)).trans (by rw [e1]; rfl))
 have hlt := av hS
 have HS := aa.mk hS
 clear hS
 go_enter Try.func167, Try.ntmps167
 go_wp2
 go_region
 go_wp2
 go_ret
 exact ⟨rfl, au (ah (Below.refl _ _) _)⟩
theorem zJ (w : World) (gs : Nat) (s : St) (i1 i2 : Int) (k : Nat) (hS : w.heap[gs]? = some (.cells (aC s) 151 (0, 0))) (hl : s.length = 18) (hk : k < 16) (e0 : gS s 1 = none) :
 Calls Try.prog 167 #[.pointer (some ⟨gs, 0, none⟩), .agg #[.int .u16 3, .int .u8 i1, .int .u8 i2, .int .u32 (k : Int)]] w fun e w' => e = .returned (.bool false) ∧ Below w.heap.size w w' := by
 have c0a : _ = some (Value.bool false) := (ae hS (2)).trans ((bZ (s := s) (i := 1) (by omega)).trans (by rw [e0]; rfl))
 have c0b : _ = some (Value.int .u32 0) := (ae hS (3)).trans ((dI (s := s) (i := 1) (by omega)).trans (by rw [e0]; rfl))
 have hlt := av hS
 have HS := aa.mk hS
 clear hS
 go_enter Try.func167, Try.ntmps167
 go_wp2
 go_region
 go_wp2
 go_ret
 exact ⟨rfl, au (ah (Below.refl _ _) _)⟩
theorem zI (w : World) (gs : Nat) (s : St) (v i1 i2 : Int) (k : Nat) (hS : w.heap[gs]? = some (.cells (aC s) 151 (0, 0))) (hl : s.length = 18) (hk : k < 16) (e0 : gS s 1 = some v) (e1 : gS s (2 + k) = none) :
 Calls Try.prog 167 #[.pointer (some ⟨gs, 0, none⟩), .agg #[.int .u16 3, .int .u8 i1, .int .u8 i2, .int .u32 (k : Int)]] w fun e w' => e = .returned (.bool false) ∧ Below w.heap.size w w' := by
 have c0a : _ = some (Value.bool true) := (ae hS (2)).trans ((bZ (s := s) (i := 1) (by omega)).trans (by rw [e0]; rfl))
 have c0b : _ = some (Value.int .u32 v) := (ae hS (3)).trans ((dI (s := s) (i := 1) (by omega)).trans (by rw [e0]; rfl))
 have c1a : _ = some (Value.bool false) := (ae hS ((2 + k) * 2)).trans ((bZ (s := s) (i := 2 + k) (by omega)).trans (by rw [e1]; rfl))
 have c1b : _ = some (Value.int .u32 0) := (ae hS ((2 + k) * 2 + 1)).trans ((dI (s := s) (i := 2 + k) (by omega)).trans (by rw [e1]; rfl))
 have hlt := av hS
 have HS := aa.mk hS
 clear hS
 go_enter Try.func167, Try.ntmps167
 go_wp2
 go_region
 go_wp2
 go_ret
 exact ⟨rfl, au (ah (Below.refl _ _) _)⟩
theorem zK (w : World) (gs : Nat) (s : St) (v i1 i2 : Int) (k : Nat) (hS : w.heap[gs]? = some (.cells (aC s) 151 (0, 0))) (hl : s.length = 18) (hk : k < 16) (e0 : gS s 1 = some v) (e1 : gS s (2 + k) = some v) :
 Calls Try.prog 167 #[.pointer (some ⟨gs, 0, none⟩), .agg #[.int .u16 3, .int .u8 i1, .int .u8 i2, .int .u32 (k : Int)]] w fun e w' => e = .returned (.bool true) ∧ Below w.heap.size w w' := by
 have c0a : _ = some (Value.bool true) := (ae hS (2)).trans ((bZ (s := s) (i := 1) (by omega)).trans (by rw [e0]; rfl))
 have c0b : _ = some (Value.int .u32 v) := (ae hS (3)).trans ((dI (s := s) (i := 1) (by omega)).trans (by rw [e0]; rfl))
 have c1a : _ = some (Value.bool true) := (ae hS ((2 + k) * 2)).trans ((bZ (s := s) (i := 2 + k) (by omega)).trans (by rw [e1]; rfl))
 have c1b : _ = some (Value.int .u32 v) := (ae hS ((2 + k) * 2 + 1)).trans ((dI (s := s) (i := 2 + k) (by omega)).trans (by rw [e1]; rfl))
 have hlt := av hS
 have HS := aa.mk hS
 clear hS
 go_enter Try.func167, Try.ntmps167
 go_wp2
 go_region
 go_wp2
 go_ret
 exact ⟨rfl, au (ah (Below.refl _ _) _)⟩
theorem zH (w : World) (gs : Nat) (s : St) (v u i1 i2 : Int) (k : Nat) (hS : w.heap[gs]? = some (.cells (aC s) 151 (0, 0))) (hl : s.length = 18) (hk : k < 16) (e0 : gS s 1 = some v) (e1 : gS s (2 + k) = some u) (hne : u ≠ v) :
 Calls Try.prog 167 #[.pointer (some ⟨gs, 0, none⟩), .agg #[.int .u16 3, .int .u8 i1, .int .u8 i2, .int .u32 (k : Int)]] w fun e w' => e = .returned (.bool false) ∧ Below w.heap.size w w' := by
 have c0a : _ = some (Value.bool true) := (ae hS (2)).trans ((bZ (s := s) (i := 1) (by omega)).trans (by rw [e0]; rfl))
 have c0b : _ = some (Value.int .u32 v) := (ae hS (3)).trans ((dI (s := s) (i := 1) (by omega)).trans (by rw [e0]; rfl))
 have c1a : _ = some (Value.bool true) := (ae hS ((2 + k) * 2)).trans ((bZ (s := s) (i := 2 + k) (by omega)).trans (by rw [e1]; rfl))
 have c1b : _ = some (Value.int .u32 u) := (ae hS ((2 + k) * 2 + 1)).trans ((dI (s := s) (i := 2 + k) (by omega)).trans (by rw [e1]; rfl))
 have hlt := av hS
 have HS := aa.mk hS
 clear hS
 go_enter Try.func167, Try.ntmps167
 go_wp2
 go_region
 go_wp2
 go_ret
 exact ⟨rfl, au (ah (Below.refl _ _) _)⟩
theorem zq (w : World) (gs : Nat) (s : St) (i1 i2 : Int) (k : Int) (hS : w.heap[gs]? = some (.cells (aC s) 151 (0, 0))) (hl : s.length = 18) (e0 : gS s 0 = none) :
 Calls Try.prog 167 #[.pointer (some ⟨gs, 0, none⟩), .agg #[.int .u16 0, .int .u8 i1, .int .u8 i2, .int .u32 k]] w fun e w' => e = .returned (.bool false) ∧ Below w.heap.size w w' := by
 have c0a : _ = some (Value.bool false) := (ae hS (0)).trans ((bZ (s := s) (i := 0) (by omega)).trans (by rw [e0]; rfl))
 have c0b : _ = some (Value.int .u32 0) := (ae hS (1)).trans ((dI (s := s) (i := 0) (by omega)).trans (by rw [e0]; rfl))
 have hlt := av hS
 have HS := aa.mk hS
 clear hS
 go_enter Try.func167, Try.ntmps167
 go_upto_region 3 with (fail)
 refine forget (fun W => ∃ gi, gi = w.heap.size ∧ Below w.heap.size w W ∧ W.heap[gi]? = some (.cells #[.int .u16 0, .int .u8 i1, .int .u8 i2, .int .u32 k] 45 (0, 0))) ⟨_, rfl, ah (Below.refl _ _) _, heap_alloc_new _ _⟩ ?_
 rintro W ⟨gi, egi, hb, hi⟩
 rw [← egi]
 have x0 := ai hb c0a
 have x1 := ai hb c0b
 have y3 : _ = some (Value.int .u32 k) := (ae hi 3).trans rfl
 have HB := aa.mk hb
 have EG := aa.mk egi
 have HCL : aa (∀ w3, Below W.drew.heap.size W.drew w3 → w3.cell? ⟨gs, 0, none⟩ = some (.bool false) ∧ w3.cell? ⟨gs, 1, none⟩ = some (.int .u32 0) ∧ w3.cell? ⟨gi, 3, none⟩ = some (.int .u32 k)) :=
  ⟨fun w3 h3 => ⟨ai h3 (show W.drew.cell? _ = _ from x0), ai h3 (show W.drew.cell? _ = _ from x1), ai h3 (show W.drew.cell? _ = _ from y3)⟩⟩
 clear hb hi egi c0a c0b
 go_region_held3 (fun w' => w'.cell? ⟨gs, 0, none⟩ = some (.bool false) ∧ w'.cell? ⟨gs, 1, none⟩ = some (.int .u32 0) ∧ w'.cell? ⟨gi, 3, none⟩ = some (.int .u32 k)) (first | exact ⟨x0, x1, y3⟩ | exact HCL.out _ hk) ((go_at_call 125; refine (PA.gV.calls k true k W.drew rfl).mono ?_; rintro e w3 ⟨rfl, hk⟩))
 have HB3 := ax HB.out (ax (au (Below.refl W.heap.size W)) hk)
 go_wp2
 go_ret
 exact ⟨rfl, HB3⟩
theorem zu (w : World) (gs : Nat) (s : St) (i1 i2 : Int) (k : Int) (hS : w.heap[gs]? = some (.cells (aC s) 151 (0, 0))) (hl : s.length = 18) (e0 : gS s 0 = some k) :
 Calls Try.prog 167 #[.pointer (some ⟨gs, 0, none⟩), .agg #[.int .u16 0, .int .u8 i1, .int .u8 i2, .int .u32 k]] w fun e w' => e = .returned (.bool true) ∧ Below w.heap.size w w' := by
 have c0a : _ = some (Value.bool true) := (ae hS (0)).trans ((bZ (s := s) (i := 0) (by omega)).trans (by rw [e0]; rfl))
 have c0b : _ = some (Value.int .u32 k) := (ae hS (1)).trans ((dI (s := s) (i := 0) (by omega)).trans (by rw [e0]; rfl))
 have hlt := av hS
 have HS := aa.mk hS
 clear hS
 go_enter Try.func167, Try.ntmps167
 go_upto_region 3 with (fail)
 refine forget (fun W => ∃ gi, gi = w.heap.size ∧ Below w.heap.size w W ∧ W.heap[gi]? = some (.cells #[.int .u16 0, .int .u8 i1, .int .u8 i2, .int .u32 k] 45 (0, 0))) ⟨_, rfl, ah (Below.refl _ _) _, heap_alloc_new _ _⟩ ?_
 rintro W ⟨gi, egi, hb, hi⟩
 rw [← egi]
 have x0 := ai hb c0a
 have x1 := ai hb c0b
 have y3 : _ = some (Value.int .u32 k) := (ae hi 3).trans rfl
 have HB := aa.mk hb
 have EG := aa.mk egi
 have HCL : aa (∀ w3, Below W.drew.heap.size W.drew w3 → w3.cell? ⟨gs, 0, none⟩ = some (.bool true) ∧ w3.cell? ⟨gs, 1, none⟩ = some (.int .u32 k) ∧ w3.cell? ⟨gi, 3, none⟩ = some (.int .u32 k)) :=
  ⟨fun w3 h3 => ⟨ai h3 (show W.drew.cell? _ = _ from x0), ai h3 (show W.drew.cell? _ = _ from x1), ai h3 (show W.drew.cell? _ = _ from y3)⟩⟩
 clear hb hi egi c0a c0b
 go_region_held3 (fun w' => w'.cell? ⟨gs, 0, none⟩ = some (.bool true) ∧ w'.cell? ⟨gs, 1, none⟩ = some (.int .u32 k) ∧ w'.cell? ⟨gi, 3, none⟩ = some (.int .u32 k)) (first | exact ⟨x0, x1, y3⟩ | exact HCL.out _ hk) ((go_at_call 125; refine (PA.gV.calls k true k W.drew rfl).mono ?_; rintro e w3 ⟨rfl, hk⟩))
 have HB3 := ax HB.out (ax (au (Below.refl W.heap.size W)) hk)
 go_wp2
 go_ret
 exact ⟨rfl, HB3⟩
theorem zo (w : World) (gs : Nat) (s : St) (v i1 i2 : Int) (k : Int) (hS : w.heap[gs]? = some (.cells (aC s) 151 (0, 0))) (hl : s.length = 18) (e0 : gS s 0 = some v) (hne : v ≠ k) :
 Calls Try.prog 167 #[.pointer (some ⟨gs, 0, none⟩), .agg #[.int .u16 0, .int .u8 i1, .int .u8 i2, .int .u32 k]] w fun e w' => e = .returned (.bool false) ∧ Below w.heap.size w w' := by
 have c0a : _ = some (Value.bool true) := (ae hS (0)).trans ((bZ (s := s) (i := 0) (by omega)).trans (by rw [e0]; rfl))
 have c0b : _ = some (Value.int .u32 v) := (ae hS (1)).trans ((dI (s := s) (i := 0) (by omega)).trans (by rw [e0]; rfl))
 have hlt := av hS
 have HS := aa.mk hS
 clear hS
 go_enter Try.func167, Try.ntmps167
 go_upto_region 3 with (fail)
 refine forget (fun W => ∃ gi, gi = w.heap.size ∧ Below w.heap.size w W ∧ W.heap[gi]? = some (.cells #[.int .u16 0, .int .u8 i1, .int .u8 i2, .int .u32 k] 45 (0, 0))) ⟨_, rfl, ah (Below.refl _ _) _, heap_alloc_new _ _⟩ ?_
 rintro W ⟨gi, egi, hb, hi⟩
 rw [← egi]
 have x0 := ai hb c0a
 have x1 := ai hb c0b
 have y3 : _ = some (Value.int .u32 k) := (ae hi 3).trans rfl
 have HB := aa.mk hb
 have EG := aa.mk egi
 have HCL : aa (∀ w3, Below W.drew.heap.size W.drew w3 → w3.cell? ⟨gs, 0, none⟩ = some (.bool true) ∧ w3.cell? ⟨gs, 1, none⟩ = some (.int .u32 v) ∧ w3.cell? ⟨gi, 3, none⟩ = some (.int .u32 k)) :=
  ⟨fun w3 h3 => ⟨ai h3 (show W.drew.cell? _ = _ from x0), ai h3 (show W.drew.cell? _ = _ from x1), ai h3 (show W.drew.cell? _ = _ from y3)⟩⟩
 clear hb hi egi c0a c0b
 go_region_held3 (fun w' => w'.cell? ⟨gs, 0, none⟩ = some (.bool true) ∧ w'.cell? ⟨gs, 1, none⟩ = some (.int .u32 v) ∧ w'.cell? ⟨gi, 3, none⟩ = some (.int .u32 k)) (first | exact ⟨x0, x1, y3⟩ | exact HCL.out _ hk) ((go_at_call 125; refine (PA.gV.calls k true k W.drew rfl).mono ?_; rintro e w3 ⟨rfl, hk⟩))
 have HB3 := ax HB.out (ax (au (Below.refl W.heap.size W)) hk)
 go_wp2
 go_ret
 exact ⟨rfl, HB3⟩
theorem zx (w : World) (gs : Nat) (s : St) (i1 i2 : Int) (k : Int) (hS : w.heap[gs]? = some (.cells (aC s) 151 (0, 0))) (hl : s.length = 18) (e0 : gS s 1 = none) :
 Calls Try.prog 167 #[.pointer (some ⟨gs, 0, none⟩), .agg #[.int .u16 1, .int .u8 i1, .int .u8 i2, .int .u32 k]] w fun e w' => e = .returned (.bool false) ∧ Below w.heap.size w w' := by
 have c0a : _ = some (Value.bool false) := (ae hS (2)).trans ((bZ (s := s) (i := 1) (by omega)).trans (by rw [e0]; rfl))
 have c0b : _ = some (Value.int .u32 0) := (ae hS (3)).trans ((dI (s := s) (i := 1) (by omega)).trans (by rw [e0]; rfl))
 have hlt := av hS
 have HS := aa.mk hS
 clear hS
 go_enter Try.func167, Try.ntmps167
 go_upto_region 5 with (fail)
 refine forget (fun W => ∃ gi, gi = w.heap.size ∧ Below w.heap.size w W ∧ W.heap[gi]? = some (.cells #[.int .u16 1, .int .u8 i1, .int .u8 i2, .int .u32 k] 45 (0, 0))) ⟨_, rfl, ah (Below.refl _ _) _, heap_alloc_new _ _⟩ ?_
 rintro W ⟨gi, egi, hb, hi⟩
 rw [← egi]
 have x0 := ai hb c0a
 have x1 := ai hb c0b
 have y3 : _ = some (Value.int .u32 k) := (ae hi 3).trans rfl
 have HB := aa.mk hb
 have EG := aa.mk egi
 have HCL : aa (∀ w3, Below W.drew.heap.size W.drew w3 → w3.cell? ⟨gs, 2, none⟩ = some (.bool false) ∧ w3.cell? ⟨gs, 3, none⟩ = some (.int .u32 0) ∧ w3.cell? ⟨gi, 3, none⟩ = some (.int .u32 k)) :=
  ⟨fun w3 h3 => ⟨ai h3 (show W.drew.cell? _ = _ from x0), ai h3 (show W.drew.cell? _ = _ from x1), ai h3 (show W.drew.cell? _ = _ from y3)⟩⟩
 clear hb hi egi c0a c0b
 go_region_held3 (fun w' => w'.cell? ⟨gs, 2, none⟩ = some (.bool false) ∧ w'.cell? ⟨gs, 3, none⟩ = some (.int .u32 0) ∧ w'.cell? ⟨gi, 3, none⟩ = some (.int .u32 k)) (first | exact ⟨x0, x1, y3⟩ | exact HCL.out _ hk) ((go_at_call 125; refine (PA.gV.calls k true k W.drew rfl).mono ?_; rintro e w3 ⟨rfl, hk⟩))
 have HB3 := ax HB.out (ax (au (Below.refl W.heap.size W)) hk)
 go_wp2
 go_ret
 exact ⟨rfl, HB3⟩
theorem zy (w : World) (gs : Nat) (s : St) (i1 i2 : Int) (k : Int) (hS : w.heap[gs]? = some (.cells (aC s) 151 (0, 0))) (hl : s.length = 18) (e0 : gS s 1 = some k) :
 Calls Try.prog 167 #[.pointer (some ⟨gs, 0, none⟩), .agg #[.int .u16 1, .int .u8 i1, .int .u8 i2, .int .u32 k]] w fun e w' => e = .returned (.bool true) ∧ Below w.heap.size w w' := by
 have c0a : _ = some (Value.bool true) := (ae hS (2)).trans ((bZ (s := s) (i := 1) (by omega)).trans (by rw [e0]; rfl))
 have c0b : _ = some (Value.int .u32 k) := (ae hS (3)).trans ((dI (s := s) (i := 1) (by omega)).trans (by rw [e0]; rfl))
 have hlt := av hS
 have HS := aa.mk hS
 clear hS
 go_enter Try.func167, Try.ntmps167
 go_upto_region 5 with (fail)
 refine forget (fun W => ∃ gi, gi = w.heap.size ∧ Below w.heap.size w W ∧ W.heap[gi]? = some (.cells #[.int .u16 1, .int .u8 i1, .int .u8 i2, .int .u32 k] 45 (0, 0))) ⟨_, rfl, ah (Below.refl _ _) _, heap_alloc_new _ _⟩ ?_
 rintro W ⟨gi, egi, hb, hi⟩
 rw [← egi]
 have x0 := ai hb c0a
 have x1 := ai hb c0b
 have y3 : _ = some (Value.int .u32 k) := (ae hi 3).trans rfl
 have HB := aa.mk hb
 have EG := aa.mk egi
 have HCL : aa (∀ w3, Below W.drew.heap.size W.drew w3 → w3.cell? ⟨gs, 2, none⟩ = some (.bool true) ∧ w3.cell? ⟨gs, 3, none⟩ = some (.int .u32 k) ∧ w3.cell? ⟨gi, 3, none⟩ = some (.int .u32 k)) :=
  ⟨fun w3 h3 => ⟨ai h3 (show W.drew.cell? _ = _ from x0), ai h3 (show W.drew.cell? _ = _ from x1), ai h3 (show W.drew.cell? _ = _ from y3)⟩⟩
 clear hb hi egi c0a c0b
 go_region_held3 (fun w' => w'.cell? ⟨gs, 2, none⟩ = some (.bool true) ∧ w'.cell? ⟨gs, 3, none⟩ = some (.int .u32 k) ∧ w'.cell? ⟨gi, 3, none⟩ = some (.int .u32 k)) (first | exact ⟨x0, x1, y3⟩ | exact HCL.out _ hk) ((go_at_call 125; refine (PA.gV.calls k true k W.drew rfl).mono ?_; rintro e w3 ⟨rfl, hk⟩))
 have HB3 := ax HB.out (ax (au (Below.refl W.heap.size W)) hk)
 go_wp2
 go_ret
 exact ⟨rfl, HB3⟩
theorem zw (w : World) (gs : Nat) (s : St) (v i1 i2 : Int) (k : Int) (hS : w.heap[gs]? = some (.cells (aC s) 151 (0, 0))) (hl : s.length = 18) (e0 : gS s 1 = some v) (hne : v ≠ k) :
 Calls Try.prog 167 #[.pointer (some ⟨gs, 0, none⟩), .agg #[.int .u16 1, .int .u8 i1, .int .u8 i2, .int .u32 k]] w fun e w' => e = .returned (.bool false) ∧ Below w.heap.size w w' := by
 have c0a : _ = some (Value.bool true) := (ae hS (2)).trans ((bZ (s := s) (i := 1) (by omega)).trans (by rw [e0]; rfl))
 have c0b : _ = some (Value.int .u32 v) := (ae hS (3)).trans ((dI (s := s) (i := 1) (by omega)).trans (by rw [e0]; rfl))
 have hlt := av hS
 have HS := aa.mk hS
 clear hS
 go_enter Try.func167, Try.ntmps167
 go_upto_region 5 with (fail)
 refine forget (fun W => ∃ gi, gi = w.heap.size ∧ Below w.heap.size w W ∧ W.heap[gi]? = some (.cells #[.int .u16 1, .int .u8 i1, .int .u8 i2, .int .u32 k] 45 (0, 0))) ⟨_, rfl, ah (Below.refl _ _) _, heap_alloc_new _ _⟩ ?_
 rintro W ⟨gi, egi, hb, hi⟩
 rw [← egi]
 have x0 := ai hb c0a
 have x1 := ai hb c0b
 have y3 : _ = some (Value.int .u32 k) := (ae hi 3).trans rfl
 have HB := aa.mk hb
 have EG := aa.mk egi
 have HCL : aa (∀ w3, Below W.drew.heap.size W.drew w3 → w3.cell? ⟨gs, 2, none⟩ = some (.bool true) ∧ w3.cell? ⟨gs, 3, none⟩ = some (.int .u32 v) ∧ w3.cell? ⟨gi, 3, none⟩ = some (.int .u32 k)) :=
  ⟨fun w3 h3 => ⟨ai h3 (show W.drew.cell? _ = _ from x0), ai h3 (show W.drew.cell? _ = _ from x1), ai h3 (show W.drew.cell? _ = _ from y3)⟩⟩
 clear hb hi egi c0a c0b
 go_region_held3 (fun w' => w'.cell? ⟨gs, 2, none⟩ = some (.bool true) ∧ w'.cell? ⟨gs, 3, none⟩ = some (.int .u32 v) ∧ w'.cell? ⟨gi, 3, none⟩ = some (.int .u32 k)) (first | exact ⟨x0, x1, y3⟩ | exact HCL.out _ hk) ((go_at_call 125; refine (PA.gV.calls k true k W.drew rfl).mono ?_; rintro e w3 ⟨rfl, hk⟩))
 have HB3 := ax HB.out (ax (au (Below.refl W.heap.size W)) hk)
 go_wp2
 go_ret
 exact ⟨rfl, HB3⟩
theorem iy (w : World) (gs : Nat) (s : St) (i : S45) (hS : w.heap[gs]? = some (.cells (aC s) 151 (0, 0))) (hw : Wst s) (hc : stB i.f0 i.f3 = true) (hk : Rg i.f3) :
 Calls Try.prog 167 #[.pointer (some ⟨gs, 0, none⟩), fw i] w fun e w' => e = .returned (.bool (ik s i)) ∧ Below w.heap.size w w' := by
 obtain ⟨_, h16, _, _⟩ := gL hc
 obtain ⟨c, i1, i2, k⟩ := i
 dsimp only at h16 hk
 have hk0 := hk.1
 have hl := hw.len
 unfold ik
 dsimp only
 by_cases c0 : c = 0
 · rw [if_pos c0]; subst c0
   cases e : gS s 0 with
   | none => exact zq w gs s i1 i2 k hS hl e
   | some v =>
    by_cases q : v = k
    · subst q
      rw [decide_eq_true rfl]; exact zu w gs s i1 i2 v hS hl e
    rw [decide_eq_false (fun h => q (Option.some.inj h))]; exact zo w gs s v i1 i2 k hS hl e q
 rw [if_neg c0]
 by_cases c1 : c = 1
 · rw [if_pos c1]; subst c1
   cases e : gS s 1 with
   | none => exact zx w gs s i1 i2 k hS hl e
   | some v =>
    by_cases q : v = k
    · subst q
      rw [decide_eq_true rfl]; exact zy w gs s i1 i2 v hS hl e
    rw [decide_eq_false (fun h => q (Option.some.inj h))]; exact zw w gs s v i1 i2 k hS hl e q
 rw [if_neg c1]
 by_cases c2 : c = 2
 · rw [if_pos c2]; subst c2
   have hk6 := h16 (by omega)
   obtain ⟨n, rfl⟩ : ∃ n : Nat, k = (n : Int) := ⟨k.toNat, by omega⟩
   rw [Int.toNat_natCast]
   cases e : gS s 0 with
   | none => exact zF w gs s i1 i2 n hS hl (by omega) e
   | some v =>
    cases e1 : gS s (2 + n) with
    | none => exact zD w gs s v i1 i2 n hS hl (by omega) e e1
    | some u =>
     by_cases q : u = v
     · subst q
       rw [decide_eq_true rfl]; exact zG w gs s u i1 i2 n hS hl (by omega) e e1
     rw [decide_eq_false (fun h => q (Option.some.inj h))]; exact zC w gs s v u i1 i2 n hS hl (by omega) e e1 q
 rw [if_neg c2]
 by_cases c3 : c = 3
 · rw [if_pos c3]; subst c3
   have hk6 := h16 (by omega)
   obtain ⟨n, rfl⟩ : ∃ n : Nat, k = (n : Int) := ⟨k.toNat, by omega⟩
   rw [Int.toNat_natCast]
   cases e : gS s 1 with
   | none => exact zJ w gs s i1 i2 n hS hl (by omega) e
   | some v =>
    cases e1 : gS s (2 + n) with
    | none => exact zI w gs s v i1 i2 n hS hl (by omega) e e1
    | some u =>
     by_cases q : u = v
     · subst q
       rw [decide_eq_true rfl]; exact zK w gs s u i1 i2 n hS hl (by omega) e e1
     rw [decide_eq_false (fun h => q (Option.some.inj h))]; exact zH w gs s v u i1 i2 n hS hl (by omega) e e1 q
 rw [if_neg c3]
 by_cases c4 : c = 4 ∨ c = 20 ∨ c = 68 ∨ c = 164 ∨ c = 100 ∨ c = 116
 · rw [if_pos c4]
   rcases c4 with rfl | rfl | rfl | rfl | rfl | rfl
   · exact idle_z4 w gs s i1 i2 k hS hl
   · exact zL w gs s i1 i2 k hS hl
   · exact zM w gs s i1 i2 k hS hl
   · exact wZ w gs s i1 i2 k hS hl
   · exact wX w gs s i1 i2 k hS hl
   exact wY w gs s i1 i2 k hS hl
 rw [if_neg c4]
 by_cases c5 : c = 36 ∨ c = 52
 · rw [if_pos c5]
   rcases c5 with rfl | rfl
   · exact zA w gs s i1 i2 k hS hl
   exact zB w gs s i1 i2 k hS hl
 rw [if_neg c5]
 by_cases c6 : c = 84
 · rw [if_pos c6]; subst c6
   exact zz w gs s i1 i2 k hS hl
 rw [if_neg c6]
 exact idle_no w gs s c i1 i2 k hS hl (bn c0) (bn c1) (bn c2) (bn c3) (bn (by omega)) (bn (by omega)) (bn (by omega)) (bn (by omega)) (bn (by omega)) (bn (by omega)) (bn (by omega)) (bn (by omega)) (bn c6)
end Go.Proofs.Ytdkalnkplgfgoaa.Ln
