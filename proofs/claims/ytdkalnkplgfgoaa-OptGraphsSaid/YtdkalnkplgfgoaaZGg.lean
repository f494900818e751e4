/- Lemmas and walks for the statements of the texts ZGZ..: the declarations that they need, taken together by a program of this session. Conditions: as each says. -/
import Derived.ArgAppend
import Derived.Test.YtdkalnkplgfgoaaZGb
import Derived.Test.YtdkalnkplgfgoaaZGc
import Derived.Test.YtdkalnkplgfgoaaZGd
import Derived.Test.YtdkalnkplgfgoaaZGf
set_option maxHeartbeats 4000000
set_option maxRecDepth 100000
set_option linter.unusedVariables false
set_option linter.unusedSimpArgs false
namespace Go.Proofs.Ytdkalnkplgfgoaa.Ln
open Go.RowKit Go.Maps Go.Proofs.YtdkalnkplgfgoaaW.PrintWords Go.Proofs.YtdkalnkplgfgoaaW.PrintLast Go.Proofs.YtdkalnkplgfgoaaW.PrintMore Go.Proofs.Ytdkalnkplgfgoaa.PA
theorem simp_o (w : World) (gs : Nat) (s : St) (j : S45) (hS : w.heap[gs]? = some (.cells (aC s) 151 (0, 0))) (hw : Wst s) (hc : stB j.f0 j.f3 = true) (hk : Rg j.f3)
 (n0 : (aN j.f0 == 0) = false) (n1 : (aN j.f0 == 1) = false) (n7 : (aN j.f0 == 7) = false) (n4 : (aN j.f0 == 4) = false) :
 Calls Try.prog 159 #[.pointer (some ⟨gs, 0, none⟩), fw j] w fun e w' => e = .returned (.tuple #[fw j, .bool (!ik s j)]) ∧ Below w.heap.size w w' := by
 have HS := aa.mk hS
 have HW := aa.mk hw
 have HJ := aa.mk (And.intro hc hk)
 have HC := aa.mk (fun W => aD.calls (0 + 8) j.f0 (aN j.f0) W (gT j.f0 0).1)
 clear hS hw hc hk
 unfold fw at *
 go_enter Try.func159, Try.ntmps159
 go_upto_region 1 with (fail)
 refine forget (fun W => ∃ gi, gi = w.heap.size ∧ Below w.heap.size w W ∧ W.heap[gi]? = some (.cells #[.int .u16 j.f0, .int .u8 j.f1, .int .u8 j.f2, .int .u32 j.f3] 45 (0, 0)) ∧ W.heap[gi + 1]? = some (.cells #[.int .u16 0, .int .u8 0, .int .u8 0, .int .u32 0] 45 (0, 0))) ⟨_, rfl, bX _ _ _, kY _ _ _, eZ _ _ _⟩ ?_
 rintro W ⟨gi, egi, hb, hi, hr⟩
 rw [← egi]
 have y0 : _ = some (Value.int .u16 j.f0) := (ae hi 0).trans rfl
 have HB := aa.mk hb
 have HI := aa.mk hi
 have HR := aa.mk hr
 have EG := aa.mk egi
 clear hb hi hr egi
 go_upto_region 12 with (go_at_call 99; refine (HC.out _).mono ?_; rintro e w' ⟨rfl, ⟨nd, rfl⟩⟩)
 have hq := aA (Below.refl W.heap.size W) nd
 refine forget (fun V => Below w.heap.size w V ∧ V.heap[gs]? = some (.cells (aC s) 151 (0, 0)) ∧ V.heap[gi]? = some (.cells #[.int .u16 j.f0, .int .u8 j.f1, .int .u8 j.f2, .int .u32 j.f3] 45 (0, 0)) ∧ V.heap[gi + 1]? = some (.cells #[.int .u16 0, .int .u8 0, .int .u8 0, .int .u32 0] 45 (0, 0)))
  ⟨ax HB.out hq, ak (ak HS.out HB.out) hq, ak HI.out hq, ak HR.out hq⟩ ?_
 clear hq y0 HB HS HI HR
 rintro V ⟨hb, hs, hi, hr⟩
 obtain ⟨p0, p1, p2, p3, -, -, -, -⟩ := cz4 ⟨hi⟩
 obtain ⟨z0, z1, z2, z3, t0, t1, t2, t3⟩ := cz4 ⟨hr⟩
 have HSC : aa (∀ V', Below V.heap.size V V' → V'.heap[gs]? = some (.cells (aC s) 151 (0, 0))) := ⟨fun V' h => ak hs h⟩
 have KC := aa.mk (nQ hi hr)
 have HB := aa.mk hb
 have HR := aa.mk hr
 clear hb hs hi hr
 refine fJ 7 (SJ gi j) [5] ⟨p0, p1, p2, p3, z0, z1, z2, z3, t0, t1, t2, t3⟩ (fun hHeld => ?_)
 refine aX 1 55 ?_
 refine dV 0 54 hHeld ?_
 refine dV 2 56 hHeld ?_
 refine jR 3 (some 57) (fun K hK => ?_)
 refine iY Try.func167 #[.pointer (some ⟨gs, 0, none⟩), fw j] ?_
 with_reducible refine (iy _ gs s j (HSC.out _ kD) HW.out HJ.out.1 HJ.out.2).mono ?_
 rintro e w3 ⟨rfl, hk3⟩
 refine ⟨_, rfl, ?_⟩
 refine hK.out _ _ (KC.out _ _ kD hk3) (fun hHeld => ?_)
 clear hK K
 refine ic 57 ?_
 refine aX 4 58 ?_
 refine iA 5 none (fun K hK => ?_)
 refine jb ?_
 refine hK.out _ _ ?_
 clear hK K
 refine aX 6 5 ?_
 refine iU (by kernel_rfl) ?_
 go_wp2
 have h1 := ax (au (Below.refl V.heap.size V)) hk3
 refine bodyPost_ret (iB rfl _ _ (gi + 1) 45 #[.int .u16 j.f0, .int .u8 j.f1, .int .u8 j.f2, .int .u32 j.f3] (0, 0) _ rfl (jU (ak HR.out h1) _ _ _ _) Try.underlying45 rfl (by kernel_rfl)) rfl ?_
 exact ⟨rfl, fP (ax HB.out h1) (by have := EG.out; omega) _ _ _ _⟩
theorem ku {W : World} {g x : Nat} {cs : Array Value} {T : TypeId} {v0 v1 v2 v3 : Value} (h : W.heap[x]? = some (.cells cs T (0, 0))) (hne : x ≠ g) :
 ((((W.setCell ⟨g, 0, none⟩ v0).setCell ⟨g, 1, none⟩ v1).setCell ⟨g, 2, none⟩ v2).setCell ⟨g, 3, none⟩ v3).heap[x]? = some (.cells cs T (0, 0)) :=
 dw (dw (dw (dw h hne _) hne _) hne _) hne _
theorem simp_l0 (w : World) (gs : Nat) (s : St) (i j : S45) (hS : w.heap[gs]? = some (.cells (aC s) 151 (0, 0))) (hw : Wst s) (hc : stB j.f0 j.f3 = true) (hk : Rg j.f3) (n0 : (aN i.f0 == 0) = true) (hl : ∀ W' : World, W'.heap[gs]? = some (.cells (aC s) 151 (0, 0)) → Calls Try.prog 165 #[.pointer (some ⟨gs, 0, none⟩), .agg #[.int .u16 i.f0, .int .u8 i.f1, .int .u8 i.f2, .int .u32 i.f3]] W' fun e w' => e = .returned (.agg #[.int .u16 j.f0, .int .u8 j.f1, .int .u8 j.f2, .int .u32 j.f3]) ∧ Below W'.heap.size W' w') :
 Calls Try.prog 159 #[.pointer (some ⟨gs, 0, none⟩), fw i] w fun e w' => e = .returned (.tuple #[fw j, .bool (!ik s j)]) ∧ Below w.heap.size w w' := by
 have HS := aa.mk hS
 have HW := aa.mk hw
 have HJ := aa.mk (And.intro hc hk)
 have HC := aa.mk (fun W => aD.calls (0 + 8) i.f0 (aN i.f0) W (gT i.f0 0).1)
 have HL := aa.mk hl
 clear hl
 clear hS hw hc hk
 unfold fw at *
 go_enter Try.func159, Try.ntmps159
 go_upto_region 1 with (fail)
 refine forget (fun W => ∃ gi, gi = w.heap.size ∧ Below w.heap.size w W ∧ W.heap[gi]? = some (.cells #[.int .u16 i.f0, .int .u8 i.f1, .int .u8 i.f2, .int .u32 i.f3] 45 (0, 0)) ∧ W.heap[gi + 1]? = some (.cells #[.int .u16 0, .int .u8 0, .int .u8 0, .int .u32 0] 45 (0, 0))) ⟨_, rfl, bX _ _ _, kY _ _ _, eZ _ _ _⟩ ?_
 rintro W ⟨gi, egi, hb, hi, hr⟩
 rw [← egi]
 obtain ⟨y0, y1, y2, y3, f0, f1, f2, f3⟩ := cz4 ⟨hi⟩
 have HB := aa.mk hb
 have HI := aa.mk hi
 have HR := aa.mk hr
 have EG := aa.mk egi
 clear hb hi hr egi
 go_upto_region 12 with (first | (go_at_call 99; refine (HC.out _).mono ?_; rintro e w' ⟨rfl, ⟨nd, rfl⟩⟩) | (go_at_call 165; refine (HL.out _ (ak (ak HS.out HB.out) (aA (Below.refl W.heap.size W) _))).mono ?_; rintro e w5 ⟨rfl, hb5⟩; have HQ5 := aa.mk (ax (aA (Below.refl W.heap.size W) _) hb5); clear hb5; have HI5 := aa.mk (ak HI.out HQ5.out); have u0 : w5.cell? ⟨gi, 0, none⟩ = some (.int .u16 i.f0) := (ae HI5.out 0).trans rfl; have u1 : w5.cell? ⟨gi, 1, none⟩ = some (.int .u8 i.f1) := (ae HI5.out 1).trans rfl; have u2 : w5.cell? ⟨gi, 2, none⟩ = some (.int .u8 i.f2) := (ae HI5.out 2).trans rfl; have u3 : w5.cell? ⟨gi, 3, none⟩ = some (.int .u32 i.f3) := (ae HI5.out 3).trans rfl; have v0 := aj HI5.out 0; have v1 := aj HI5.out 1; have v2 := aj HI5.out 2; have v3 := aj HI5.out 3))
 refine forget (fun V => Below w.heap.size w V ∧ V.heap[gs]? = some (.cells (aC s) 151 (0, 0)) ∧ V.heap[gi]? = some (.cells #[.int .u16 j.f0, .int .u8 j.f1, .int .u8 j.f2, .int .u32 j.f3] 45 (0, 0)) ∧ V.heap[gi + 1]? = some (.cells #[.int .u16 0, .int .u8 0, .int .u8 0, .int .u32 0] 45 (0, 0)))
  ⟨fP (ax HB.out HQ5.out) (by have := EG.out; omega) _ _ _ _, by
   have h5 := ak (ak HS.out HB.out) HQ5.out
   have hne : gs ≠ gi := by have := EG.out; have := av HS.out; omega
   exact ku h5 hne, jU HI5.out _ _ _ _, ku (ak HR.out HQ5.out) (by omega)⟩ ?_
 clear u0 u1 u2 u3 v0 v1 v2 v3 HQ5 HI5
 clear y0 y1 y2 y3 f0 f1 f2 f3 HB HS HI HR
 rintro V ⟨hb, hs, hi, hr⟩
 obtain ⟨p0, p1, p2, p3, -, -, -, -⟩ := cz4 ⟨hi⟩
 obtain ⟨z0, z1, z2, z3, t0, t1, t2, t3⟩ := cz4 ⟨hr⟩
 have HSC : aa (∀ V', Below V.heap.size V V' → V'.heap[gs]? = some (.cells (aC s) 151 (0, 0))) := ⟨fun V' h => ak hs h⟩
 have KC := aa.mk (nQ hi hr)
 have HB := aa.mk hb
 have HR := aa.mk hr
 clear hb hs hi hr
 refine fJ 7 (SJ gi j) [5] ⟨p0, p1, p2, p3, z0, z1, z2, z3, t0, t1, t2, t3⟩ (fun hHeld => ?_)
 refine aX 1 55 ?_
 refine dV 0 54 hHeld ?_
 refine dV 2 56 hHeld ?_
 refine jR 3 (some 57) (fun K hK => ?_)
 refine iY Try.func167 #[.pointer (some ⟨gs, 0, none⟩), fw j] ?_
 with_reducible refine (iy _ gs s j (HSC.out _ kD) HW.out HJ.out.1 HJ.out.2).mono ?_
 rintro e w3 ⟨rfl, hk3⟩
 refine ⟨_, rfl, ?_⟩
 refine hK.out _ _ (KC.out _ _ kD hk3) (fun hHeld => ?_)
 clear hK K
 refine ic 57 ?_
 refine aX 4 58 ?_
 refine iA 5 none (fun K hK => ?_)
 refine jb ?_
 refine hK.out _ _ ?_
 clear hK K
 refine aX 6 5 ?_
 refine iU (by kernel_rfl) ?_
 go_wp2
 have h1 := ax (au (Below.refl V.heap.size V)) hk3
 refine bodyPost_ret (iB rfl _ _ (gi + 1) 45 #[.int .u16 j.f0, .int .u8 j.f1, .int .u8 j.f2, .int .u32 j.f3] (0, 0) _ rfl (jU (ak HR.out h1) _ _ _ _) Try.underlying45 rfl (by kernel_rfl)) rfl ?_
 exact ⟨rfl, fP (ax HB.out h1) (by have := EG.out; omega) _ _ _ _⟩
theorem simp_l1 (w : World) (gs : Nat) (s : St) (i j : S45) (hS : w.heap[gs]? = some (.cells (aC s) 151 (0, 0))) (hw : Wst s) (hc : stB j.f0 j.f3 = true) (hk : Rg j.f3) (n0 : (aN i.f0 == 0) = false) (n1 : (aN i.f0 == 1) = true) (n7 : (aN i.f0 == 7) = false) (n4 : (aN i.f0 == 4) = false) (hl : ∀ W' : World, W'.heap[gs]? = some (.cells (aC s) 151 (0, 0)) → Calls Try.prog 165 #[.pointer (some ⟨gs, 0, none⟩), .agg #[.int .u16 i.f0, .int .u8 i.f1, .int .u8 i.f2, .int .u32 i.f3]] W' fun e w' => e = .returned (.agg #[.int .u16 j.f0, .int .u8 j.f1, .int .u8 j.f2, .int .u32 j.f3]) ∧ Below W'.heap.size W' w') :
 Calls Try.prog 159 #[.pointer (some ⟨gs, 0, none⟩), fw i] w fun e w' => e = .returned (.tuple #[fw j, .bool (!ik s j)]) ∧ Below w.heap.size w w' := by
 have HS := aa.mk hS
 have HW := aa.mk hw
 have HJ := aa.mk (And.intro hc hk)
 have HC := aa.mk (fun W => aD.calls (0 + 8) i.f0 (aN i.f0) W (gT i.f0 0).1)
 have HL := aa.mk hl
 clear hl
 clear hS hw hc hk
 unfold fw at *
 go_enter Try.func159, Try.ntmps159
 go_upto_region 1 with (fail)
 refine forget (fun W => ∃ gi, gi = w.heap.size ∧ Below w.heap.size w W ∧ W.heap[gi]? = some (.cells #[.int .u16 i.f0, .int .u8 i.f1, .int .u8 i.f2, .int .u32 i.f3] 45 (0, 0)) ∧ W.heap[gi + 1]? = some (.cells #[.int .u16 0, .int .u8 0, .int .u8 0, .int .u32 0] 45 (0, 0))) ⟨_, rfl, bX _ _ _, kY _ _ _, eZ _ _ _⟩ ?_
 rintro W ⟨gi, egi, hb, hi, hr⟩
 rw [← egi]
 obtain ⟨y0, y1, y2, y3, f0, f1, f2, f3⟩ := cz4 ⟨hi⟩
 have HB := aa.mk hb
 have HI := aa.mk hi
 have HR := aa.mk hr
 have EG := aa.mk egi
 clear hb hi hr egi
 go_upto_region 12 with (first | (go_at_call 99; refine (HC.out _).mono ?_; rintro e w' ⟨rfl, ⟨nd, rfl⟩⟩) | (go_at_call 165; refine (HL.out _ (ak (ak HS.out HB.out) (aA (Below.refl W.heap.size W) _))).mono ?_; rintro e w5 ⟨rfl, hb5⟩; have HQ5 := aa.mk (ax (aA (Below.refl W.heap.size W) _) hb5); clear hb5; have HI5 := aa.mk (ak HI.out HQ5.out); have u0 : w5.cell? ⟨gi, 0, none⟩ = some (.int .u16 i.f0) := (ae HI5.out 0).trans rfl; have u1 : w5.cell? ⟨gi, 1, none⟩ = some (.int .u8 i.f1) := (ae HI5.out 1).trans rfl; have u2 : w5.cell? ⟨gi, 2, none⟩ = some (.int .u8 i.f2) := (ae HI5.out 2).trans rfl; have u3 : w5.cell? ⟨gi, 3, none⟩ = some (.int .u32 i.f3) := (ae HI5.out 3).trans rfl; have v0 := aj HI5.out 0; have v1 := aj HI5.out 1; have v2 := aj HI5.out 2; have v3 := aj HI5.out 3))
 refine forget (fun V => Below w.heap.size w V ∧ V.heap[gs]? = some (.cells (aC s) 151 (0, 0)) ∧ V.heap[gi]? = some (.cells #[.int .u16 j.f0, .int .u8 j.f1, .int .u8 j.f2, .int .u32 j.f3] 45 (0, 0)) ∧ V.heap[gi + 1]? = some (.cells #[.int .u16 0, .int .u8 0, .int .u8 0, .int .u32 0] 45 (0, 0)))
  ⟨fP (ax HB.out HQ5.out) (by have := EG.out; omega) _ _ _ _, by
   have h5 := ak (ak HS.out HB.out) HQ5.out
   have hne : gs ≠ gi := by have := EG.out; have := av HS.out; omega
   exact ku h5 hne, jU HI5.out _ _ _ _, ku (ak HR.out HQ5.out) (by omega)⟩ ?_
 clear u0 u1 u2 u3 v0 v1 v2 v3 HQ5 HI5
 clear y0 y1 y2 y3 f0 f1 f2 f3 HB HS HI HR
 rintro V ⟨hb, hs, hi, hr⟩
 obtain ⟨p0, p1, p2, p3, -, -, -, -⟩ := cz4 ⟨hi⟩
 obtain ⟨z0, z1, z2, z3, t0, t1, t2, t3⟩ := cz4 ⟨hr⟩
 have HSC : aa (∀ V', Below V.heap.size V V' → V'.heap[gs]? = some (.cells (aC s) 151 (0, 0))) := ⟨fun V' h => ak hs h⟩
 have KC := aa.mk (nQ hi hr)
 have HB := aa.mk hb
 have HR := aa.mk hr
 clear hb hs hi hr
 refine fJ 7 (SJ gi j) [5] ⟨p0, p1, p2, p3, z0, z1, z2, z3, t0, t1, t2, t3⟩ (fun hHeld => ?_)
 refine aX 1 55 ?_
 refine dV 0 54 hHeld ?_
 refine dV 2 56 hHeld ?_
 refine jR 3 (some 57) (fun K hK => ?_)
 refine iY Try.func167 #[.pointer (some ⟨gs, 0, none⟩), fw j] ?_
 with_reducible refine (iy _ gs s j (HSC.out _ kD) HW.out HJ.out.1 HJ.out.2).mono ?_
 rintro e w3 ⟨rfl, hk3⟩
 refine ⟨_, rfl, ?_⟩
 refine hK.out _ _ (KC.out _ _ kD hk3) (fun hHeld => ?_)
 clear hK K
 refine ic 57 ?_
 refine aX 4 58 ?_
 refine iA 5 none (fun K hK => ?_)
 refine jb ?_
 refine hK.out _ _ ?_
 clear hK K
 refine aX 6 5 ?_
 refine iU (by kernel_rfl) ?_
 go_wp2
 have h1 := ax (au (Below.refl V.heap.size V)) hk3
 refine bodyPost_ret (iB rfl _ _ (gi + 1) 45 #[.int .u16 j.f0, .int .u8 j.f1, .int .u8 j.f2, .int .u32 j.f3] (0, 0) _ rfl (jU (ak HR.out h1) _ _ _ _) Try.underlying45 rfl (by kernel_rfl)) rfl ?_
 exact ⟨rfl, fP (ax HB.out h1) (by have := EG.out; omega) _ _ _ _⟩
theorem simp_a (w : World) (gs : Nat) (s : St) (i j : S45) (hS : w.heap[gs]? = some (.cells (aC s) 151 (0, 0))) (hw : Wst s) (hc : stB j.f0 j.f3 = true) (hk : Rg j.f3) (n0 : (aN i.f0 == 0) = false) (n1 : (aN i.f0 == 1) = false) (n7 : (aN i.f0 == 7) = false) (n4 : (aN i.f0 == 4) = true) (hl : ∀ W' : World, W'.heap[gs]? = some (.cells (aC s) 151 (0, 0)) → Calls Try.prog 166 #[.pointer (some ⟨gs, 0, none⟩), .agg #[.int .u16 i.f0, .int .u8 i.f1, .int .u8 i.f2, .int .u32 i.f3]] W' fun e w' => e = .returned (.agg #[.int .u16 j.f0, .int .u8 j.f1, .int .u8 j.f2, .int .u32 j.f3]) ∧ Below W'.heap.size W' w') :
 Calls Try.prog 159 #[.pointer (some ⟨gs, 0, none⟩), fw i] w fun e w' => e = .returned (.tuple #[fw j, .bool (!ik s j)]) ∧ Below w.heap.size w w' := by
 have HS := aa.mk hS
 have HW := aa.mk hw
 have HJ := aa.mk (And.intro hc hk)
 have HC := aa.mk (fun W => aD.calls (0 + 8) i.f0 (aN i.f0) W (gT i.f0 0).1)
 have HL := aa.mk hl
 clear hl
 clear hS hw hc hk
 unfold fw at *
 go_enter Try.func159, Try.ntmps159
 go_upto_region 1 with (fail)
 refine forget (fun W => ∃ gi, gi = w.heap.size ∧ Below w.heap.size w W ∧ W.heap[gi]? = some (.cells #[.int .u16 i.f0, .int .u8 i.f1, .int .u8 i.f2, .int .u32 i.f3] 45 (0, 0)) ∧ W.heap[gi + 1]? = some (.cells #[.int .u16 0, .int .u8 0, .int .u8 0, .int .u32 0] 45 (0, 0))) ⟨_, rfl, bX _ _ _, kY _ _ _, eZ _ _ _⟩ ?_
 rintro W ⟨gi, egi, hb, hi, hr⟩
 rw [← egi]
 obtain ⟨y0, y1, y2, y3, f0, f1, f2, f3⟩ := cz4 ⟨hi⟩
 have HB := aa.mk hb
 have HI := aa.mk hi
 have HR := aa.mk hr
 have EG := aa.mk egi
 clear hb hi hr egi
 go_upto_region 12 with (first | (go_at_call 99; refine (HC.out _).mono ?_; rintro e w' ⟨rfl, ⟨nd, rfl⟩⟩) | (go_at_call 166; refine (HL.out _ (ak (ak HS.out HB.out) (aA (Below.refl W.heap.size W) _))).mono ?_; rintro e w5 ⟨rfl, hb5⟩; have HQ5 := aa.mk (ax (aA (Below.refl W.heap.size W) _) hb5); clear hb5; have HI5 := aa.mk (ak HI.out HQ5.out); have u0 : w5.cell? ⟨gi, 0, none⟩ = some (.int .u16 i.f0) := (ae HI5.out 0).trans rfl; have u1 : w5.cell? ⟨gi, 1, none⟩ = some (.int .u8 i.f1) := (ae HI5.out 1).trans rfl; have u2 : w5.cell? ⟨gi, 2, none⟩ = some (.int .u8 i.f2) := (ae HI5.out 2).trans rfl; have u3 : w5.cell? ⟨gi, 3, none⟩ = some (.int .u32 i.f3) := (ae HI5.out 3).trans rfl; have v0 := aj HI5.out 0; have v1 := aj HI5.out 1; have v2 := aj HI5.out 2; have v3 := aj HI5.out 3))
 refine forget (fun V => Below w.heap.size w V ∧ V.heap[gs]? = some (.cells (aC s) 151 (0, 0)) ∧ V.heap[gi]? = some (.cells #[.int .u16 j.f0, .int .u8 j.f1, .int .u8 j.f2, .int .u32 j.f3] 45 (0, 0)) ∧ V.heap[gi + 1]? = some (.cells #[.int .u16 0, .int .u8 0, .int .u8 0, .int .u32 0] 45 (0, 0)))
  ⟨fP (ax HB.out HQ5.out) (by have := EG.out; omega) _ _ _ _, by
   have h5 := ak (ak HS.out HB.out) HQ5.out
   have hne : gs ≠ gi := by have := EG.out; have := av HS.out; omega
   exact ku h5 hne, jU HI5.out _ _ _ _, ku (ak HR.out HQ5.out) (by omega)⟩ ?_
 clear u0 u1 u2 u3 v0 v1 v2 v3 HQ5 HI5
 clear y0 y1 y2 y3 f0 f1 f2 f3 HB HS HI HR
 rintro V ⟨hb, hs, hi, hr⟩
 obtain ⟨p0, p1, p2, p3, -, -, -, -⟩ := cz4 ⟨hi⟩
 obtain ⟨z0, z1, z2, z3, t0, t1, t2, t3⟩ := cz4 ⟨hr⟩
 have HSC : aa (∀ V', Below V.heap.size V V' → V'.heap[gs]? = some (.cells (aC s) 151 (0, 0))) := ⟨fun V' h => ak hs h⟩
 have KC := aa.mk (nQ hi hr)
 have HB := aa.mk hb
 have HR := aa.mk hr
 clear hb hs hi hr
 refine fJ 7 (SJ gi j) [5] ⟨p0, p1, p2, p3, z0, z1, z2, z3, t0, t1, t2, t3⟩ (fun hHeld => ?_)
 refine aX 1 55 ?_
 refine dV 0 54 hHeld ?_
 refine dV 2 56 hHeld ?_
 refine jR 3 (some 57) (fun K hK => ?_)
 refine iY Try.func167 #[.pointer (some ⟨gs, 0, none⟩), fw j] ?_
 with_reducible refine (iy _ gs s j (HSC.out _ kD) HW.out HJ.out.1 HJ.out.2).mono ?_
 rintro e w3 ⟨rfl, hk3⟩
 refine ⟨_, rfl, ?_⟩
 refine hK.out _ _ (KC.out _ _ kD hk3) (fun hHeld => ?_)
 clear hK K
 refine ic 57 ?_
 refine aX 4 58 ?_
 refine iA 5 none (fun K hK => ?_)
 refine jb ?_
 refine hK.out _ _ ?_
 clear hK K
 refine aX 6 5 ?_
 refine iU (by kernel_rfl) ?_
 go_wp2
 have h1 := ax (au (Below.refl V.heap.size V)) hk3
 refine bodyPost_ret (iB rfl _ _ (gi + 1) 45 #[.int .u16 j.f0, .int .u8 j.f1, .int .u8 j.f2, .int .u32 j.f3] (0, 0) _ rfl (jU (ak HR.out h1) _ _ _ _) Try.underlying45 rfl (by kernel_rfl)) rfl ?_
 exact ⟨rfl, fP (ax HB.out h1) (by have := EG.out; omega) _ _ _ _⟩
theorem simp_ty (w : World) (gs : Nat) (s : St) (i j : S45) (hS : w.heap[gs]? = some (.cells (aC s) 151 (0, 0))) (hw : Wst s) (hc : stB j.f0 j.f3 = true) (hk : Rg j.f3) (n0 : (aN i.f0 == 0) = false) (n1 : (aN i.f0 == 1) = false) (n7 : (aN i.f0 == 7) = true) (n4 : (aN i.f0 == 4) = false) (h7 : (i.f0 == 7) = true) (h135 : (i.f0 == 135) = false) (v : Int) (e0 : gS s 0 = some v) (hj : j = ⟨1, 0, 0, v⟩) :
 Calls Try.prog 159 #[.pointer (some ⟨gs, 0, none⟩), fw i] w fun e w' => e = .returned (.tuple #[fw j, .bool (!ik s j)]) ∧ Below w.heap.size w w' := by
 have HS := aa.mk hS
 have HW := aa.mk hw
 have HJ := aa.mk (And.intro hc hk)
 have HC := aa.mk (fun W => aD.calls (0 + 8) i.f0 (aN i.f0) W (gT i.f0 0).1)
 have c0 : _ = some (Value.bool true) := (ae hS 0).trans ((bZ (s := s) (i := 0) (by have := hw.len; omega)).trans (by rw [e0]; rfl))
 have c1 : _ = some (Value.int .u32 v) := (ae hS 1).trans ((dI (s := s) (i := 0) (by have := hw.len; omega)).trans (by rw [e0]; rfl))
 have HJ2 := aa.mk hj
 clear hj
 clear hS hw hc hk
 unfold fw at *
 go_enter Try.func159, Try.ntmps159
 go_upto_region 1 with (fail)
 refine forget (fun W => ∃ gi, gi = w.heap.size ∧ Below w.heap.size w W ∧ W.heap[gi]? = some (.cells #[.int .u16 i.f0, .int .u8 i.f1, .int .u8 i.f2, .int .u32 i.f3] 45 (0, 0)) ∧ W.heap[gi + 1]? = some (.cells #[.int .u16 0, .int .u8 0, .int .u8 0, .int .u32 0] 45 (0, 0))) ⟨_, rfl, bX _ _ _, kY _ _ _, eZ _ _ _⟩ ?_
 rintro W ⟨gi, egi, hb, hi, hr⟩
 rw [← egi]
 obtain ⟨y0, y1, y2, y3, f0, f1, f2, f3⟩ := cz4 ⟨hi⟩
 have x0 : W.cell? ⟨gs, 0, none⟩ = some (Value.bool true) := ai hb c0
 have x1 : W.cell? ⟨gs, 1, none⟩ = some (Value.int .u32 v) := ai hb c1
 clear c0 c1
 have HB := aa.mk hb
 have HI := aa.mk hi
 have HR := aa.mk hr
 have EG := aa.mk egi
 clear hb hi hr egi
 go_upto_region 12 with (first | (go_at_call 99; refine (HC.out _).mono ?_; rintro e w' ⟨rfl, ⟨nd, rfl⟩⟩))
 have hq := aA (Below.refl W.heap.size W) nd
 refine forget (fun V => Below w.heap.size w V ∧ V.heap[gs]? = some (.cells (aC s) 151 (0, 0)) ∧ V.heap[gi]? = some (.cells #[.int .u16 j.f0, .int .u8 j.f1, .int .u8 j.f2, .int .u32 j.f3] 45 (0, 0)) ∧ V.heap[gi + 1]? = some (.cells #[.int .u16 0, .int .u8 0, .int .u8 0, .int .u32 0] 45 (0, 0)))
  ⟨fP (ax HB.out hq) (by have := EG.out; omega) _ _ _ _, by
   have h5 := ak (ak HS.out HB.out) hq
   have hne : gs ≠ gi := by have := EG.out; have := av HS.out; omega
   exact ku h5 hne, by rw [HJ2.out]; exact jU (ak HI.out hq) _ _ _ _, ku (ak HR.out hq) (by omega)⟩ ?_
 clear hq
 clear y0 y1 y2 y3 f0 f1 f2 f3 HB HS HI HR
 rintro V ⟨hb, hs, hi, hr⟩
 obtain ⟨p0, p1, p2, p3, -, -, -, -⟩ := cz4 ⟨hi⟩
 obtain ⟨z0, z1, z2, z3, t0, t1, t2, t3⟩ := cz4 ⟨hr⟩
 have HSC : aa (∀ V', Below V.heap.size V V' → V'.heap[gs]? = some (.cells (aC s) 151 (0, 0))) := ⟨fun V' h => ak hs h⟩
 have KC := aa.mk (nQ hi hr)
 have HB := aa.mk hb
 have HR := aa.mk hr
 clear hb hs hi hr
 refine fJ 7 (SJ gi j) [5] ⟨p0, p1, p2, p3, z0, z1, z2, z3, t0, t1, t2, t3⟩ (fun hHeld => ?_)
 refine aX 1 55 ?_
 refine dV 0 54 hHeld ?_
 refine dV 2 56 hHeld ?_
 refine jR 3 (some 57) (fun K hK => ?_)
 refine iY Try.func167 #[.pointer (some ⟨gs, 0, none⟩), fw j] ?_
 with_reducible refine (iy _ gs s j (HSC.out _ kD) HW.out HJ.out.1 HJ.out.2).mono ?_
 rintro e w3 ⟨rfl, hk3⟩
 refine ⟨_, rfl, ?_⟩
 refine hK.out _ _ (KC.out _ _ kD hk3) (fun hHeld => ?_)
 clear hK K
 refine ic 57 ?_
 refine aX 4 58 ?_
 refine iA 5 none (fun K hK => ?_)
 refine jb ?_
 refine hK.out _ _ ?_
 clear hK K
 refine aX 6 5 ?_
 refine iU (by kernel_rfl) ?_
 go_wp2
 have h1 := ax (au (Below.refl V.heap.size V)) hk3
 refine bodyPost_ret (iB rfl _ _ (gi + 1) 45 #[.int .u16 j.f0, .int .u8 j.f1, .int .u8 j.f2, .int .u32 j.f3] (0, 0) _ rfl (jU (ak HR.out h1) _ _ _ _) Try.underlying45 rfl (by kernel_rfl)) rfl ?_
 exact ⟨rfl, fP (ax HB.out h1) (by have := EG.out; omega) _ _ _ _⟩
theorem simp_tn (w : World) (gs : Nat) (s : St) (i j : S45) (hS : w.heap[gs]? = some (.cells (aC s) 151 (0, 0))) (hw : Wst s) (hc : stB j.f0 j.f3 = true) (hk : Rg j.f3) (n0 : (aN i.f0 == 0) = false) (n1 : (aN i.f0 == 1) = false) (n7 : (aN i.f0 == 7) = true) (n4 : (aN i.f0 == 4) = false) (h7 : (i.f0 == 7) = true) (h135 : (i.f0 == 135) = false) (e0 : gS s 0 = none) (hj : j = i) :
 Calls Try.prog 159 #[.pointer (some ⟨gs, 0, none⟩), fw i] w fun e w' => e = .returned (.tuple #[fw j, .bool (!ik s j)]) ∧ Below w.heap.size w w' := by
 have HS := aa.mk hS
 have HW := aa.mk hw
 have HJ := aa.mk (And.intro hc hk)
 have HC := aa.mk (fun W => aD.calls (0 + 8) i.f0 (aN i.f0) W (gT i.f0 0).1)
 have c0 : _ = some (Value.bool false) := (ae hS 0).trans ((bZ (s := s) (i := 0) (by have := hw.len; omega)).trans (by rw [e0]; rfl))
 have c1 : _ = some (Value.int .u32 0) := (ae hS 1).trans ((dI (s := s) (i := 0) (by have := hw.len; omega)).trans (by rw [e0]; rfl))
 have HJ2 := aa.mk hj
 clear hj
 clear hS hw hc hk
 unfold fw at *
 go_enter Try.func159, Try.ntmps159
 go_upto_region 1 with (fail)
 refine forget (fun W => ∃ gi, gi = w.heap.size ∧ Below w.heap.size w W ∧ W.heap[gi]? = some (.cells #[.int .u16 i.f0, .int .u8 i.f1, .int .u8 i.f2, .int .u32 i.f3] 45 (0, 0)) ∧ W.heap[gi + 1]? = some (.cells #[.int .u16 0, .int .u8 0, .int .u8 0, .int .u32 0] 45 (0, 0))) ⟨_, rfl, bX _ _ _, kY _ _ _, eZ _ _ _⟩ ?_
 rintro W ⟨gi, egi, hb, hi, hr⟩
 rw [← egi]
 obtain ⟨y0, y1, y2, y3, f0, f1, f2, f3⟩ := cz4 ⟨hi⟩
 have x0 : W.cell? ⟨gs, 0, none⟩ = some (Value.bool false) := ai hb c0
 have x1 : W.cell? ⟨gs, 1, none⟩ = some (Value.int .u32 0) := ai hb c1
 clear c0 c1
 have HB := aa.mk hb
 have HI := aa.mk hi
 have HR := aa.mk hr
 have EG := aa.mk egi
 clear hb hi hr egi
 go_upto_region 12 with (first | (go_at_call 99; refine (HC.out _).mono ?_; rintro e w' ⟨rfl, ⟨nd, rfl⟩⟩))
 have hq := aA (Below.refl W.heap.size W) nd
 refine forget (fun V => Below w.heap.size w V ∧ V.heap[gs]? = some (.cells (aC s) 151 (0, 0)) ∧ V.heap[gi]? = some (.cells #[.int .u16 j.f0, .int .u8 j.f1, .int .u8 j.f2, .int .u32 j.f3] 45 (0, 0)) ∧ V.heap[gi + 1]? = some (.cells #[.int .u16 0, .int .u8 0, .int .u8 0, .int .u32 0] 45 (0, 0)))
  ⟨ax HB.out hq, ak (ak HS.out HB.out) hq, by rw [HJ2.out]; exact ak HI.out hq, ak HR.out hq⟩ ?_
 clear hq
 clear y0 y1 y2 y3 f0 f1 f2 f3 HB HS HI HR
 rintro V ⟨hb, hs, hi, hr⟩
 obtain ⟨p0, p1, p2, p3, -, -, -, -⟩ := cz4 ⟨hi⟩
 obtain ⟨z0, z1, z2, z3, t0, t1, t2, t3⟩ := cz4 ⟨hr⟩
 have HSC : aa (∀ V', Below V.heap.size V V' → V'.heap[gs]? = some (.cells (aC s) 151 (0, 0))) := ⟨fun V' h => ak hs h⟩
 have KC := aa.mk (nQ hi hr)
 have HB := aa.mk hb
 have HR := aa.mk hr
 clear hb hs hi hr
 refine fJ 7 (SJ gi j) [5] ⟨p0, p1, p2, p3, z0, z1, z2, z3, t0, t1, t2, t3⟩ (fun hHeld => ?_)
 refine aX 1 55 ?_
 refine dV 0 54 hHeld ?_
 refine dV 2 56 hHeld ?_
 refine jR 3 (some 57) (fun K hK => ?_)
 refine iY Try.func167 #[.pointer (some ⟨gs, 0, none⟩), fw j] ?_
 with_reducible refine (iy _ gs s j (HSC.out _ kD) HW.out HJ.out.1 HJ.out.2).mono ?_
 rintro e w3 ⟨rfl, hk3⟩
 refine ⟨_, rfl, ?_⟩
 refine hK.out _ _ (KC.out _ _ kD hk3) (fun hHeld => ?_)
 clear hK K
 refine ic 57 ?_
 refine aX 4 58 ?_
 refine iA 5 none (fun K hK => ?_)
 refine jb ?_
 refine hK.out _ _ ?_
 clear hK K
 refine aX 6 5 ?_
 refine iU (by kernel_rfl) ?_
 go_wp2
 have h1 := ax (au (Below.refl V.heap.size V)) hk3
 refine bodyPost_ret (iB rfl _ _ (gi + 1) 45 #[.int .u16 j.f0, .int .u8 j.f1, .int .u8 j.f2, .int .u32 j.f3] (0, 0) _ rfl (jU (ak HR.out h1) _ _ _ _) Try.underlying45 rfl (by kernel_rfl)) rfl ?_
 exact ⟨rfl, fP (ax HB.out h1) (by have := EG.out; omega) _ _ _ _⟩
theorem simp_xy (w : World) (gs : Nat) (s : St) (i j : S45) (hS : w.heap[gs]? = some (.cells (aC s) 151 (0, 0))) (hw : Wst s) (hc : stB j.f0 j.f3 = true) (hk : Rg j.f3) (n0 : (aN i.f0 == 0) = false) (n1 : (aN i.f0 == 1) = false) (n7 : (aN i.f0 == 7) = true) (n4 : (aN i.f0 == 4) = false) (h7 : (i.f0 == 7) = false) (h135 : (i.f0 == 135) = true) (v : Int) (e0 : gS s 1 = some v) (hj : j = ⟨0, 0, 0, v⟩) :
 Calls Try.prog 159 #[.pointer (some ⟨gs, 0, none⟩), fw i] w fun e w' => e = .returned (.tuple #[fw j, .bool (!ik s j)]) ∧ Below w.heap.size w w' := by
 have HS := aa.mk hS
 have HW := aa.mk hw
 have HJ := aa.mk (And.intro hc hk)
 have HC := aa.mk (fun W => aD.calls (0 + 8) i.f0 (aN i.f0) W (gT i.f0 0).1)
 have c0 : _ = some (Value.bool true) := (ae hS 2).trans ((bZ (s := s) (i := 1) (by have := hw.len; omega)).trans (by rw [e0]; rfl))
 have c1 : _ = some (Value.int .u32 v) := (ae hS 3).trans ((dI (s := s) (i := 1) (by have := hw.len; omega)).trans (by rw [e0]; rfl))
 have HJ2 := aa.mk hj
 clear hj
 clear hS hw hc hk
 unfold fw at *
 go_enter Try.func159, Try.ntmps159
 go_upto_region 1 with (fail)
 refine forget (fun W => ∃ gi, gi = w.heap.size ∧ Below w.heap.size w W ∧ W.heap[gi]? = some (.cells #[.int .u16 i.f0, .int .u8 i.f1, .int .u8 i.f2, .int .u32 i.f3] 45 (0, 0)) ∧ W.heap[gi + 1]? = some (.cells #[.int .u16 0, .int .u8 0, .int .u8 0, .int .u32 0] 45 (0, 0))) ⟨_, rfl, bX _ _ _, kY _ _ _, eZ _ _ _⟩ ?_
 rintro W ⟨gi, egi, hb, hi, hr⟩
 rw [← egi]
 obtain ⟨y0, y1, y2, y3, f0, f1, f2, f3⟩ := cz4 ⟨hi⟩
 have x0 : W.cell? ⟨gs, 2, none⟩ = some (Value.bool true) := ai hb c0
 have x1 : W.cell? ⟨gs, 3, none⟩ = some (Value.int .u32 v) := ai hb c1
 clear c0 c1
 have HB := aa.mk hb
 have HI := aa.mk hi
 have HR := aa.mk hr
 have EG := aa.mk egi
 clear hb hi hr egi
 go_upto_region 12 with (first | (go_at_call 99; refine (HC.out _).mono ?_; rintro e w' ⟨rfl, ⟨nd, rfl⟩⟩))
 have hq := aA (Below.refl W.heap.size W) nd
 refine forget (fun V => Below w.heap.size w V ∧ V.heap[gs]? = some (.cells (aC s) 151 (0, 0)) ∧ V.heap[gi]? = some (.cells #[.int .u16 j.f0, .int .u8 j.f1, .int .u8 j.f2, .int .u32 j.f3] 45 (0, 0)) ∧ V.heap[gi + 1]? = some (.cells #[.int .u16 0, .int .u8 0, .int .u8 0, .int .u32 0] 45 (0, 0)))
  ⟨fP (ax HB.out hq) (by have := EG.out; omega) _ _ _ _, by
   have h5 := ak (ak HS.out HB.out) hq
   have hne : gs ≠ gi := by have := EG.out; have := av HS.out; omega
   exact ku h5 hne, by rw [HJ2.out]; exact jU (ak HI.out hq) _ _ _ _, ku (ak HR.out hq) (by omega)⟩ ?_
 clear hq
 clear y0 y1 y2 y3 f0 f1 f2 f3 HB HS HI HR
 rintro V ⟨hb, hs, hi, hr⟩
 obtain ⟨p0, p1, p2, p3, -, -, -, -⟩ := cz4 ⟨hi⟩
 obtain ⟨z0, z1, z2, z3, t0, t1, t2, t3⟩ := cz4 ⟨hr⟩
 have HSC : aa (∀ V', Below V.heap.size V V' → V'.heap[gs]? = some (.cells (aC s) 151 (0, 0))) := ⟨fun V' h => ak hs h⟩
 have KC := aa.mk (nQ hi hr)
 have HB := aa.mk hb
 have HR := aa.mk hr
 clear hb hs hi hr
 refine fJ 7 (SJ gi j) [5] ⟨p0, p1, p2, p3, z0, z1, z2, z3, t0, t1, t2, t3⟩ (fun hHeld => ?_)
 refine aX 1 55 ?_
 refine dV 0 54 hHeld ?_
 refine dV 2 56 hHeld ?_
 refine jR 3 (some 57) (fun K hK => ?_)
 refine iY Try.func167 #[.pointer (some ⟨gs, 0, none⟩), fw j] ?_
 with_reducible refine (iy _ gs s j (HSC.out _ kD) HW.out HJ.out.1 HJ.out.2).mono ?_
 rintro e w3 ⟨rfl, hk3⟩
 refine ⟨_, rfl, ?_⟩
 refine hK.out _ _ (KC.out _ _ kD hk3) (fun hHeld => ?_)
 clear hK K
 refine ic 57 ?_
 refine aX 4 58 ?_
 refine iA 5 none (fun K hK => ?_)
 refine jb ?_
 refine hK.out _ _ ?_
 clear hK K
 refine aX 6 5 ?_
 refine iU (by kernel_rfl) ?_
 go_wp2
 have h1 := ax (au (Below.refl V.heap.size V)) hk3
 refine bodyPost_ret (iB rfl _ _ (gi + 1) 45 #[.int .u16 j.f0, .int .u8 j.f1, .int .u8 j.f2, .int .u32 j.f3] (0, 0) _ rfl (jU (ak HR.out h1) _ _ _ _) Try.underlying45 rfl (by kernel_rfl)) rfl ?_
 exact ⟨rfl, fP (ax HB.out h1) (by have := EG.out; omega) _ _ _ _⟩
theorem simp_xn (w : World) (gs : Nat) (s : St) (i j : S45) (hS : w.heap[gs]? = some (.cells (aC s) 151 (0, 0))) (hw : Wst s) (hc : stB j.f0 j.f3 = true) (hk : Rg j.f3) (n0 : (aN i.f0 == 0) = false) (n1 : (aN i.f0 == 1) = false) (n7 : (aN i.f0 == 7) = true) (n4 : (aN i.f0 == 4) = false) (h7 : (i.f0 == 7) = false) (h135 : (i.f0 == 135) = true) (e0 : gS s 1 = none) (hj : j = i) :
 Calls Try.prog 159 #[.pointer (some ⟨gs, 0, none⟩), fw i] w fun e w' => e = .returned (.tuple #[fw j, .bool (!ik s j)]) ∧ Below w.heap.size w w' := by
 have HS := aa.mk hS
 have HW := aa.mk hw
 have HJ := aa.mk (And.intro hc hk)
 have HC := aa.mk (fun W => aD.calls (0 + 8) i.f0 (aN i.f0) W (gT i.f0 0).1)
 have c0 : _ = some (Value.bool false) := (ae hS 2).trans ((bZ (s := s) (i := 1) (by have := hw.len; omega)).trans (by rw [e0]; rfl))
 have c1 : _ = some (Value.int .u32 0) := (ae hS 3).trans ((dI (s := s) (i := 1) (by have := hw.len; omega)).trans (by rw [e0]; rfl))
 have HJ2 := aa.mk hj
 clear hj
 clear hS hw hc hk
 unfold fw at *
 go_enter Try.func159, Try.ntmps159
 go_upto_region 1 with (fail)
 refine forget (fun W => ∃ gi, gi = w.heap.size ∧ Below w.heap.size w W ∧ W.heap[gi]? = some (.cells #[.int .u16 i.f0, .int .u8 i.f1, .int .u8 i.f2, .int .u32 i.f3] 45 (0, 0)) ∧ W.heap[gi + 1]? = some (.cells #[.int .u16 0, .int .u8 0, .int .u8 0, .int .u32 0] 45 (0, 0))) ⟨_, rfl, bX _ _ _, kY _ _ _, eZ _ _ _⟩ ?_
 rintro W ⟨gi, egi, hb, hi, hr⟩
 rw [← egi]
 obtain ⟨y0, y1, y2, y3, f0, f1, f2, f3⟩ := cz4 ⟨hi⟩
 have x0 : W.cell? ⟨gs, 2, none⟩ = some (Value.bool false) := ai hb c0
 have x1 : W.cell? ⟨gs, 3, none⟩ = some (Value.int .u32 0) := ai hb c1
 clear c0 c1
 have HB := aa.mk hb
 have HI := aa.mk hi
 have HR := aa.mk hr
 have EG := aa.mk egi
 clear hb hi hr egi
 go_upto_region 12 with (first | (go_at_call 99; refine (HC.out _).mono ?_; rintro e w' ⟨rfl, ⟨nd, rfl⟩⟩))
 have hq := aA (Below.refl W.heap.size W) nd
 refine forget (fun V => Below w.heap.size w V ∧ V.heap[gs]? = some (.cells (aC s) 151 (0, 0)) ∧ V.heap[gi]? = some (.cells #[.int .u16 j.f0, .int .u8 j.f1, .int .u8 j.f2, .int .u32 j.f3] 45 (0, 0)) ∧ V.heap[gi + 1]? = some (.cells #[.int .u16 0, .int .u8 0, .int .u8 0, .int .u32 0] 45 (0, 0)))
  ⟨ax HB.out hq, ak (ak HS.out HB.out) hq, by rw [HJ2.out]; exact ak HI.out hq, ak HR.out hq⟩ ?_
 clear hq
 clear y0 y1 y2 y3 f0 f1 f2 f3 HB HS HI HR
 rintro V ⟨hb, hs, hi, hr⟩
 obtain ⟨p0, p1, p2, p3, -, -, -, -⟩ := cz4 ⟨hi⟩
 obtain ⟨z0, z1, z2, z3, t0, t1, t2, t3⟩ := cz4 ⟨hr⟩
 have HSC : aa (∀ V', Below V.heap.size V V' → V'.heap[gs]? = some (.cells (aC s) 151 (0, 0))) := ⟨fun V' h => ak hs h⟩
 have KC := aa.mk (nQ hi hr)
 have HB := aa.mk hb
 have HR := aa.mk hr
 clear hb hs hi hr
 refine fJ 7 (SJ gi j) [5] ⟨p0, p1, p2, p3, z0, z1, z2, z3, t0, t1, t2, t3⟩ (fun hHeld => ?_)
 refine aX 1 55 ?_
 refine dV 0 54 hHeld ?_
 refine dV 2 56 hHeld ?_
 refine jR 3 (some 57) (fun K hK => ?_)
 refine iY Try.func167 #[.pointer (some ⟨gs, 0, none⟩), fw j] ?_
 with_reducible refine (iy _ gs s j (HSC.out _ kD) HW.out HJ.out.1 HJ.out.2).mono ?_
 rintro e w3 ⟨rfl, hk3⟩
 refine ⟨_, rfl, ?_⟩
 refine hK.out _ _ (KC.out _ _ kD hk3) (fun hHeld => ?_)
 clear hK K
 refine ic 57 ?_
 refine aX 4 58 ?_
 refine iA 5 none (fun K hK => ?_)
 refine jb ?_
 refine hK.out _ _ ?_
 clear hK K
 refine aX 6 5 ?_
 refine iU (by kernel_rfl) ?_
 go_wp2
 have h1 := ax (au (Below.refl V.heap.size V)) hk3
 refine bodyPost_ret (iB rfl _ _ (gi + 1) 45 #[.int .u16 j.f0, .int .u8 j.f1, .int .u8 j.f2, .int .u32 j.f3] (0, 0) _ rfl (jU (ak HR.out h1) _ _ _ _) Try.underlying45 rfl (by kernel_rfl)) rfl ?_
 exact ⟨rfl, fP (ax HB.out h1) (by have := EG.out; omega) _ _ _ _⟩
theorem iG {a b : Int} (h : a = b) : (a == b) = true := beq_iff_eq.mpr h
theorem qB (w : World) (gs : Nat) (s : St) (i : S45) (hS : w.heap[gs]? = some (.cells (aC s) 151 (0, 0))) (hw : Wst s) (hc : stB i.f0 i.f3 = true) (hk : Rg i.f3) :
 Calls Try.prog 159 #[.pointer (some ⟨gs, 0, none⟩), fw i] w fun e w' => e = .returned (.tuple #[fw (df s i), .bool (!ik s (df s i))]) ∧ Below w.heap.size w w' := by
 obtain ⟨hm, _⟩ := gL hc
 obtain ⟨c0, c1, c2, c3, c4, c5, c6, c7, c8⟩ := uj i.f0 hm
 obtain ⟨jc, jk⟩ := oW hw hc hk
 have hld : i.f0 ∈ ldL ↔ aN i.f0 = 0 ∨ aN i.f0 = 1 := by
  rw [c0, c1]
  simp only [ldL, List.mem_cons, List.not_mem_nil, or_false]
  omega
 by_cases q1 : i.f0 ∈ ldL
 · have ej : df s i = nY s i := by unfold df; rw [if_pos q1]
   rw [ej] at jc jk ⊢
   have hl := fun (W' : World) h => uC W' gs s i h hw hc hk
   by_cases q0 : aN i.f0 = 0
   · exact simp_l0 w gs s i (nY s i) hS hw jc jk (iG q0) hl
   have q2 := (hld.1 q1).resolve_left q0
   exact simp_l1 w gs s i (nY s i) hS hw jc jk (bn q0) (iG q2) (bn (by omega)) (bn (by omega)) hl
 have n0 : aN i.f0 ≠ 0 := fun h => q1 (hld.2 (.inl h))
 have n1 : aN i.f0 ≠ 1 := fun h => q1 (hld.2 (.inr h))
 by_cases q2 : i.f0 = 7 ∨ i.f0 = 135
 · have h7 := c7.2 q2
   have ej : df s i = nZ s i := by unfold df; rw [if_neg q1, if_pos q2]
   rw [ej] at jc jk ⊢
   by_cases q7 : i.f0 = 7
   · cases e : gS s 0 with
     | some v => exact simp_ty w gs s i _ hS hw jc jk (bn n0) (bn n1) (iG h7) (bn (by omega)) (iG q7) (bn (by omega)) v e (by unfold nZ; rw [if_pos q7, e])
     | none => exact simp_tn w gs s i _ hS hw jc jk (bn n0) (bn n1) (iG h7) (bn (by omega)) (iG q7) (bn (by omega)) e (by unfold nZ; rw [if_pos q7, e])
   have q135 := q2.resolve_left q7
   cases e : gS s 1 with
   | some v => exact simp_xy w gs s i _ hS hw jc jk (bn n0) (bn n1) (iG h7) (bn (by omega)) (bn q7) (iG q135) v e (by unfold nZ; rw [if_neg q7, e])
   | none => exact simp_xn w gs s i _ hS hw jc jk (bn n0) (bn n1) (iG h7) (bn (by omega)) (bn q7) (iG q135) e (by unfold nZ; rw [if_neg q7, e])
 have n7 : aN i.f0 ≠ 7 := fun h => q2 (c7.1 h)
 by_cases q3 : i.f0 = 132 ∨ i.f0 ∈ eQ ∨ i.f0 ∈ gB
 · have h4 := c4.2 q3
   have ej : df s i = qZ s i := by unfold df; rw [if_neg q1, if_neg q2, if_pos q3]
   rw [ej] at jc jk ⊢
   exact simp_a w gs s i (qZ s i) hS hw jc jk (bn n0) (bn n1) (bn n7) (iG h4) (fun (W' : World) h => wK W' gs s i h hw hc hk q3)
 have n4 : aN i.f0 ≠ 4 := fun h => q3 (c4.1 h)
 have ej : df s i = i := by unfold df; rw [if_neg q1, if_neg q2, if_neg q3]
 rw [ej]
 exact simp_o w gs s i hS hw hc hk (bn n0) (bn n1) (bn n7) (bn n4)
theorem je {s : St} {i : Nat} (o : Option Int) (h : i < s.length) : ((aC s).setIfInBounds (i * 2) (.bool o.isSome)).setIfInBounds (i * 2 + 1) (.int .u32 (o.getD 0)) = aC (s.set i o) := by rw [Nat.mul_comm]; exact sc_set o h
theorem after_7 (w : World) (gs : Nat) (s : St) (i1 i2 : Int) (k : Int) (hS : w.heap[gs]? = some (.cells (aC s) 151 (0, 0))) (hl : s.length = 18) :
 Calls Try.prog 160 #[.pointer (some ⟨gs, 0, none⟩), .agg #[.int .u16 7, .int .u8 i1, .int .u8 i2, .int .u32 k]] w fun e w' => e = .returned (.tuple #[]) ∧ w'.heap[gs]? = some (.cells (aC (s.set 1 (gS s 0))) 151 (0, 0)) ∧ Kp (fun k => k = gs) w w' := by
 have c0 : w.cell? ⟨gs, 0, none⟩ = _ := (ae hS (0 * 2)).trans (bZ (s := s) (i := 0) (by omega))
 have c1 : w.cell? ⟨gs, 1, none⟩ = _ := (ae hS (0 * 2 + 1)).trans (dI (s := s) (i := 0) (by omega))
 have d0 : w.cell? ⟨gs, 2, none⟩ = _ := (ae hS (1 * 2)).trans (bZ (s := s) (i := 1) (by omega))
 have d1 : w.cell? ⟨gs, 3, none⟩ = _ := (ae hS (1 * 2 + 1)).trans (dI (s := s) (i := 1) (by omega))
 have f0 : w.frozen? ⟨gs, 2, none⟩ = false := aj hS (1 * 2)
 have f1 : w.frozen? ⟨gs, 3, none⟩ = false := aj hS (1 * 2 + 1)
 have hlt := av hS
 have HS := aa.mk hS
 clear hS
 go_enter Try.func160, Try.ntmps160
 go_wp2
 go_region
 go_wp2
 go_end0
 exact ⟨rfl, ak (aQ (aQ HS.out (1 * 2) _ rfl) (1 * 2 + 1) _ (je (i := 1) (gS s 0) (by omega))) (au (ah (Below.refl _ _) _)),
  (Kp.set (S := fun k => k = gs) (g := gs) (Kp.set (S := fun k => k = gs) (g := gs) (Kp.refl _ w) (.inl rfl) _ _) (.inl rfl) _ _).below (au (ah (Below.refl _ _) _))⟩
theorem wH (w : World) (gs : Nat) (s : St) (i1 i2 : Int) (k : Int) (hS : w.heap[gs]? = some (.cells (aC s) 151 (0, 0))) (hl : s.length = 18) :
 Calls Try.prog 160 #[.pointer (some ⟨gs, 0, none⟩), .agg #[.int .u16 135, .int .u8 i1, .int .u8 i2, .int .u32 k]] w fun e w' => e = .returned (.tuple #[]) ∧ w'.heap[gs]? = some (.cells (aC (s.set 0 (gS s 1))) 151 (0, 0)) ∧ Kp (fun k => k = gs) w w' := by
 have c0 : w.cell? ⟨gs, 2, none⟩ = _ := (ae hS (1 * 2)).trans (bZ (s := s) (i := 1) (by omega))
 have c1 : w.cell? ⟨gs, 3, none⟩ = _ := (ae hS (1 * 2 + 1)).trans (dI (s := s) (i := 1) (by omega))
 have d0 : w.cell? ⟨gs, 0, none⟩ = _ := (ae hS (0 * 2)).trans (bZ (s := s) (i := 0) (by omega))
 have d1 : w.cell? ⟨gs, 1, none⟩ = _ := (ae hS (0 * 2 + 1)).trans (dI (s := s) (i := 0) (by omega))
 have f0 : w.frozen? ⟨gs, 0, none⟩ = false := aj hS (0 * 2)
 have f1 : w.frozen? ⟨gs, 1, none⟩ = false := aj hS (0 * 2 + 1)
 have hlt := av hS
 have HS := aa.mk hS
 clear hS
 go_enter Try.func160, Try.ntmps160
 go_wp2
 go_region
 go_wp2
 go_end0
 exact ⟨rfl, ak (aQ (aQ HS.out (0 * 2) _ rfl) (0 * 2 + 1) _ (je (i := 0) (gS s 1) (by omega))) (au (ah (Below.refl _ _) _)),
  (Kp.set (S := fun k => k = gs) (g := gs) (Kp.set (S := fun k => k = gs) (g := gs) (Kp.refl _ w) (.inl rfl) _ _) (.inl rfl) _ _).below (au (ah (Below.refl _ _) _))⟩
theorem after_2 (w : World) (gs : Nat) (s : St) (i1 i2 : Int) (k : Nat) (hS : w.heap[gs]? = some (.cells (aC s) 151 (0, 0))) (hl : s.length = 18) (hk : k < 16) :
 Calls Try.prog 160 #[.pointer (some ⟨gs, 0, none⟩), .agg #[.int .u16 2, .int .u8 i1, .int .u8 i2, .int .u32 (k : Int)]] w fun e w' => e = .returned (.tuple #[]) ∧ w'.heap[gs]? = some (.cells (aC (s.set (2 + k) (gS s 0))) 151 (0, 0)) ∧ Kp (fun k => k = gs) w w' := by
 have c0 : w.cell? ⟨gs, 0, none⟩ = _ := (ae hS (0 * 2)).trans (bZ (s := s) (i := 0) (by omega))
 have c1 : w.cell? ⟨gs, 1, none⟩ = _ := (ae hS (0 * 2 + 1)).trans (dI (s := s) (i := 0) (by omega))
 have d0 : w.cell? ⟨gs, (2 + k) * 2, none⟩ = _ := (ae hS ((2 + k) * 2)).trans (bZ (s := s) (i := (2 + k)) (by omega))
 have d1 : w.cell? ⟨gs, (2 + k) * 2 + 1, none⟩ = _ := (ae hS ((2 + k) * 2 + 1)).trans (dI (s := s) (i := (2 + k)) (by omega))
 have f0 : w.frozen? ⟨gs, (2 + k) * 2, none⟩ = false := aj hS ((2 + k) * 2)
 have f1 : w.frozen? ⟨gs, (2 + k) * 2 + 1, none⟩ = false := aj hS ((2 + k) * 2 + 1)
 have hlt := av hS
 have HS := aa.mk hS
 clear hS
 go_enter Try.func160, Try.ntmps160
 go_wp2
 go_region
 go_wp2
 go_end0
 exact ⟨rfl, ak (aQ (aQ HS.out ((2 + k) * 2) _ rfl) ((2 + k) * 2 + 1) _ (je (i := (2 + k)) (gS s 0) (by omega))) (au (ah (Below.refl _ _) _)),
  (Kp.set (S := fun k => k = gs) (g := gs) (Kp.set (S := fun k => k = gs) (g := gs) (Kp.refl _ w) (.inl rfl) _ _) (.inl rfl) _ _).below (au (ah (Below.refl _ _) _))⟩
theorem after_3 (w : World) (gs : Nat) (s : St) (i1 i2 : Int) (k : Nat) (hS : w.heap[gs]? = some (.cells (aC s) 151 (0, 0))) (hl : s.length = 18) (hk : k < 16) :
 Calls Try.prog 160 #[.pointer (some ⟨gs, 0, none⟩), .agg #[.int .u16 3, .int .u8 i1, .int .u8 i2, .int .u32 (k : Int)]] w fun e w' => e = .returned (.tuple #[]) ∧ w'.heap[gs]? = some (.cells (aC (s.set (2 + k) (gS s 1))) 151 (0, 0)) ∧ Kp (fun k => k = gs) w w' := by
 have c0 : w.cell? ⟨gs, 2, none⟩ = _ := (ae hS (1 * 2)).trans (bZ (s := s) (i := 1) (by omega))
 have c1 : w.cell? ⟨gs, 3, none⟩ = _ := (ae hS (1 * 2 + 1)).trans (dI (s := s) (i := 1) (by omega))
 have d0 : w.cell? ⟨gs, (2 + k) * 2, none⟩ = _ := (ae hS ((2 + k) * 2)).trans (bZ (s := s) (i := (2 + k)) (by omega))
 have d1 : w.cell? ⟨gs, (2 + k) * 2 + 1, none⟩ = _ := (ae hS ((2 + k) * 2 + 1)).trans (dI (s := s) (i := (2 + k)) (by omega))
 have f0 : w.frozen? ⟨gs, (2 + k) * 2, none⟩ = false := aj hS ((2 + k) * 2)
 have f1 : w.frozen? ⟨gs, (2 + k) * 2 + 1, none⟩ = false := aj hS ((2 + k) * 2 + 1)
 have hlt := av hS
 have HS := aa.mk hS
 clear hS
 go_enter Try.func160, Try.ntmps160
 go_wp2
 go_region
 go_wp2
 go_end0
 exact ⟨rfl, ak (aQ (aQ HS.out ((2 + k) * 2) _ rfl) ((2 + k) * 2 + 1) _ (je (i := (2 + k)) (gS s 1) (by omega))) (au (ah (Below.refl _ _) _)),
  (Kp.set (S := fun k => k = gs) (g := gs) (Kp.set (S := fun k => k = gs) (g := gs) (Kp.refl _ w) (.inl rfl) _ _) (.inl rfl) _ _).below (au (ah (Below.refl _ _) _))⟩
theorem after_x (w : World) (gs : Nat) (s : St) (c i1 i2 k : Int) (hS : w.heap[gs]? = some (.cells (aC s) 151 (0, 0))) (hl : s.length = 18)
 (n0 : (c == 0) = false) (n1 : (c == 1) = false) (n2 : (c == 2) = false) (n3 : (c == 3) = false) (n7 : (c == 7) = false) (n135 : (c == 135) = false) (hx : (aN c == 1) = true) :
 Calls Try.prog 160 #[.pointer (some ⟨gs, 0, none⟩), .agg #[.int .u16 c, .int .u8 i1, .int .u8 i2, .int .u32 k]] w fun e w' => e = .returned (.tuple #[]) ∧ w'.heap[gs]? = some (.cells (aC (s.set 1 none)) 151 (0, 0)) ∧ Kp (fun k => k = gs) w w' := by
 have d0 : w.cell? ⟨gs, 2, none⟩ = _ := (ae hS (1 * 2)).trans (bZ (s := s) (i := 1) (by omega))
 have d1 : w.cell? ⟨gs, 3, none⟩ = _ := (ae hS (1 * 2 + 1)).trans (dI (s := s) (i := 1) (by omega))
 have f0 : w.frozen? ⟨gs, 2, none⟩ = false := aj hS (1 * 2)
 have f1 : w.frozen? ⟨gs, 3, none⟩ = false := aj hS (1 * 2 + 1)
 have hlt := av hS
 have HS := aa.mk hS
 have HC := aa.mk (fun W => aD.calls (0 + 8) c (aN c) W (gT c 0).1)
 clear hS
 go_enter Try.func160, Try.ntmps160
 go_wp2_with (go_at_call 99; refine (HC.out _).mono ?_; rintro e w' ⟨rfl, ⟨nd, rfl⟩⟩)
 go_end0
 exact ⟨rfl, aQ (aQ (ak HS.out bel2) (1 * 2) _ rfl) (1 * 2 + 1) _ (je (i := 1) none (by omega)),
  Kp.set (S := fun k => k = gs) (g := gs) (Kp.set (S := fun k => k = gs) (g := gs) ((Kp.refl _ w).below bel2) (.inl rfl) _ _) (.inl rfl) _ _⟩
theorem after_o (w : World) (gs : Nat) (s : St) (c i1 i2 k : Int) (hS : w.heap[gs]? = some (.cells (aC s) 151 (0, 0))) (hl : s.length = 18)
 (n0 : (c == 0) = false) (n1 : (c == 1) = false) (n2 : (c == 2) = false) (n3 : (c == 3) = false) (n7 : (c == 7) = false) (n135 : (c == 135) = false) (hx : (aN c == 1) = false) :
 Calls Try.prog 160 #[.pointer (some ⟨gs, 0, none⟩), .agg #[.int .u16 c, .int .u8 i1, .int .u8 i2, .int .u32 k]] w fun e w' => e = .returned (.tuple #[]) ∧ w'.heap[gs]? = some (.cells (aC (s.set 0 none)) 151 (0, 0)) ∧ Kp (fun k => k = gs) w w' := by
 have d0 : w.cell? ⟨gs, 0, none⟩ = _ := (ae hS (0 * 2)).trans (bZ (s := s) (i := 0) (by omega))
 have d1 : w.cell? ⟨gs, 1, none⟩ = _ := (ae hS (0 * 2 + 1)).trans (dI (s := s) (i := 0) (by omega))
 have f0 : w.frozen? ⟨gs, 0, none⟩ = false := aj hS (0 * 2)
 have f1 : w.frozen? ⟨gs, 1, none⟩ = false := aj hS (0 * 2 + 1)
 have hlt := av hS
 have HS := aa.mk hS
 have HC := aa.mk (fun W => aD.calls (0 + 8) c (aN c) W (gT c 0).1)
 clear hS
 go_enter Try.func160, Try.ntmps160
 go_wp2_with (go_at_call 99; refine (HC.out _).mono ?_; rintro e w' ⟨rfl, ⟨nd, rfl⟩⟩)
 go_end0
 exact ⟨rfl, aQ (aQ (ak HS.out bel2) (0 * 2) _ rfl) (0 * 2 + 1) _ (je (i := 0) none (by omega)),
  Kp.set (S := fun k => k = gs) (g := gs) (Kp.set (S := fun k => k = gs) (g := gs) ((Kp.refl _ w).below bel2) (.inl rfl) _ _) (.inl rfl) _ _⟩
theorem after_0 (w : World) (gs : Nat) (s : St) (i1 i2 k : Int) (hS : w.heap[gs]? = some (.cells (aC s) 151 (0, 0))) (hl : s.length = 18) :
 Calls Try.prog 160 #[.pointer (some ⟨gs, 0, none⟩), .agg #[.int .u16 0, .int .u8 i1, .int .u8 i2, .int .u32 k]] w fun e w' => e = .returned (.tuple #[]) ∧ w'.heap[gs]? = some (.cells (aC (s.set 0 (some k))) 151 (0, 0)) ∧ Kp (fun k => k = gs) w w' := by
 have HS := aa.mk hS
 clear hS
 go_enter Try.func160, Try.ntmps160
 go_upto_region 6 with (fail)
 refine forget (fun W => ∃ gi, gi = w.heap.size ∧ Below w.heap.size w W ∧ W.heap[gi]? = some (.cells #[.int .u16 0, .int .u8 i1, .int .u8 i2, .int .u32 k] 45 (0, 0))) ⟨_, rfl, ah (Below.refl _ _) _, heap_alloc_new _ _⟩ ?_
 rintro W ⟨gi, egi, hb, hi⟩
 rw [← egi]
 have hs := ak HS.out hb
 have y3 : _ = some (Value.int .u32 k) := (ae hi 3).trans rfl
 have d0 : W.cell? ⟨gs, 0, none⟩ = _ := (ae hs (0 * 2)).trans (bZ (s := s) (i := 0) (by omega))
 have d1 : W.cell? ⟨gs, 1, none⟩ = _ := (ae hs (0 * 2 + 1)).trans (dI (s := s) (i := 0) (by omega))
 have f0 : W.frozen? ⟨gs, 0, none⟩ = false := aj hs (0 * 2)
 have f1 : W.frozen? ⟨gs, 1, none⟩ = false := aj hs (0 * 2 + 1)
 generalize (gS s 0).isSome = ob at d0
 generalize (gS s 0).getD 0 = ov at d1
 have KC : aa (∀ V' V'', Below W.heap.size W V' → Below V'.heap.size V' V'' → V''.cell? ⟨gi, 3, none⟩ = some (.int .u32 k) ∧ V''.cell? ⟨gs, 0, none⟩ = some (.bool ob) ∧ V''.cell? ⟨gs, 1, none⟩ = some (.int .u32 ov) ∧ V''.frozen? ⟨gs, 0, none⟩ = false ∧ V''.frozen? ⟨gs, 1, none⟩ = false) :=
  ⟨fun V' V'' h1 h2 => ⟨ai h2 (ai h1 y3), ai h2 (ai h1 d0), ai h2 (ai h1 d1), aj (ak (ak hs h1) h2) 0, aj (ak (ak hs h1) h2) 1⟩⟩
 have HB := aa.mk hb
 have HS2 := aa.mk hs
 have EG := aa.mk egi
 clear hb hi hs egi
 refine fJ 7 (fun w' => w'.cell? ⟨gi, 3, none⟩ = some (.int .u32 k) ∧ w'.cell? ⟨gs, 0, none⟩ = some (.bool ob) ∧ w'.cell? ⟨gs, 1, none⟩ = some (.int .u32 ov) ∧ w'.frozen? ⟨gs, 0, none⟩ = false ∧ w'.frozen? ⟨gs, 1, none⟩ = false) [6] ⟨y3, d0, d1, f0, f1⟩ (fun hHeld => ?_)
 refine aX 0 20 ?_
 refine aX 1 21 ?_
 refine aX 4 24 ?_
 refine dV 2 22 hHeld ?_
 refine jR 3 (some 23) (fun K hK => ?_)
 refine iY Try.func125 #[.int .u32 k] ?_
 with_reducible refine (PA.gV.calls k true k _ rfl).mono ?_
 rintro e w3 ⟨rfl, hk3⟩
 refine ⟨_, rfl, ?_⟩
 refine hK.out _ _ (KC.out _ _ kD hk3) (fun hHeld => ?_)
 clear hK K
 refine ic 23 ?_
 refine aX 5 25 ?_
 refine iA 6 none (fun K hK => ?_)
 refine jb ?_
 refine hK.out _ _ ?_
 clear hK K
 refine iU (by kernel_rfl) ?_
 go_wp2
 go_end0
 have h1 := ax (au (Below.refl W.heap.size W)) hk3
 exact ⟨rfl, aQ (aQ (ak HS2.out h1) (0 * 2) _ rfl) (0 * 2 + 1) _ (je (i := 0) (some k) (by omega)),
  Kp.set (S := fun k => k = gs) (g := gs) (Kp.set (S := fun k => k = gs) (g := gs) ((Kp.refl _ w).below (ax HB.out h1)) (.inl rfl) _ _) (.inl rfl) _ _⟩
theorem after_1 (w : World) (gs : Nat) (s : St) (i1 i2 k : Int) (hS : w.heap[gs]? = some (.cells (aC s) 151 (0, 0))) (hl : s.length = 18) :
 Calls Try.prog 160 #[.pointer (some ⟨gs, 0, none⟩), .agg #[.int .u16 1, .int .u8 i1, .int .u8 i2, .int .u32 k]] w fun e w' => e = .returned (.tuple #[]) ∧ w'.heap[gs]? = some (.cells (aC (s.set 1 (some k))) 151 (0, 0)) ∧ Kp (fun k => k = gs) w w' := by
 have HS := aa.mk hS
 clear hS
 go_enter Try.func160, Try.ntmps160
 go_upto_region 8 with (fail)
 refine forget (fun W => ∃ gi, gi = w.heap.size ∧ Below w.heap.size w W ∧ W.heap[gi]? = some (.cells #[.int .u16 1, .int .u8 i1, .int .u8 i2, .int .u32 k] 45 (0, 0))) ⟨_, rfl, ah (Below.refl _ _) _, heap_alloc_new _ _⟩ ?_
 rintro W ⟨gi, egi, hb, hi⟩
 rw [← egi]
 have hs := ak HS.out hb
 have y3 : _ = some (Value.int .u32 k) := (ae hi 3).trans rfl
 have d0 : W.cell? ⟨gs, 2, none⟩ = _ := (ae hs (1 * 2)).trans (bZ (s := s) (i := 1) (by omega))
 have d1 : W.cell? ⟨gs, 3, none⟩ = _ := (ae hs (1 * 2 + 1)).trans (dI (s := s) (i := 1) (by omega))
 have f0 : W.frozen? ⟨gs, 2, none⟩ = false := aj hs (1 * 2)
 have f1 : W.frozen? ⟨gs, 3, none⟩ = false := aj hs (1 * 2 + 1)
 generalize (gS s 1).isSome = ob at d0
 generalize (gS s 1).getD 0 = ov at d1
 have KC : aa (∀ V' V'', Below W.heap.size W V' → Below V'.heap.size V' V'' → V''.cell? ⟨gi, 3, none⟩ = some (.int .u32 k) ∧ V''.cell? ⟨gs, 2, none⟩ = some (.bool ob) ∧ V''.cell? ⟨gs, 3, none⟩ = some (.int .u32 ov) ∧ V''.frozen? ⟨gs, 2, none⟩ = false ∧ V''.frozen? ⟨gs, 3, none⟩ = false) :=
  ⟨fun V' V'' h1 h2 => ⟨ai h2 (ai h1 y3), ai h2 (ai h1 d0), ai h2 (ai h1 d1), aj (ak (ak hs h1) h2) 2, aj (ak (ak hs h1) h2) 3⟩⟩
 have HB := aa.mk hb
 have HS2 := aa.mk hs
 have EG := aa.mk egi
 clear hb hi hs egi
 refine fJ 7 (fun w' => w'.cell? ⟨gi, 3, none⟩ = some (.int .u32 k) ∧ w'.cell? ⟨gs, 2, none⟩ = some (.bool ob) ∧ w'.cell? ⟨gs, 3, none⟩ = some (.int .u32 ov) ∧ w'.frozen? ⟨gs, 2, none⟩ = false ∧ w'.frozen? ⟨gs, 3, none⟩ = false) [6] ⟨y3, d0, d1, f0, f1⟩ (fun hHeld => ?_)
 refine aX 0 28 ?_
 refine aX 1 29 ?_
 refine aX 4 32 ?_
 refine dV 2 30 hHeld ?_
 refine jR 3 (some 31) (fun K hK => ?_)
 refine iY Try.func125 #[.int .u32 k] ?_
 with_reducible refine (PA.gV.calls k true k _ rfl).mono ?_
 rintro e w3 ⟨rfl, hk3⟩
 refine ⟨_, rfl, ?_⟩
 refine hK.out _ _ (KC.out _ _ kD hk3) (fun hHeld => ?_)
 clear hK K
 refine ic 31 ?_
 refine aX 5 33 ?_
 refine iA 6 none (fun K hK => ?_)
 refine jb ?_
 refine hK.out _ _ ?_
 clear hK K
 refine iU (by kernel_rfl) ?_
 go_wp2
 go_end0
 have h1 := ax (au (Below.refl W.heap.size W)) hk3
 exact ⟨rfl, aQ (aQ (ak HS2.out h1) (1 * 2) _ rfl) (1 * 2 + 1) _ (je (i := 1) (some k) (by omega)),
  Kp.set (S := fun k => k = gs) (g := gs) (Kp.set (S := fun k => k = gs) (g := gs) ((Kp.refl _ w).below (ax HB.out h1)) (.inl rfl) _ _) (.inl rfl) _ _⟩
theorem sN (w : World) (gs : Nat) (s : St) (i : S45) (hS : w.heap[gs]? = some (.cells (aC s) 151 (0, 0))) (hl : s.length = 18) (hc : stB i.f0 i.f3 = true) (hk : Rg i.f3) :
 Calls Try.prog 160 #[.pointer (some ⟨gs, 0, none⟩), fw i] w fun e w' => e = .returned (.tuple #[]) ∧ w'.heap[gs]? = some (.cells (aC (dJ s i)) 151 (0, 0)) ∧ Kp (fun k => k = gs) w w' := by
 obtain ⟨hm, h16, _, _⟩ := gL hc
 obtain ⟨_, hx, _⟩ := uj i.f0 hm
 obtain ⟨c, i1, i2, k⟩ := i
 dsimp only at h16 hk hx
 have hk0 := hk.1
 unfold dJ
 dsimp only
 by_cases c0 : c = 0
 · rw [if_pos c0]; subst c0; exact after_0 w gs s i1 i2 k hS hl
 rw [if_neg c0]
 by_cases c1 : c = 1
 · rw [if_pos c1]; subst c1; exact after_1 w gs s i1 i2 k hS hl
 rw [if_neg c1]
 by_cases c2 : c = 2
 · rw [if_pos c2]; subst c2
   have hk6 := h16 (by omega)
   obtain ⟨n, rfl⟩ : ∃ n : Nat, k = (n : Int) := ⟨k.toNat, by omega⟩
   rw [Int.toNat_natCast]
   exact after_2 w gs s i1 i2 n hS hl (by omega)
 rw [if_neg c2]
 by_cases c3 : c = 3
 · rw [if_pos c3]; subst c3
   have hk6 := h16 (by omega)
   obtain ⟨n, rfl⟩ : ∃ n : Nat, k = (n : Int) := ⟨k.toNat, by omega⟩
   rw [Int.toNat_natCast]
   exact after_3 w gs s i1 i2 n hS hl (by omega)
 rw [if_neg c3]
 by_cases c7 : c = 7
 · rw [if_pos c7]; subst c7; exact after_7 w gs s i1 i2 k hS hl
 rw [if_neg c7]
 by_cases c8 : c = 135
 · rw [if_pos c8]; subst c8; exact wH w gs s i1 i2 k hS hl
 rw [if_neg c8]
 simp only [List.mem_cons, List.not_mem_nil, or_false] at hx
 by_cases c9 : c = 97 ∨ c = 129 ∨ c = 177
 · rw [if_pos c9]
   exact after_x w gs s c i1 i2 k hS hl (bn c0) (bn c1) (bn c2) (bn c3) (bn c7) (bn c8) (iG (hx.2 (.inr c9)))
 rw [if_neg c9]
 exact after_o w gs s c i1 i2 k hS hl (bn c0) (bn c1) (bn c2) (bn c3) (bn c7) (bn c8) (bn (fun h => (hx.1 h).elim c1 c9))
theorem dec_x (w : World) (gs : Nat) (s : St) (c i1 i2 k : Int) (hS : w.heap[gs]? = some (.cells (aC s) 151 (0, 0))) (hl : s.length = 18) (h8 : (Go.bits .and .u16 c 8 != 0) = true) :
 Calls Try.prog 161 #[.pointer (some ⟨gs, 0, none⟩), .agg #[.int .u16 c, .int .u8 i1, .int .u8 i2, .int .u32 k]] w fun e w' => e = .returned (.tuple #[.bool false, .bool false]) ∧ Below w.heap.size w w' := by
 have hlt := av hS
 have HS := aa.mk hS
 clear hS
 go_enter Try.func161, Try.ntmps161
 go_wp2
 go_ret2
 exact ⟨rfl, ah (Below.refl _ _) _⟩
theorem dec_53y (w : World) (gs : Nat) (s : St) (i1 i2 k : Int) (hS : w.heap[gs]? = some (.cells (aC s) 151 (0, 0))) (hl : s.length = 18) (e0 : gS s 0 = none) (hk : (k == 0) = true) :
 Calls Try.prog 161 #[.pointer (some ⟨gs, 0, none⟩), .agg #[.int .u16 53, .int .u8 i1, .int .u8 i2, .int .u32 k]] w fun e w' => e = .returned (.tuple #[.bool true, .bool true]) ∧ Below w.heap.size w w' := by
 have c0 : _ = some (Value.bool false) := (ae hS 0).trans ((dm (s := s) (i := 0) (by omega)).trans (by rw [e0]; rfl))
 have hlt := av hS
 have HS := aa.mk hS
 clear hS
 go_enter Try.func161, Try.ntmps161
 go_wp2
 go_ret2
 exact ⟨rfl, ah (Below.refl _ _) _⟩
theorem dec_53n (w : World) (gs : Nat) (s : St) (i1 i2 k : Int) (hS : w.heap[gs]? = some (.cells (aC s) 151 (0, 0))) (hl : s.length = 18) (e0 : gS s 0 = none) (hk : (k == 0) = false) :
 Calls Try.prog 161 #[.pointer (some ⟨gs, 0, none⟩), .agg #[.int .u16 53, .int .u8 i1, .int .u8 i2, .int .u32 k]] w fun e w' => e = .returned (.tuple #[.bool false, .bool false]) ∧ Below w.heap.size w w' := by
 have c0 : _ = some (Value.bool false) := (ae hS 0).trans ((dm (s := s) (i := 0) (by omega)).trans (by rw [e0]; rfl))
 have hlt := av hS
 have HS := aa.mk hS
 clear hS
 go_enter Try.func161, Try.ntmps161
 go_wp2
 go_ret2
 exact ⟨rfl, ah (Below.refl _ _) _⟩
theorem dec_37y (w : World) (gs : Nat) (s : St) (i1 i2 k : Int) (hS : w.heap[gs]? = some (.cells (aC s) 151 (0, 0))) (hl : s.length = 18) (e0 : gS s 0 = none) (hk : (k == 4294967295) = true) :
 Calls Try.prog 161 #[.pointer (some ⟨gs, 0, none⟩), .agg #[.int .u16 37, .int .u8 i1, .int .u8 i2, .int .u32 k]] w fun e w' => e = .returned (.tuple #[.bool false, .bool true]) ∧ Below w.heap.size w w' := by
 have c0 : _ = some (Value.bool false) := (ae hS 0).trans ((dm (s := s) (i := 0) (by omega)).trans (by rw [e0]; rfl))
 have hlt := av hS
 have HS := aa.mk hS
 clear hS
 go_enter Try.func161, Try.ntmps161
 go_wp2
 go_ret2
 exact ⟨rfl, ah (Below.refl _ _) _⟩
theorem dec_37n (w : World) (gs : Nat) (s : St) (i1 i2 k : Int) (hS : w.heap[gs]? = some (.cells (aC s) 151 (0, 0))) (hl : s.length = 18) (e0 : gS s 0 = none) (hk : (k == 4294967295) = false) :
 Calls Try.prog 161 #[.pointer (some ⟨gs, 0, none⟩), .agg #[.int .u16 37, .int .u8 i1, .int .u8 i2, .int .u32 k]] w fun e w' => e = .returned (.tuple #[.bool false, .bool false]) ∧ Below w.heap.size w w' := by
 have c0 : _ = some (Value.bool false) := (ae hS 0).trans ((dm (s := s) (i := 0) (by omega)).trans (by rw [e0]; rfl))
 have hlt := av hS
 have HS := aa.mk hS
 clear hS
 go_enter Try.func161, Try.ntmps161
 go_wp2
 go_ret2
 exact ⟨rfl, ah (Below.refl _ _) _⟩
theorem dec_69y (w : World) (gs : Nat) (s : St) (i1 i2 k : Int) (hS : w.heap[gs]? = some (.cells (aC s) 151 (0, 0))) (hl : s.length = 18) (e0 : gS s 0 = none) (hk : (k == 0) = true) :
 Calls Try.prog 161 #[.pointer (some ⟨gs, 0, none⟩), .agg #[.int .u16 69, .int .u8 i1, .int .u8 i2, .int .u32 k]] w fun e w' => e = .returned (.tuple #[.bool false, .bool true]) ∧ Below w.heap.size w w' := by
 have c0 : _ = some (Value.bool false) := (ae hS 0).trans ((dm (s := s) (i := 0) (by omega)).trans (by rw [e0]; rfl))
 have hlt := av hS
 have HS := aa.mk hS
 clear hS
 go_enter Try.func161, Try.ntmps161
 go_wp2
 go_ret2
 exact ⟨rfl, ah (Below.refl _ _) _⟩
theorem dec_69n (w : World) (gs : Nat) (s : St) (i1 i2 k : Int) (hS : w.heap[gs]? = some (.cells (aC s) 151 (0, 0))) (hl : s.length = 18) (e0 : gS s 0 = none) (hk : (k == 0) = false) :
 Calls Try.prog 161 #[.pointer (some ⟨gs, 0, none⟩), .agg #[.int .u16 69, .int .u8 i1, .int .u8 i2, .int .u32 k]] w fun e w' => e = .returned (.tuple #[.bool false, .bool false]) ∧ Below w.heap.size w w' := by
 have c0 : _ = some (Value.bool false) := (ae hS 0).trans ((dm (s := s) (i := 0) (by omega)).trans (by rw [e0]; rfl))
 have hlt := av hS
 have HS := aa.mk hS
 clear hS
 go_enter Try.func161, Try.ntmps161
 go_wp2
 go_ret2
 exact ⟨rfl, ah (Below.refl _ _) _⟩
theorem dec_21 (w : World) (gs : Nat) (s : St) (i1 i2 k : Int) (hS : w.heap[gs]? = some (.cells (aC s) 151 (0, 0))) (hl : s.length = 18) (e0 : gS s 0 = none) :
 Calls Try.prog 161 #[.pointer (some ⟨gs, 0, none⟩), .agg #[.int .u16 21, .int .u8 i1, .int .u8 i2, .int .u32 k]] w fun e w' => e = .returned (.tuple #[.bool false, .bool false]) ∧ Below w.heap.size w w' := by
 have c0 : _ = some (Value.bool false) := (ae hS 0).trans ((dm (s := s) (i := 0) (by omega)).trans (by rw [e0]; rfl))
 have hlt := av hS
 have HS := aa.mk hS
 clear hS
 go_enter Try.func161, Try.ntmps161
 go_wp2
 go_ret2
 exact ⟨rfl, ah (Below.refl _ _) _⟩
theorem dec_k (w : World) (gs : Nat) (s : St) (c v i1 i2 k : Int) (hS : w.heap[gs]? = some (.cells (aC s) 151 (0, 0))) (hl : s.length = 18) (e0 : gS s 0 = some v) (h8 : (Go.bits .and .u16 c 8 != 0) = false) (r : Bool) (hr : PA.gZ.f c v k = some r) :
 Calls Try.prog 161 #[.pointer (some ⟨gs, 0, none⟩), .agg #[.int .u16 c, .int .u8 i1, .int .u8 i2, .int .u32 k]] w fun e w' => e = .returned (.tuple #[.bool r, .bool true]) ∧ Below w.heap.size w w' := by
 have c0 : _ = some (Value.bool true) := (ae hS 0).trans ((dm (s := s) (i := 0) (by omega)).trans (by rw [e0]; rfl))
 have c1 : _ = some (Value.int .u32 v) := (ae hS 1).trans ((gW (s := s) (i := 0) (by omega)).trans (by rw [e0]; rfl))
 have HC := aa.mk (fun W => PA.gZ.calls c v k r W hr)
 clear hr
 have hlt := av hS
 have HS := aa.mk hS
 clear hS
 go_enter Try.func161, Try.ntmps161
 go_upto_region 4 with (fail)
 refine forget (fun W => ∃ gi, gi = w.heap.size ∧ Below w.heap.size w W ∧ W.heap[gi]? = some (.cells #[.int .u16 c, .int .u8 i1, .int .u8 i2, .int .u32 k] 45 (0, 0))) ⟨_, rfl, ah (Below.refl _ _) _, heap_alloc_new _ _⟩ ?_
 rintro W ⟨gi, egi, hb, hi⟩
 rw [← egi]
 have x1 := ai hb c1
 have y0 : _ = some (Value.int .u16 c) := (ae hi 0).trans rfl
 have y3 : _ = some (Value.int .u32 k) := (ae hi 3).trans rfl
 have HB := aa.mk hb
 have EG := aa.mk egi
 clear hb hi egi c0 c1
 go_quiet ((go_at_call 157; exact Calls.quiet_of ((HC.out _).mono fun _ _ ⟨he, ⟨m, hm⟩⟩ => ⟨he, m, hm⟩)))
 go_wp2
 go_ret2
 exact ⟨rfl, ax HB.out (aA (Below.refl _ _) _)⟩
theorem iW (w : World) (gs : Nat) (s : St) (l : S45) (hS : w.heap[gs]? = some (.cells (aC s) 151 (0, 0))) (hl : s.length = 18) (hj : jmB l.f0 = true) :
 Calls Try.prog 161 #[.pointer (some ⟨gs, 0, none⟩), fw l] w fun e w' => e = .returned (.tuple #[.bool ((jI s l).getD false), .bool (jI s l).isSome]) ∧ Below w.heap.size w w' := by
 obtain ⟨c, i1, i2, k⟩ := l
 dsimp only at hj
 have hm : c ∈ ([21, 29, 37, 45, 53, 61, 69, 77] : List Int) := of_decide_eq_true hj
 unfold jI
 dsimp only
 by_cases hx : c ∈ tX
 · have H : ∀ c ∈ tX, (Go.bits .and .u16 c 8 != 0) = true := by decide +kernel
   rw [if_pos hx]; exact dec_x w gs s c i1 i2 k hS hl (H c hx)
 rw [if_neg hx]
 simp only [tX, List.mem_cons, List.not_mem_nil, or_false] at hm hx
 have hc : c = 21 ∨ c = 37 ∨ c = 53 ∨ c = 69 := by omega
 cases e : gS s 0 with
 | some a =>
  refine dec_k w gs s c a i1 i2 k hS hl e ?_ _ (holds_f hj (by simp only [tX, List.mem_cons, List.not_mem_nil, or_false]; omega))
  rcases hc with rfl | rfl | rfl | rfl <;> decide +kernel
 | none =>
  dsimp only
  rcases hc with rfl | rfl | rfl | rfl
  · rw [if_neg (by omega), if_neg (by omega)]; exact dec_21 w gs s i1 i2 k hS hl e
  · rw [if_neg (by omega)]
    by_cases q : k = 4294967295
    · rw [if_pos (.inl ⟨rfl, q⟩)]; exact dec_37y w gs s i1 i2 k hS hl e (iG q)
    rw [if_neg (by omega)]; exact dec_37n w gs s i1 i2 k hS hl e (bn q)
  · by_cases q : k = 0
    · rw [if_pos ⟨rfl, q⟩]; exact dec_53y w gs s i1 i2 k hS hl e (iG q)
    rw [if_neg (by omega), if_neg (by omega)]; exact dec_53n w gs s i1 i2 k hS hl e (bn q)
  rw [if_neg (by omega)]
  by_cases q : k = 0
  · rw [if_pos (.inr ⟨rfl, q⟩)]; exact dec_69y w gs s i1 i2 k hS hl e (iG q)
  rw [if_neg (by omega)]; exact dec_69n w gs s i1 i2 k hS hl e (bn q)
def fQ (of : List Int) (nx : Int) : Array Value := ((of ++ [nx]).map (fun v => Value.int .i64 v)).toArray
theorem uH {of : List Int} {nx : Int} {i : Nat} (h : i < of.length) : (fQ of nx)[i]? = some (.int .i64 (of.getD i 0)) := by
 unfold fQ
 rw [List.getElem?_toArray, List.getElem?_map, List.getElem?_append_left h, List.getD_eq_getElem?_getD, List.getElem?_eq_getElem h]; rfl
theorem oc_nx {of : List Int} {nx : Int} (h : of.length = 18) : (fQ of nx)[18]? = some (.int .i64 nx) := by
 unfold fQ
 rw [List.getElem?_toArray, List.getElem?_map, List.getElem?_append_right (by omega), h]; rfl
theorem AO {of : List Int} {nx : Int} {i : Nat} (v : Int) (h : i < of.length) : (fQ of nx).setIfInBounds i (.int .i64 v) = fQ (of.set i v) nx := by
 unfold fQ
 rw [List.setIfInBounds_toArray, ← List.map_set, List.set_append_left _ _ h]
theorem oc_setn {of : List Int} {nx : Int} (v : Int) (h : of.length = 18) : (fQ of nx).setIfInBounds 18 (.int .i64 v) = fQ of v := by
 unfold fQ
 rw [List.setIfInBounds_toArray, ← List.map_set, List.set_append_right _ _ (by omega), h]; rfl
theorem nT (w : World) (gm : Nat) (of : List Int) (nx : Int) (t : Nat) (hM : w.heap[gm]? = some (.cells (fQ of nx) 160 (0, 0))) (hl : of.length = 18) (ht : t < 18) (hn : 0 ≤ nx ∧ nx < 4294967296) :
 Calls Try.prog 130 #[.pointer (some ⟨gm, 0, none⟩), .int .i64 (t : Int)] w fun e w' => e = .returned (.tuple #[]) ∧ w'.heap[gm]? = some (.cells (fQ (of.set t (nx + 1)) (nx + 1)) 160 (0, 0)) ∧ Kp (fun k => k = gm) w w' := by
 have hwr : wrap64 (nx + 1) = nx + 1 := w64 (by omega) (by omega)
 have c18 := (ae hM 18).trans (oc_nx hl)
 have ct := (ae hM t).trans (uH (by omega))
 have f18 := aj hM 18
 have ft := aj hM t
 have hlt := av hM
 have h0 : (0 : Int) ≤ (t : Int) := by omega
 have h1 : (t : Int) < 18 := by omega
 have hne : ¬ t = 18 := by omega
 have hne2 : ¬ 18 = t := by omega
 have HM := aa.mk hM
 have HW := aa.mk hwr
 clear hM hwr
 go_enter Try.func130, Try.ntmps130
 go_wp2
 go_region
 go_wp2
 go_end0
 refine ⟨rfl, ?_, ?_⟩
 · exact ak (aQ (aQ HM.out 18 _ (oc_setn _ hl)) t _ (AO _ (by omega))) (by repeat (first | (with_reducible exact Below.refl _ _) | apply au))
 exact (Kp.set (S := fun k => k = gm) (g := gm) (Kp.set (S := fun k => k = gm) (g := gm) (Kp.refl _ w) (.inl rfl) _ _) (.inl rfl) _ _).below (by repeat (first | (with_reducible exact Below.refl _ _) | apply au))
theorem mo (w : World) (gm : Nat) (of : List Int) (nx : Int) (t f : Nat) (hM : w.heap[gm]? = some (.cells (fQ of nx) 160 (0, 0))) (hl : of.length = 18) (ht : t < 18) (hf : f < 18) :
 Calls Try.prog 132 #[.pointer (some ⟨gm, 0, none⟩), .int .i64 (t : Int), .int .i64 (f : Int)] w fun e w' => e = .returned (.bool (of.getD t 0 != of.getD f 0)) ∧ w'.heap[gm]? = some (.cells (fQ (of.set t (of.getD f 0)) nx) 160 (0, 0)) ∧ Kp (fun k => k = gm) w w' := by
 have ct := (ae hM t).trans (uH (by omega))
 have cf := (ae hM f).trans (uH (by omega))
 have ft := aj hM t
 have hlt := av hM
 have h0 : (0 : Int) ≤ (t : Int) := by omega
 have h1 : (t : Int) < 18 := by omega
 have h2 : (0 : Int) ≤ (f : Int) := by omega
 have h3 : (f : Int) < 18 := by omega
 have HM := aa.mk hM
 clear hM
 generalize of.getD t 0 = vt at ct ⊢
 obtain ⟨vf, evf⟩ : ∃ v, v = of.getD f 0 := ⟨_, rfl⟩
 rw [← evf] at cf ⊢
 have EV := aa.mk evf
 clear evf
 go_enter Try.func132, Try.ntmps132
 go_wp2
 go_region
 go_wp2
 go_region
 go_wp2
 go_ret
 refine ⟨rfl, ?_, ?_⟩
 · exact ak (aQ (ak HM.out (by repeat (first | (with_reducible exact Below.refl _ _) | apply au))) t _ (AO _ (by omega))) (by repeat (first | (with_reducible exact Below.refl _ _) | apply au))
 exact (Kp.set (S := fun k => k = gm) (g := gm) ((Kp.refl _ w).below (by repeat (first | (with_reducible exact Below.refl _ _) | apply au))) (.inl rfl) _ _).below (by repeat (first | (with_reducible exact Below.refl _ _) | apply au))
def Blk (w : World) (g T z : Nat) : Prop := ∃ cells : Array Value, w.heap[g]? = some (.cells cells T (0, 0)) ∧ z ≤ cells.size
theorem Blk.cell {w : World} {g T z : Nat} (h : Blk w g T z) (j : Nat) (hj : j < z) : (∃ u, w.cell? ⟨g, j, none⟩ = some u) ∧ w.frozen? ⟨g, j, none⟩ = false := by
 obtain ⟨cells, hh, hz⟩ := h
 refine ⟨⟨cells[j]'(by omega), ?_⟩, aj hh j⟩
 have := ae hh j
 rw [this]
 exact Array.getElem?_eq_getElem (by omega)
theorem Blk.set {w : World} {g T z : Nat} (h : Blk w g T z) (b j : Nat) (u : Value) : Blk (w.setCell ⟨b, j, none⟩ u) g T z := by
 obtain ⟨cells, hh, hz⟩ := h
 by_cases e : g = b
 · subst e
   exact ⟨_, aQ hh j u rfl, by rw [Array.size_setIfInBounds]; exact hz⟩
 exact ⟨cells, (Below.heap_setCell w ⟨b, j, none⟩ u g e).trans hh, hz⟩
theorem Blk.lt {w : World} {g T z : Nat} (h : Blk w g T z) : g < w.heap.size := by
 obtain ⟨cells, hh, _⟩ := h
 exact av hh
theorem Blk.kp {S : Nat → Prop} {w w1 : World} {g T z : Nat} (h : Blk w g T z) (k : Kp S w w1) (hS : ¬ S g) : Blk w1 g T z := by
 obtain ⟨cells, hh, hz⟩ := h
 exact ⟨cells, (k.block g (av hh) hS).trans hh, hz⟩
theorem Blk.below {w w1 : World} {g T z : Nat} (h : Blk w g T z) (hb : Below w.heap.size w w1) : Blk w1 g T z := by
 obtain ⟨cells, hh, hz⟩ := h
 exact ⟨cells, ak hh hb, hz⟩
theorem Blk.mono {w : World} {g T z z' : Nat} (h : Blk w g T z) (hz : z' ≤ z) : Blk w g T z' := by
 obtain ⟨cells, hh, hz1⟩ := h
 exact ⟨cells, hh, by omega⟩
theorem lQ {α : Type} {d : Kd α} {e base : Nat} {ok : Nat → Prop} {w : World} {g n c : Nat} {xs : List α} (h : d.R e w base ok (.slice (some ⟨g, 0, none⟩) n c) xs) : Blk w g e (c * d.sz) ∧ base ≤ g ∧ n ≤ c ∧ c ≤ maxLen := by
 obtain ⟨_, inner, ho, _⟩ := h
 rcases ho.2 with ⟨he, _⟩ | ⟨g', cap, cur, he, hb, hh, hnc, hcm, hcs, ht⟩
 · cases he
 injection he with h1 h2 h3
 injection h1 with h1
 injection h1 with h1
 subst h1 h3
 exact ⟨⟨cur, hh, by omega⟩, hb, by omega, hcm⟩
theorem AY {w : World} {base e size n : Nat} {v : Value} {xs : List Value} (h : w.ownsRow base e size v n xs) (hn : 0 < n) : ∃ g c, v = .slice (some ⟨g, 0, none⟩) n c ∧ Blk w g e (c * size) ∧ base ≤ g ∧ n ≤ c := by
 rcases h.2 with ⟨he, h0, _⟩ | ⟨g', cap, cur, he, hb, hh, hnc, hcm, hcs, ht⟩
 · omega
 exact ⟨g', cap, he, ⟨cur, hh, by omega⟩, hb, by omega⟩
theorem Blk.setCells {g T z : Nat} : ∀ (vs : List Value) (w : World) (b o : Nat), Blk w g T z → Blk (w.setCells b o vs) g T z
 | [], w, b, o, h => h
 | v :: vs, w, b, o, h => Blk.setCells vs _ b (o + 1) (h.set b o v)
theorem Kp.setCells {S : Nat → Prop} {w0 : World} : ∀ (vs : List Value) (w : World) (b o : Nat), Kp S w0 w → (S b ∨ w0.heap.size ≤ b) → Kp S w0 (w.setCells b o vs)
 | [], w, b, o, h, hs => h
 | v :: vs, w, b, o, h, hs => Kp.setCells vs _ b (o + 1) (h.set hs o v) hs
def OkB (w : World) (g gF : Nat) : Prop := gF = g ∨ w.heap.size ≤ gF
theorem forgetL {P : Program} {ops : Array Oper} {rest : List Oper} {Q : Exit → Act → World → Prop} {a : Act} {W : World} (F : World → Prop) (h : F W) (k : ∀ W', F W' → wpList P ops Q rest a W') : wpList P ops Q rest a W := k W h
theorem olds_of {w : World} {g T z n : Nat} (h : Blk w g T z) (hn : n ≤ z) : ∃ olds : List Value, olds.length = n ∧ ∀ j u, olds[j]? = some u → w.cell? ⟨g, 0 + j, none⟩ = some u := by
 obtain ⟨cells, hh, hz⟩ := h
 refine ⟨cells.toList.take n, by rw [List.length_take, Array.length_toList]; omega, fun j u hu => ?_⟩
 rw [List.getElem?_take] at hu
 split at hu
 · rw [Nat.zero_add, ae hh j, ← Array.getElem?_toList, hu]
 cases hu
theorem om (w : World) (g n c : Nat) (hB : Blk w g 45 (c * 4)) (hn : n ≤ c) (hb : (n + 1) * 8 ≤ 140737488355328) :
 Calls Try.prog 23 #[.slice (some ⟨g, 0, none⟩) n c] w fun e w' => e = .returned (.tuple #[]) ∧ Kp (fun k => k = g) w w' := by
 obtain ⟨i0, hi, hzz⟩ := Option.map_eq_some_iff.1 kH
 simp only [Prod.mk.injEq] at hzz
 obtain ⟨hz0, hz1, hz2⟩ := hzz
 have HI := aa.mk (And.intro hi (And.intro hz0 (And.intro hz1 hz2)))
 clear hi hz0 hz1 hz2
 have hlt := hB.lt
 have HB := aa.mk (hB.below (ah (Below.refl _ _) (.cells #[.int .u16 7, .int .u8 0, .int .u8 0, .int .u32 77] 45)))
 have HK := aa.mk (Kp.below (Kp.refl (fun k => k = g) w) (ah (Below.refl _ _) (.cells #[.int .u16 7, .int .u8 0, .int .u8 0, .int .u32 77] 45)))
 obtain ⟨olds, ho1, ho2⟩ := olds_of HB.out (show n * 4 ≤ c * 4 by omega)
 have HO := aa.mk (And.intro ho1 ho2)
 have HNC := aa.mk (show ∀ j u, [Value.int .u16 7, .int .u8 0, .int .u8 0, .int .u32 77][j]? = some u → (w.alloc (.cells #[.int .u16 7, .int .u8 0, .int .u8 0, .int .u32 77] 45)).cell? ((⟨w.heap.size, 0, none⟩ : Addr).add j) = some u by
  intro j u hu
  rw [Go.WideShapes.add_plain, Nat.zero_add]
  have := ae (jW w (.cells #[.int .u16 7, .int .u8 0, .int .u8 0, .int .u32 77] 45)) j
  rw [this, List.getElem?_toArray, hu])
 have HN1 := aa.mk (show ∀ u ∈ [Value.int .u16 7, .int .u8 0, .int .u8 0, .int .u32 77], u.oneCell' = true by
  intro u hu
  simp only [List.mem_cons, List.not_mem_nil, or_false] at hu
  rcases hu with rfl | rfl | rfl | rfl <;> rfl)
 clear hB ho1 ho2
 go_enter Try.func23, Try.ntmps23
 by_cases hroom : n + 1 ≤ c
 · have HSp := aa.mk (show n + 1 ≤ c → ∀ j, j < [Value.int .u16 7, .int .u8 0, .int .u8 0, .int .u32 77].length → ((w.alloc (.cells #[.int .u16 7, .int .u8 0, .int .u8 0, .int .u32 77] 45)).cell? ⟨g, 0 + n * 4 + j, none⟩).isSome = true ∧ (w.alloc (.cells #[.int .u16 7, .int .u8 0, .int .u8 0, .int .u32 77] 45)).frozen? ⟨g, 0 + n * 4 + j, none⟩ = false by
    intro _ j hj
    obtain ⟨⟨u, hu⟩, hf⟩ := HB.out.cell (0 + n * 4 + j) (by simp at hj; omega)
    exact ⟨by rw [hu]; rfl, hf⟩)
   have HG5 : aa (OkB w g g) := ⟨.inl rfl⟩
   go_wp2_with (at_builtin; go_loud (refine wpList_append_arg (w.alloc (.cells #[.int .u16 7, .int .u8 0, .int .u8 0, .int .u32 77] 45)) rfl (.tmp 5) (.tmp 7) 26 rfl 45 i0 _ 4 8 Try.underlying26 HI.out.1 HI.out.2.1 HI.out.2.2.1 HI.out.2.2.2 rfl (by decide) g 0 n c olds rfl HO.out.1 HO.out.2 ⟨w.heap.size, 0, none⟩ 1 1 [.int .u16 7, .int .u8 0, .int .u8 0, .int .u32 77] rfl rfl HNC.out HN1.out HSp.out (by unfold maxLen; omega) hb (fun _ => forgetL (fun W => Kp (fun k => k = g) w W ∧ Blk W g 45 (c * 4)) ⟨Kp.setCells _ _ _ _ HK.out (.inl rfl), Blk.setCells _ _ _ _ HB.out⟩ ?_) (fun h => absurd h (by omega))); rintro W ⟨k1, k2⟩; have HS := aa.mk (And.intro k1 (And.intro k2 k2)); clear k1 k2)
   go_loopw [3] (fun v3 wr => ∃ i : Nat, i ≤ n + 1 ∧ v3 = .int .i64 i ∧ aa (Kp (fun k => k = g) w wr ∧ Blk wr g 45 (c * 4) ∧ Blk wr g 45 (c * 4))) (fun v3 _ => n + 1 - (intOf v3).toNat)
   case atStart => exact ⟨0, Nat.zero_le _, rfl, HS⟩
   case round =>
    clear HS
    obtain ⟨i, hi, rfl, HS⟩ := hrel
    by_cases hlt : i < n + 1
    · have hlt2 : (i : Int) < (n : Int) + 1 := by omega
      obtain ⟨⟨u0, x0⟩, f0⟩ := HS.out.2.2.cell (i * 4) (by omega)
      obtain ⟨⟨u1, x1⟩, f1⟩ := HS.out.2.2.cell (i * 4 + 1) (by omega)
      obtain ⟨⟨u2, x2⟩, f2⟩ := HS.out.2.2.cell (i * 4 + 2) (by omega)
      obtain ⟨⟨u3, x3⟩, f3⟩ := HS.out.2.2.cell (i * 4 + 3) (by omega)
      go_wp2
      go_roundw
      case rel => exact ⟨i + 1, by omega, by go_num, ⟨(((HS.out.1.set HG5.out _ _).set HG5.out _ _).set HG5.out _ _).set HG5.out _ _, (((HS.out.2.1.set _ _ _).set _ _ _).set _ _ _).set _ _ _, (((HS.out.2.2.set _ _ _).set _ _ _).set _ _ _).set _ _ _⟩⟩
      case measure => simp [intOf]; omega
    have hlt2 : ¬ (i : Int) < (n : Int) + 1 := by omega
    have HS2 := aa.mk (And.intro HS.out.1 HS.out.2.1)
    clear HS hlt hi
    obtain ⟨wo, rfl⟩ : ∃ wo : World, wo = wr := ⟨_, rfl⟩
    go_wp2
    go_loopw [4] (fun v4 wr => ∃ i : Nat, i ≤ n ∧ v4 = .int .i64 i ∧ aa (Kp (fun k => k = g) w wr ∧ Blk wr g 45 (c * 4))) (fun v4 _ => n - (intOf v4).toNat)
    case atStart => exact ⟨0, Nat.zero_le _, rfl, HS2⟩
    case round =>
     clear HS2 hlt2
     obtain ⟨j, hj, rfl, HS⟩ := hrel
     by_cases hlt : j < n
     · have hltb : decide (j < n) = true := decide_eq_true hlt
       obtain ⟨⟨u0, x0⟩, f0⟩ := HS.out.2.cell (j * 4) (by omega)
       obtain ⟨⟨u1, x1⟩, f1⟩ := HS.out.2.cell (j * 4 + 1) (by omega)
       obtain ⟨⟨u2, x2⟩, f2⟩ := HS.out.2.cell (j * 4 + 2) (by omega)
       obtain ⟨⟨u3, x3⟩, f3⟩ := HS.out.2.cell (j * 4 + 3) (by omega)
       go_wp2
       go_roundw
       case rel => exact ⟨j + 1, by omega, by go_num, ⟨(((HS.out.1.set (.inl rfl) _ _).set (.inl rfl) _ _).set (.inl rfl) _ _).set (.inl rfl) _ _, (((HS.out.2.set _ _ _).set _ _ _).set _ _ _).set _ _ _⟩⟩
       case measure => simp [intOf]; omega
     have hltb : decide (j < n) = false := decide_eq_false hlt
     go_wp2
     go_end0
     exact ⟨rfl, HS.out.1⟩
 have HSp := aa.mk (show n + 1 ≤ c → ∀ j, j < [Value.int .u16 7, .int .u8 0, .int .u8 0, .int .u32 77].length → ((w.alloc (.cells #[.int .u16 7, .int .u8 0, .int .u8 0, .int .u32 77] 45)).cell? ⟨g, 0 + n * 4 + j, none⟩).isSome = true ∧ (w.alloc (.cells #[.int .u16 7, .int .u8 0, .int .u8 0, .int .u32 77] 45)).frozen? ⟨g, 0 + n * 4 + j, none⟩ = false from fun h => absurd h (by omega))
 go_wp2_with (at_builtin; go_loud (refine wpList_append_arg (w.alloc (.cells #[.int .u16 7, .int .u8 0, .int .u8 0, .int .u32 77] 45)) rfl (.tmp 5) (.tmp 7) 26 rfl 45 i0 _ 4 8 Try.underlying26 HI.out.1 HI.out.2.1 HI.out.2.2.1 HI.out.2.2.2 rfl (by decide) g 0 n c olds rfl HO.out.1 HO.out.2 ⟨w.heap.size, 0, none⟩ 1 1 [.int .u16 7, .int .u8 0, .int .u8 0, .int .u32 77] rfl rfl HNC.out HN1.out HSp.out (by unfold maxLen; omega) hb (fun h => absurd h (by omega)) (fun _ => ?_)); intro v1 W ho hg; obtain ⟨gF, cF, e1, k3, k5, k4⟩ := AY ho (by omega); subst e1; have HG5 : aa (OkB w g gF) := ⟨.inr (by rw [World.size_alloc] at k5; omega)⟩; have HS := aa.mk (And.intro (HK.out.grown hg (fun b hb => by cases hb)) (And.intro (HB.out.kp ((Kp.refl (fun _ => False) _).grown hg (fun b hb => by cases hb)) id) k3)); clear ho hg k3 k5)
 go_loopw [3] (fun v3 wr => ∃ i : Nat, i ≤ n + 1 ∧ v3 = .int .i64 i ∧ aa (Kp (fun k => k = g) w wr ∧ Blk wr g 45 (c * 4) ∧ Blk wr gF 45 (cF * 4))) (fun v3 _ => n + 1 - (intOf v3).toNat)
 case atStart => exact ⟨0, Nat.zero_le _, rfl, HS⟩
 case round =>
  clear HS
  obtain ⟨i, hi, rfl, HS⟩ := hrel
  by_cases hlt : i < n + 1
  · have hlt2 : (i : Int) < (n : Int) + 1 := by omega
    obtain ⟨⟨u0, x0⟩, f0⟩ := HS.out.2.2.cell (i * 4) (by omega)
    obtain ⟨⟨u1, x1⟩, f1⟩ := HS.out.2.2.cell (i * 4 + 1) (by omega)
    obtain ⟨⟨u2, x2⟩, f2⟩ := HS.out.2.2.cell (i * 4 + 2) (by omega)
    obtain ⟨⟨u3, x3⟩, f3⟩ := HS.out.2.2.cell (i * 4 + 3) (by omega)
    go_wp2
    go_roundw
    case rel => exact ⟨i + 1, by omega, by go_num, ⟨(((HS.out.1.set HG5.out _ _).set HG5.out _ _).set HG5.out _ _).set HG5.out _ _, (((HS.out.2.1.set _ _ _).set _ _ _).set _ _ _).set _ _ _, (((HS.out.2.2.set _ _ _).set _ _ _).set _ _ _).set _ _ _⟩⟩
    case measure => simp [intOf]; omega
  have hlt2 : ¬ (i : Int) < (n : Int) + 1 := by omega
  have HS2 := aa.mk (And.intro HS.out.1 HS.out.2.1)
  clear HS hlt hi
  obtain ⟨wo, rfl⟩ : ∃ wo : World, wo = wr := ⟨_, rfl⟩
  go_wp2
  go_loopw [4] (fun v4 wr => ∃ i : Nat, i ≤ n ∧ v4 = .int .i64 i ∧ aa (Kp (fun k => k = g) w wr ∧ Blk wr g 45 (c * 4))) (fun v4 _ => n - (intOf v4).toNat)
  case atStart => exact ⟨0, Nat.zero_le _, rfl, HS2⟩
  case round =>
   clear HS2 hlt2
   obtain ⟨j, hj, rfl, HS⟩ := hrel
   by_cases hlt : j < n
   · have hltb : decide (j < n) = true := decide_eq_true hlt
     obtain ⟨⟨u0, x0⟩, f0⟩ := HS.out.2.cell (j * 4) (by omega)
     obtain ⟨⟨u1, x1⟩, f1⟩ := HS.out.2.cell (j * 4 + 1) (by omega)
     obtain ⟨⟨u2, x2⟩, f2⟩ := HS.out.2.cell (j * 4 + 2) (by omega)
     obtain ⟨⟨u3, x3⟩, f3⟩ := HS.out.2.cell (j * 4 + 3) (by omega)
     go_wp2
     go_roundw
     case rel => exact ⟨j + 1, by omega, by go_num, ⟨(((HS.out.1.set (.inl rfl) _ _).set (.inl rfl) _ _).set (.inl rfl) _ _).set (.inl rfl) _ _, (((HS.out.2.set _ _ _).set _ _ _).set _ _ _).set _ _ _⟩⟩
     case measure => simp [intOf]; omega
   have hltb : decide (j < n) = false := decide_eq_false hlt
   go_wp2
   go_end0
   exact ⟨rfl, HS.out.1⟩
def marks : List S45 := [⟨7, 0, 0, 77⟩, ⟨7, 0, 0, 77⟩, ⟨7, 0, 0, 77⟩]
theorem samei_l (l : List S45) (hl : l.length ≤ 100000000000000) : ∀ (d j : Nat), l.length - j = d → j ≤ l.length → ∀ k, d + 1 ≤ k → bC.l0 k l l (j : Int) = some true := by
 intro d
 induction d with
 | zero =>
  intro j hd hj k hk
  obtain ⟨k, rfl⟩ : ∃ m, k = m + 1 := ⟨k - 1, by omega⟩
  rw [bC.l0, if_neg (by omega)]
 | succ d ih =>
  intro j hd hj k hk
  obtain ⟨k, rfl⟩ : ∃ m, k = m + 1 := ⟨k - 1, by omega⟩
  have := ih (j + 1) (by omega) (by omega) k (by omega)
  rw [show ((j + 1 : Nat) : Int) = (j : Int) + 1 by omega] at this
  rw [bC.l0, if_pos (by omega), if_pos (by omega), if_pos (by omega), if_neg (by simp), w64 (n := (j : Int) + 1) (by omega) (by omega), this]
theorem BD (l : List S45) (hl : l.length ≤ 100000000000000) : bC.f (l.length + 1) l l = some true := by
 have := samei_l l hl l.length 0 rfl (by omega) (l.length + 1) (by omega)
 unfold bC.f
 rw [if_pos rfl]
 exact this
theorem cpi' (c : List S45) (h : c.length < 17592186044416) : dz.f c = some c := by
 unfold dz.f
 rw [Option.bind_some, if_pos (by simpa using h)]
 rfl
def jh (w : World) (g : Nat) (code : List S45) (c : Nat) : Prop := k45.R 45 w 0 (fun k => k = g) (.slice (some ⟨g, 0, none⟩) (code.length + 3) c) (code ++ marks)
theorem zO {w : World} {base g c : Nat} {ok : Nat → Prop} {code : List S45} (h : k45.R 45 w base ok (.slice (some ⟨g, 0, none⟩) (code.length + 3) c) (code ++ marks)) : jh w g code c :=
 Kd.jH (Kd.gP (Kd.qX rfl h) (fun k hk => by injection hk)) (Nat.zero_le _)
theorem jh.move {w w1 : World} {g c : Nat} {code : List S45} (h : jh w g code c) (hm : w1.heap[g]? = w.heap[g]?) : jh w1 g code c := Kd.o7 h (fun k hk => by rw [hk]; exact hm)
theorem jh.lt {w : World} {g c : Nat} {code : List S45} (h : jh w g code c) : g < w.heap.size := Kd.R_lt h g rfl
theorem jh.read {w : World} {g c : Nat} {code : List S45} (h : jh w g code c) : Kd.C k45 w (some ⟨g, 0, none⟩) code.length code ∧ code.length + 3 ≤ c ∧ c ≤ maxLen ∧ Blk w g 45 (c * 4) ∧ Kd.C k45 w (some ⟨g, code.length * 4, none⟩) 3 marks := by
 have h1 := Kd.dE h
 have h2 := lQ h
 have h3 := Kd.C_take h1.2.2 (m := code.length) (by simp)
 have h4 := Kd.C_drop h1.2.2 (m := code.length) (c := c) (by simp) (by rw [← h1.1]; exact h2.2.2.1)
 rw [List.take_left] at h3
 rw [List.drop_left, if_neg (by omega)] at h4
 refine ⟨h3, h2.2.2.1, h2.2.2.2, h2.1, ?_⟩
 have e : (some (⟨g, 0, none⟩ : Addr)).map (·.add (code.length * k45.sz)) = some ⟨g, code.length * 4, none⟩ := by
  show some ((⟨g, 0, none⟩ : Addr).add (code.length * 4)) = _
  rw [Go.WideShapes.add_plain, Nat.zero_add]
 rw [e] at h4
 exact h4
theorem pU (W : World) : Kd.C k45 (W.alloc (.cells #[.int .u16 7, .int .u8 0, .int .u8 0, .int .u32 77, .int .u16 7, .int .u8 0, .int .u8 0, .int .u32 77, .int .u16 7, .int .u8 0, .int .u8 0, .int .u32 77] 45)) (some ⟨W.heap.size, 0, none⟩) 3 marks := by
 refine ⟨rfl, by decide, fun _ => ⟨_, rfl, fun j p hj => ?_⟩⟩
 refine ⟨[.int .u16 7, .int .u8 0, .int .u8 0, .int .u32 77], rfl, ?_, fun i u hu => ?_⟩
 · have hp : p = ⟨7, 0, 0, 77⟩ := by
    match j, hj with
    | 0, hj => simpa [marks] using hj.symm
    | 1, hj => simpa [marks] using hj.symm
    | 2, hj => simpa [marks] using hj.symm
   rw [hp]
   exact uB _ ⟨7, 0, 0, 77⟩
 have hj3 : j < 3 := (List.getElem?_eq_some_iff.1 hj).1
 have hi4 : i < 4 := (List.getElem?_eq_some_iff.1 hu).1
 rw [Go.WideShapes.add_plain, Nat.zero_add]
 have := ae (jW W (.cells #[.int .u16 7, .int .u8 0, .int .u8 0, .int .u32 77, .int .u16 7, .int .u8 0, .int .u8 0, .int .u32 77, .int .u16 7, .int .u8 0, .int .u8 0, .int .u32 77] 45)) (j * k45.sz + i)
 rw [this, ← hu]
 match j, i, hj3, hi4 with
 | 0, 0, _, _ => rfl
 | 0, 1, _, _ => rfl
 | 0, 2, _, _ => rfl
 | 0, 3, _, _ => rfl
 | 1, 0, _, _ => rfl
 | 1, 1, _, _ => rfl
 | 1, 2, _, _ => rfl
 | 1, 3, _, _ => rfl
 | 2, 0, _, _ => rfl
 | 2, 1, _, _ => rfl
 | 2, 2, _, _ => rfl
 | 2, 3, _, _ => rfl
theorem tq (w : World) (g c : Nat) (code : List S45) (A : Option Addr) (cA : Nat) (HL : jh w g code c) (HC : Kd.C k45 w A code.length code) (hcA : code.length ≤ cA) (hb : (code.length + 4) * 8 ≤ 140737488355328) :
 Calls Try.prog 47 #[.slice (some ⟨g, 0, none⟩) code.length c, .slice A code.length cA] w fun e w' => e = .returned (.bool true) ∧ Kp (fun k => k = g) w w' := by
 obtain ⟨r1, r2, r3, r4, r5⟩ := HL.read
 have hl : code.length ≤ 100000000000000 := by omega
 have H1 := aa.mk r1
 have H4 := aa.mk r4
 have H5 := aa.mk r5
 have HA := aa.mk HC
 have HCA := aa.mk hcA
 have HS := aa.mk (BD code hl)
 clear HL r1 r4 r5 HC hcA
 unfold maxLen at r3
 have b1 : (code.length : Int) + 3 ≤ (c : Int) := by omega
 have b2 : (0 : Int) ≤ (code.length : Int) + 3 := by omega
 go_enter Try.func47, Try.ntmps47
 go_wp2_with fail
 refine (bC.calls _ _ c code A cA code true _ H1.out (by omega) HA.out HCA.out HS.out).mono ?_
 rintro e w1 ⟨rfl, ⟨nd, rfl⟩⟩
 have HM : aa (Kd.C k45 ((w.drewN nd).alloc (.cells #[.int .u16 7, .int .u8 0, .int .u8 0, .int .u32 77, .int .u16 7, .int .u8 0, .int .u8 0, .int .u32 77, .int .u16 7, .int .u8 0, .int .u8 0, .int .u32 77] 45)) (some ⟨w.heap.size, 0, none⟩) 3 marks) := ⟨pU (w.drewN nd)⟩
 go_wp2_with fail
 refine (bC.calls (marks.length + 1) (some ⟨g, code.length * 4, none⟩) (c - code.length) marks (some ⟨w.heap.size, 0, none⟩) 3 marks true _ (Kd.l6 (Kd.l7 H5.out _) _) (by show 3 ≤ _; omega) HM.out (Nat.le_refl _) (BD marks (by decide))).mono ?_
 rintro e w2 ⟨rfl, ⟨nd2, rfl⟩⟩
 go_wp2_with fail
 refine (om _ g (code.length + 3) c (H4.out.below (aA (ah (aA (Below.refl _ _) _) _) _)) r2 hb).mono ?_
 rintro e w3 ⟨rfl, hk⟩
 have HK := aa.mk (Kp.trans (Kp.below (Kp.refl (fun k => k = g) w) (aA (ah (aA (Below.refl _ _) nd) _) nd2)) hk)
 clear hk
 go_wp2
 go_ret
 exact ⟨rfl, HK.out⟩
theorem tu (w : World) (code : List S45) (A : Option Addr) (cA : Nat) (HC : Kd.C k45 w A code.length code) (hcA : code.length ≤ cA) (hb : (code.length + 4) * 8 ≤ 140737488355328) :
 Calls Try.prog 43 #[.slice A code.length cA] w fun e w' => ∃ g c, e = .returned (.slice (some ⟨g, 0, none⟩) code.length c) ∧ jh w' g code c ∧ w.heap.size ≤ g ∧ Below w.heap.size w w' := by
 have hui := Try.underlying26
 have HA := aa.mk HC
 have HCA := aa.mk hcA
 have HCP := aa.mk (cpi' code (by omega))
 clear HC hcA
 go_enter Try.func43, Try.ntmps43
 go_wp2_with fail
 refine (dz.calls A cA code code _ HA.out HCA.out HCP.out).mono ?_
 rintro e w1 ⟨v, rfl, hr, hb1⟩
 have HR := aa.mk hr
 have HB := aa.mk hb1
 have HM := aa.mk (pU w1)
 clear hr hb1
 go_wp2_with (at_builtin; go_loud ((refine Kd.jd k45 (w0 := w) w.heap.size rfl (.tmp 5) (.tmp 9) 26 45 (.agg #[.int .u16 0, .int .u8 0, .int .u8 0, .int .u32 0]) 8 rfl hui kH rfl (by decide) (by decide) _ _ marks _ 3 3 (fun _ => True) (fun _ => False) rfl rfl (Kd.eD HR.out _) HM.out (fun x cs h => by obtain rfl := jP h; exact kg _ _ _ x) (fun _ h => h.elim) (fun _ _ => trivial) (ah HB.out _) (ah HB.out _).size (by omega) ?_); intro v1 w4 ho hb hg hat; obtain ⟨g1, c1, e1, hge, _, _⟩ := Kd.lW ho (by simp [marks]); rw [show (code ++ marks).length = code.length + 3 by simp [marks]] at e1; subst e1; have hcb := (lQ ho).2.2.1; have hcb2 : (code.length : Int) ≤ (c1 : Int) := (by omega); have HO := aa.mk (zO ho); have HB4 := aa.mk hb; clear ho hb hg hat))
 go_wp2
 go_ret
 exact ⟨g1, c1, rfl, HO.out, hge, HB4.out⟩
theorem vX {p : List S47} {i : Int} (h0 : 0 ≤ i) (h1 : i < p.length) : af p i ∈ p := by
 unfold af
 rw [List.getD_eq_getElem?_getD, List.getElem?_eq_getElem (by omega)]
 exact List.getElem_mem _
theorem lh (w : World) (g : List S47) (A A' : Option Addr) (c c' : Nat) (H1 : Kd.C k47 w A g.length g) (hc1 : g.length ≤ c) (H2 : Kd.C k47 w A' g.length g) (hc2 : g.length ≤ c') (hF : ∀ b ∈ g, b.f0.length ≤ 100000000000000) (hg : g.length ≤ 100000000000000) :
 Calls Try.prog 30 #[.slice A g.length c, .slice A' g.length c'] w fun e w' => e = .returned (.bool true) ∧ cz w w' := by
 have HA := aa.mk H1
 have HB := aa.mk H2
 have HF := aa.mk hF
 clear H1 H2 hF
 go_enter Try.func30, Try.ntmps30
 go_wp2
 go_loopw [5] (fun v5 wr => ∃ j : Nat, j ≤ g.length ∧ v5 = .int .i64 j ∧ aa (cz w wr)) (fun v5 _ => g.length - (intOf v5).toNat)
 case atStart => exact ⟨0, Nat.zero_le _, rfl, ⟨cz.refl _⟩⟩
 case round =>
  obtain ⟨j, hj, rfl, HD⟩ := hrel
  by_cases hlt : j < g.length
  · have hltb : decide (j < g.length) = true := decide_eq_true hlt
    obtain ⟨a1, A1, c1, rfl, x0, x1, x2, x3, x4, x5, x6, x7, hl1, hi1⟩ := ib HA.out (j : Int) (by omega) (by omega)
    obtain ⟨a2, A2, c2, rfl, y0, y1, y2, y3, y4, y5, y6, y7, hl2, hi2⟩ := ib HB.out (j : Int) (by omega) (by omega)
    have hbl := HD.out.below
    replace x0 := ai hbl x0
    replace x1 := ai hbl x1
    replace x2 := ai hbl x2
    replace x3 := ai hbl x3
    replace x4 := ai hbl x4
    replace x5 := ai hbl x5
    replace x6 := ai hbl x6
    replace x7 := ai hbl x7
    replace y0 := ai hbl y0
    replace y1 := ai hbl y1
    replace y2 := ai hbl y2
    replace y3 := ai hbl y3
    replace y4 := ai hbl y4
    replace y5 := ai hbl y5
    replace y6 := ai hbl y6
    replace y7 := ai hbl y7
    rw [Int.toNat_natCast] at x0 x1 x2 x3 x4 x5 x6 x7 y0 y1 y2 y3 y4 y5 y6 y7
    have hfl := HF.out _ (vX (i := (j : Int)) (by omega) (by omega))
    generalize af g (j : Int) = b at *
    have HI := aa.mk (And.intro (Kd.dN hi1 hbl) (And.intro hl1 (And.intro (Kd.dN hi2 hbl) hl2)))
    have HS := aa.mk (BD b.f0 hfl)
    clear hi1 hl1 hi2 hl2 hfl hbl
    have p0 : (0 : Int) ≤ (j : Int) := by omega
    have p1 : (j : Int) < (g.length : Int) := by omega
    go_wp2
    go_quiet ((go_at_call 19; exact Calls.quiet_of ((bC.calls _ _ _ b.f0 _ _ b.f0 true _ (Kd.l7 HI.out.1 _) HI.out.2.1 (Kd.l7 HI.out.2.2.1 _) HI.out.2.2.2 HS.out).mono fun _ _ ⟨he, ⟨m, hm⟩⟩ => ⟨he, m, hm⟩)))
    go_wp2
    go_roundw
    case rel => exact ⟨j + 1, by omega, by go_num, ⟨HD.out.step _⟩⟩
    case measure => simp [intOf]; omega
  have hltb : decide (j < g.length) = false := decide_eq_false hlt
  go_wp2
  go_ret
  exact ⟨rfl, HD.out⟩
def ky (b : S47) (p : Nat × Nat) : List Value := [.slice (some ⟨p.1, 0, none⟩) b.f0.length p.2, .int .i64 b.f1, .int .u16 b.f2.f0, .int .u8 b.f2.f1, .int .u8 b.f2.f2, .int .u32 b.f2.f3, .int .i64 b.f3, .int .i64 b.f4]
def jq : List Value := [.slice none 0 0, .int .i64 77, .int .u16 0, .int .u8 0, .int .u8 0, .int .u32 0, .int .i64 0, .int .i64 0]
theorem BA (b : S47) (p : Nat × Nat) : ∀ u ∈ ky b p, u.oneCell' = true := by
 intro u hu
 simp only [ky, List.mem_cons, List.not_mem_nil, or_false] at hu
 rcases hu with rfl | rfl | rfl | rfl | rfl | rfl | rfl | rfl <;> rfl
theorem tT : ∀ u ∈ jq, u.oneCell' = true := by
 intro u hu
 simp only [jq, List.mem_cons, List.not_mem_nil, or_false] at hu
 rcases hu with rfl | rfl | rfl | rfl | rfl | rfl | rfl | rfl <;> rfl
structure gH (w : World) (base : Nat) (v : Value) (g : List S47) (bs : List (Nat × Nat)) (more : List (List Value)) : Prop where
 len : bs.length = g.length
 row : (Kd.raw 8).R 47 w base (fun _ => True) v (List.zipWith ky g bs ++ more)
 inn : ∀ (i : Nat) (b : S47) (p : Nat × Nat), g[i]? = some b → bs[i]? = some p → jh w p.1 b.f0 p.2
 sep : bs.Pairwise (fun p q => p.1 ≠ q.1)
 lo : ∀ p ∈ bs, base ≤ p.1
theorem jh.typed {w : World} {g c : Nat} {code : List S45} (h : jh w g code c) : ∃ cells, w.heap[g]? = some (.cells cells 45 (0, 0)) := Kd.qY h g rfl
theorem a1_lt {w : World} {a : Addr} {u : Value} (h : w.cell? a = some u) : a.block < w.heap.size := World.block_lt_of_cell? w _ h
theorem gH.nil (w : World) (base : Nat) : gH w base (.slice none 0 0) [] [] [] := ⟨rfl, Kd.kL _ _ _ _ _, fun i b p h => by simp at h, List.Pairwise.nil, fun p h => by cases h⟩
theorem gH.ltb {w : World} {base : Nat} {v : Value} {g : List S47} {bs : List (Nat × Nat)} {more : List (List Value)} (H : gH w base v g bs more) : ∀ p ∈ bs, p.1 < w.heap.size := by
 intro p hp
 obtain ⟨i, hi, rfl⟩ := List.getElem_of_mem hp
 have hl := H.len
 have hi2 : i < g.length := by omega
 exact (H.inn i g[i] bs[i] (List.getElem?_eq_getElem hi2) (List.getElem?_eq_getElem hi)).lt
theorem gH.below {w w1 : World} {base : Nat} {v : Value} {g : List S47} {bs : List (Nat × Nat)} {more : List (List Value)} (H : gH w base v g bs more) (hb : Below w.heap.size w w1) : gH w1 base v g bs more :=
 ⟨H.len, Kd.iD H.row hb, fun i b p h1 h2 => (H.inn i b p h1 h2).move (hb.block _ (H.inn i b p h1 h2).lt), H.sep, H.lo⟩
theorem gH.grown {w w1 : World} {base : Nat} {v v1 : Value} {g : List S47} {bs : List (Nat × Nat)} {more more1 : List (List Value)} (H : gH w base v g bs more) (hg : w.grownBy w1 v.ownBlock)
 (ho : (Kd.raw 8).R 47 w1 base (fun _ => True) v1 (List.zipWith ky g bs ++ more1)) : gH w1 base v1 g bs more1 := by
 refine ⟨H.len, ho, fun i b p h1 h2 => ?_, H.sep, H.lo⟩
 have hi := H.inn i b p h1 h2
 obtain ⟨cells, hc⟩ := hi.typed
 exact hi.move (hg.block _ hi.lt (Kd.uh H.row hc (by decide)))
theorem gH.snoc {w : World} {base : Nat} {v : Value} {g : List S47} {bs : List (Nat × Nat)} {b : S47} {p : Nat × Nat} (H : gH w base v g bs [ky b p]) (hi : jh w p.1 b.f0 p.2) (hn : ∀ q ∈ bs, q.1 ≠ p.1) (hl : base ≤ p.1) : gH w base v (g ++ [b]) (bs ++ [p]) [] := by
 refine ⟨by rw [List.length_append, List.length_append, H.len]; rfl, ?_, fun i b' p' h1 h2 => ?_, ?_, ?_⟩
 · rw [List.append_nil, List.zipWith_append H.len.symm]
   exact H.row
 · by_cases h : i < g.length
   · rw [List.getElem?_append_left h] at h1
     rw [List.getElem?_append_left (by have := H.len; omega)] at h2
     exact H.inn i b' p' h1 h2
   have hl := H.len
   rw [List.getElem?_append_right (by omega)] at h1 h2
   rw [hl] at h2
   have h0 : i - g.length = 0 := by
    have := (List.getElem?_eq_some_iff.1 h1).1
    simp at this
    omega
   rw [h0] at h1 h2
   have e1 : b = b' := by simpa using h1
   have e2 : p = p' := by simpa using h2
   rw [← e1, ← e2]
   exact hi
 · refine List.pairwise_append.2 ⟨H.sep, List.pairwise_singleton _ _, fun q hq r hr => ?_⟩
   rw [List.mem_singleton.1 hr]
   exact hn q hq
 intro q hq
 rcases List.mem_append.1 hq with h | h
 · exact H.lo q h
 rw [List.mem_singleton.1 h]; exact hl
theorem gH.round {w wr W w5 : World} {v v1 : Value} {g : List S47} {bs : List (Nat × Nat)} {b : S47} {g2 c2 : Nat} (H : gH wr w.heap.size v g bs []) (hB : Below w.heap.size w wr) (hb : Below wr.heap.size wr W) (hi : jh W g2 b.f0 c2) (hge : wr.heap.size ≤ g2)
 (ho : (Kd.raw 8).R 47 w5 w.heap.size (fun _ => True) v1 (List.zipWith ky g bs ++ [ky b (g2, c2)])) (hg : W.grownBy w5 v.ownBlock) : gH w5 w.heap.size v1 (g ++ [b]) (bs ++ [(g2, c2)]) [] := by
 have h1 := H.below hb
 obtain ⟨cells, hc⟩ := hi.typed
 refine ((h1.grown hg ho)).snoc (hi.move (hg.block _ hi.lt (Kd.uh h1.row hc (by decide)))) (fun q hq => ?_) (by have := hB.size; show w.heap.size ≤ g2; omega)
 have := H.ltb q hq
 show q.1 ≠ g2
 omega
theorem xB {α : Type} {R : α → List Value → Prop} {size : Nat} (hl : ∀ x cs, R x cs → cs.length = size) (W : World) (e : Nat) (xs : List α) (inner : List Value) (hrep : fB R size xs inner) (hm : xs.length ≤ 9223372036854775807) :
 dX R size (W.alloc (.cells inner.toArray e)) (some ⟨W.heap.size, 0, none⟩) xs.length xs := by
 refine ⟨rfl, hm, fun _ => ⟨_, rfl, fun j p hj => ?_⟩⟩
 have hk := hrep.2 j p hj
 refine ⟨_, hl _ _ hk, hk, fun i u hu => ?_⟩
 have hil : i < size := by
  have := (List.getElem?_eq_some_iff.1 hu).1
  rw [hl _ _ hk] at this
  exact this
 rw [List.getElem?_take, if_pos hil, List.getElem?_drop] at hu
 have := ae (jW W (.cells inner.toArray e)) (j * size + i)
 rw [List.getElem?_toArray, hu] at this
 have ha : (⟨W.heap.size, 0, none⟩ : Addr).add (j * size + i) = ⟨W.heap.size, j * size + i, none⟩ := by
  rw [Go.WideShapes.add_plain, Nat.zero_add]
 rw [ha]
 exact this
theorem uV (W : World) : dX ((Kd.raw 8).K W) 8 (W.alloc (.cells #[.slice none 0 0, .int .i64 77, .int .u16 0, .int .u8 0, .int .u8 0, .int .u32 0, .int .i64 0, .int .i64 0, .slice none 0 0, .int .i64 77, .int .u16 0, .int .u8 0, .int .u8 0, .int .u32 0, .int .i64 0, .int .i64 0] 47)) (some ⟨W.heap.size, 0, none⟩) 2 [jq, jq] :=
 xB (fun x cs h => (Kd.raw 8).K_len h) W 47 [jq, jq] (jq ++ jq) (by
  have := fB.snoc (fB.snoc (fB.none ((Kd.raw 8).K W) 8) (p := jq) (c := jq) ⟨rfl, rfl, tT⟩ rfl) (p := jq) (c := jq) ⟨rfl, rfl, tT⟩ rfl
  simp only [List.nil_append, List.singleton_append] at this
  exact this) (by simp)
theorem nW (w : World) (g : List S47) (A : Option Addr) (c : Nat) (HG : Kd.C k47 w A g.length g) (hc : g.length ≤ c) (hF : ∀ b ∈ g, (b.f0.length + 4) * 8 ≤ 140737488355328) (hg : (g.length + 2) * 56 ≤ 140737488355328) :
 Calls Try.prog 15 #[.slice A g.length c] w fun e w' => ∃ gb cap bs, e = .returned (.slice (some ⟨gb, 0, none⟩) g.length cap) ∧ gH w' w.heap.size (.slice (some ⟨gb, 0, none⟩) (g.length + 2) cap) g bs [jq, jq] ∧ Below w.heap.size w w' := by
 have hui := Try.underlying22
 have HA := aa.mk HG
 have HCA := aa.mk hc
 have HF := aa.mk hF
 clear HG hc hF
 go_enter Try.func15, Try.ntmps15
 go_wp2
 go_loopw [3, 4] (fun v3 v4 wr => ∃ (j : Nat) (bs : List (Nat × Nat)), j ≤ g.length ∧ v4 = .int .i64 j ∧ aa (gH wr w.heap.size v3 (g.take j) bs []) ∧ aa (Below w.heap.size w wr)) (fun _ v4 _ => g.length - (intOf v4).toNat)
 case atStart => exact ⟨0, [], Nat.zero_le _, rfl, ⟨gH.nil _ _⟩, ⟨Below.refl _ _⟩⟩
 case round =>
  obtain ⟨j, bs, hj, rfl, HL, HB⟩ := hrel
  by_cases hlt : j < g.length
  · have hltb : decide (j < g.length) = true := decide_eq_true hlt
    obtain ⟨a1, A1, c1, rfl, x0, x1, x2, x3, x4, x5, x6, x7, hl1, hi1⟩ := ib HA.out (j : Int) (by omega) (by omega)
    have hbl := HB.out
    replace x0 := ai hbl x0
    replace x1 := ai hbl x1
    replace x2 := ai hbl x2
    replace x3 := ai hbl x3
    replace x4 := ai hbl x4
    replace x5 := ai hbl x5
    replace x6 := ai hbl x6
    replace x7 := ai hbl x7
    rw [Int.toNat_natCast] at x0 x1 x2 x3 x4 x5 x6 x7
    have hfl := HF.out _ (vX (i := (j : Int)) (by omega) (by omega))
    have htk : g.take j ++ [af g (j : Int)] = g.take (j + 1) := by rw [List.take_succ_eq_append_getElem hlt, iN hlt]
    have HT := aa.mk htk
    generalize af g (j : Int) = b at *
    have HI := aa.mk (And.intro (Kd.dN hi1 hbl) (And.intro hl1 hfl))
    have p0 : (0 : Int) ≤ (j : Int) := by omega
    have p1 : (j : Int) < (g.length : Int) := by omega
    have hlw := a1_lt x0
    clear hi1 hl1 hfl hbl htk
    go_wp2_with fail
    refine (tu _ b.f0 A1 c1 (Kd.l6 HI.out.1 _) HI.out.2.1 HI.out.2.2).mono ?_
    rintro e w2 ⟨g2, c2, rfl, hi2, hge, hb2⟩
    have hbx := ak (jW wr (.cells #[.slice A1 b.f0.length c1, .int .i64 b.f1, .int .u16 b.f2.f0, .int .u8 b.f2.f1, .int .u8 b.f2.f2, .int .u32 b.f2.f3, .int .i64 b.f3, .int .i64 b.f4] 47)) hb2
    have y0 : w2.cell? ⟨wr.heap.size, 0, none⟩ = some (.slice A1 b.f0.length c1) := (ae hbx 0).trans rfl
    have y1 : w2.cell? ⟨wr.heap.size, 1, none⟩ = some (.int .i64 b.f1) := (ae hbx 1).trans rfl
    have y2 : w2.cell? ⟨wr.heap.size, 2, none⟩ = some (.int .u16 b.f2.f0) := (ae hbx 2).trans rfl
    have y3 : w2.cell? ⟨wr.heap.size, 3, none⟩ = some (.int .u8 b.f2.f1) := (ae hbx 3).trans rfl
    have y4 : w2.cell? ⟨wr.heap.size, 4, none⟩ = some (.int .u8 b.f2.f2) := (ae hbx 4).trans rfl
    have y5 : w2.cell? ⟨wr.heap.size, 5, none⟩ = some (.int .u32 b.f2.f3) := (ae hbx 5).trans rfl
    have y6 : w2.cell? ⟨wr.heap.size, 6, none⟩ = some (.int .i64 b.f3) := (ae hbx 6).trans rfl
    have y7 : w2.cell? ⟨wr.heap.size, 7, none⟩ = some (.int .i64 b.f4) := (ae hbx 7).trans rfl
    have yf := aj hbx 0
    have HW := aa.mk (show Below wr.heap.size wr (w2.setCell ⟨wr.heap.size, 0, none⟩ (.slice (some ⟨g2, 0, none⟩) b.f0.length c2)) from cZ (ax (ah (Below.refl _ _) _) hb2) (Nat.le_refl _))
    have HI2 := aa.mk (show jh (w2.setCell ⟨wr.heap.size, 0, none⟩ (.slice (some ⟨g2, 0, none⟩) b.f0.length c2)) g2 b.f0 c2 from hi2.move (Below.heap_setCell w2 ⟨wr.heap.size, 0, none⟩ _ g2 (by rw [World.size_alloc] at hge; show g2 ≠ wr.heap.size; omega)))
    have HGE := aa.mk (show wr.heap.size ≤ g2 by rw [World.size_alloc] at hge; omega)
    have HSZ := aa.mk (show (w2.setCell ⟨wr.heap.size, 0, none⟩ (.slice (some ⟨g2, 0, none⟩) b.f0.length c2)).heap.size = w2.heap.size by simp [World.setCell])
    have HLN := aa.mk (show (List.zipWith ky (g.take j) bs).length = j by rw [List.length_zipWith, HL.out.len, List.length_take]; omega)
    clear hbx hb2 hi2 hge
    go_wp2_with (at_builtin; go_loud ((refine Kd.ji (Kd.raw 8) (w0 := w) (W := w2.setCell ⟨wr.heap.size, 0, none⟩ (.slice (some ⟨g2, 0, none⟩) b.f0.length c2)) w.heap.size rfl (.tmp 23) (.tmp 25) 22 47 (.agg #[.slice none 0 0, .int .i64 0, .int .u16 0, .int .u8 0, .int .u8 0, .int .u32 0, .int .i64 0, .int .i64 0]) 56 rfl hui lZ rfl (by decide) (by decide) _ _ (ky b (g2, c2)) (ky b (g2, c2)) (fun _ => True) (fun _ => False) rfl (by rw [HSZ.out]; rfl) ⟨rfl, rfl, BA _ _⟩ (fun _ h => h.elim) (fun _ _ => trivial) (HL.out.below HW.out).row (ax HB.out HW.out) (ax HB.out HW.out).size (by rw [List.append_nil, HLN.out]; omega) ?_); intro v1 w5 ho hb hg hat; rw [List.append_nil] at ho; have HN := aa.mk (HL.out.round HB.out HW.out HI2.out HGE.out ho hg); have HB5 := aa.mk hb; clear ho hb hg hat))
    rw [HT.out] at HN
    go_roundw
    case rel => exact ⟨j + 1, _, by omega, by go_num, HN, HB5⟩
    case measure => simp [intOf]; omega
  have hltb : decide (j < g.length) = false := decide_eq_false hlt
  have hjl : j = g.length := by omega
  subst hjl
  rw [List.take_length] at HL
  have HE := aa.mk (uV wr)
  have HLN := aa.mk (show (List.zipWith ky g bs).length = g.length by rw [List.length_zipWith, HL.out.len]; omega)
  go_wp2_with (at_builtin; go_loud ((refine Kd.jd (Kd.raw 8) (w0 := w) w.heap.size rfl (.tmp 27) (.tmp 30) 22 47 (.agg #[.slice none 0 0, .int .i64 0, .int .u16 0, .int .u8 0, .int .u8 0, .int .u32 0, .int .i64 0, .int .i64 0]) 56 rfl hui lZ rfl (by decide) (by decide) _ _ [jq, jq] _ 2 2 (fun _ => True) (fun _ => False) rfl rfl (Kd.eD HL.out.row _) HE.out (fun x cs h => h) (fun _ h => h.elim) (fun _ _ => trivial) (ah HB.out _) (ah HB.out _).size (by rw [List.append_nil, HLN.out]; omega) ?_); intro v1 w5 ho hb hg hat; rw [List.append_nil] at ho; obtain ⟨g1, c1, e1, hge, _, _⟩ := Kd.lW ho (by simp); rw [show (List.zipWith ky g bs ++ [jq, jq]).length = g.length + 2 by rw [List.length_append, HLN.out]; rfl] at e1; subst e1; have hcb := (lQ ho).2.2.1; have hcb2 : (g.length : Int) ≤ (c1 : Int) := (by omega); have HN := aa.mk ((HL.out.below (ah (Below.refl _ _) _)).grown hg ho); have HB5 := aa.mk hb; clear ho hb hg hat))
  go_wp2
  go_ret
  exact ⟨g1, c1, bs, rfl, HN.out, HB5.out⟩
theorem gH.rowAt {w : World} {base gb n cap : Nat} {g : List S47} {bs : List (Nat × Nat)} {more : List (List Value)} (H : gH w base (.slice (some ⟨gb, 0, none⟩) n cap) g bs more) {j : Nat} {r : List Value} (hj : (List.zipWith ky g bs ++ more)[j]? = some r) :
 r.length = 8 ∧ ∀ i u, r[i]? = some u → w.cell? ⟨gb, j * 8 + i, none⟩ = some u := by
 have hC := (Kd.dE H.row).2.2
 obtain ⟨_, _, hr⟩ := hC
 have hl := (List.getElem?_eq_some_iff.1 hj).1
 obtain ⟨ad, e, hc⟩ := hr (by omega)
 obtain rfl : (⟨gb, 0, none⟩ : Addr) = ad := by injection e
 obtain ⟨c, hcl, hk, hcc⟩ := hc j r hj
 obtain rfl : c = r := hk.1
 refine ⟨hcl, fun i u hu => ?_⟩
 have := hcc i u hu
 rw [Go.WideShapes.add_plain, Nat.zero_add] at this
 exact this
theorem gH.at {w : World} {base gb n cap : Nat} {g : List S47} {bs : List (Nat × Nat)} {more : List (List Value)} (H : gH w base (.slice (some ⟨gb, 0, none⟩) n cap) g bs more) {j : Nat} {b : S47} {p : Nat × Nat} (hb : g[j]? = some b) (hp : bs[j]? = some p) : (List.zipWith ky g bs ++ more)[j]? = some (ky b p) := by
 have h1 := (List.getElem?_eq_some_iff.1 hb).1
 have h2 := (List.getElem?_eq_some_iff.1 hp).1
 rw [List.getElem?_append_left (by rw [List.length_zipWith]; omega), List.getElem?_zipWith, hb, hp]
theorem gH.C {w : World} {base gb n cap : Nat} {g : List S47} {bs : List (Nat × Nat)} {more : List (List Value)} (H : gH w base (.slice (some ⟨gb, 0, none⟩) n cap) g bs more) (hl : g.length ≤ 9223372036854775807) : Kd.C k47 w (some ⟨gb, 0, none⟩) g.length g := by
 refine ⟨rfl, hl, fun _ => ⟨_, rfl, fun j b hb => ?_⟩⟩
 have hjl := (List.getElem?_eq_some_iff.1 hb).1
 have hlen := H.len
 obtain ⟨p, hp⟩ : ∃ p, bs[j]? = some p := ⟨bs[j]'(by omega), List.getElem?_eq_getElem (by omega)⟩
 have hr := H.rowAt (H.at hb hp)
 have hi := (H.inn j b p hb hp).read
 refine ⟨ky b p, rfl, zU w b (by have := hi.2.1; omega) hi.1, fun i u hu => ?_⟩
 rw [Go.WideShapes.add_plain, Nat.zero_add]
 exact hr.2 i u hu
structure KB (w wr : World) (base h1 gb n cap : Nat) (g : List S47) (bs : List (Nat × Nat)) (i : Nat) : Prop where
 kp : Kp (fun k => base ≤ k ∧ k < h1) w wr
 row : (Kd.raw 8).R 47 wr base (fun _ => True) (.slice (some ⟨gb, 0, none⟩) n cap) (List.zipWith ky g bs ++ [jq, jq])
 inn : ∀ (j : Nat) (b : S47) (p : Nat × Nat), i ≤ j → g[j]? = some b → bs[j]? = some p → jh wr p.1 b.f0 p.2
theorem Kp.cell {S : Nat → Prop} {w w1 : World} (h : Kp S w w1) {a : Addr} {u : Value} (hc : w.cell? a = some u) (hS : ¬ S a.block) : w1.cell? a = some u :=
 (World.cell?_of_block (h.block a.block (World.block_lt_of_cell? w a hc) hS)).trans hc
theorem pu (a : Addr) (i : Nat) : (a.add i).block = a.block := by unfold Addr.add; split <;> rfl
theorem KB.cell {w wr : World} {base h1 gb n cap : Nat} {g : List S47} {bs : List (Nat × Nat)} {i : Nat} {b : S47} {p : Nat × Nat} (H : KB w wr base h1 gb n cap g bs i) (hb : g[i]? = some b) (hp : bs[i]? = some p) : wr.cell? ⟨gb, i * 8, none⟩ = some (.slice (some ⟨p.1, 0, none⟩) b.f0.length p.2) := by
 have hC := (Kd.dE H.row).2.2
 obtain ⟨_, _, hr⟩ := hC
 have h1 := (List.getElem?_eq_some_iff.1 hb).1
 have h2 := (List.getElem?_eq_some_iff.1 hp).1
 obtain ⟨ad, e, hc⟩ := hr (by simp)
 obtain rfl : (⟨gb, 0, none⟩ : Addr) = ad := by injection e
 obtain ⟨c, hcl, hk, hcc⟩ := hc i (ky b p) (by rw [List.getElem?_append_left (by rw [List.length_zipWith]; omega), List.getElem?_zipWith, hb, hp])
 obtain rfl : c = ky b p := hk.1
 have := hcc 0 _ rfl
 rw [Go.WideShapes.add_plain, Nat.zero_add] at this
 exact this
theorem KB.next {w wr w2 : World} {base h1 gb n cap : Nat} {g : List S47} {bs : List (Nat × Nat)} {i : Nat} {b : S47} {p : Nat × Nat} (H : KB w wr base h1 gb n cap g bs i) (hsep : bs.Pairwise (fun p q => p.1 ≠ q.1)) (hb : g[i]? = some b) (hp : bs[i]? = some p) (hlo : base ≤ p.1) (hhi : p.1 < h1)
 (k : Kp (fun x => x = p.1) wr w2) : KB w w2 base h1 gb n cap g bs (i + 1) := by
 obtain ⟨cells, hc⟩ := (H.inn i b p (Nat.le_refl _) hb hp).typed
 refine ⟨H.kp.trans ⟨k.os, k.tape, k.output, k.size, fun x hx hS => k.block x hx (fun e => hS (by rw [e]; exact ⟨hlo, hhi⟩))⟩, ?_, fun j b' p' hj h1 h2 => ?_⟩
 · refine wF H.row (S := fun x => x = p.1) (fun x e => .inl ⟨_, _, _, e ▸ hc, by decide⟩) k
 have hi := H.inn j b' p' (by omega) h1 h2
 refine hi.move (k.block _ hi.lt (fun e => ?_))
 have hne := List.pairwise_iff_getElem.1 hsep i j (List.getElem?_eq_some_iff.1 hp).1 (List.getElem?_eq_some_iff.1 h2).1 (by omega)
 rw [(List.getElem?_eq_some_iff.1 hp).2, (List.getElem?_eq_some_iff.1 h2).2] at hne
 exact hne e.symm
theorem nV (w00 w : World) (g : List S47) (A : Option Addr) (c gb cap : Nat) (bs : List (Nat × Nat)) (HL : gH w w00.heap.size (.slice (some ⟨gb, 0, none⟩) (g.length + 2) cap) g bs [jq, jq]) (HG : Kd.C k47 w00 A g.length g) (hc : g.length ≤ c) (hb : Below w00.heap.size w00 w)
 (hF : ∀ b ∈ g, (b.f0.length + 4) * 8 ≤ 140737488355328) (hg : (g.length + 2) * 56 ≤ 140737488355328) (h1 : Nat) (hgb : gb < h1) (hbs : ∀ p ∈ bs, p.1 < h1) :
 Calls Try.prog 17 #[.slice (some ⟨gb, 0, none⟩) g.length cap, .slice A g.length c] w fun e w' => e = .returned (.bool true) ∧ Kp (fun k => w00.heap.size ≤ k ∧ k < h1) w w' := by
 have hcap := (lQ HL.row).2.2
 have hcm := hcap.2
 have hgl := (lQ HL.row).2.1
 unfold maxLen at hcm
 have HB0 := aa.mk (lQ HL.row).1
 have q1 : (g.length : Int) + 2 ≤ (cap : Int) := by omega
 have hlen := HL.len
 have hlz : (List.zipWith ky g bs).length = g.length := by rw [List.length_zipWith, hlen]; omega
 have e1 := HL.rowAt (j := g.length) (r := jq) (by rw [List.getElem?_append_right (by omega), hlz, Nat.sub_self]; rfl)
 have e2 := HL.rowAt (j := g.length + 1) (r := jq) (by rw [List.getElem?_append_right (by omega), hlz, Nat.add_sub_cancel_left]; rfl)
 have z1 := e1.2 1 (.int .i64 77) rfl
 have z2 := e2.2 1 (.int .i64 77) rfl
 clear e1 e2
 have HA := aa.mk HG
 have HCA := aa.mk hc
 have HLC := aa.mk (HL.C (by omega))
 have HBW := aa.mk hb
 have HFF := aa.mk hF
 have HBS := aa.mk hbs
 have HLL := aa.mk HL
 clear HG hc hb hF hbs HL
 go_enter Try.func17, Try.ntmps17
 go_wp2_with fail
 refine (lh _ g _ A cap c HLC.out (by omega) (Kd.dN HA.out HBW.out) HCA.out (fun b hb => by have := HFF.out b hb; omega) (by omega)).mono ?_
 rintro e w1 ⟨rfl, ⟨nd, rfl⟩⟩
 go_wp2
 have HK0 := aa.mk (KB.mk (w := w) (wr := w.drewN nd) (base := w00.heap.size) (h1 := h1) (g := g) (bs := bs) (i := 0) ((Kp.refl _ w).below (aA (Below.refl _ _) _)) (Kd.eP HLL.out.row _) (fun j b p _ h2 h3 => (HLL.out.inn j b p h2 h3).move rfl))
 have HSEP := aa.mk HLL.out.sep
 have HLO := aa.mk HLL.out.lo
 clear z1 z2 HLC HLL
 go_loopw [6, 7] (fun v6 v7 wr => ∃ i : Nat, i ≤ g.length ∧ v6 = .bool true ∧ v7 = .int .i64 i ∧ aa (KB w wr w00.heap.size h1 gb (g.length + 2) cap g bs i)) (fun _ v7 _ => g.length - (intOf v7).toNat)
 case atStart => exact ⟨0, Nat.zero_le _, rfl, rfl, HK0⟩
 case round =>
  clear HK0
  obtain ⟨i, hi, rfl, rfl, HK⟩ := hrel
  by_cases hlt : i < g.length
  · have hltb : decide (i < g.length) = true := decide_eq_true hlt
    have hp : bs[i]? = some bs[i] := List.getElem?_eq_getElem (by omega)
    have hb : g[i]? = some g[i] := List.getElem?_eq_getElem hlt
    have hpm : bs[i] ∈ bs := List.getElem_mem _
    have HLi := aa.mk (fun (hh : gH wr w00.heap.size (.slice (some ⟨gb, 0, none⟩) (g.length + 2) cap) g bs [jq, jq]) => hh)
    have hbw := HK.out.kp.fK HBW.out HBW.out.size (fun k hk => hk.1)
    obtain ⟨a1, A1, c1, e0, x0, _, _, _, _, _, _, _, hl1, hi1⟩ := ib (Kd.dN HA.out hbw) (i : Int) (by omega) (by omega)
    subst e0
    rw [Int.toNat_natCast] at x0
    rw [iN hlt] at x0 hl1 hi1
    have y0 : wr.cell? ⟨gb, i * 8, none⟩ = some (.slice (some ⟨bs[i].1, 0, none⟩) g[i].f0.length bs[i].2) := KB.cell HK.out hb hp
    have hin := HK.out.inn i _ _ (Nat.le_refl _) hb hp
    have hfl := HFF.out _ (List.getElem_mem hlt)
    have HNX := aa.mk (fun w2 (k : Kp (fun x => x = bs[i].1) wr w2) => HK.out.next HSEP.out hb hp (HLO.out _ hpm) (HBS.out _ hpm) k)
    have hge := HLO.out _ hpm
    have hat : a1.block < w00.heap.size := by
     obtain ⟨a9, _, _, e9, z9, _⟩ := ib HA.out (i : Int) (by omega) (by omega)
     injection e9 with e9
     subst e9
     have := World.block_lt_of_cell? _ _ z9
     rw [pu] at this
     exact this
    have hcl : ∀ w3, Kp (fun x => x = bs[i].1) wr.drew w3 → w3.cell? ⟨gb, i * 8, none⟩ = some (.slice (some ⟨bs[i].1, 0, none⟩) g[i].f0.length bs[i].2) ∧ w3.cell? (a1.add (i * 8)) = some (.slice A1 g[i].f0.length c1) := by
     intro w3 hk
     obtain ⟨cl, hcl⟩ := hin.typed
     obtain ⟨cr, hcr⟩ := Kd.qY HK.out.row gb rfl
     refine ⟨hk.cell (w := wr.drew) y0 (fun e => ?_), hk.cell (w := wr.drew) x0 (fun e => ?_)⟩
     · have e' : gb = bs[i].1 := e
       rw [e', hcl] at hcr
       cases hcr
     rw [pu] at e
     omega
    have HCL := aa.mk hcl
    generalize g[i] = b at *
    generalize bs[i] = p at *
    have HI := aa.mk (And.intro hin (And.intro hi1 (And.intro hl1 hfl)))
    have p0 : (0 : Int) ≤ (i : Int) := by omega
    have p1 : (i : Int) < (g.length : Int) := by omega
    clear hcl hge hat hp hb hpm HLi hbw hin hi1 hl1 hfl HK
    go_wp2
    go_region_held3 (fun w' => w'.cell? ⟨gb, i * 8, none⟩ = some (.slice (some ⟨p.1, 0, none⟩) b.f0.length p.2) ∧ w'.cell? (a1.add (i * 8)) = some (.slice A1 b.f0.length c1)) (first | exact ⟨y0, x0⟩ | exact HCL.out _ hk) ((go_at_call 47; refine (tq wr.drew p.1 p.2 b.f0 A1 c1 (HI.out.1.move rfl) (Kd.ug HI.out.2.1) HI.out.2.2.1 HI.out.2.2.2).mono ?_; rintro e w3 ⟨rfl, hk⟩))
    have HK3 := aa.mk (HNX.out _ (Kp.trans (Kp.below (Kp.refl (fun x => x = p.1) wr) (au (Below.refl _ _))) hk))
    clear hk
    go_wp2
    go_roundw
    case rel => exact ⟨i + 1, by omega, rfl, by go_num, HK3⟩
    case measure => simp [intOf]; omega
  have hltb : decide (i < g.length) = false := decide_eq_false hlt
  have HG5 := aa.mk (show (fun k => w00.heap.size ≤ k ∧ k < h1) gb ∨ w.heap.size ≤ gb from .inl ⟨hgl, hgb⟩)
  have HS := aa.mk (And.intro HK.out.kp (show Blk wr gb 47 (cap * 8) from (lQ HK.out.row).1))
  clear HK hlt hi
  obtain ⟨wo, rfl⟩ : ∃ wo : World, wo = wr := ⟨_, rfl⟩
  go_wp2
  go_loopw [8] (fun v8 wr => ∃ j : Nat, j ≤ g.length + 2 ∧ v8 = .int .i64 j ∧ aa (Kp (fun k => w00.heap.size ≤ k ∧ k < h1) w wr ∧ Blk wr gb 47 (cap * 8))) (fun v8 _ => g.length + 2 - (intOf v8).toNat)
  case atStart => exact ⟨0, Nat.zero_le _, rfl, HS⟩
  case round =>
   clear HS hltb
   obtain ⟨j, hj, rfl, HS⟩ := hrel
   by_cases hlt : j < g.length + 2
   · have hlt2 : (j : Int) < (g.length : Int) + 2 := by omega
     obtain ⟨⟨u0, x0⟩, f0⟩ := HS.out.2.cell (j * 8) (by omega)
     obtain ⟨⟨u1, x1⟩, f1⟩ := HS.out.2.cell (j * 8 + 1) (by omega)
     obtain ⟨⟨u2, x2⟩, f2⟩ := HS.out.2.cell (j * 8 + 2) (by omega)
     obtain ⟨⟨u3, x3⟩, f3⟩ := HS.out.2.cell (j * 8 + 3) (by omega)
     obtain ⟨⟨u4, x4⟩, f4⟩ := HS.out.2.cell (j * 8 + 4) (by omega)
     obtain ⟨⟨u5, x5⟩, f5⟩ := HS.out.2.cell (j * 8 + 5) (by omega)
     obtain ⟨⟨u6, x6⟩, f6⟩ := HS.out.2.cell (j * 8 + 6) (by omega)
     obtain ⟨⟨u7, x7⟩, f7⟩ := HS.out.2.cell (j * 8 + 7) (by omega)
     go_wp2
     go_roundw
     case rel => exact ⟨j + 1, by omega, by go_num, ⟨((((((((HS.out.1.set HG5.out _ _).set HG5.out _ _).set HG5.out _ _).set HG5.out _ _).set HG5.out _ _).set HG5.out _ _).set HG5.out _ _).set HG5.out _ _), ((((((((HS.out.2.set _ _ _).set _ _ _).set _ _ _).set _ _ _).set _ _ _).set _ _ _).set _ _ _).set _ _ _)⟩⟩
     case measure => simp [intOf]; omega
   have hlt2 : ¬ (j : Int) < (g.length : Int) + 2 := by omega
   go_wp2
   go_ret
   exact ⟨rfl, HS.out.1⟩
def b8 (p : Value × S47) : List Value := [p.1, .int .i64 p.2.f1, .int .u16 p.2.f2.f0, .int .u8 p.2.f2.f1, .int .u8 p.2.f2.f2, .int .u32 p.2.f2.f3, .int .i64 p.2.f3, .int .i64 p.2.f4]
def bz (bs : List (Value × S47)) (tl : List Value) : Array Value := (bs.flatMap b8 ++ tl).toArray
theorem sj (bs : List (Value × S47)) : (bs.flatMap b8).length = bs.length * 8 := by
 induction bs with
 | nil => rfl
 | cons a r ih => rw [List.flatMap_cons, List.length_append, ih, List.length_cons]; show 8 + _ = _; omega
theorem rc_fm : ∀ (bs : List (Value × S47)) (n : Nat) (p : Value × S47), bs[n]? = some p → ∀ j, j < 8 → (bs.flatMap b8)[n * 8 + j]? = (b8 p)[j]? := by
 intro bs
 induction bs with
 | nil => intro n p h; simp at h
 | cons a r ih =>
  intro n p h j hj
  rw [List.flatMap_cons]
  have hl : (b8 a).length = 8 := rfl
  cases n with
  | zero =>
   cases h
   rw [Nat.zero_mul, Nat.zero_add, List.getElem?_append_left (by omega)]
  | succ n =>
   rw [List.getElem?_append_right (by omega), hl, show (n + 1) * 8 + j - 8 = n * 8 + j by omega]
   exact ih n p h j hj
theorem mM {bs : List (Value × S47)} {n : Nat} {p : Value × S47} (h : bs[n]? = some p) : n < bs.length := (List.getElem?_eq_some_iff.1 h).1
theorem cB {bs : List (Value × S47)} {tl : List Value} {n : Nat} {p : Value × S47} (h : bs[n]? = some p) {j : Nat} (hj : j < 8) : (bz bs tl)[n * 8 + j]? = (b8 p)[j]? := by
 unfold bz; rw [List.getElem?_toArray, List.getElem?_append_left (by rw [sj]; have := mM h; omega)]; exact rc_fm bs n p h j hj
theorem rc_set1 : ∀ (bs : List (Value × S47)) (n : Nat) (p q : Value × S47) (j : Nat) (v : Value), bs[n]? = some p → j < 8 → (b8 p).set j v = b8 q → (bs.flatMap b8).set (n * 8 + j) v = (bs.set n q).flatMap b8 := by
 intro bs
 induction bs with
 | nil => intro n p q j v h; simp at h
 | cons a r ih =>
  intro n p q j v h hj e
  rw [List.flatMap_cons]
  have hl : (b8 a).length = 8 := rfl
  cases n with
  | zero =>
   cases h
   rw [Nat.zero_mul, Nat.zero_add, List.set_append_left _ _ (by omega), e, List.set_cons_zero, List.flatMap_cons]
  | succ n =>
   rw [List.set_append_right _ _ (by omega), hl, show (n + 1) * 8 + j - 8 = n * 8 + j by omega, ih n p q j v h hj e, List.set_cons_succ, List.flatMap_cons]
theorem rc_set {bs : List (Value × S47)} {tl : List Value} {n : Nat} {p : Value × S47} (h : bs[n]? = some p) (q : Value × S47) {j : Nat} (hj : j < 8) {v : Value} (e : (b8 p).set j v = b8 q) : (bz bs tl).setIfInBounds (n * 8 + j) v = bz (bs.set n q) tl := by
 unfold bz; rw [List.setIfInBounds_toArray, List.set_append_left _ _ (by rw [sj]; have := mM h; omega), rc_set1 bs n p q j v h hj e]
theorem aJ {bs : List (Value × S47)} {n : Nat} {p q : Value × S47} (h : bs[n]? = some p) : (bs.set n q)[n]? = some q := by
 rw [List.getElem?_set_self (mM h)]
theorem set_set {bs : List (Value × S47)} {n : Nat} {q r : Value × S47} : (bs.set n q).set n r = bs.set n r := List.set_set _
theorem set_self {bs : List (Value × S47)} {n : Nat} {p : Value × S47} (h : bs[n]? = some p) : bs.set n p = bs := by
 apply List.ext_getElem?
 intro i
 rw [List.getElem?_set]
 split
 · rename_i e; subst e; split
   · exact h.symm
   have := mM h; omega
 rfl
theorem bH {W : World} {gb n j : Nat} {bs : List (Value × S47)} {tl : List Value} {p : Value × S47} (hB : W.heap[gb]? = some (.cells (bz bs tl) 47 (0, 0))) (h : bs[n]? = some p) (q : Value × S47) (hj : j < 8) (v : Value) (e : (b8 p).set j v = b8 q) :
 (W.setCell ⟨gb, n * 8 + j, none⟩ v).heap[gb]? = some (.cells (bz (bs.set n q) tl) 47 (0, 0)) := aQ hB (n * 8 + j) v (rc_set h q hj e)
def i4 (i : S45) : List Value := [.int .u16 i.f0, .int .u8 i.f1, .int .u8 i.f2, .int .u32 i.f3]
theorem kE (c : List S45) : (c.flatMap i4).length = c.length * 4 := by
 induction c with
 | nil => rfl
 | cons a r ih => rw [List.flatMap_cons, List.length_append, ih, List.length_cons]; show 4 + _ = _; omega
theorem uw : ∀ (c : List S45) (n : Nat) (i : S45), c[n]? = some i → ∀ j, j < 4 → (c.flatMap i4)[n * 4 + j]? = (i4 i)[j]? := by
 intro c
 induction c with
 | nil => intro n p h; simp at h
 | cons a r ih =>
  intro n p h j hj
  rw [List.flatMap_cons]
  have hl : (i4 a).length = 4 := rfl
  cases n with
  | zero =>
   cases h
   rw [Nat.zero_mul, Nat.zero_add, List.getElem?_append_left (by omega)]
  | succ n =>
   rw [List.getElem?_append_right (by omega), hl, show (n + 1) * 4 + j - 4 = n * 4 + j by omega]
   exact ih n p h j hj
structure CdA (w : World) (g cap : Nat) (c : List S45) (tl : List Value) : Prop where
 blk : w.heap[g]? = some (.cells (c.flatMap i4 ++ tl).toArray 45 (0, 0))
 len : c.length ≤ cap
 max : cap ≤ maxLen
 size : (c.flatMap i4 ++ tl).length = cap * 4
def Cd (w : World) (v : Value) (c : List S45) : Prop := (v = .slice none 0 0 ∧ c = []) ∨ ∃ g cap tl, v = .slice (some ⟨g, 0, none⟩) c.length cap ∧ CdA w g cap c tl
theorem reps_i4 {W : World} {base : Nat} {ok : Nat → Prop} : ∀ (c : List S45), fB (k45.M W base ok) 4 c (c.flatMap i4) := by
 intro c
 refine ⟨kE c, fun j i h => ?_⟩
 have h2 : ((c.flatMap i4).drop (j * 4)).take 4 = i4 i := by
  apply List.ext_getElem?
  intro q
  rw [List.getElem?_take, List.getElem?_drop]
  split
  · rename_i hq; exact uw c j i h q hq
  rename_i hq; exact (List.getElem?_eq_none (by show 4 ≤ q; omega)).symm
 rw [h2]
 exact kg _ _ _ i
theorem i4_reps {W : World} {base : Nat} {ok : Nat → Prop} {c : List S45} {cs : List Value} (h : fB (k45.M W base ok) 4 c cs) : cs = c.flatMap i4 := by
 obtain ⟨h1, h2⟩ := h
 apply List.ext_getElem?
 intro q
 by_cases hq : q < c.length * 4
 · have hj : q / 4 < c.length := by omega
   have h3 := h2 (q / 4) c[q / 4] (List.getElem?_eq_getElem hj)
   have h4 := jP (k45.K_of_M h3)
   have e1 : cs[q]? = ((cs.drop (q / 4 * 4)).take 4)[q % 4]? := by
    rw [List.getElem?_take, List.getElem?_drop, if_pos (by omega)]; congr 1; omega
   rw [e1, h4]
   have e2 := uw c (q / 4) c[q / 4] (List.getElem?_eq_getElem hj) (q % 4) (by omega)
   rw [show q / 4 * 4 + q % 4 = q by omega] at e2
   rw [e2]; rfl
 rw [List.getElem?_eq_none (by omega), List.getElem?_eq_none (by rw [kE]; omega)]
theorem mf {w : World} {base : Nat} {ok : Nat → Prop} {v : Value} {c : List S45} (h : k45.R 45 w base ok v c) : Cd w v c := by
 obtain ⟨_, inner, ho, hr⟩ := h
 obtain rfl := i4_reps hr
 rcases ho.2 with ⟨h1, h2⟩ | ⟨g, cap, cur, h1, _, h3, h4, h5, h6, h7⟩
 · exact .inl ⟨h1, List.eq_nil_of_length_eq_zero h2⟩
 refine .inr ⟨g, cap, cur.toList.drop (c.length * 4), h1, ?_, h4, h5, ?_⟩
 · rw [h3]
   congr 2
   have := List.take_append_drop (c.length * 4) cur.toList
   rw [show cur.toList.take (c.length * 4) = c.flatMap i4 from h7] at this
   rw [this]
 have := List.take_append_drop (c.length * 4) cur.toList
 rw [show cur.toList.take (c.length * 4) = c.flatMap i4 from h7] at this
 rw [this, Array.length_toList, h6]; rfl
theorem oD {w : World} {base : Nat} {ok : Nat → Prop} {v : Value} {c : List S45} (h : Cd w v c) (hb : ∀ g, v.ownBlock = some g → base ≤ g ∧ ok g) : k45.R 45 w base ok v c := by
 refine ⟨fun k hk => (hb k hk).2, c.flatMap i4, ⟨kE c, ?_⟩, reps_i4 c⟩
 rcases h with ⟨h1, rfl⟩ | ⟨g, cap, tl, h1, h2⟩
 · exact .inl ⟨h1, rfl⟩
 refine .inr ⟨g, cap, _, h1, (hb g (by rw [h1]; rfl)).1, h2.blk, h2.len, h2.max, ?_, ?_⟩
 · rw [List.size_toArray, h2.size]; rfl
 show (c.flatMap i4 ++ tl).take (c.length * 4) = _
 rw [← kE c, List.take_left]
theorem Cd.slice {w : World} {v : Value} {c : List S45} (h : Cd w v c) : ∃ A cap, v = .slice A c.length cap := by
 rcases h with ⟨h1, rfl⟩ | ⟨g, cap, tl, h1, _⟩
 · exact ⟨none, 0, h1⟩
 exact ⟨_, cap, h1⟩
theorem Cd.kp {S : Nat → Prop} {w w1 : World} {v : Value} {c : List S45} (h : Cd w v c) (k : Kp S w w1) (hS : ∀ g, v.ownBlock = some g → ¬ S g) : Cd w1 v c := by
 rcases h with h | ⟨g, cap, tl, h1, h2⟩
 · exact .inl h
 exact .inr ⟨g, cap, tl, h1, (k.block g (av h2.blk) (hS g (by rw [h1]; rfl))).trans h2.blk, h2.len, h2.max, h2.size⟩
theorem Cd.below {w w1 : World} {v : Value} {c : List S45} (h : Cd w v c) (k : Below w.heap.size w w1) : Cd w1 v c := by
 rcases h with h | ⟨g, cap, tl, h1, h2⟩
 · exact .inl h
 exact .inr ⟨g, cap, tl, h1, ak h2.blk k, h2.len, h2.max, h2.size⟩
theorem Cd.lt {w : World} {v : Value} {c : List S45} (h : Cd w v c) {g : Nat} (hg : v.ownBlock = some g) : ∃ cs, w.heap[g]? = some (.cells cs 45 (0, 0)) := by
 rcases h with ⟨h1, _⟩ | ⟨g', cap, tl, h1, h2⟩
 · rw [h1] at hg; cases hg
 rw [h1] at hg; injection hg with hg; subst hg; exact ⟨_, h2.blk⟩
theorem mZ {P : Program} (w : World) {ops : Array Oper} {rest : List Oper} {o : Oper} {a : Act} {Q : Exit → Act → World → Prop}
 (hg : o.guard = none) (s x : Operand) (t : TypeId) (hop : o.op = Op.call { callee := Callee.builtin Builtin.append, args := #[s, x], argTypes := #[t, t] })
 (e : TypeId) (z : Value) (size bytes : Nat) (ht : P.underlying t = some (.slice e)) (hinfo : (P.info? e).map (fun i => (i.zero, i.size, i.bytes)) = some (some z, size, bytes))
 (g n cap : Nat) (hs : a.eval s = .slice (some ⟨g, 0, none⟩) n cap) (cur : Array Value) (hcur : w.heap[g]? = some (.cells cur e (0, 0)))
 (ad : Addr) (m c : Nat) (news : List Value) (hx : a.eval x = .slice (some ad) m c) (hl : news.length = m * size) (hnews : ∀ j u, news[j]? = some u → w.cell? (ad.add j) = some u) (h1 : ∀ u ∈ news, u.oneCell' = true)
 (hroom : n + m ≤ cap) (hfit : n * size + news.length ≤ cur.size)
 (hK : ∀ w', w'.heap[g]? = some (.cells (cur.toList.take (n * size) ++ news ++ cur.toList.drop (n * size + news.length)).toArray e (0, 0)) → Kp (fun k => k = g) w w' → wpList P ops Q rest (a.put o.dst (.slice (some ⟨g, 0, none⟩) (n + m) cap)) w') :
 wpList P ops Q (o :: rest) a w := by
 obtain ⟨i, hi, hzz⟩ := Option.map_eq_some_iff.1 hinfo
 simp only [Prod.mk.injEq] at hzz
 obtain ⟨_, hs1, _⟩ := hzz
 subst hs1
 refine wpList_plain hg fun K hK' => ?_
 have hrun := run_append_room (P := P) w t o.type e i ht hi g n cap cur hcur ad m c news hl hnews h1 hroom hfit
 unfold Oper.wp
 simp [execOp, hop, resolve, invoke, builtin, hs, hx, hrun, Result.andThen]
 rw [← List.append_assoc]
 refine hK' _ _ (hK _ (setRow_heap w g cur _ e _ hcur) ⟨rfl, rfl, rfl, by simp [World.setRow], fun k _ hk => setRow_other w g k _ hk⟩)
theorem rc8 {w : World} {g n : Nat} {bs : List (Value × S47)} {tl : List Value} {v0 : Value} {c : List S45} {f1 l0 l1 l2 l3 y m : Int} (hB : w.heap[g]? = some (.cells (bz bs tl) 47 (0, 0))) (hp : bs[n]? = some (v0, ⟨c, f1, ⟨l0, l1, l2, l3⟩, y, m⟩)) :
 w.cell? ⟨g, n * 8 + 1, none⟩ = some (.int .i64 f1) ∧ w.cell? ⟨g, n * 8 + 2, none⟩ = some (.int .u16 l0) ∧ w.cell? ⟨g, n * 8 + 3, none⟩ = some (.int .u8 l1) ∧ w.cell? ⟨g, n * 8 + 4, none⟩ = some (.int .u8 l2) ∧ w.cell? ⟨g, n * 8 + 5, none⟩ = some (.int .u32 l3) ∧ w.cell? ⟨g, n * 8 + 6, none⟩ = some (.int .i64 y) ∧ w.cell? ⟨g, n * 8 + 7, none⟩ = some (.int .i64 m) ∧
 w.frozen? ⟨g, n * 8 + 1, none⟩ = false ∧ w.frozen? ⟨g, n * 8 + 2, none⟩ = false ∧ w.frozen? ⟨g, n * 8 + 3, none⟩ = false ∧ w.frozen? ⟨g, n * 8 + 4, none⟩ = false ∧ w.frozen? ⟨g, n * 8 + 5, none⟩ = false ∧ w.frozen? ⟨g, n * 8 + 6, none⟩ = false ∧ w.frozen? ⟨g, n * 8 + 7, none⟩ = false := by
 have h : ∀ j v, j < 8 → (b8 (v0, ⟨c, f1, ⟨l0, l1, l2, l3⟩, y, m⟩))[j]? = some v → w.cell? ⟨g, n * 8 + j, none⟩ = some v := fun j v hj e => (ae hB (n * 8 + j)).trans ((cB hp hj).trans e)
 exact ⟨h 1 _ (by omega) rfl, h 2 _ (by omega) rfl, h 3 _ (by omega) rfl, h 4 _ (by omega) rfl, h 5 _ (by omega) rfl, h 6 _ (by omega) rfl, h 7 _ (by omega) rfl, aj hB _, aj hB _, aj hB _, aj hB _, aj hB _, aj hB _, aj hB _⟩
end Go.Proofs.Ytdkalnkplgfgoaa.Ln
