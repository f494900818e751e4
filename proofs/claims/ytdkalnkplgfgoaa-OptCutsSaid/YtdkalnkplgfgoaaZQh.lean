/- Lemmas and walks for the statements of the texts ZQZ..: the declarations that they need, taken together by a program of this session. Conditions: as each says. -/
import Derived.ArgAppend
import Derived.Test.YtdkalnkplgfgoaaZQb
import Derived.Test.YtdkalnkplgfgoaaZQc
import Derived.Test.YtdkalnkplgfgoaaZQd
import Derived.Test.YtdkalnkplgfgoaaZQg
set_option maxHeartbeats 4000000
set_option maxRecDepth 100000
set_option linter.unusedVariables false
set_option linter.unusedSimpArgs false
namespace Go.Proofs.Ytdkalnkplgfgoaa.Ln
open Go.RowKit Go.Maps Go.Proofs.YtdkalnkplgfgoaaW.PrintWords Go.Proofs.YtdkalnkplgfgoaaW.PrintLast Go.Proofs.YtdkalnkplgfgoaaW.PrintMore Go.Proofs.Ytdkalnkplgfgoaa.PA
theorem jQ {W : World} {g x : Nat} {cs : Array Value} {T : TypeId} {v0 v1 v2 v3 : Value} (h : W.heap[x]? = some (.cells cs T (0, 0))) (hne : x ≠ g) :
 ((((W.setCell ⟨g, 0, none⟩ v0).setCell ⟨g, 1, none⟩ v1).setCell ⟨g, 2, none⟩ v2).setCell ⟨g, 3, none⟩ v3).heap[x]? = some (.cells cs T (0, 0)) :=
 dx (dx (dx (dx h hne _) hne _) hne _) hne _
theorem simp_l0 (w : World) (gs : Nat) (s : St) (i j : S45) (hS : w.heap[gs]? = some (.cells (aA s) 151 (0, 0))) (hw : Wst s) (hc : stB j.f0 j.f3 = true) (hk : Rg j.f3) (n0 : (aT i.f0 == 0) = true) (hl : ∀ W' : World, W'.heap[gs]? = some (.cells (aA s) 151 (0, 0)) → Calls Try.prog 165 #[.pointer (some ⟨gs, 0, none⟩), .agg #[.int .u16 i.f0, .int .u8 i.f1, .int .u8 i.f2, .int .u32 i.f3]] W' fun e w' => e = .returned (.agg #[.int .u16 j.f0, .int .u8 j.f1, .int .u8 j.f2, .int .u32 j.f3]) ∧ Below W'.heap.size W' w') :
 Calls Try.prog 159 #[.pointer (some ⟨gs, 0, none⟩), eF i] w fun e w' => e = .returned (.tuple #[eF j, .bool (!iA s j)]) ∧ Below w.heap.size w w' := by
 have HS := aa.mk hS
 have HW := aa.mk hw
 have HJ := aa.mk (And.intro hc hk)
 have HC := aa.mk (fun W => aG.calls (0 + 8) i.f0 (aT i.f0) W (gK i.f0 0).1)
 have HL := aa.mk hl
 clear hl
 clear hS hw hc hk
 unfold eF at *
 go_enter Try.func159, Try.ntmps159
 go_upto_region 1 with (fail)
 refine forget (fun W => ∃ gi, gi = w.heap.size ∧ Below w.heap.size w W ∧ W.heap[gi]? = some (.cells #[.int .u16 i.f0, .int .u8 i.f1, .int .u8 i.f2, .int .u32 i.f3] 45 (0, 0)) ∧ W.heap[gi + 1]? = some (.cells #[.int .u16 0, .int .u8 0, .int .u8 0, .int .u32 0] 45 (0, 0))) ⟨_, rfl, bY _ _ _, kM _ _ _, eB _ _ _⟩ ?_
 rintro W ⟨gi, egi, hb, hi, hr⟩
 rw [← egi]
 have y0 : _ = some (Value.int .u16 i.f0) := (ae hi 0).trans rfl
 have y1 : _ = some (Value.int .u8 i.f1) := (ae hi 1).trans rfl
 have y2 : _ = some (Value.int .u8 i.f2) := (ae hi 2).trans rfl
 have y3 : _ = some (Value.int .u32 i.f3) := (ae hi 3).trans rfl
 have f0 := af hi 0
 have f1 := af hi 1
 have f2 := af hi 2
 have f3 := af hi 3
 have HB := aa.mk hb
 have HI := aa.mk hi
 have HR := aa.mk hr
 have EG := aa.mk egi
 clear hb hi hr egi
 go_upto_region 12 with (first | (go_at_call 99; refine (HC.out _).mono ?_; rintro e w' ⟨rfl, ⟨nd, rfl⟩⟩) | (go_at_call 165; refine (HL.out _ (ah (ah HS.out HB.out) (aD (Below.refl W.heap.size W) _))).mono ?_; rintro e w5 ⟨rfl, hb5⟩; have HQ5 := aa.mk (ay (aD (Below.refl W.heap.size W) _) hb5); clear hb5; have HI5 := aa.mk (ah HI.out HQ5.out); have u0 : w5.cell? ⟨gi, 0, none⟩ = some (.int .u16 i.f0) := (ae HI5.out 0).trans rfl; have u1 : w5.cell? ⟨gi, 1, none⟩ = some (.int .u8 i.f1) := (ae HI5.out 1).trans rfl; have u2 : w5.cell? ⟨gi, 2, none⟩ = some (.int .u8 i.f2) := (ae HI5.out 2).trans rfl; have u3 : w5.cell? ⟨gi, 3, none⟩ = some (.int .u32 i.f3) := (ae HI5.out 3).trans rfl; have v0 := af HI5.out 0; have v1 := af HI5.out 1; have v2 := af HI5.out 2; have v3 := af HI5.out 3))
 refine forget (fun V => Below w.heap.size w V ∧ V.heap[gs]? = some (.cells (aA s) 151 (0, 0)) ∧ V.heap[gi]? = some (.cells #[.int .u16 j.f0, .int .u8 j.f1, .int .u8 j.f2, .int .u32 j.f3] 45 (0, 0)) ∧ V.heap[gi + 1]? = some (.cells #[.int .u16 0, .int .u8 0, .int .u8 0, .int .u32 0] 45 (0, 0)))
  ⟨fE (ay HB.out HQ5.out) (by have := EG.out; omega) _ _ _ _, by
   have h5 := ah (ah HS.out HB.out) HQ5.out
   have hne : gs ≠ gi := by have := EG.out; have := av HS.out; omega
   exact jQ h5 hne, jB HI5.out _ _ _ _, jQ (ah HR.out HQ5.out) (by omega)⟩ ?_
 clear u0 u1 u2 u3 v0 v1 v2 v3 HQ5 HI5
 clear y0 y1 y2 y3 f0 f1 f2 f3 HB HS HI HR
 rintro V ⟨hb, hs, hi, hr⟩
 have p0 : _ = some (Value.int .u16 j.f0) := (ae hi 0).trans rfl
 have p1 : _ = some (Value.int .u8 j.f1) := (ae hi 1).trans rfl
 have p2 : _ = some (Value.int .u8 j.f2) := (ae hi 2).trans rfl
 have p3 : _ = some (Value.int .u32 j.f3) := (ae hi 3).trans rfl
 have z0 : _ = some (Value.int .u16 0) := (ae hr 0).trans rfl
 have z1 : _ = some (Value.int .u8 0) := (ae hr 1).trans rfl
 have z2 : _ = some (Value.int .u8 0) := (ae hr 2).trans rfl
 have z3 : _ = some (Value.int .u32 0) := (ae hr 3).trans rfl
 have t0 := af hr 0
 have t1 := af hr 1
 have t2 := af hr 2
 have t3 := af hr 3
 have HSC : aa (∀ V', Below V.heap.size V V' → V'.heap[gs]? = some (.cells (aA s) 151 (0, 0))) := ⟨fun V' h => ah hs h⟩
 have KC : aa (∀ V' V'', Below V.heap.size V V' → Below V'.heap.size V' V'' → V''.cell? ⟨gi, 0, none⟩ = some (.int .u16 j.f0) ∧ V''.cell? ⟨gi, 1, none⟩ = some (.int .u8 j.f1) ∧ V''.cell? ⟨gi, 2, none⟩ = some (.int .u8 j.f2) ∧ V''.cell? ⟨gi, 3, none⟩ = some (.int .u32 j.f3) ∧
  V''.cell? ⟨gi + 1, 0, none⟩ = some (.int .u16 0) ∧ V''.cell? ⟨gi + 1, 1, none⟩ = some (.int .u8 0) ∧ V''.cell? ⟨gi + 1, 2, none⟩ = some (.int .u8 0) ∧ V''.cell? ⟨gi + 1, 3, none⟩ = some (.int .u32 0) ∧ V''.frozen? ⟨gi + 1, 0, none⟩ = false ∧ V''.frozen? ⟨gi + 1, 1, none⟩ = false ∧ V''.frozen? ⟨gi + 1, 2, none⟩ = false ∧ V''.frozen? ⟨gi + 1, 3, none⟩ = false) :=
  ⟨fun V' V'' h1 h2 => by
   have b0 := ah (ah hi h1) h2
   have b1 := ah (ah hr h1) h2
   exact ⟨(ae b0 0).trans rfl, (ae b0 1).trans rfl, (ae b0 2).trans rfl, (ae b0 3).trans rfl, (ae b1 0).trans rfl, (ae b1 1).trans rfl, (ae b1 2).trans rfl, (ae b1 3).trans rfl, af b1 0, af b1 1, af b1 2, af b1 3⟩⟩
 have HB := aa.mk hb
 have HR := aa.mk hr
 clear hb hs hi hr
 refine dR 7 (fun w' => w'.cell? ⟨gi, 0, none⟩ = some (.int .u16 j.f0) ∧ w'.cell? ⟨gi, 1, none⟩ = some (.int .u8 j.f1) ∧ w'.cell? ⟨gi, 2, none⟩ = some (.int .u8 j.f2) ∧ w'.cell? ⟨gi, 3, none⟩ = some (.int .u32 j.f3) ∧ w'.cell? ⟨gi + 1, 0, none⟩ = some (.int .u16 0) ∧ w'.cell? ⟨gi + 1, 1, none⟩ = some (.int .u8 0) ∧ w'.cell? ⟨gi + 1, 2, none⟩ = some (.int .u8 0) ∧ w'.cell? ⟨gi + 1, 3, none⟩ = some (.int .u32 0) ∧ w'.frozen? ⟨gi + 1, 0, none⟩ = false ∧ w'.frozen? ⟨gi + 1, 1, none⟩ = false ∧ w'.frozen? ⟨gi + 1, 2, none⟩ = false ∧ w'.frozen? ⟨gi + 1, 3, none⟩ = false) [5] ⟨p0, p1, p2, p3, z0, z1, z2, z3, t0, t1, t2, t3⟩ (fun hHeld => ?_)
 refine aC 1 55 ?_
 refine cK 0 54 hHeld ?_
 refine cK 2 56 hHeld ?_
 refine fT 3 (some 57) (fun K hK => ?_)
 refine d9 Try.func167 #[.pointer (some ⟨gs, 0, none⟩), eF j] ?_
 with_reducible refine (gY _ gs s j (HSC.out _ eu) HW.out HJ.out.1 HJ.out.2).mono ?_
 rintro e w3 ⟨rfl, hk3⟩
 refine ⟨_, rfl, ?_⟩
 refine hK.out _ _ (KC.out _ _ eu hk3) (fun hHeld => ?_)
 clear hK K
 refine dP 57 ?_
 refine aC 4 58 ?_
 refine eH 5 none (fun K hK => ?_)
 refine fP ?_
 refine hK.out _ _ ?_
 clear hK K
 refine aC 6 5 ?_
 refine gU (by kernel_rfl) ?_
 go_wp2
 have h1 := ay (ak (Below.refl V.heap.size V)) hk3
 refine bodyPost_ret (fw rfl _ _ (gi + 1) 45 #[.int .u16 j.f0, .int .u8 j.f1, .int .u8 j.f2, .int .u32 j.f3] (0, 0) _ rfl (jB (ah HR.out h1) _ _ _ _) Try.underlying45 rfl (by kernel_rfl)) rfl ?_
 exact ⟨rfl, fE (ay HB.out h1) (by have := EG.out; omega) _ _ _ _⟩
theorem simp_l1 (w : World) (gs : Nat) (s : St) (i j : S45) (hS : w.heap[gs]? = some (.cells (aA s) 151 (0, 0))) (hw : Wst s) (hc : stB j.f0 j.f3 = true) (hk : Rg j.f3) (n0 : (aT i.f0 == 0) = false) (n1 : (aT i.f0 == 1) = true) (n7 : (aT i.f0 == 7) = false) (n4 : (aT i.f0 == 4) = false) (hl : ∀ W' : World, W'.heap[gs]? = some (.cells (aA s) 151 (0, 0)) → Calls Try.prog 165 #[.pointer (some ⟨gs, 0, none⟩), .agg #[.int .u16 i.f0, .int .u8 i.f1, .int .u8 i.f2, .int .u32 i.f3]] W' fun e w' => e = .returned (.agg #[.int .u16 j.f0, .int .u8 j.f1, .int .u8 j.f2, .int .u32 j.f3]) ∧ Below W'.heap.size W' w') :
 Calls Try.prog 159 #[.pointer (some ⟨gs, 0, none⟩), eF i] w fun e w' => e = .returned (.tuple #[eF j, .bool (!iA s j)]) ∧ Below w.heap.size w w' := by
 have HS := aa.mk hS
 have HW := aa.mk hw
 have HJ := aa.mk (And.intro hc hk)
 have HC := aa.mk (fun W => aG.calls (0 + 8) i.f0 (aT i.f0) W (gK i.f0 0).1)
 have HL := aa.mk hl
 clear hl
 clear hS hw hc hk
 unfold eF at *
 go_enter Try.func159, Try.ntmps159
 go_upto_region 1 with (fail)
 refine forget (fun W => ∃ gi, gi = w.heap.size ∧ Below w.heap.size w W ∧ W.heap[gi]? = some (.cells #[.int .u16 i.f0, .int .u8 i.f1, .int .u8 i.f2, .int .u32 i.f3] 45 (0, 0)) ∧ W.heap[gi + 1]? = some (.cells #[.int .u16 0, .int .u8 0, .int .u8 0, .int .u32 0] 45 (0, 0))) ⟨_, rfl, bY _ _ _, kM _ _ _, eB _ _ _⟩ ?_
 rintro W ⟨gi, egi, hb, hi, hr⟩
 rw [← egi]
 have y0 : _ = some (Value.int .u16 i.f0) := (ae hi 0).trans rfl
 have y1 : _ = some (Value.int .u8 i.f1) := (ae hi 1).trans rfl
 have y2 : _ = some (Value.int .u8 i.f2) := (ae hi 2).trans rfl
 have y3 : _ = some (Value.int .u32 i.f3) := (ae hi 3).trans rfl
 have f0 := af hi 0
 have f1 := af hi 1
 have f2 := af hi 2
 have f3 := af hi 3
 have HB := aa.mk hb
 have HI := aa.mk hi
 have HR := aa.mk hr
 have EG := aa.mk egi
 clear hb hi hr egi
 go_upto_region 12 with (first | (go_at_call 99; refine (HC.out _).mono ?_; rintro e w' ⟨rfl, ⟨nd, rfl⟩⟩) | (go_at_call 165; refine (HL.out _ (ah (ah HS.out HB.out) (aD (Below.refl W.heap.size W) _))).mono ?_; rintro e w5 ⟨rfl, hb5⟩; have HQ5 := aa.mk (ay (aD (Below.refl W.heap.size W) _) hb5); clear hb5; have HI5 := aa.mk (ah HI.out HQ5.out); have u0 : w5.cell? ⟨gi, 0, none⟩ = some (.int .u16 i.f0) := (ae HI5.out 0).trans rfl; have u1 : w5.cell? ⟨gi, 1, none⟩ = some (.int .u8 i.f1) := (ae HI5.out 1).trans rfl; have u2 : w5.cell? ⟨gi, 2, none⟩ = some (.int .u8 i.f2) := (ae HI5.out 2).trans rfl; have u3 : w5.cell? ⟨gi, 3, none⟩ = some (.int .u32 i.f3) := (ae HI5.out 3).trans rfl; have v0 := af HI5.out 0; have v1 := af HI5.out 1; have v2 := af HI5.out 2; have v3 := af HI5.out 3))
 refine forget (fun V => Below w.heap.size w V ∧ V.heap[gs]? = some (.cells (aA s) 151 (0, 0)) ∧ V.heap[gi]? = some (.cells #[.int .u16 j.f0, .int .u8 j.f1, .int .u8 j.f2, .int .u32 j.f3] 45 (0, 0)) ∧ V.heap[gi + 1]? = some (.cells #[.int .u16 0, .int .u8 0, .int .u8 0, .int .u32 0] 45 (0, 0)))
  ⟨fE (ay HB.out HQ5.out) (by have := EG.out; omega) _ _ _ _, by
   have h5 := ah (ah HS.out HB.out) HQ5.out
   have hne : gs ≠ gi := by have := EG.out; have := av HS.out; omega
   exact jQ h5 hne, jB HI5.out _ _ _ _, jQ (ah HR.out HQ5.out) (by omega)⟩ ?_
 clear u0 u1 u2 u3 v0 v1 v2 v3 HQ5 HI5
 clear y0 y1 y2 y3 f0 f1 f2 f3 HB HS HI HR
 rintro V ⟨hb, hs, hi, hr⟩
 have p0 : _ = some (Value.int .u16 j.f0) := (ae hi 0).trans rfl
 have p1 : _ = some (Value.int .u8 j.f1) := (ae hi 1).trans rfl
 have p2 : _ = some (Value.int .u8 j.f2) := (ae hi 2).trans rfl
 have p3 : _ = some (Value.int .u32 j.f3) := (ae hi 3).trans rfl
 have z0 : _ = some (Value.int .u16 0) := (ae hr 0).trans rfl
 have z1 : _ = some (Value.int .u8 0) := (ae hr 1).trans rfl
 have z2 : _ = some (Value.int .u8 0) := (ae hr 2).trans rfl
 have z3 : _ = some (Value.int .u32 0) := (ae hr 3).trans rfl
 have t0 := af hr 0
 have t1 := af hr 1
 have t2 := af hr 2
 have t3 := af hr 3
 have HSC : aa (∀ V', Below V.heap.size V V' → V'.heap[gs]? = some (.cells (aA s) 151 (0, 0))) := ⟨fun V' h => ah hs h⟩
 have KC : aa (∀ V' V'', Below V.heap.size V V' → Below V'.heap.size V' V'' → V''.cell? ⟨gi, 0, none⟩ = some (.int .u16 j.f0) ∧ V''.cell? ⟨gi, 1, none⟩ = some (.int .u8 j.f1) ∧ V''.cell? ⟨gi, 2, none⟩ = some (.int .u8 j.f2) ∧ V''.cell? ⟨gi, 3, none⟩ = some (.int .u32 j.f3) ∧
  V''.cell? ⟨gi + 1, 0, none⟩ = some (.int .u16 0) ∧ V''.cell? ⟨gi + 1, 1, none⟩ = some (.int .u8 0) ∧ V''.cell? ⟨gi + 1, 2, none⟩ = some (.int .u8 0) ∧ V''.cell? ⟨gi + 1, 3, none⟩ = some (.int .u32 0) ∧ V''.frozen? ⟨gi + 1, 0, none⟩ = false ∧ V''.frozen? ⟨gi + 1, 1, none⟩ = false ∧ V''.frozen? ⟨gi + 1, 2, none⟩ = false ∧ V''.frozen? ⟨gi + 1, 3, none⟩ = false) :=
  ⟨fun V' V'' h1 h2 => by
   have b0 := ah (ah hi h1) h2
   have b1 := ah (ah hr h1) h2
   exact ⟨(ae b0 0).trans rfl, (ae b0 1).trans rfl, (ae b0 2).trans rfl, (ae b0 3).trans rfl, (ae b1 0).trans rfl, (ae b1 1).trans rfl, (ae b1 2).trans rfl, (ae b1 3).trans rfl, af b1 0, af b1 1, af b1 2, af b1 3⟩⟩
 have HB := aa.mk hb
 have HR := aa.mk hr
 clear hb hs hi hr
 refine dR 7 (fun w' => w'.cell? ⟨gi, 0, none⟩ = some (.int .u16 j.f0) ∧ w'.cell? ⟨gi, 1, none⟩ = some (.int .u8 j.f1) ∧ w'.cell? ⟨gi, 2, none⟩ = some (.int .u8 j.f2) ∧ w'.cell? ⟨gi, 3, none⟩ = some (.int .u32 j.f3) ∧ w'.cell? ⟨gi + 1, 0, none⟩ = some (.int .u16 0) ∧ w'.cell? ⟨gi + 1, 1, none⟩ = some (.int .u8 0) ∧ w'.cell? ⟨gi + 1, 2, none⟩ = some (.int .u8 0) ∧ w'.cell? ⟨gi + 1, 3, none⟩ = some (.int .u32 0) ∧ w'.frozen? ⟨gi + 1, 0, none⟩ = false ∧ w'.frozen? ⟨gi + 1, 1, none⟩ = false ∧ w'.frozen? ⟨gi + 1, 2, none⟩ = false ∧ w'.frozen? ⟨gi + 1, 3, none⟩ = false) [5] ⟨p0, p1, p2, p3, z0, z1, z2, z3, t0, t1, t2, t3⟩ (fun hHeld => ?_)
 refine aC 1 55 ?_
 refine cK 0 54 hHeld ?_
 refine cK 2 56 hHeld ?_
 refine fT 3 (some 57) (fun K hK => ?_)
 refine d9 Try.func167 #[.pointer (some ⟨gs, 0, none⟩), eF j] ?_
 with_reducible refine (gY _ gs s j (HSC.out _ eu) HW.out HJ.out.1 HJ.out.2).mono ?_
 rintro e w3 ⟨rfl, hk3⟩
 refine ⟨_, rfl, ?_⟩
 refine hK.out _ _ (KC.out _ _ eu hk3) (fun hHeld => ?_)
 clear hK K
 refine dP 57 ?_
 refine aC 4 58 ?_
 refine eH 5 none (fun K hK => ?_)
 refine fP ?_
 refine hK.out _ _ ?_
 clear hK K
 refine aC 6 5 ?_
 refine gU (by kernel_rfl) ?_
 go_wp2
 have h1 := ay (ak (Below.refl V.heap.size V)) hk3
 refine bodyPost_ret (fw rfl _ _ (gi + 1) 45 #[.int .u16 j.f0, .int .u8 j.f1, .int .u8 j.f2, .int .u32 j.f3] (0, 0) _ rfl (jB (ah HR.out h1) _ _ _ _) Try.underlying45 rfl (by kernel_rfl)) rfl ?_
 exact ⟨rfl, fE (ay HB.out h1) (by have := EG.out; omega) _ _ _ _⟩
theorem simp_a (w : World) (gs : Nat) (s : St) (i j : S45) (hS : w.heap[gs]? = some (.cells (aA s) 151 (0, 0))) (hw : Wst s) (hc : stB j.f0 j.f3 = true) (hk : Rg j.f3) (n0 : (aT i.f0 == 0) = false) (n1 : (aT i.f0 == 1) = false) (n7 : (aT i.f0 == 7) = false) (n4 : (aT i.f0 == 4) = true) (hl : ∀ W' : World, W'.heap[gs]? = some (.cells (aA s) 151 (0, 0)) → Calls Try.prog 166 #[.pointer (some ⟨gs, 0, none⟩), .agg #[.int .u16 i.f0, .int .u8 i.f1, .int .u8 i.f2, .int .u32 i.f3]] W' fun e w' => e = .returned (.agg #[.int .u16 j.f0, .int .u8 j.f1, .int .u8 j.f2, .int .u32 j.f3]) ∧ Below W'.heap.size W' w') :
 Calls Try.prog 159 #[.pointer (some ⟨gs, 0, none⟩), eF i] w fun e w' => e = .returned (.tuple #[eF j, .bool (!iA s j)]) ∧ Below w.heap.size w w' := by
 have HS := aa.mk hS
 have HW := aa.mk hw
 have HJ := aa.mk (And.intro hc hk)
 have HC := aa.mk (fun W => aG.calls (0 + 8) i.f0 (aT i.f0) W (gK i.f0 0).1)
 have HL := aa.mk hl
 clear hl
 clear hS hw hc hk
 unfold eF at *
 go_enter Try.func159, Try.ntmps159
 go_upto_region 1 with (fail)
 refine forget (fun W => ∃ gi, gi = w.heap.size ∧ Below w.heap.size w W ∧ W.heap[gi]? = some (.cells #[.int .u16 i.f0, .int .u8 i.f1, .int .u8 i.f2, .int .u32 i.f3] 45 (0, 0)) ∧ W.heap[gi + 1]? = some (.cells #[.int .u16 0, .int .u8 0, .int .u8 0, .int .u32 0] 45 (0, 0))) ⟨_, rfl, bY _ _ _, kM _ _ _, eB _ _ _⟩ ?_
 rintro W ⟨gi, egi, hb, hi, hr⟩
 rw [← egi]
 have y0 : _ = some (Value.int .u16 i.f0) := (ae hi 0).trans rfl
 have y1 : _ = some (Value.int .u8 i.f1) := (ae hi 1).trans rfl
 have y2 : _ = some (Value.int .u8 i.f2) := (ae hi 2).trans rfl
 have y3 : _ = some (Value.int .u32 i.f3) := (ae hi 3).trans rfl
 have f0 := af hi 0
 have f1 := af hi 1
 have f2 := af hi 2
 have f3 := af hi 3
 have HB := aa.mk hb
 have HI := aa.mk hi
 have HR := aa.mk hr
 have EG := aa.mk egi
 clear hb hi hr egi
 go_upto_region 12 with (first | (go_at_call 99; refine (HC.out _).mono ?_; rintro e w' ⟨rfl, ⟨nd, rfl⟩⟩) | (go_at_call 166; refine (HL.out _ (ah (ah HS.out HB.out) (aD (Below.refl W.heap.size W) _))).mono ?_; rintro e w5 ⟨rfl, hb5⟩; have HQ5 := aa.mk (ay (aD (Below.refl W.heap.size W) _) hb5); clear hb5; have HI5 := aa.mk (ah HI.out HQ5.out); have u0 : w5.cell? ⟨gi, 0, none⟩ = some (.int .u16 i.f0) := (ae HI5.out 0).trans rfl; have u1 : w5.cell? ⟨gi, 1, none⟩ = some (.int .u8 i.f1) := (ae HI5.out 1).trans rfl; have u2 : w5.cell? ⟨gi, 2, none⟩ = some (.int .u8 i.f2) := (ae HI5.out 2).trans rfl; have u3 : w5.cell? ⟨gi, 3, none⟩ = some (.int .u32 i.f3) := (ae HI5.out 3).trans rfl; have v0 := af HI5.out 0; have v1 := af HI5.out 1; have v2 := af HI5.out 2; have v3 := af HI5.out 3))
 refine forget (fun V => Below w.heap.size w V ∧ V.heap[gs]? = some (.cells (aA s) 151 (0, 0)) ∧ V.heap[gi]? = some (.cells #[.int .u16 j.f0, .int .u8 j.f1, .int .u8 j.f2, .int .u32 j.f3] 45 (0, 0)) ∧ V.heap[gi + 1]? = some (.cells #[.int .u16 0, .int .u8 0, .int .u8 0, .int .u32 0] 45 (0, 0)))
  ⟨fE (ay HB.out HQ5.out) (by have := EG.out; omega) _ _ _ _, by
   have h5 := ah (ah HS.out HB.out) HQ5.out
   have hne : gs ≠ gi := by have := EG.out; have := av HS.out; omega
   exact jQ h5 hne, jB HI5.out _ _ _ _, jQ (ah HR.out HQ5.out) (by omega)⟩ ?_
 clear u0 u1 u2 u3 v0 v1 v2 v3 HQ5 HI5
 clear y0 y1 y2 y3 f0 f1 f2 f3 HB HS HI HR
 rintro V ⟨hb, hs, hi, hr⟩
 have p0 : _ = some (Value.int .u16 j.f0) := (ae hi 0).trans rfl
 have p1 : _ = some (Value.int .u8 j.f1) := (ae hi 1).trans rfl
 have p2 : _ = some (Value.int .u8 j.f2) := (ae hi 2).trans rfl
 have p3 : _ = some (Value.int .u32 j.f3) := (ae hi 3).trans rfl
 have z0 : _ = some (Value.int .u16 0) := (ae hr 0).trans rfl
 have z1 : _ = some (Value.int .u8 0) := (ae hr 1).trans rfl
 have z2 : _ = some (Value.int .u8 0) := (ae hr 2).trans rfl
 have z3 : _ = some (Value.int .u32 0) := (ae hr 3).trans rfl
 have t0 := af hr 0
 have t1 := af hr 1
 have t2 := af hr 2
 have t3 := af hr 3
 have HSC : aa (∀ V', Below V.heap.size V V' → V'.heap[gs]? = some (.cells (aA s) 151 (0, 0))) := ⟨fun V' h => ah hs h⟩
 have KC : aa (∀ V' V'', Below V.heap.size V V' → Below V'.heap.size V' V'' → V''.cell? ⟨gi, 0, none⟩ = some (.int .u16 j.f0) ∧ V''.cell? ⟨gi, 1, none⟩ = some (.int .u8 j.f1) ∧ V''.cell? ⟨gi, 2, none⟩ = some (.int .u8 j.f2) ∧ V''.cell? ⟨gi, 3, none⟩ = some (.int .u32 j.f3) ∧
  V''.cell? ⟨gi + 1, 0, none⟩ = some (.int .u16 0) ∧ V''.cell? ⟨gi + 1, 1, none⟩ = some (.int .u8 0) ∧ V''.cell? ⟨gi + 1, 2, none⟩ = some (.int .u8 0) ∧ V''.cell? ⟨gi + 1, 3, none⟩ = some (.int .u32 0) ∧ V''.frozen? ⟨gi + 1, 0, none⟩ = false ∧ V''.frozen? ⟨gi + 1, 1, none⟩ = false ∧ V''.frozen? ⟨gi + 1, 2, none⟩ = false ∧ V''.frozen? ⟨gi + 1, 3, none⟩ = false) :=
  ⟨fun V' V'' h1 h2 => by
   have b0 := ah (ah hi h1) h2
   have b1 := ah (ah hr h1) h2
   exact ⟨(ae b0 0).trans rfl, (ae b0 1).trans rfl, (ae b0 2).trans rfl, (ae b0 3).trans rfl, (ae b1 0).trans rfl, (ae b1 1).trans rfl, (ae b1 2).trans rfl, (ae b1 3).trans rfl, af b1 0, af b1 1, af b1 2, af b1 3⟩⟩
 have HB := aa.mk hb
 have HR := aa.mk hr
 clear hb hs hi hr
 refine dR 7 (fun w' => w'.cell? ⟨gi, 0, none⟩ = some (.int .u16 j.f0) ∧ w'.cell? ⟨gi, 1, none⟩ = some (.int .u8 j.f1) ∧ w'.cell? ⟨gi, 2, none⟩ = some (.int .u8 j.f2) ∧ w'.cell? ⟨gi, 3, none⟩ = some (.int .u32 j.f3) ∧ w'.cell? ⟨gi + 1, 0, none⟩ = some (.int .u16 0) ∧ w'.cell? ⟨gi + 1, 1, none⟩ = some (.int .u8 0) ∧ w'.cell? ⟨gi + 1, 2, none⟩ = some (.int .u8 0) ∧ w'.cell? ⟨gi + 1, 3, none⟩ = some (.int .u32 0) ∧ w'.frozen? ⟨gi + 1, 0, none⟩ = false ∧ w'.frozen? ⟨gi + 1, 1, none⟩ = false ∧ w'.frozen? ⟨gi + 1, 2, none⟩ = false ∧ w'.frozen? ⟨gi + 1, 3, none⟩ = false) [5] ⟨p0, p1, p2, p3, z0, z1, z2, z3, t0, t1, t2, t3⟩ (fun hHeld => ?_)
 refine aC 1 55 ?_
 refine cK 0 54 hHeld ?_
 refine cK 2 56 hHeld ?_
 refine fT 3 (some 57) (fun K hK => ?_)
 refine d9 Try.func167 #[.pointer (some ⟨gs, 0, none⟩), eF j] ?_
 with_reducible refine (gY _ gs s j (HSC.out _ eu) HW.out HJ.out.1 HJ.out.2).mono ?_
 rintro e w3 ⟨rfl, hk3⟩
 refine ⟨_, rfl, ?_⟩
 refine hK.out _ _ (KC.out _ _ eu hk3) (fun hHeld => ?_)
 clear hK K
 refine dP 57 ?_
 refine aC 4 58 ?_
 refine eH 5 none (fun K hK => ?_)
 refine fP ?_
 refine hK.out _ _ ?_
 clear hK K
 refine aC 6 5 ?_
 refine gU (by kernel_rfl) ?_
 go_wp2
 have h1 := ay (ak (Below.refl V.heap.size V)) hk3
 refine bodyPost_ret (fw rfl _ _ (gi + 1) 45 #[.int .u16 j.f0, .int .u8 j.f1, .int .u8 j.f2, .int .u32 j.f3] (0, 0) _ rfl (jB (ah HR.out h1) _ _ _ _) Try.underlying45 rfl (by kernel_rfl)) rfl ?_
 exact ⟨rfl, fE (ay HB.out h1) (by have := EG.out; omega) _ _ _ _⟩
theorem simp_ty (w : World) (gs : Nat) (s : St) (i j : S45) (hS : w.heap[gs]? = some (.cells (aA s) 151 (0, 0))) (hw : Wst s) (hc : stB j.f0 j.f3 = true) (hk : Rg j.f3) (n0 : (aT i.f0 == 0) = false) (n1 : (aT i.f0 == 1) = false) (n7 : (aT i.f0 == 7) = true) (n4 : (aT i.f0 == 4) = false) (h7 : (i.f0 == 7) = true) (h135 : (i.f0 == 135) = false) (v : Int) (e0 : gS s 0 = some v) (hj : j = ⟨1, 0, 0, v⟩) :
 Calls Try.prog 159 #[.pointer (some ⟨gs, 0, none⟩), eF i] w fun e w' => e = .returned (.tuple #[eF j, .bool (!iA s j)]) ∧ Below w.heap.size w w' := by
 have HS := aa.mk hS
 have HW := aa.mk hw
 have HJ := aa.mk (And.intro hc hk)
 have HC := aa.mk (fun W => aG.calls (0 + 8) i.f0 (aT i.f0) W (gK i.f0 0).1)
 have c0 : _ = some (Value.bool true) := (ae hS 0).trans ((bZ (s := s) (i := 0) (by have := hw.len; omega)).trans (by rw [e0]; rfl))
 have c1 : _ = some (Value.int .u32 v) := (ae hS 1).trans ((dE (s := s) (i := 0) (by have := hw.len; omega)).trans (by rw [e0]; rfl))
 have HJ2 := aa.mk hj
 clear hj
 clear hS hw hc hk
 unfold eF at *
 go_enter Try.func159, Try.ntmps159
 go_upto_region 1 with (fail)
 refine forget (fun W => ∃ gi, gi = w.heap.size ∧ Below w.heap.size w W ∧ W.heap[gi]? = some (.cells #[.int .u16 i.f0, .int .u8 i.f1, .int .u8 i.f2, .int .u32 i.f3] 45 (0, 0)) ∧ W.heap[gi + 1]? = some (.cells #[.int .u16 0, .int .u8 0, .int .u8 0, .int .u32 0] 45 (0, 0))) ⟨_, rfl, bY _ _ _, kM _ _ _, eB _ _ _⟩ ?_
 rintro W ⟨gi, egi, hb, hi, hr⟩
 rw [← egi]
 have y0 : _ = some (Value.int .u16 i.f0) := (ae hi 0).trans rfl
 have y1 : _ = some (Value.int .u8 i.f1) := (ae hi 1).trans rfl
 have y2 : _ = some (Value.int .u8 i.f2) := (ae hi 2).trans rfl
 have y3 : _ = some (Value.int .u32 i.f3) := (ae hi 3).trans rfl
 have f0 := af hi 0
 have f1 := af hi 1
 have f2 := af hi 2
 have f3 := af hi 3
 have x0 : W.cell? ⟨gs, 0, none⟩ = some (Value.bool true) := au hb c0
 have x1 : W.cell? ⟨gs, 1, none⟩ = some (Value.int .u32 v) := au hb c1
 clear c0 c1
 have HB := aa.mk hb
 have HI := aa.mk hi
 have HR := aa.mk hr
 have EG := aa.mk egi
 clear hb hi hr egi
 go_upto_region 12 with (first | (go_at_call 99; refine (HC.out _).mono ?_; rintro e w' ⟨rfl, ⟨nd, rfl⟩⟩))
 have hq := aD (Below.refl W.heap.size W) nd
 refine forget (fun V => Below w.heap.size w V ∧ V.heap[gs]? = some (.cells (aA s) 151 (0, 0)) ∧ V.heap[gi]? = some (.cells #[.int .u16 j.f0, .int .u8 j.f1, .int .u8 j.f2, .int .u32 j.f3] 45 (0, 0)) ∧ V.heap[gi + 1]? = some (.cells #[.int .u16 0, .int .u8 0, .int .u8 0, .int .u32 0] 45 (0, 0)))
  ⟨fE (ay HB.out hq) (by have := EG.out; omega) _ _ _ _, by
   have h5 := ah (ah HS.out HB.out) hq
   have hne : gs ≠ gi := by have := EG.out; have := av HS.out; omega
   exact jQ h5 hne, by rw [HJ2.out]; exact jB (ah HI.out hq) _ _ _ _, jQ (ah HR.out hq) (by omega)⟩ ?_
 clear hq
 clear y0 y1 y2 y3 f0 f1 f2 f3 HB HS HI HR
 rintro V ⟨hb, hs, hi, hr⟩
 have p0 : _ = some (Value.int .u16 j.f0) := (ae hi 0).trans rfl
 have p1 : _ = some (Value.int .u8 j.f1) := (ae hi 1).trans rfl
 have p2 : _ = some (Value.int .u8 j.f2) := (ae hi 2).trans rfl
 have p3 : _ = some (Value.int .u32 j.f3) := (ae hi 3).trans rfl
 have z0 : _ = some (Value.int .u16 0) := (ae hr 0).trans rfl
 have z1 : _ = some (Value.int .u8 0) := (ae hr 1).trans rfl
 have z2 : _ = some (Value.int .u8 0) := (ae hr 2).trans rfl
 have z3 : _ = some (Value.int .u32 0) := (ae hr 3).trans rfl
 have t0 := af hr 0
 have t1 := af hr 1
 have t2 := af hr 2
 have t3 := af hr 3
 have HSC : aa (∀ V', Below V.heap.size V V' → V'.heap[gs]? = some (.cells (aA s) 151 (0, 0))) := ⟨fun V' h => ah hs h⟩
 have KC : aa (∀ V' V'', Below V.heap.size V V' → Below V'.heap.size V' V'' → V''.cell? ⟨gi, 0, none⟩ = some (.int .u16 j.f0) ∧ V''.cell? ⟨gi, 1, none⟩ = some (.int .u8 j.f1) ∧ V''.cell? ⟨gi, 2, none⟩ = some (.int .u8 j.f2) ∧ V''.cell? ⟨gi, 3, none⟩ = some (.int .u32 j.f3) ∧
  V''.cell? ⟨gi + 1, 0, none⟩ = some (.int .u16 0) ∧ V''.cell? ⟨gi + 1, 1, none⟩ = some (.int .u8 0) ∧ V''.cell? ⟨gi + 1, 2, none⟩ = some (.int .u8 0) ∧ V''.cell? ⟨gi + 1, 3, none⟩ = some (.int .u32 0) ∧ V''.frozen? ⟨gi + 1, 0, none⟩ = false ∧ V''.frozen? ⟨gi + 1, 1, none⟩ = false ∧ V''.frozen? ⟨gi + 1, 2, none⟩ = false ∧ V''.frozen? ⟨gi + 1, 3, none⟩ = false) :=
  ⟨fun V' V'' h1 h2 => by
   have b0 := ah (ah hi h1) h2
   have b1 := ah (ah hr h1) h2
   exact ⟨(ae b0 0).trans rfl, (ae b0 1).trans rfl, (ae b0 2).trans rfl, (ae b0 3).trans rfl, (ae b1 0).trans rfl, (ae b1 1).trans rfl, (ae b1 2).trans rfl, (ae b1 3).trans rfl, af b1 0, af b1 1, af b1 2, af b1 3⟩⟩
 have HB := aa.mk hb
 have HR := aa.mk hr
 clear hb hs hi hr
 refine dR 7 (fun w' => w'.cell? ⟨gi, 0, none⟩ = some (.int .u16 j.f0) ∧ w'.cell? ⟨gi, 1, none⟩ = some (.int .u8 j.f1) ∧ w'.cell? ⟨gi, 2, none⟩ = some (.int .u8 j.f2) ∧ w'.cell? ⟨gi, 3, none⟩ = some (.int .u32 j.f3) ∧ w'.cell? ⟨gi + 1, 0, none⟩ = some (.int .u16 0) ∧ w'.cell? ⟨gi + 1, 1, none⟩ = some (.int .u8 0) ∧ w'.cell? ⟨gi + 1, 2, none⟩ = some (.int .u8 0) ∧ w'.cell? ⟨gi + 1, 3, none⟩ = some (.int .u32 0) ∧ w'.frozen? ⟨gi + 1, 0, none⟩ = false ∧ w'.frozen? ⟨gi + 1, 1, none⟩ = false ∧ w'.frozen? ⟨gi + 1, 2, none⟩ = false ∧ w'.frozen? ⟨gi + 1, 3, none⟩ = false) [5] ⟨p0, p1, p2, p3, z0, z1, z2, z3, t0, t1, t2, t3⟩ (fun hHeld => ?_)
 refine aC 1 55 ?_
 refine cK 0 54 hHeld ?_
 refine cK 2 56 hHeld ?_
 refine fT 3 (some 57) (fun K hK => ?_)
 refine d9 Try.func167 #[.pointer (some ⟨gs, 0, none⟩), eF j] ?_
 with_reducible refine (gY _ gs s j (HSC.out _ eu) HW.out HJ.out.1 HJ.out.2).mono ?_
 rintro e w3 ⟨rfl, hk3⟩
 refine ⟨_, rfl, ?_⟩
 refine hK.out _ _ (KC.out _ _ eu hk3) (fun hHeld => ?_)
 clear hK K
 refine dP 57 ?_
 refine aC 4 58 ?_
 refine eH 5 none (fun K hK => ?_)
 refine fP ?_
 refine hK.out _ _ ?_
 clear hK K
 refine aC 6 5 ?_
 refine gU (by kernel_rfl) ?_
 go_wp2
 have h1 := ay (ak (Below.refl V.heap.size V)) hk3
 refine bodyPost_ret (fw rfl _ _ (gi + 1) 45 #[.int .u16 j.f0, .int .u8 j.f1, .int .u8 j.f2, .int .u32 j.f3] (0, 0) _ rfl (jB (ah HR.out h1) _ _ _ _) Try.underlying45 rfl (by kernel_rfl)) rfl ?_
 exact ⟨rfl, fE (ay HB.out h1) (by have := EG.out; omega) _ _ _ _⟩
theorem simp_tn (w : World) (gs : Nat) (s : St) (i j : S45) (hS : w.heap[gs]? = some (.cells (aA s) 151 (0, 0))) (hw : Wst s) (hc : stB j.f0 j.f3 = true) (hk : Rg j.f3) (n0 : (aT i.f0 == 0) = false) (n1 : (aT i.f0 == 1) = false) (n7 : (aT i.f0 == 7) = true) (n4 : (aT i.f0 == 4) = false) (h7 : (i.f0 == 7) = true) (h135 : (i.f0 == 135) = false) (e0 : gS s 0 = none) (hj : j = i) :
 Calls Try.prog 159 #[.pointer (some ⟨gs, 0, none⟩), eF i] w fun e w' => e = .returned (.tuple #[eF j, .bool (!iA s j)]) ∧ Below w.heap.size w w' := by
 have HS := aa.mk hS
 have HW := aa.mk hw
 have HJ := aa.mk (And.intro hc hk)
 have HC := aa.mk (fun W => aG.calls (0 + 8) i.f0 (aT i.f0) W (gK i.f0 0).1)
 have c0 : _ = some (Value.bool false) := (ae hS 0).trans ((bZ (s := s) (i := 0) (by have := hw.len; omega)).trans (by rw [e0]; rfl))
 have c1 : _ = some (Value.int .u32 0) := (ae hS 1).trans ((dE (s := s) (i := 0) (by have := hw.len; omega)).trans (by rw [e0]; rfl))
 have HJ2 := aa.mk hj
 clear hj
 clear hS hw hc hk
 unfold eF at *
 go_enter Try.func159, Try.ntmps159
 go_upto_region 1 with (fail)
 refine forget (fun W => ∃ gi, gi = w.heap.size ∧ Below w.heap.size w W ∧ W.heap[gi]? = some (.cells #[.int .u16 i.f0, .int .u8 i.f1, .int .u8 i.f2, .int .u32 i.f3] 45 (0, 0)) ∧ W.heap[gi + 1]? = some (.cells #[.int .u16 0, .int .u8 0, .int .u8 0, .int .u32 0] 45 (0, 0))) ⟨_, rfl, bY _ _ _, kM _ _ _, eB _ _ _⟩ ?_
 rintro W ⟨gi, egi, hb, hi, hr⟩
 rw [← egi]
 have y0 : _ = some (Value.int .u16 i.f0) := (ae hi 0).trans rfl
 have y1 : _ = some (Value.int .u8 i.f1) := (ae hi 1).trans rfl
 have y2 : _ = some (Value.int .u8 i.f2) := (ae hi 2).trans rfl
 have y3 : _ = some (Value.int .u32 i.f3) := (ae hi 3).trans rfl
 have f0 := af hi 0
 have f1 := af hi 1
 have f2 := af hi 2
 have f3 := af hi 3
 have x0 : W.cell? ⟨gs, 0, none⟩ = some (Value.bool false) := au hb c0
 have x1 : W.cell? ⟨gs, 1, none⟩ = some (Value.int .u32 0) := au hb c1
 clear c0 c1
 have HB := aa.mk hb
 have HI := aa.mk hi
 have HR := aa.mk hr
 have EG := aa.mk egi
 clear hb hi hr egi
 go_upto_region 12 with (first | (go_at_call 99; refine (HC.out _).mono ?_; rintro e w' ⟨rfl, ⟨nd, rfl⟩⟩))
 have hq := aD (Below.refl W.heap.size W) nd
 refine forget (fun V => Below w.heap.size w V ∧ V.heap[gs]? = some (.cells (aA s) 151 (0, 0)) ∧ V.heap[gi]? = some (.cells #[.int .u16 j.f0, .int .u8 j.f1, .int .u8 j.f2, .int .u32 j.f3] 45 (0, 0)) ∧ V.heap[gi + 1]? = some (.cells #[.int .u16 0, .int .u8 0, .int .u8 0, .int .u32 0] 45 (0, 0)))
  ⟨ay HB.out hq, ah (ah HS.out HB.out) hq, by rw [HJ2.out]; exact ah HI.out hq, ah HR.out hq⟩ ?_
 clear hq
 clear y0 y1 y2 y3 f0 f1 f2 f3 HB HS HI HR
 rintro V ⟨hb, hs, hi, hr⟩
 have p0 : _ = some (Value.int .u16 j.f0) := (ae hi 0).trans rfl
 have p1 : _ = some (Value.int .u8 j.f1) := (ae hi 1).trans rfl
 have p2 : _ = some (Value.int .u8 j.f2) := (ae hi 2).trans rfl
 have p3 : _ = some (Value.int .u32 j.f3) := (ae hi 3).trans rfl
 have z0 : _ = some (Value.int .u16 0) := (ae hr 0).trans rfl
 have z1 : _ = some (Value.int .u8 0) := (ae hr 1).trans rfl
 have z2 : _ = some (Value.int .u8 0) := (ae hr 2).trans rfl
 have z3 : _ = some (Value.int .u32 0) := (ae hr 3).trans rfl
 have t0 := af hr 0
 have t1 := af hr 1
 have t2 := af hr 2
 have t3 := af hr 3
 have HSC : aa (∀ V', Below V.heap.size V V' → V'.heap[gs]? = some (.cells (aA s) 151 (0, 0))) := ⟨fun V' h => ah hs h⟩
 have KC : aa (∀ V' V'', Below V.heap.size V V' → Below V'.heap.size V' V'' → V''.cell? ⟨gi, 0, none⟩ = some (.int .u16 j.f0) ∧ V''.cell? ⟨gi, 1, none⟩ = some (.int .u8 j.f1) ∧ V''.cell? ⟨gi, 2, none⟩ = some (.int .u8 j.f2) ∧ V''.cell? ⟨gi, 3, none⟩ = some (.int .u32 j.f3) ∧
  V''.cell? ⟨gi + 1, 0, none⟩ = some (.int .u16 0) ∧ V''.cell? ⟨gi + 1, 1, none⟩ = some (.int .u8 0) ∧ V''.cell? ⟨gi + 1, 2, none⟩ = some (.int .u8 0) ∧ V''.cell? ⟨gi + 1, 3, none⟩ = some (.int .u32 0) ∧ V''.frozen? ⟨gi + 1, 0, none⟩ = false ∧ V''.frozen? ⟨gi + 1, 1, none⟩ = false ∧ V''.frozen? ⟨gi + 1, 2, none⟩ = false ∧ V''.frozen? ⟨gi + 1, 3, none⟩ = false) :=
  ⟨fun V' V'' h1 h2 => by
   have b0 := ah (ah hi h1) h2
   have b1 := ah (ah hr h1) h2
   exact ⟨(ae b0 0).trans rfl, (ae b0 1).trans rfl, (ae b0 2).trans rfl, (ae b0 3).trans rfl, (ae b1 0).trans rfl, (ae b1 1).trans rfl, (ae b1 2).trans rfl, (ae b1 3).trans rfl, af b1 0, af b1 1, af b1 2, af b1 3⟩⟩
 have HB := aa.mk hb
 have HR := aa.mk hr
 clear hb hs hi hr
 refine dR 7 (fun w' => w'.cell? ⟨gi, 0, none⟩ = some (.int .u16 j.f0) ∧ w'.cell? ⟨gi, 1, none⟩ = some (.int .u8 j.f1) ∧ w'.cell? ⟨gi, 2, none⟩ = some (.int .u8 j.f2) ∧ w'.cell? ⟨gi, 3, none⟩ = some (.int .u32 j.f3) ∧ w'.cell? ⟨gi + 1, 0, none⟩ = some (.int .u16 0) ∧ w'.cell? ⟨gi + 1, 1, none⟩ = some (.int .u8 0) ∧ w'.cell? ⟨gi + 1, 2, none⟩ = some (.int .u8 0) ∧ w'.cell? ⟨gi + 1, 3, none⟩ = some (.int .u32 0) ∧ w'.frozen? ⟨gi + 1, 0, none⟩ = false ∧ w'.frozen? ⟨gi + 1, 1, none⟩ = false ∧ w'.frozen? ⟨gi + 1, 2, none⟩ = false ∧ w'.frozen? ⟨gi + 1, 3, none⟩ = false) [5] ⟨p0, p1, p2, p3, z0, z1, z2, z3, t0, t1, t2, t3⟩ (fun hHeld => ?_)
 refine aC 1 55 ?_
 refine cK 0 54 hHeld ?_
 refine cK 2 56 hHeld ?_
 refine fT 3 (some 57) (fun K hK => ?_)
 refine d9 Try.func167 #[.pointer (some ⟨gs, 0, none⟩), eF j] ?_
 with_reducible refine (gY _ gs s j (HSC.out _ eu) HW.out HJ.out.1 HJ.out.2).mono ?_
 rintro e w3 ⟨rfl, hk3⟩
 refine ⟨_, rfl, ?_⟩
 refine hK.out _ _ (KC.out _ _ eu hk3) (fun hHeld => ?_)
 clear hK K
 refine dP 57 ?_
 refine aC 4 58 ?_
 refine eH 5 none (fun K hK => ?_)
 refine fP ?_
 refine hK.out _ _ ?_
 clear hK K
 refine aC 6 5 ?_
 refine gU (by kernel_rfl) ?_
 go_wp2
 have h1 := ay (ak (Below.refl V.heap.size V)) hk3
 refine bodyPost_ret (fw rfl _ _ (gi + 1) 45 #[.int .u16 j.f0, .int .u8 j.f1, .int .u8 j.f2, .int .u32 j.f3] (0, 0) _ rfl (jB (ah HR.out h1) _ _ _ _) Try.underlying45 rfl (by kernel_rfl)) rfl ?_
 exact ⟨rfl, fE (ay HB.out h1) (by have := EG.out; omega) _ _ _ _⟩
theorem simp_xy (w : World) (gs : Nat) (s : St) (i j : S45) (hS : w.heap[gs]? = some (.cells (aA s) 151 (0, 0))) (hw : Wst s) (hc : stB j.f0 j.f3 = true) (hk : Rg j.f3) (n0 : (aT i.f0 == 0) = false) (n1 : (aT i.f0 == 1) = false) (n7 : (aT i.f0 == 7) = true) (n4 : (aT i.f0 == 4) = false) (h7 : (i.f0 == 7) = false) (h135 : (i.f0 == 135) = true) (v : Int) (e0 : gS s 1 = some v) (hj : j = ⟨0, 0, 0, v⟩) :
 Calls Try.prog 159 #[.pointer (some ⟨gs, 0, none⟩), eF i] w fun e w' => e = .returned (.tuple #[eF j, .bool (!iA s j)]) ∧ Below w.heap.size w w' := by
 have HS := aa.mk hS
 have HW := aa.mk hw
 have HJ := aa.mk (And.intro hc hk)
 have HC := aa.mk (fun W => aG.calls (0 + 8) i.f0 (aT i.f0) W (gK i.f0 0).1)
 have c0 : _ = some (Value.bool true) := (ae hS 2).trans ((bZ (s := s) (i := 1) (by have := hw.len; omega)).trans (by rw [e0]; rfl))
 have c1 : _ = some (Value.int .u32 v) := (ae hS 3).trans ((dE (s := s) (i := 1) (by have := hw.len; omega)).trans (by rw [e0]; rfl))
 have HJ2 := aa.mk hj
 clear hj
 clear hS hw hc hk
 unfold eF at *
 go_enter Try.func159, Try.ntmps159
 go_upto_region 1 with (fail)
 refine forget (fun W => ∃ gi, gi = w.heap.size ∧ Below w.heap.size w W ∧ W.heap[gi]? = some (.cells #[.int .u16 i.f0, .int .u8 i.f1, .int .u8 i.f2, .int .u32 i.f3] 45 (0, 0)) ∧ W.heap[gi + 1]? = some (.cells #[.int .u16 0, .int .u8 0, .int .u8 0, .int .u32 0] 45 (0, 0))) ⟨_, rfl, bY _ _ _, kM _ _ _, eB _ _ _⟩ ?_
 rintro W ⟨gi, egi, hb, hi, hr⟩
 rw [← egi]
 have y0 : _ = some (Value.int .u16 i.f0) := (ae hi 0).trans rfl
 have y1 : _ = some (Value.int .u8 i.f1) := (ae hi 1).trans rfl
 have y2 : _ = some (Value.int .u8 i.f2) := (ae hi 2).trans rfl
 have y3 : _ = some (Value.int .u32 i.f3) := (ae hi 3).trans rfl
 have f0 := af hi 0
 have f1 := af hi 1
 have f2 := af hi 2
 have f3 := af hi 3
 have x0 : W.cell? ⟨gs, 2, none⟩ = some (Value.bool true) := au hb c0
 have x1 : W.cell? ⟨gs, 3, none⟩ = some (Value.int .u32 v) := au hb c1
 clear c0 c1
 have HB := aa.mk hb
 have HI := aa.mk hi
 have HR := aa.mk hr
 have EG := aa.mk egi
 clear hb hi hr egi
 go_upto_region 12 with (first | (go_at_call 99; refine (HC.out _).mono ?_; rintro e w' ⟨rfl, ⟨nd, rfl⟩⟩))
 have hq := aD (Below.refl W.heap.size W) nd
 refine forget (fun V => Below w.heap.size w V ∧ V.heap[gs]? = some (.cells (aA s) 151 (0, 0)) ∧ V.heap[gi]? = some (.cells #[.int .u16 j.f0, .int .u8 j.f1, .int .u8 j.f2, .int .u32 j.f3] 45 (0, 0)) ∧ V.heap[gi + 1]? = some (.cells #[.int .u16 0, .int .u8 0, .int .u8 0, .int .u32 0] 45 (0, 0)))
  ⟨fE (ay HB.out hq) (by have := EG.out; omega) _ _ _ _, by
   have h5 := ah (ah HS.out HB.out) hq
   have hne : gs ≠ gi := by have := EG.out; have := av HS.out; omega
   exact jQ h5 hne, by rw [HJ2.out]; exact jB (ah HI.out hq) _ _ _ _, jQ (ah HR.out hq) (by omega)⟩ ?_
 clear hq
 clear y0 y1 y2 y3 f0 f1 f2 f3 HB HS HI HR
 rintro V ⟨hb, hs, hi, hr⟩
 have p0 : _ = some (Value.int .u16 j.f0) := (ae hi 0).trans rfl
 have p1 : _ = some (Value.int .u8 j.f1) := (ae hi 1).trans rfl
 have p2 : _ = some (Value.int .u8 j.f2) := (ae hi 2).trans rfl
 have p3 : _ = some (Value.int .u32 j.f3) := (ae hi 3).trans rfl
 have z0 : _ = some (Value.int .u16 0) := (ae hr 0).trans rfl
 have z1 : _ = some (Value.int .u8 0) := (ae hr 1).trans rfl
 have z2 : _ = some (Value.int .u8 0) := (ae hr 2).trans rfl
 have z3 : _ = some (Value.int .u32 0) := (ae hr 3).trans rfl
 have t0 := af hr 0
 have t1 := af hr 1
 have t2 := af hr 2
 have t3 := af hr 3
 have HSC : aa (∀ V', Below V.heap.size V V' → V'.heap[gs]? = some (.cells (aA s) 151 (0, 0))) := ⟨fun V' h => ah hs h⟩
 have KC : aa (∀ V' V'', Below V.heap.size V V' → Below V'.heap.size V' V'' → V''.cell? ⟨gi, 0, none⟩ = some (.int .u16 j.f0) ∧ V''.cell? ⟨gi, 1, none⟩ = some (.int .u8 j.f1) ∧ V''.cell? ⟨gi, 2, none⟩ = some (.int .u8 j.f2) ∧ V''.cell? ⟨gi, 3, none⟩ = some (.int .u32 j.f3) ∧
  V''.cell? ⟨gi + 1, 0, none⟩ = some (.int .u16 0) ∧ V''.cell? ⟨gi + 1, 1, none⟩ = some (.int .u8 0) ∧ V''.cell? ⟨gi + 1, 2, none⟩ = some (.int .u8 0) ∧ V''.cell? ⟨gi + 1, 3, none⟩ = some (.int .u32 0) ∧ V''.frozen? ⟨gi + 1, 0, none⟩ = false ∧ V''.frozen? ⟨gi + 1, 1, none⟩ = false ∧ V''.frozen? ⟨gi + 1, 2, none⟩ = false ∧ V''.frozen? ⟨gi + 1, 3, none⟩ = false) :=
  ⟨fun V' V'' h1 h2 => by
   have b0 := ah (ah hi h1) h2
   have b1 := ah (ah hr h1) h2
   exact ⟨(ae b0 0).trans rfl, (ae b0 1).trans rfl, (ae b0 2).trans rfl, (ae b0 3).trans rfl, (ae b1 0).trans rfl, (ae b1 1).trans rfl, (ae b1 2).trans rfl, (ae b1 3).trans rfl, af b1 0, af b1 1, af b1 2, af b1 3⟩⟩
 have HB := aa.mk hb
 have HR := aa.mk hr
 clear hb hs hi hr
 refine dR 7 (fun w' => w'.cell? ⟨gi, 0, none⟩ = some (.int .u16 j.f0) ∧ w'.cell? ⟨gi, 1, none⟩ = some (.int .u8 j.f1) ∧ w'.cell? ⟨gi, 2, none⟩ = some (.int .u8 j.f2) ∧ w'.cell? ⟨gi, 3, none⟩ = some (.int .u32 j.f3) ∧ w'.cell? ⟨gi + 1, 0, none⟩ = some (.int .u16 0) ∧ w'.cell? ⟨gi + 1, 1, none⟩ = some (.int .u8 0) ∧ w'.cell? ⟨gi + 1, 2, none⟩ = some (.int .u8 0) ∧ w'.cell? ⟨gi + 1, 3, none⟩ = some (.int .u32 0) ∧ w'.frozen? ⟨gi + 1, 0, none⟩ = false ∧ w'.frozen? ⟨gi + 1, 1, none⟩ = false ∧ w'.frozen? ⟨gi + 1, 2, none⟩ = false ∧ w'.frozen? ⟨gi + 1, 3, none⟩ = false) [5] ⟨p0, p1, p2, p3, z0, z1, z2, z3, t0, t1, t2, t3⟩ (fun hHeld => ?_)
 refine aC 1 55 ?_
 refine cK 0 54 hHeld ?_
 refine cK 2 56 hHeld ?_
 refine fT 3 (some 57) (fun K hK => ?_)
 refine d9 Try.func167 #[.pointer (some ⟨gs, 0, none⟩), eF j] ?_
 with_reducible refine (gY _ gs s j (HSC.out _ eu) HW.out HJ.out.1 HJ.out.2).mono ?_
 rintro e w3 ⟨rfl, hk3⟩
 refine ⟨_, rfl, ?_⟩
 refine hK.out _ _ (KC.out _ _ eu hk3) (fun hHeld => ?_)
 clear hK K
 refine dP 57 ?_
 refine aC 4 58 ?_
 refine eH 5 none (fun K hK => ?_)
 refine fP ?_
 refine hK.out _ _ ?_
 clear hK K
 refine aC 6 5 ?_
 refine gU (by kernel_rfl) ?_
 go_wp2
 have h1 := ay (ak (Below.refl V.heap.size V)) hk3
 refine bodyPost_ret (fw rfl _ _ (gi + 1) 45 #[.int .u16 j.f0, .int .u8 j.f1, .int .u8 j.f2, .int .u32 j.f3] (0, 0) _ rfl (jB (ah HR.out h1) _ _ _ _) Try.underlying45 rfl (by kernel_rfl)) rfl ?_
 exact ⟨rfl, fE (ay HB.out h1) (by have := EG.out; omega) _ _ _ _⟩
theorem simp_xn (w : World) (gs : Nat) (s : St) (i j : S45) (hS : w.heap[gs]? = some (.cells (aA s) 151 (0, 0))) (hw : Wst s) (hc : stB j.f0 j.f3 = true) (hk : Rg j.f3) (n0 : (aT i.f0 == 0) = false) (n1 : (aT i.f0 == 1) = false) (n7 : (aT i.f0 == 7) = true) (n4 : (aT i.f0 == 4) = false) (h7 : (i.f0 == 7) = false) (h135 : (i.f0 == 135) = true) (e0 : gS s 1 = none) (hj : j = i) :
 Calls Try.prog 159 #[.pointer (some ⟨gs, 0, none⟩), eF i] w fun e w' => e = .returned (.tuple #[eF j, .bool (!iA s j)]) ∧ Below w.heap.size w w' := by
 have HS := aa.mk hS
 have HW := aa.mk hw
 have HJ := aa.mk (And.intro hc hk)
 have HC := aa.mk (fun W => aG.calls (0 + 8) i.f0 (aT i.f0) W (gK i.f0 0).1)
 have c0 : _ = some (Value.bool false) := (ae hS 2).trans ((bZ (s := s) (i := 1) (by have := hw.len; omega)).trans (by rw [e0]; rfl))
 have c1 : _ = some (Value.int .u32 0) := (ae hS 3).trans ((dE (s := s) (i := 1) (by have := hw.len; omega)).trans (by rw [e0]; rfl))
 have HJ2 := aa.mk hj
 clear hj
 clear hS hw hc hk
 unfold eF at *
 go_enter Try.func159, Try.ntmps159
 go_upto_region 1 with (fail)
 refine forget (fun W => ∃ gi, gi = w.heap.size ∧ Below w.heap.size w W ∧ W.heap[gi]? = some (.cells #[.int .u16 i.f0, .int .u8 i.f1, .int .u8 i.f2, .int .u32 i.f3] 45 (0, 0)) ∧ W.heap[gi + 1]? = some (.cells #[.int .u16 0, .int .u8 0, .int .u8 0, .int .u32 0] 45 (0, 0))) ⟨_, rfl, bY _ _ _, kM _ _ _, eB _ _ _⟩ ?_
 rintro W ⟨gi, egi, hb, hi, hr⟩
 rw [← egi]
 have y0 : _ = some (Value.int .u16 i.f0) := (ae hi 0).trans rfl
 have y1 : _ = some (Value.int .u8 i.f1) := (ae hi 1).trans rfl
 have y2 : _ = some (Value.int .u8 i.f2) := (ae hi 2).trans rfl
 have y3 : _ = some (Value.int .u32 i.f3) := (ae hi 3).trans rfl
 have f0 := af hi 0
 have f1 := af hi 1
 have f2 := af hi 2
 have f3 := af hi 3
 have x0 : W.cell? ⟨gs, 2, none⟩ = some (Value.bool false) := au hb c0
 have x1 : W.cell? ⟨gs, 3, none⟩ = some (Value.int .u32 0) := au hb c1
 clear c0 c1
 have HB := aa.mk hb
 have HI := aa.mk hi
 have HR := aa.mk hr
 have EG := aa.mk egi
 clear hb hi hr egi
 go_upto_region 12 with (first | (go_at_call 99; refine (HC.out _).mono ?_; rintro e w' ⟨rfl, ⟨nd, rfl⟩⟩))
 have hq := aD (Below.refl W.heap.size W) nd
 refine forget (fun V => Below w.heap.size w V ∧ V.heap[gs]? = some (.cells (aA s) 151 (0, 0)) ∧ V.heap[gi]? = some (.cells #[.int .u16 j.f0, .int .u8 j.f1, .int .u8 j.f2, .int .u32 j.f3] 45 (0, 0)) ∧ V.heap[gi + 1]? = some (.cells #[.int .u16 0, .int .u8 0, .int .u8 0, .int .u32 0] 45 (0, 0)))
  ⟨ay HB.out hq, ah (ah HS.out HB.out) hq, by rw [HJ2.out]; exact ah HI.out hq, ah HR.out hq⟩ ?_
 clear hq
 clear y0 y1 y2 y3 f0 f1 f2 f3 HB HS HI HR
 rintro V ⟨hb, hs, hi, hr⟩
 have p0 : _ = some (Value.int .u16 j.f0) := (ae hi 0).trans rfl
 have p1 : _ = some (Value.int .u8 j.f1) := (ae hi 1).trans rfl
 have p2 : _ = some (Value.int .u8 j.f2) := (ae hi 2).trans rfl
 have p3 : _ = some (Value.int .u32 j.f3) := (ae hi 3).trans rfl
 have z0 : _ = some (Value.int .u16 0) := (ae hr 0).trans rfl
 have z1 : _ = some (Value.int .u8 0) := (ae hr 1).trans rfl
 have z2 : _ = some (Value.int .u8 0) := (ae hr 2).trans rfl
 have z3 : _ = some (Value.int .u32 0) := (ae hr 3).trans rfl
 have t0 := af hr 0
 have t1 := af hr 1
 have t2 := af hr 2
 have t3 := af hr 3
 have HSC : aa (∀ V', Below V.heap.size V V' → V'.heap[gs]? = some (.cells (aA s) 151 (0, 0))) := ⟨fun V' h => ah hs h⟩
 have KC : aa (∀ V' V'', Below V.heap.size V V' → Below V'.heap.size V' V'' → V''.cell? ⟨gi, 0, none⟩ = some (.int .u16 j.f0) ∧ V''.cell? ⟨gi, 1, none⟩ = some (.int .u8 j.f1) ∧ V''.cell? ⟨gi, 2, none⟩ = some (.int .u8 j.f2) ∧ V''.cell? ⟨gi, 3, none⟩ = some (.int .u32 j.f3) ∧
  V''.cell? ⟨gi + 1, 0, none⟩ = some (.int .u16 0) ∧ V''.cell? ⟨gi + 1, 1, none⟩ = some (.int .u8 0) ∧ V''.cell? ⟨gi + 1, 2, none⟩ = some (.int .u8 0) ∧ V''.cell? ⟨gi + 1, 3, none⟩ = some (.int .u32 0) ∧ V''.frozen? ⟨gi + 1, 0, none⟩ = false ∧ V''.frozen? ⟨gi + 1, 1, none⟩ = false ∧ V''.frozen? ⟨gi + 1, 2, none⟩ = false ∧ V''.frozen? ⟨gi + 1, 3, none⟩ = false) :=
  ⟨fun V' V'' h1 h2 => by
   have b0 := ah (ah hi h1) h2
   have b1 := ah (ah hr h1) h2
   exact ⟨(ae b0 0).trans rfl, (ae b0 1).trans rfl, (ae b0 2).trans rfl, (ae b0 3).trans rfl, (ae b1 0).trans rfl, (ae b1 1).trans rfl, (ae b1 2).trans rfl, (ae b1 3).trans rfl, af b1 0, af b1 1, af b1 2, af b1 3⟩⟩
 have HB := aa.mk hb
 have HR := aa.mk hr
 clear hb hs hi hr
 refine dR 7 (fun w' => w'.cell? ⟨gi, 0, none⟩ = some (.int .u16 j.f0) ∧ w'.cell? ⟨gi, 1, none⟩ = some (.int .u8 j.f1) ∧ w'.cell? ⟨gi, 2, none⟩ = some (.int .u8 j.f2) ∧ w'.cell? ⟨gi, 3, none⟩ = some (.int .u32 j.f3) ∧ w'.cell? ⟨gi + 1, 0, none⟩ = some (.int .u16 0) ∧ w'.cell? ⟨gi + 1, 1, none⟩ = some (.int .u8 0) ∧ w'.cell? ⟨gi + 1, 2, none⟩ = some (.int .u8 0) ∧ w'.cell? ⟨gi + 1, 3, none⟩ = some (.int .u32 0) ∧ w'.frozen? ⟨gi + 1, 0, none⟩ = false ∧ w'.frozen? ⟨gi + 1, 1, none⟩ = false ∧ w'.frozen? ⟨gi + 1, 2, none⟩ = false ∧ w'.frozen? ⟨gi + 1, 3, none⟩ = false) [5] ⟨p0, p1, p2, p3, z0, z1, z2, z3, t0, t1, t2, t3⟩ (fun hHeld => ?_)
 refine aC 1 55 ?_
 refine cK 0 54 hHeld ?_
 refine cK 2 56 hHeld ?_
 refine fT 3 (some 57) (fun K hK => ?_)
 refine d9 Try.func167 #[.pointer (some ⟨gs, 0, none⟩), eF j] ?_
 with_reducible refine (gY _ gs s j (HSC.out _ eu) HW.out HJ.out.1 HJ.out.2).mono ?_
 rintro e w3 ⟨rfl, hk3⟩
 refine ⟨_, rfl, ?_⟩
 refine hK.out _ _ (KC.out _ _ eu hk3) (fun hHeld => ?_)
 clear hK K
 refine dP 57 ?_
 refine aC 4 58 ?_
 refine eH 5 none (fun K hK => ?_)
 refine fP ?_
 refine hK.out _ _ ?_
 clear hK K
 refine aC 6 5 ?_
 refine gU (by kernel_rfl) ?_
 go_wp2
 have h1 := ay (ak (Below.refl V.heap.size V)) hk3
 refine bodyPost_ret (fw rfl _ _ (gi + 1) 45 #[.int .u16 j.f0, .int .u8 j.f1, .int .u8 j.f2, .int .u32 j.f3] (0, 0) _ rfl (jB (ah HR.out h1) _ _ _ _) Try.underlying45 rfl (by kernel_rfl)) rfl ?_
 exact ⟨rfl, fE (ay HB.out h1) (by have := EG.out; omega) _ _ _ _⟩
theorem iq {a b : Int} (h : a = b) : (a == b) = true := beq_iff_eq.mpr h
theorem pW (w : World) (gs : Nat) (s : St) (i : S45) (hS : w.heap[gs]? = some (.cells (aA s) 151 (0, 0))) (hw : Wst s) (hc : stB i.f0 i.f3 = true) (hk : Rg i.f3) :
 Calls Try.prog 159 #[.pointer (some ⟨gs, 0, none⟩), eF i] w fun e w' => e = .returned (.tuple #[eF (dD s i), .bool (!iA s (dD s i))]) ∧ Below w.heap.size w w' := by
 obtain ⟨hm, _⟩ := gQ hc
 obtain ⟨c0, c1, c2, c3, c4, c5, c6, c7, c8⟩ := tC i.f0 hm
 obtain ⟨jc, jk⟩ := oo hw hc hk
 have hld : i.f0 ∈ ldL ↔ aT i.f0 = 0 ∨ aT i.f0 = 1 := by
  rw [c0, c1]
  simp only [ldL, List.mem_cons, List.not_mem_nil, or_false]
  omega
 by_cases q1 : i.f0 ∈ ldL
 · have ej : dD s i = nC s i := by unfold dD; rw [if_pos q1]
   rw [ej] at jc jk ⊢
   have hl := fun (W' : World) h => ug W' gs s i h hw hc hk
   by_cases q0 : aT i.f0 = 0
   · exact simp_l0 w gs s i (nC s i) hS hw jc jk (iq q0) hl
   have q2 := (hld.1 q1).resolve_left q0
   exact simp_l1 w gs s i (nC s i) hS hw jc jk (bf q0) (iq q2) (bf (by omega)) (bf (by omega)) hl
 have n0 : aT i.f0 ≠ 0 := fun h => q1 (hld.2 (.inl h))
 have n1 : aT i.f0 ≠ 1 := fun h => q1 (hld.2 (.inr h))
 by_cases q2 : i.f0 = 7 ∨ i.f0 = 135
 · have h7 := c7.2 q2
   have ej : dD s i = nD s i := by unfold dD; rw [if_neg q1, if_pos q2]
   rw [ej] at jc jk ⊢
   by_cases q7 : i.f0 = 7
   · cases e : gS s 0 with
     | some v => exact simp_ty w gs s i _ hS hw jc jk (bf n0) (bf n1) (iq h7) (bf (by omega)) (iq q7) (bf (by omega)) v e (by unfold nD; rw [if_pos q7, e])
     | none => exact simp_tn w gs s i _ hS hw jc jk (bf n0) (bf n1) (iq h7) (bf (by omega)) (iq q7) (bf (by omega)) e (by unfold nD; rw [if_pos q7, e])
   have q135 := q2.resolve_left q7
   cases e : gS s 1 with
   | some v => exact simp_xy w gs s i _ hS hw jc jk (bf n0) (bf n1) (iq h7) (bf (by omega)) (bf q7) (iq q135) v e (by unfold nD; rw [if_neg q7, e])
   | none => exact simp_xn w gs s i _ hS hw jc jk (bf n0) (bf n1) (iq h7) (bf (by omega)) (bf q7) (iq q135) e (by unfold nD; rw [if_neg q7, e])
 have n7 : aT i.f0 ≠ 7 := fun h => q2 (c7.1 h)
 by_cases q3 : i.f0 = 132 ∨ i.f0 ∈ fo ∨ i.f0 ∈ gF
 · have h4 := c4.2 q3
   have ej : dD s i = sW s i := by unfold dD; rw [if_neg q1, if_neg q2, if_pos q3]
   rw [ej] at jc jk ⊢
   exact simp_a w gs s i (sW s i) hS hw jc jk (bf n0) (bf n1) (bf n7) (iq h4) (fun (W' : World) h => vV W' gs s i h hw hc hk q3)
 have n4 : aT i.f0 ≠ 4 := fun h => q3 (c4.1 h)
 have ej : dD s i = i := by unfold dD; rw [if_neg q1, if_neg q2, if_neg q3]
 rw [ej]
 exact simp_o w gs s i hS hw hc hk (bf n0) (bf n1) (bf n7) (bf n4)
theorem iN {s : St} {i : Nat} (o : Option Int) (h : i < s.length) : ((aA s).setIfInBounds (i * 2) (.bool o.isSome)).setIfInBounds (i * 2 + 1) (.int .u32 (o.getD 0)) = aA (s.set i o) := by rw [Nat.mul_comm]; exact sc_set o h
theorem after_7 (w : World) (gs : Nat) (s : St) (i1 i2 : Int) (k : Int) (hS : w.heap[gs]? = some (.cells (aA s) 151 (0, 0))) (hl : s.length = 18) :
 Calls Try.prog 160 #[.pointer (some ⟨gs, 0, none⟩), .agg #[.int .u16 7, .int .u8 i1, .int .u8 i2, .int .u32 k]] w fun e w' => e = .returned (.tuple #[]) ∧ w'.heap[gs]? = some (.cells (aA (s.set 1 (gS s 0))) 151 (0, 0)) ∧ Kp (fun k => k = gs) w w' := by
 have c0 : w.cell? ⟨gs, 0, none⟩ = _ := (ae hS (0 * 2)).trans (bZ (s := s) (i := 0) (by omega))
 have c1 : w.cell? ⟨gs, 1, none⟩ = _ := (ae hS (0 * 2 + 1)).trans (dE (s := s) (i := 0) (by omega))
 have d0 : w.cell? ⟨gs, 2, none⟩ = _ := (ae hS (1 * 2)).trans (bZ (s := s) (i := 1) (by omega))
 have d1 : w.cell? ⟨gs, 3, none⟩ = _ := (ae hS (1 * 2 + 1)).trans (dE (s := s) (i := 1) (by omega))
 have f0 : w.frozen? ⟨gs, 2, none⟩ = false := af hS (1 * 2)
 have f1 : w.frozen? ⟨gs, 3, none⟩ = false := af hS (1 * 2 + 1)
 have hlt := av hS
 have HS := aa.mk hS
 clear hS
 go_enter Try.func160, Try.ntmps160
 go_wp2
 go_region
 go_wp2
 go_end0
 exact ⟨rfl, ah (aQ (aQ HS.out (1 * 2) _ rfl) (1 * 2 + 1) _ (iN (i := 1) (gS s 0) (by omega))) (ak (ai (Below.refl _ _) _)),
  (Kp.set (S := fun k => k = gs) (g := gs) (Kp.set (S := fun k => k = gs) (g := gs) (Kp.refl _ w) (.inl rfl) _ _) (.inl rfl) _ _).below (ak (ai (Below.refl _ _) _))⟩
theorem vT (w : World) (gs : Nat) (s : St) (i1 i2 : Int) (k : Int) (hS : w.heap[gs]? = some (.cells (aA s) 151 (0, 0))) (hl : s.length = 18) :
 Calls Try.prog 160 #[.pointer (some ⟨gs, 0, none⟩), .agg #[.int .u16 135, .int .u8 i1, .int .u8 i2, .int .u32 k]] w fun e w' => e = .returned (.tuple #[]) ∧ w'.heap[gs]? = some (.cells (aA (s.set 0 (gS s 1))) 151 (0, 0)) ∧ Kp (fun k => k = gs) w w' := by
 have c0 : w.cell? ⟨gs, 2, none⟩ = _ := (ae hS (1 * 2)).trans (bZ (s := s) (i := 1) (by omega))
 have c1 : w.cell? ⟨gs, 3, none⟩ = _ := (ae hS (1 * 2 + 1)).trans (dE (s := s) (i := 1) (by omega))
 have d0 : w.cell? ⟨gs, 0, none⟩ = _ := (ae hS (0 * 2)).trans (bZ (s := s) (i := 0) (by omega))
 have d1 : w.cell? ⟨gs, 1, none⟩ = _ := (ae hS (0 * 2 + 1)).trans (dE (s := s) (i := 0) (by omega))
 have f0 : w.frozen? ⟨gs, 0, none⟩ = false := af hS (0 * 2)
 have f1 : w.frozen? ⟨gs, 1, none⟩ = false := af hS (0 * 2 + 1)
 have hlt := av hS
 have HS := aa.mk hS
 clear hS
 go_enter Try.func160, Try.ntmps160
 go_wp2
 go_region
 go_wp2
 go_end0
 exact ⟨rfl, ah (aQ (aQ HS.out (0 * 2) _ rfl) (0 * 2 + 1) _ (iN (i := 0) (gS s 1) (by omega))) (ak (ai (Below.refl _ _) _)),
  (Kp.set (S := fun k => k = gs) (g := gs) (Kp.set (S := fun k => k = gs) (g := gs) (Kp.refl _ w) (.inl rfl) _ _) (.inl rfl) _ _).below (ak (ai (Below.refl _ _) _))⟩
theorem after_2 (w : World) (gs : Nat) (s : St) (i1 i2 : Int) (k : Nat) (hS : w.heap[gs]? = some (.cells (aA s) 151 (0, 0))) (hl : s.length = 18) (hk : k < 16) :
 Calls Try.prog 160 #[.pointer (some ⟨gs, 0, none⟩), .agg #[.int .u16 2, .int .u8 i1, .int .u8 i2, .int .u32 (k : Int)]] w fun e w' => e = .returned (.tuple #[]) ∧ w'.heap[gs]? = some (.cells (aA (s.set (2 + k) (gS s 0))) 151 (0, 0)) ∧ Kp (fun k => k = gs) w w' := by
 have c0 : w.cell? ⟨gs, 0, none⟩ = _ := (ae hS (0 * 2)).trans (bZ (s := s) (i := 0) (by omega))
 have c1 : w.cell? ⟨gs, 1, none⟩ = _ := (ae hS (0 * 2 + 1)).trans (dE (s := s) (i := 0) (by omega))
 have d0 : w.cell? ⟨gs, (2 + k) * 2, none⟩ = _ := (ae hS ((2 + k) * 2)).trans (bZ (s := s) (i := (2 + k)) (by omega))
 have d1 : w.cell? ⟨gs, (2 + k) * 2 + 1, none⟩ = _ := (ae hS ((2 + k) * 2 + 1)).trans (dE (s := s) (i := (2 + k)) (by omega))
 have f0 : w.frozen? ⟨gs, (2 + k) * 2, none⟩ = false := af hS ((2 + k) * 2)
 have f1 : w.frozen? ⟨gs, (2 + k) * 2 + 1, none⟩ = false := af hS ((2 + k) * 2 + 1)
 have hlt := av hS
 have HS := aa.mk hS
 clear hS
 go_enter Try.func160, Try.ntmps160
 go_wp2
 go_region
 go_wp2
 go_end0
 exact ⟨rfl, ah (aQ (aQ HS.out ((2 + k) * 2) _ rfl) ((2 + k) * 2 + 1) _ (iN (i := (2 + k)) (gS s 0) (by omega))) (ak (ai (Below.refl _ _) _)),
  (Kp.set (S := fun k => k = gs) (g := gs) (Kp.set (S := fun k => k = gs) (g := gs) (Kp.refl _ w) (.inl rfl) _ _) (.inl rfl) _ _).below (ak (ai (Below.refl _ _) _))⟩
theorem after_3 (w : World) (gs : Nat) (s : St) (i1 i2 : Int) (k : Nat) (hS : w.heap[gs]? = some (.cells (aA s) 151 (0, 0))) (hl : s.length = 18) (hk : k < 16) :
 Calls Try.prog 160 #[.pointer (some ⟨gs, 0, none⟩), .agg #[.int .u16 3, .int .u8 i1, .int .u8 i2, .int .u32 (k : Int)]] w fun e w' => e = .returned (.tuple #[]) ∧ w'.heap[gs]? = some (.cells (aA (s.set (2 + k) (gS s 1))) 151 (0, 0)) ∧ Kp (fun k => k = gs) w w' := by
 have c0 : w.cell? ⟨gs, 2, none⟩ = _ := (ae hS (1 * 2)).trans (bZ (s := s) (i := 1) (by omega))
 have c1 : w.cell? ⟨gs, 3, none⟩ = _ := (ae hS (1 * 2 + 1)).trans (dE (s := s) (i := 1) (by omega))
 have d0 : w.cell? ⟨gs, (2 + k) * 2, none⟩ = _ := (ae hS ((2 + k) * 2)).trans (bZ (s := s) (i := (2 + k)) (by omega))
 have d1 : w.cell? ⟨gs, (2 + k) * 2 + 1, none⟩ = _ := (ae hS ((2 + k) * 2 + 1)).trans (dE (s := s) (i := (2 + k)) (by omega))
 have f0 : w.frozen? ⟨gs, (2 + k) * 2, none⟩ = false := af hS ((2 + k) * 2)
 have f1 : w.frozen? ⟨gs, (2 + k) * 2 + 1, none⟩ = false := af hS ((2 + k) * 2 + 1)
 have hlt := av hS
 have HS := aa.mk hS
 clear hS
 go_enter Try.func160, Try.ntmps160
 go_wp2
 go_region
 go_wp2
 go_end0
 exact ⟨rfl, ah (aQ (aQ HS.out ((2 + k) * 2) _ rfl) ((2 + k) * 2 + 1) _ (iN (i := (2 + k)) (gS s 1) (by omega))) (ak (ai (Below.refl _ _) _)),
  (Kp.set (S := fun k => k = gs) (g := gs) (Kp.set (S := fun k => k = gs) (g := gs) (Kp.refl _ w) (.inl rfl) _ _) (.inl rfl) _ _).below (ak (ai (Below.refl _ _) _))⟩
theorem after_x (w : World) (gs : Nat) (s : St) (c i1 i2 k : Int) (hS : w.heap[gs]? = some (.cells (aA s) 151 (0, 0))) (hl : s.length = 18)
 (n0 : (c == 0) = false) (n1 : (c == 1) = false) (n2 : (c == 2) = false) (n3 : (c == 3) = false) (n7 : (c == 7) = false) (n135 : (c == 135) = false) (hx : (aT c == 1) = true) :
 Calls Try.prog 160 #[.pointer (some ⟨gs, 0, none⟩), .agg #[.int .u16 c, .int .u8 i1, .int .u8 i2, .int .u32 k]] w fun e w' => e = .returned (.tuple #[]) ∧ w'.heap[gs]? = some (.cells (aA (s.set 1 none)) 151 (0, 0)) ∧ Kp (fun k => k = gs) w w' := by
 have d0 : w.cell? ⟨gs, 2, none⟩ = _ := (ae hS (1 * 2)).trans (bZ (s := s) (i := 1) (by omega))
 have d1 : w.cell? ⟨gs, 3, none⟩ = _ := (ae hS (1 * 2 + 1)).trans (dE (s := s) (i := 1) (by omega))
 have f0 : w.frozen? ⟨gs, 2, none⟩ = false := af hS (1 * 2)
 have f1 : w.frozen? ⟨gs, 3, none⟩ = false := af hS (1 * 2 + 1)
 have hlt := av hS
 have HS := aa.mk hS
 have HC := aa.mk (fun W => aG.calls (0 + 8) c (aT c) W (gK c 0).1)
 clear hS
 go_enter Try.func160, Try.ntmps160
 go_wp2_with (go_at_call 99; refine (HC.out _).mono ?_; rintro e w' ⟨rfl, ⟨nd, rfl⟩⟩)
 go_end0
 exact ⟨rfl, aQ (aQ (ah HS.out jy) (1 * 2) _ rfl) (1 * 2 + 1) _ (iN (i := 1) none (by omega)),
  Kp.set (S := fun k => k = gs) (g := gs) (Kp.set (S := fun k => k = gs) (g := gs) ((Kp.refl _ w).below jy) (.inl rfl) _ _) (.inl rfl) _ _⟩
theorem after_o (w : World) (gs : Nat) (s : St) (c i1 i2 k : Int) (hS : w.heap[gs]? = some (.cells (aA s) 151 (0, 0))) (hl : s.length = 18)
 (n0 : (c == 0) = false) (n1 : (c == 1) = false) (n2 : (c == 2) = false) (n3 : (c == 3) = false) (n7 : (c == 7) = false) (n135 : (c == 135) = false) (hx : (aT c == 1) = false) :
 Calls Try.prog 160 #[.pointer (some ⟨gs, 0, none⟩), .agg #[.int .u16 c, .int .u8 i1, .int .u8 i2, .int .u32 k]] w fun e w' => e = .returned (.tuple #[]) ∧ w'.heap[gs]? = some (.cells (aA (s.set 0 none)) 151 (0, 0)) ∧ Kp (fun k => k = gs) w w' := by
 have d0 : w.cell? ⟨gs, 0, none⟩ = _ := (ae hS (0 * 2)).trans (bZ (s := s) (i := 0) (by omega))
 have d1 : w.cell? ⟨gs, 1, none⟩ = _ := (ae hS (0 * 2 + 1)).trans (dE (s := s) (i := 0) (by omega))
 have f0 : w.frozen? ⟨gs, 0, none⟩ = false := af hS (0 * 2)
 have f1 : w.frozen? ⟨gs, 1, none⟩ = false := af hS (0 * 2 + 1)
 have hlt := av hS
 have HS := aa.mk hS
 have HC := aa.mk (fun W => aG.calls (0 + 8) c (aT c) W (gK c 0).1)
 clear hS
 go_enter Try.func160, Try.ntmps160
 go_wp2_with (go_at_call 99; refine (HC.out _).mono ?_; rintro e w' ⟨rfl, ⟨nd, rfl⟩⟩)
 go_end0
 exact ⟨rfl, aQ (aQ (ah HS.out jy) (0 * 2) _ rfl) (0 * 2 + 1) _ (iN (i := 0) none (by omega)),
  Kp.set (S := fun k => k = gs) (g := gs) (Kp.set (S := fun k => k = gs) (g := gs) ((Kp.refl _ w).below jy) (.inl rfl) _ _) (.inl rfl) _ _⟩
theorem after_0 (w : World) (gs : Nat) (s : St) (i1 i2 k : Int) (hS : w.heap[gs]? = some (.cells (aA s) 151 (0, 0))) (hl : s.length = 18) :
 Calls Try.prog 160 #[.pointer (some ⟨gs, 0, none⟩), .agg #[.int .u16 0, .int .u8 i1, .int .u8 i2, .int .u32 k]] w fun e w' => e = .returned (.tuple #[]) ∧ w'.heap[gs]? = some (.cells (aA (s.set 0 (some k))) 151 (0, 0)) ∧ Kp (fun k => k = gs) w w' := by
 have HS := aa.mk hS
 clear hS
 go_enter Try.func160, Try.ntmps160
 go_upto_region 6 with (fail)
 refine forget (fun W => ∃ gi, gi = w.heap.size ∧ Below w.heap.size w W ∧ W.heap[gi]? = some (.cells #[.int .u16 0, .int .u8 i1, .int .u8 i2, .int .u32 k] 45 (0, 0))) ⟨_, rfl, ai (Below.refl _ _) _, heap_alloc_new _ _⟩ ?_
 rintro W ⟨gi, egi, hb, hi⟩
 rw [← egi]
 have hs := ah HS.out hb
 have y3 : _ = some (Value.int .u32 k) := (ae hi 3).trans rfl
 have d0 : W.cell? ⟨gs, 0, none⟩ = _ := (ae hs (0 * 2)).trans (bZ (s := s) (i := 0) (by omega))
 have d1 : W.cell? ⟨gs, 1, none⟩ = _ := (ae hs (0 * 2 + 1)).trans (dE (s := s) (i := 0) (by omega))
 have f0 : W.frozen? ⟨gs, 0, none⟩ = false := af hs (0 * 2)
 have f1 : W.frozen? ⟨gs, 1, none⟩ = false := af hs (0 * 2 + 1)
 generalize (gS s 0).isSome = ob at d0
 generalize (gS s 0).getD 0 = ov at d1
 have KC : aa (∀ V' V'', Below W.heap.size W V' → Below V'.heap.size V' V'' → V''.cell? ⟨gi, 3, none⟩ = some (.int .u32 k) ∧ V''.cell? ⟨gs, 0, none⟩ = some (.bool ob) ∧ V''.cell? ⟨gs, 1, none⟩ = some (.int .u32 ov) ∧ V''.frozen? ⟨gs, 0, none⟩ = false ∧ V''.frozen? ⟨gs, 1, none⟩ = false) :=
  ⟨fun V' V'' h1 h2 => ⟨au h2 (au h1 y3), au h2 (au h1 d0), au h2 (au h1 d1), af (ah (ah hs h1) h2) 0, af (ah (ah hs h1) h2) 1⟩⟩
 have HB := aa.mk hb
 have HS2 := aa.mk hs
 have EG := aa.mk egi
 clear hb hi hs egi
 refine dR 7 (fun w' => w'.cell? ⟨gi, 3, none⟩ = some (.int .u32 k) ∧ w'.cell? ⟨gs, 0, none⟩ = some (.bool ob) ∧ w'.cell? ⟨gs, 1, none⟩ = some (.int .u32 ov) ∧ w'.frozen? ⟨gs, 0, none⟩ = false ∧ w'.frozen? ⟨gs, 1, none⟩ = false) [6] ⟨y3, d0, d1, f0, f1⟩ (fun hHeld => ?_)
 refine aC 0 20 ?_
 refine aC 1 21 ?_
 refine aC 4 24 ?_
 refine cK 2 22 hHeld ?_
 refine fT 3 (some 23) (fun K hK => ?_)
 refine d9 Try.func125 #[.int .u32 k] ?_
 with_reducible refine (PA.gL.calls k true k _ rfl).mono ?_
 rintro e w3 ⟨rfl, hk3⟩
 refine ⟨_, rfl, ?_⟩
 refine hK.out _ _ (KC.out _ _ eu hk3) (fun hHeld => ?_)
 clear hK K
 refine dP 23 ?_
 refine aC 5 25 ?_
 refine eH 6 none (fun K hK => ?_)
 refine fP ?_
 refine hK.out _ _ ?_
 clear hK K
 refine gU (by kernel_rfl) ?_
 go_wp2
 go_end0
 have h1 := ay (ak (Below.refl W.heap.size W)) hk3
 exact ⟨rfl, aQ (aQ (ah HS2.out h1) (0 * 2) _ rfl) (0 * 2 + 1) _ (iN (i := 0) (some k) (by omega)),
  Kp.set (S := fun k => k = gs) (g := gs) (Kp.set (S := fun k => k = gs) (g := gs) ((Kp.refl _ w).below (ay HB.out h1)) (.inl rfl) _ _) (.inl rfl) _ _⟩
theorem after_1 (w : World) (gs : Nat) (s : St) (i1 i2 k : Int) (hS : w.heap[gs]? = some (.cells (aA s) 151 (0, 0))) (hl : s.length = 18) :
 Calls Try.prog 160 #[.pointer (some ⟨gs, 0, none⟩), .agg #[.int .u16 1, .int .u8 i1, .int .u8 i2, .int .u32 k]] w fun e w' => e = .returned (.tuple #[]) ∧ w'.heap[gs]? = some (.cells (aA (s.set 1 (some k))) 151 (0, 0)) ∧ Kp (fun k => k = gs) w w' := by
 have HS := aa.mk hS
 clear hS
 go_enter Try.func160, Try.ntmps160
 go_upto_region 8 with (fail)
 refine forget (fun W => ∃ gi, gi = w.heap.size ∧ Below w.heap.size w W ∧ W.heap[gi]? = some (.cells #[.int .u16 1, .int .u8 i1, .int .u8 i2, .int .u32 k] 45 (0, 0))) ⟨_, rfl, ai (Below.refl _ _) _, heap_alloc_new _ _⟩ ?_
 rintro W ⟨gi, egi, hb, hi⟩
 rw [← egi]
 have hs := ah HS.out hb
 have y3 : _ = some (Value.int .u32 k) := (ae hi 3).trans rfl
 have d0 : W.cell? ⟨gs, 2, none⟩ = _ := (ae hs (1 * 2)).trans (bZ (s := s) (i := 1) (by omega))
 have d1 : W.cell? ⟨gs, 3, none⟩ = _ := (ae hs (1 * 2 + 1)).trans (dE (s := s) (i := 1) (by omega))
 have f0 : W.frozen? ⟨gs, 2, none⟩ = false := af hs (1 * 2)
 have f1 : W.frozen? ⟨gs, 3, none⟩ = false := af hs (1 * 2 + 1)
 generalize (gS s 1).isSome = ob at d0
 generalize (gS s 1).getD 0 = ov at d1
 have KC : aa (∀ V' V'', Below W.heap.size W V' → Below V'.heap.size V' V'' → V''.cell? ⟨gi, 3, none⟩ = some (.int .u32 k) ∧ V''.cell? ⟨gs, 2, none⟩ = some (.bool ob) ∧ V''.cell? ⟨gs, 3, none⟩ = some (.int .u32 ov) ∧ V''.frozen? ⟨gs, 2, none⟩ = false ∧ V''.frozen? ⟨gs, 3, none⟩ = false) :=
  ⟨fun V' V'' h1 h2 => ⟨au h2 (au h1 y3), au h2 (au h1 d0), au h2 (au h1 d1), af (ah (ah hs h1) h2) 2, af (ah (ah hs h1) h2) 3⟩⟩
 have HB := aa.mk hb
 have HS2 := aa.mk hs
 have EG := aa.mk egi
 clear hb hi hs egi
 refine dR 7 (fun w' => w'.cell? ⟨gi, 3, none⟩ = some (.int .u32 k) ∧ w'.cell? ⟨gs, 2, none⟩ = some (.bool ob) ∧ w'.cell? ⟨gs, 3, none⟩ = some (.int .u32 ov) ∧ w'.frozen? ⟨gs, 2, none⟩ = false ∧ w'.frozen? ⟨gs, 3, none⟩ = false) [6] ⟨y3, d0, d1, f0, f1⟩ (fun hHeld => ?_)
 refine aC 0 28 ?_
 refine aC 1 29 ?_
 refine aC 4 32 ?_
 refine cK 2 30 hHeld ?_
 refine fT 3 (some 31) (fun K hK => ?_)
 refine d9 Try.func125 #[.int .u32 k] ?_
 with_reducible refine (PA.gL.calls k true k _ rfl).mono ?_
 rintro e w3 ⟨rfl, hk3⟩
 refine ⟨_, rfl, ?_⟩
 refine hK.out _ _ (KC.out _ _ eu hk3) (fun hHeld => ?_)
 clear hK K
 refine dP 31 ?_
 refine aC 5 33 ?_
 refine eH 6 none (fun K hK => ?_)
 refine fP ?_
 refine hK.out _ _ ?_
 clear hK K
 refine gU (by kernel_rfl) ?_
 go_wp2
 go_end0
 have h1 := ay (ak (Below.refl W.heap.size W)) hk3
 exact ⟨rfl, aQ (aQ (ah HS2.out h1) (1 * 2) _ rfl) (1 * 2 + 1) _ (iN (i := 1) (some k) (by omega)),
  Kp.set (S := fun k => k = gs) (g := gs) (Kp.set (S := fun k => k = gs) (g := gs) ((Kp.refl _ w).below (ay HB.out h1)) (.inl rfl) _ _) (.inl rfl) _ _⟩
theorem rV (w : World) (gs : Nat) (s : St) (i : S45) (hS : w.heap[gs]? = some (.cells (aA s) 151 (0, 0))) (hl : s.length = 18) (hc : stB i.f0 i.f3 = true) (hk : Rg i.f3) :
 Calls Try.prog 160 #[.pointer (some ⟨gs, 0, none⟩), eF i] w fun e w' => e = .returned (.tuple #[]) ∧ w'.heap[gs]? = some (.cells (aA (eX s i)) 151 (0, 0)) ∧ Kp (fun k => k = gs) w w' := by
 obtain ⟨hm, h16, _, _⟩ := gQ hc
 obtain ⟨_, hx, _⟩ := tC i.f0 hm
 obtain ⟨c, i1, i2, k⟩ := i
 dsimp only at h16 hk hx
 have hk0 := hk.1
 unfold eX
 dsimp only
 by_cases c0 : c = 0
 · rw [if_pos c0]; subst c0; exact after_0 w gs s i1 i2 k hS hl
 rw [if_neg c0]
 by_cases c1 : c = 1
 · rw [if_pos c1]; subst c1; exact after_1 w gs s i1 i2 k hS hl
 rw [if_neg c1]
 by_cases c2 : c = 2
 · rw [if_pos c2]; subst c2
   have hk6 := h16 (by omega)
   obtain ⟨n, rfl⟩ : ∃ n : Nat, k = (n : Int) := ⟨k.toNat, by omega⟩
   rw [Int.toNat_natCast]
   exact after_2 w gs s i1 i2 n hS hl (by omega)
 rw [if_neg c2]
 by_cases c3 : c = 3
 · rw [if_pos c3]; subst c3
   have hk6 := h16 (by omega)
   obtain ⟨n, rfl⟩ : ∃ n : Nat, k = (n : Int) := ⟨k.toNat, by omega⟩
   rw [Int.toNat_natCast]
   exact after_3 w gs s i1 i2 n hS hl (by omega)
 rw [if_neg c3]
 by_cases c7 : c = 7
 · rw [if_pos c7]; subst c7; exact after_7 w gs s i1 i2 k hS hl
 rw [if_neg c7]
 by_cases c8 : c = 135
 · rw [if_pos c8]; subst c8; exact vT w gs s i1 i2 k hS hl
 rw [if_neg c8]
 simp only [List.mem_cons, List.not_mem_nil, or_false] at hx
 by_cases c9 : c = 97 ∨ c = 129 ∨ c = 177
 · rw [if_pos c9]
   exact after_x w gs s c i1 i2 k hS hl (bf c0) (bf c1) (bf c2) (bf c3) (bf c7) (bf c8) (iq (hx.2 (.inr c9)))
 rw [if_neg c9]
 exact after_o w gs s c i1 i2 k hS hl (bf c0) (bf c1) (bf c2) (bf c3) (bf c7) (bf c8) (bf (fun h => (hx.1 h).elim c1 c9))
theorem dec_x (w : World) (gs : Nat) (s : St) (c i1 i2 k : Int) (hS : w.heap[gs]? = some (.cells (aA s) 151 (0, 0))) (hl : s.length = 18) (h8 : (Go.bits .and .u16 c 8 != 0) = true) :
 Calls Try.prog 161 #[.pointer (some ⟨gs, 0, none⟩), .agg #[.int .u16 c, .int .u8 i1, .int .u8 i2, .int .u32 k]] w fun e w' => e = .returned (.tuple #[.bool false, .bool false]) ∧ Below w.heap.size w w' := by
 have hlt := av hS
 have HS := aa.mk hS
 clear hS
 go_enter Try.func161, Try.ntmps161
 go_wp2
 go_ret2
 exact ⟨rfl, ai (Below.refl _ _) _⟩
theorem dec_53y (w : World) (gs : Nat) (s : St) (i1 i2 k : Int) (hS : w.heap[gs]? = some (.cells (aA s) 151 (0, 0))) (hl : s.length = 18) (e0 : gS s 0 = none) (hk : (k == 0) = true) :
 Calls Try.prog 161 #[.pointer (some ⟨gs, 0, none⟩), .agg #[.int .u16 53, .int .u8 i1, .int .u8 i2, .int .u32 k]] w fun e w' => e = .returned (.tuple #[.bool true, .bool true]) ∧ Below w.heap.size w w' := by
 have c0 : _ = some (Value.bool false) := (ae hS 0).trans ((di (s := s) (i := 0) (by omega)).trans (by rw [e0]; rfl))
 have hlt := av hS
 have HS := aa.mk hS
 clear hS
 go_enter Try.func161, Try.ntmps161
 go_wp2
 go_ret2
 exact ⟨rfl, ai (Below.refl _ _) _⟩
theorem dec_53n (w : World) (gs : Nat) (s : St) (i1 i2 k : Int) (hS : w.heap[gs]? = some (.cells (aA s) 151 (0, 0))) (hl : s.length = 18) (e0 : gS s 0 = none) (hk : (k == 0) = false) :
 Calls Try.prog 161 #[.pointer (some ⟨gs, 0, none⟩), .agg #[.int .u16 53, .int .u8 i1, .int .u8 i2, .int .u32 k]] w fun e w' => e = .returned (.tuple #[.bool false, .bool false]) ∧ Below w.heap.size w w' := by
 have c0 : _ = some (Value.bool false) := (ae hS 0).trans ((di (s := s) (i := 0) (by omega)).trans (by rw [e0]; rfl))
 have hlt := av hS
 have HS := aa.mk hS
 clear hS
 go_enter Try.func161, Try.ntmps161
 go_wp2
 go_ret2
 exact ⟨rfl, ai (Below.refl _ _) _⟩
theorem dec_37y (w : World) (gs : Nat) (s : St) (i1 i2 k : Int) (hS : w.heap[gs]? = some (.cells (aA s) 151 (0, 0))) (hl : s.length = 18) (e0 : gS s 0 = none) (hk : (k == 4294967295) = true) :
 Calls Try.prog 161 #[.pointer (some ⟨gs, 0, none⟩), .agg #[.int .u16 37, .int .u8 i1, .int .u8 i2, .int .u32 k]] w fun e w' => e = .returned (.tuple #[.bool false, .bool true]) ∧ Below w.heap.size w w' := by
 have c0 : _ = some (Value.bool false) := (ae hS 0).trans ((di (s := s) (i := 0) (by omega)).trans (by rw [e0]; rfl))
 have hlt := av hS
 have HS := aa.mk hS
 clear hS
 go_enter Try.func161, Try.ntmps161
 go_wp2
 go_ret2
 exact ⟨rfl, ai (Below.refl _ _) _⟩
theorem dec_37n (w : World) (gs : Nat) (s : St) (i1 i2 k : Int) (hS : w.heap[gs]? = some (.cells (aA s) 151 (0, 0))) (hl : s.length = 18) (e0 : gS s 0 = none) (hk : (k == 4294967295) = false) :
 Calls Try.prog 161 #[.pointer (some ⟨gs, 0, none⟩), .agg #[.int .u16 37, .int .u8 i1, .int .u8 i2, .int .u32 k]] w fun e w' => e = .returned (.tuple #[.bool false, .bool false]) ∧ Below w.heap.size w w' := by
 have c0 : _ = some (Value.bool false) := (ae hS 0).trans ((di (s := s) (i := 0) (by omega)).trans (by rw [e0]; rfl))
 have hlt := av hS
 have HS := aa.mk hS
 clear hS
 go_enter Try.func161, Try.ntmps161
 go_wp2
 go_ret2
 exact ⟨rfl, ai (Below.refl _ _) _⟩
theorem dec_69y (w : World) (gs : Nat) (s : St) (i1 i2 k : Int) (hS : w.heap[gs]? = some (.cells (aA s) 151 (0, 0))) (hl : s.length = 18) (e0 : gS s 0 = none) (hk : (k == 0) = true) :
 Calls Try.prog 161 #[.pointer (some ⟨gs, 0, none⟩), .agg #[.int .u16 69, .int .u8 i1, .int .u8 i2, .int .u32 k]] w fun e w' => e = .returned (.tuple #[.bool false, .bool true]) ∧ Below w.heap.size w w' := by
 have c0 : _ = some (Value.bool false) := (ae hS 0).trans ((di (s := s) (i := 0) (by omega)).trans (by rw [e0]; rfl))
 have hlt := av hS
 have HS := aa.mk hS
 clear hS
 go_enter Try.func161, Try.ntmps161
 go_wp2
 go_ret2
 exact ⟨rfl, ai (Below.refl _ _) _⟩
theorem dec_69n (w : World) (gs : Nat) (s : St) (i1 i2 k : Int) (hS : w.heap[gs]? = some (.cells (aA s) 151 (0, 0))) (hl : s.length = 18) (e0 : gS s 0 = none) (hk : (k == 0) = false) :
 Calls Try.prog 161 #[.pointer (some ⟨gs, 0, none⟩), .agg #[.int .u16 69, .int .u8 i1, .int .u8 i2, .int .u32 k]] w fun e w' => e = .returned (.tuple #[.bool false, .bool false]) ∧ Below w.heap.size w w' := by
 have c0 : _ = some (Value.bool false) := (ae hS 0).trans ((di (s := s) (i := 0) (by omega)).trans (by rw [e0]; rfl))
 have hlt := av hS
 have HS := aa.mk hS
 clear hS
 go_enter Try.func161, Try.ntmps161
 go_wp2
 go_ret2
 exact ⟨rfl, ai (Below.refl _ _) _⟩
theorem dec_21 (w : World) (gs : Nat) (s : St) (i1 i2 k : Int) (hS : w.heap[gs]? = some (.cells (aA s) 151 (0, 0))) (hl : s.length = 18) (e0 : gS s 0 = none) :
 Calls Try.prog 161 #[.pointer (some ⟨gs, 0, none⟩), .agg #[.int .u16 21, .int .u8 i1, .int .u8 i2, .int .u32 k]] w fun e w' => e = .returned (.tuple #[.bool false, .bool false]) ∧ Below w.heap.size w w' := by
 have c0 : _ = some (Value.bool false) := (ae hS 0).trans ((di (s := s) (i := 0) (by omega)).trans (by rw [e0]; rfl))
 have hlt := av hS
 have HS := aa.mk hS
 clear hS
 go_enter Try.func161, Try.ntmps161
 go_wp2
 go_ret2
 exact ⟨rfl, ai (Below.refl _ _) _⟩
theorem dec_k (w : World) (gs : Nat) (s : St) (c v i1 i2 k : Int) (hS : w.heap[gs]? = some (.cells (aA s) 151 (0, 0))) (hl : s.length = 18) (e0 : gS s 0 = some v) (h8 : (Go.bits .and .u16 c 8 != 0) = false) (r : Bool) (hr : PA.fO.f c v k = some r) :
 Calls Try.prog 161 #[.pointer (some ⟨gs, 0, none⟩), .agg #[.int .u16 c, .int .u8 i1, .int .u8 i2, .int .u32 k]] w fun e w' => e = .returned (.tuple #[.bool r, .bool true]) ∧ Below w.heap.size w w' := by
 have c0 : _ = some (Value.bool true) := (ae hS 0).trans ((di (s := s) (i := 0) (by omega)).trans (by rw [e0]; rfl))
 have c1 : _ = some (Value.int .u32 v) := (ae hS 1).trans ((gM (s := s) (i := 0) (by omega)).trans (by rw [e0]; rfl))
 have HC := aa.mk (fun W => PA.fO.calls c v k r W hr)
 clear hr
 have hlt := av hS
 have HS := aa.mk hS
 clear hS
 go_enter Try.func161, Try.ntmps161
 go_upto_region 4 with (fail)
 refine forget (fun W => ∃ gi, gi = w.heap.size ∧ Below w.heap.size w W ∧ W.heap[gi]? = some (.cells #[.int .u16 c, .int .u8 i1, .int .u8 i2, .int .u32 k] 45 (0, 0))) ⟨_, rfl, ai (Below.refl _ _) _, heap_alloc_new _ _⟩ ?_
 rintro W ⟨gi, egi, hb, hi⟩
 rw [← egi]
 have x1 := au hb c1
 have y0 : _ = some (Value.int .u16 c) := (ae hi 0).trans rfl
 have y3 : _ = some (Value.int .u32 k) := (ae hi 3).trans rfl
 have HB := aa.mk hb
 have EG := aa.mk egi
 clear hb hi egi c0 c1
 go_quiet ((go_at_call 157; exact Calls.quiet_of ((HC.out _).mono fun _ _ ⟨he, ⟨m, hm⟩⟩ => ⟨he, m, hm⟩)))
 go_wp2
 go_ret2
 exact ⟨rfl, ay HB.out (aD (Below.refl _ _) _)⟩
theorem iK (w : World) (gs : Nat) (s : St) (l : S45) (hS : w.heap[gs]? = some (.cells (aA s) 151 (0, 0))) (hl : s.length = 18) (hj : jmB l.f0 = true) :
 Calls Try.prog 161 #[.pointer (some ⟨gs, 0, none⟩), eF l] w fun e w' => e = .returned (.tuple #[.bool ((jA s l).getD false), .bool (jA s l).isSome]) ∧ Below w.heap.size w w' := by
 obtain ⟨c, i1, i2, k⟩ := l
 dsimp only at hj
 have hm : c ∈ ([21, 29, 37, 45, 53, 61, 69, 77] : List Int) := of_decide_eq_true hj
 unfold jA
 dsimp only
 by_cases hx : c ∈ tX
 · have H : ∀ c ∈ tX, (Go.bits .and .u16 c 8 != 0) = true := by decide +kernel
   rw [if_pos hx]; exact dec_x w gs s c i1 i2 k hS hl (H c hx)
 rw [if_neg hx]
 simp only [tX, List.mem_cons, List.not_mem_nil, or_false] at hm hx
 have hc : c = 21 ∨ c = 37 ∨ c = 53 ∨ c = 69 := by omega
 cases e : gS s 0 with
 | some a =>
  refine dec_k w gs s c a i1 i2 k hS hl e ?_ _ (holds_f hj (by simp only [tX, List.mem_cons, List.not_mem_nil, or_false]; omega))
  rcases hc with rfl | rfl | rfl | rfl <;> decide +kernel
 | none =>
  dsimp only
  rcases hc with rfl | rfl | rfl | rfl
  · rw [if_neg (by omega), if_neg (by omega)]; exact dec_21 w gs s i1 i2 k hS hl e
  · rw [if_neg (by omega)]
    by_cases q : k = 4294967295
    · rw [if_pos (.inl ⟨rfl, q⟩)]; exact dec_37y w gs s i1 i2 k hS hl e (iq q)
    rw [if_neg (by omega)]; exact dec_37n w gs s i1 i2 k hS hl e (bf q)
  · by_cases q : k = 0
    · rw [if_pos ⟨rfl, q⟩]; exact dec_53y w gs s i1 i2 k hS hl e (iq q)
    rw [if_neg (by omega), if_neg (by omega)]; exact dec_53n w gs s i1 i2 k hS hl e (bf q)
  rw [if_neg (by omega)]
  by_cases q : k = 0
  · rw [if_pos (.inr ⟨rfl, q⟩)]; exact dec_69y w gs s i1 i2 k hS hl e (iq q)
  rw [if_neg (by omega)]; exact dec_69n w gs s i1 i2 k hS hl e (bf q)
def fG (of : List Int) (nx : Int) : Array Value := ((of ++ [nx]).map (fun v => Value.int .i64 v)).toArray
theorem um {of : List Int} {nx : Int} {i : Nat} (h : i < of.length) : (fG of nx)[i]? = some (.int .i64 (of.getD i 0)) := by
 unfold fG
 rw [List.getElem?_toArray, List.getElem?_map, List.getElem?_append_left h, List.getD_eq_getElem?_getD, List.getElem?_eq_getElem h]; rfl
theorem oc_nx {of : List Int} {nx : Int} (h : of.length = 18) : (fG of nx)[18]? = some (.int .i64 nx) := by
 unfold fG
 rw [List.getElem?_toArray, List.getElem?_map, List.getElem?_append_right (by omega), h]; rfl
theorem zB {of : List Int} {nx : Int} {i : Nat} (v : Int) (h : i < of.length) : (fG of nx).setIfInBounds i (.int .i64 v) = fG (of.set i v) nx := by
 unfold fG
 rw [List.setIfInBounds_toArray, ← List.map_set, List.set_append_left _ _ h]
theorem oc_setn {of : List Int} {nx : Int} (v : Int) (h : of.length = 18) : (fG of nx).setIfInBounds 18 (.int .i64 v) = fG of v := by
 unfold fG
 rw [List.setIfInBounds_toArray, ← List.map_set, List.set_append_right _ _ (by omega), h]; rfl
theorem nk (w : World) (gm : Nat) (of : List Int) (nx : Int) (t : Nat) (hM : w.heap[gm]? = some (.cells (fG of nx) 160 (0, 0))) (hl : of.length = 18) (ht : t < 18) (hn : 0 ≤ nx ∧ nx < 4294967296) :
 Calls Try.prog 130 #[.pointer (some ⟨gm, 0, none⟩), .int .i64 (t : Int)] w fun e w' => e = .returned (.tuple #[]) ∧ w'.heap[gm]? = some (.cells (fG (of.set t (nx + 1)) (nx + 1)) 160 (0, 0)) ∧ Kp (fun k => k = gm) w w' := by
 have hwr : wrap64 (nx + 1) = nx + 1 := w64 (by omega) (by omega)
 have c18 := (ae hM 18).trans (oc_nx hl)
 have ct := (ae hM t).trans (um (by omega))
 have f18 := af hM 18
 have ft := af hM t
 have hlt := av hM
 have h0 : (0 : Int) ≤ (t : Int) := by omega
 have h1 : (t : Int) < 18 := by omega
 have hne : ¬ t = 18 := by omega
 have hne2 : ¬ 18 = t := by omega
 have HM := aa.mk hM
 have HW := aa.mk hwr
 clear hM hwr
 go_enter Try.func130, Try.ntmps130
 go_wp2
 go_region
 go_wp2
 go_end0
 refine ⟨rfl, ?_, ?_⟩
 · exact ah (aQ (aQ HM.out 18 _ (oc_setn _ hl)) t _ (zB _ (by omega))) (by repeat (first | (with_reducible exact Below.refl _ _) | apply ak))
 exact (Kp.set (S := fun k => k = gm) (g := gm) (Kp.set (S := fun k => k = gm) (g := gm) (Kp.refl _ w) (.inl rfl) _ _) (.inl rfl) _ _).below (by repeat (first | (with_reducible exact Below.refl _ _) | apply ak))
theorem lQ (w : World) (gm : Nat) (of : List Int) (nx : Int) (t f : Nat) (hM : w.heap[gm]? = some (.cells (fG of nx) 160 (0, 0))) (hl : of.length = 18) (ht : t < 18) (hf : f < 18) :
 Calls Try.prog 132 #[.pointer (some ⟨gm, 0, none⟩), .int .i64 (t : Int), .int .i64 (f : Int)] w fun e w' => e = .returned (.bool (of.getD t 0 != of.getD f 0)) ∧ w'.heap[gm]? = some (.cells (fG (of.set t (of.getD f 0)) nx) 160 (0, 0)) ∧ Kp (fun k => k = gm) w w' := by
 have ct := (ae hM t).trans (um (by omega))
 have cf := (ae hM f).trans (um (by omega))
 have ft := af hM t
 have hlt := av hM
 have h0 : (0 : Int) ≤ (t : Int) := by omega
 have h1 : (t : Int) < 18 := by omega
 have h2 : (0 : Int) ≤ (f : Int) := by omega
 have h3 : (f : Int) < 18 := by omega
 have HM := aa.mk hM
 clear hM
 generalize of.getD t 0 = vt at ct ⊢
 obtain ⟨vf, evf⟩ : ∃ v, v = of.getD f 0 := ⟨_, rfl⟩
 rw [← evf] at cf ⊢
 have EV := aa.mk evf
 clear evf
 go_enter Try.func132, Try.ntmps132
 go_wp2
 go_region
 go_wp2
 go_region
 go_wp2
 go_ret
 refine ⟨rfl, ?_, ?_⟩
 · exact ah (aQ (ah HM.out (by repeat (first | (with_reducible exact Below.refl _ _) | apply ak))) t _ (zB _ (by omega))) (by repeat (first | (with_reducible exact Below.refl _ _) | apply ak))
 exact (Kp.set (S := fun k => k = gm) (g := gm) ((Kp.refl _ w).below (by repeat (first | (with_reducible exact Below.refl _ _) | apply ak))) (.inl rfl) _ _).below (by repeat (first | (with_reducible exact Below.refl _ _) | apply ak))
def Blk (w : World) (g T z : Nat) : Prop := ∃ cells : Array Value, w.heap[g]? = some (.cells cells T (0, 0)) ∧ z ≤ cells.size
theorem Blk.cell {w : World} {g T z : Nat} (h : Blk w g T z) (j : Nat) (hj : j < z) : (∃ u, w.cell? ⟨g, j, none⟩ = some u) ∧ w.frozen? ⟨g, j, none⟩ = false := by
 obtain ⟨cells, hh, hz⟩ := h
 refine ⟨⟨cells[j]'(by omega), ?_⟩, af hh j⟩
 have := ae hh j
 rw [this]
 exact Array.getElem?_eq_getElem (by omega)
theorem Blk.set {w : World} {g T z : Nat} (h : Blk w g T z) (b j : Nat) (u : Value) : Blk (w.setCell ⟨b, j, none⟩ u) g T z := by
 obtain ⟨cells, hh, hz⟩ := h
 by_cases e : g = b
 · subst e
   exact ⟨_, aQ hh j u rfl, by rw [Array.size_setIfInBounds]; exact hz⟩
 exact ⟨cells, (Below.heap_setCell w ⟨b, j, none⟩ u g e).trans hh, hz⟩
theorem Blk.lt {w : World} {g T z : Nat} (h : Blk w g T z) : g < w.heap.size := by
 obtain ⟨cells, hh, _⟩ := h
 exact av hh
theorem Blk.kp {S : Nat → Prop} {w w1 : World} {g T z : Nat} (h : Blk w g T z) (k : Kp S w w1) (hS : ¬ S g) : Blk w1 g T z := by
 obtain ⟨cells, hh, hz⟩ := h
 exact ⟨cells, (k.block g (av hh) hS).trans hh, hz⟩
theorem Blk.below {w w1 : World} {g T z : Nat} (h : Blk w g T z) (hb : Below w.heap.size w w1) : Blk w1 g T z := by
 obtain ⟨cells, hh, hz⟩ := h
 exact ⟨cells, ah hh hb, hz⟩
theorem Blk.mono {w : World} {g T z z' : Nat} (h : Blk w g T z) (hz : z' ≤ z) : Blk w g T z' := by
 obtain ⟨cells, hh, hz1⟩ := h
 exact ⟨cells, hh, by omega⟩
theorem R_blk {α : Type} {d : Kd α} {e base : Nat} {ok : Nat → Prop} {w : World} {g n c : Nat} {xs : List α} (h : d.R e w base ok (.slice (some ⟨g, 0, none⟩) n c) xs) : Blk w g e (c * d.sz) ∧ base ≤ g ∧ n ≤ c ∧ c ≤ maxLen := by
 obtain ⟨_, inner, ho, _⟩ := h
 rcases ho.2 with ⟨he, _⟩ | ⟨g', cap, cur, he, hb, hh, hnc, hcm, hcs, ht⟩
 · cases he
 injection he with h1 h2 h3
 injection h1 with h1
 injection h1 with h1
 subst h1 h3
 exact ⟨⟨cur, hh, by omega⟩, hb, by omega, hcm⟩
theorem Blk.setCells {g T z : Nat} : ∀ (vs : List Value) (w : World) (b o : Nat), Blk w g T z → Blk (w.setCells b o vs) g T z
 | [], w, b, o, h => h
 | v :: vs, w, b, o, h => Blk.setCells vs _ b (o + 1) (h.set b o v)
theorem Kp.setCells {S : Nat → Prop} {w0 : World} : ∀ (vs : List Value) (w : World) (b o : Nat), Kp S w0 w → (S b ∨ w0.heap.size ≤ b) → Kp S w0 (w.setCells b o vs)
 | [], w, b, o, h, hs => h
 | v :: vs, w, b, o, h, hs => Kp.setCells vs _ b (o + 1) (h.set hs o v) hs
def marks : List S45 := [⟨7, 0, 0, 77⟩, ⟨7, 0, 0, 77⟩, ⟨7, 0, 0, 77⟩]
def kw (w : World) (g : Nat) (code : List S45) (c : Nat) : Prop := k45.R 45 w 0 (fun k => k = g) (.slice (some ⟨g, 0, none⟩) (code.length + 3) c) (code ++ marks)
theorem kw.move {w w1 : World} {g c : Nat} {code : List S45} (h : kw w g code c) (hm : w1.heap[g]? = w.heap[g]?) : kw w1 g code c := Kd.oC h (fun k hk => by rw [hk]; exact hm)
theorem kw.lt {w : World} {g c : Nat} {code : List S45} (h : kw w g code c) : g < w.heap.size := Kd.R_lt h g rfl
theorem kw.read {w : World} {g c : Nat} {code : List S45} (h : kw w g code c) : Kd.C k45 w (some ⟨g, 0, none⟩) code.length code ∧ code.length + 3 ≤ c ∧ c ≤ maxLen ∧ Blk w g 45 (c * 4) ∧ Kd.C k45 w (some ⟨g, code.length * 4, none⟩) 3 marks := by
 have h1 := Kd.iw h
 have h2 := R_blk h
 have h3 := Kd.xe h1.2.2 (m := code.length) (by simp)
 have h4 := Kd.C_drop h1.2.2 (m := code.length) (c := c) (by simp) (by rw [← h1.1]; exact h2.2.2.1)
 rw [List.take_left] at h3
 rw [List.drop_left, if_neg (by omega)] at h4
 refine ⟨h3, h2.2.2.1, h2.2.2.2, h2.1, ?_⟩
 have e : (some (⟨g, 0, none⟩ : Addr)).map (·.add (code.length * k45.sz)) = some ⟨g, code.length * 4, none⟩ := by
  show some ((⟨g, 0, none⟩ : Addr).add (code.length * 4)) = _
  rw [Go.WideShapes.add_plain, Nat.zero_add]
 rw [e] at h4
 exact h4
def pU (b : S47) (p : Nat × Nat) : List Value := [.slice (some ⟨p.1, 0, none⟩) b.f0.length p.2, .int .i64 b.f1, .int .u16 b.f2.f0, .int .u8 b.f2.f1, .int .u8 b.f2.f2, .int .u32 b.f2.f3, .int .i64 b.f3, .int .i64 b.f4]
def rowE : List Value := [.slice none 0 0, .int .i64 77, .int .u16 0, .int .u8 0, .int .u8 0, .int .u32 0, .int .i64 0, .int .i64 0]
structure iP (w : World) (base : Nat) (v : Value) (g : List S47) (bs : List (Nat × Nat)) (more : List (List Value)) : Prop where
 len : bs.length = g.length
 row : (Kd.raw 8).R 47 w base (fun _ => True) v (List.zipWith pU g bs ++ more)
 inn : ∀ (i : Nat) (b : S47) (p : Nat × Nat), g[i]? = some b → bs[i]? = some p → kw w p.1 b.f0 p.2
 sep : bs.Pairwise (fun p q => p.1 ≠ q.1)
 lo : ∀ p ∈ bs, base ≤ p.1
theorem kw.typed {w : World} {g c : Nat} {code : List S45} (h : kw w g code c) : ∃ cells, w.heap[g]? = some (.cells cells 45 (0, 0)) := Kd.uO h g rfl
theorem iP.nil (w : World) (base : Nat) : iP w base (.slice none 0 0) [] [] [] := ⟨rfl, Kd.kE _ _ _ _ _, fun i b p h => by simp at h, List.Pairwise.nil, fun p h => by cases h⟩
theorem iP.below {w w1 : World} {base : Nat} {v : Value} {g : List S47} {bs : List (Nat × Nat)} {more : List (List Value)} (H : iP w base v g bs more) (hb : Below w.heap.size w w1) : iP w1 base v g bs more :=
 ⟨H.len, Kd.gT H.row hb, fun i b p h1 h2 => (H.inn i b p h1 h2).move (hb.block _ (H.inn i b p h1 h2).lt), H.sep, H.lo⟩
theorem iP.grown {w w1 : World} {base : Nat} {v v1 : Value} {g : List S47} {bs : List (Nat × Nat)} {more more1 : List (List Value)} (H : iP w base v g bs more) (hg : w.grownBy w1 v.ownBlock)
 (ho : (Kd.raw 8).R 47 w1 base (fun _ => True) v1 (List.zipWith pU g bs ++ more1)) : iP w1 base v1 g bs more1 := by
 refine ⟨H.len, ho, fun i b p h1 h2 => ?_, H.sep, H.lo⟩
 have hi := H.inn i b p h1 h2
 obtain ⟨cells, hc⟩ := hi.typed
 exact hi.move (hg.block _ hi.lt (Kd.vR H.row hc (by decide)))
theorem iP.snoc {w : World} {base : Nat} {v : Value} {g : List S47} {bs : List (Nat × Nat)} {b : S47} {p : Nat × Nat} (H : iP w base v g bs [pU b p]) (hi : kw w p.1 b.f0 p.2) (hn : ∀ q ∈ bs, q.1 ≠ p.1) (hl : base ≤ p.1) : iP w base v (g ++ [b]) (bs ++ [p]) [] := by
 refine ⟨by rw [List.length_append, List.length_append, H.len]; rfl, ?_, fun i b' p' h1 h2 => ?_, ?_, ?_⟩
 · rw [List.append_nil, List.zipWith_append H.len.symm]
   exact H.row
 · by_cases h : i < g.length
   · rw [List.getElem?_append_left h] at h1
     rw [List.getElem?_append_left (by have := H.len; omega)] at h2
     exact H.inn i b' p' h1 h2
   have hl := H.len
   rw [List.getElem?_append_right (by omega)] at h1 h2
   rw [hl] at h2
   have h0 : i - g.length = 0 := by
    have := (List.getElem?_eq_some_iff.1 h1).1
    simp at this
    omega
   rw [h0] at h1 h2
   have e1 : b = b' := by simpa using h1
   have e2 : p = p' := by simpa using h2
   rw [← e1, ← e2]
   exact hi
 · refine List.pairwise_append.2 ⟨H.sep, List.pairwise_singleton _ _, fun q hq r hr => ?_⟩
   rw [List.mem_singleton.1 hr]
   exact hn q hq
 intro q hq
 rcases List.mem_append.1 hq with h | h
 · exact H.lo q h
 rw [List.mem_singleton.1 h]; exact hl
theorem iP.rowAt {w : World} {base gb n cap : Nat} {g : List S47} {bs : List (Nat × Nat)} {more : List (List Value)} (H : iP w base (.slice (some ⟨gb, 0, none⟩) n cap) g bs more) {j : Nat} {r : List Value} (hj : (List.zipWith pU g bs ++ more)[j]? = some r) :
 r.length = 8 ∧ ∀ i u, r[i]? = some u → w.cell? ⟨gb, j * 8 + i, none⟩ = some u := by
 have hC := (Kd.iw H.row).2.2
 obtain ⟨_, _, hr⟩ := hC
 have hl := (List.getElem?_eq_some_iff.1 hj).1
 obtain ⟨ad, e, hc⟩ := hr (by omega)
 obtain rfl : (⟨gb, 0, none⟩ : Addr) = ad := by injection e
 obtain ⟨c, hcl, hk, hcc⟩ := hc j r hj
 obtain rfl : c = r := hk.1
 refine ⟨hcl, fun i u hu => ?_⟩
 have := hcc i u hu
 rw [Go.WideShapes.add_plain, Nat.zero_add] at this
 exact this
theorem iP.at {w : World} {base gb n cap : Nat} {g : List S47} {bs : List (Nat × Nat)} {more : List (List Value)} (H : iP w base (.slice (some ⟨gb, 0, none⟩) n cap) g bs more) {j : Nat} {b : S47} {p : Nat × Nat} (hb : g[j]? = some b) (hp : bs[j]? = some p) : (List.zipWith pU g bs ++ more)[j]? = some (pU b p) := by
 have h1 := (List.getElem?_eq_some_iff.1 hb).1
 have h2 := (List.getElem?_eq_some_iff.1 hp).1
 rw [List.getElem?_append_left (by rw [List.length_zipWith]; omega), List.getElem?_zipWith, hb, hp]
theorem iP.C {w : World} {base gb n cap : Nat} {g : List S47} {bs : List (Nat × Nat)} {more : List (List Value)} (H : iP w base (.slice (some ⟨gb, 0, none⟩) n cap) g bs more) (hl : g.length ≤ 9223372036854775807) : Kd.C k47 w (some ⟨gb, 0, none⟩) g.length g := by
 refine ⟨rfl, hl, fun _ => ⟨_, rfl, fun j b hb => ?_⟩⟩
 have hjl := (List.getElem?_eq_some_iff.1 hb).1
 have hlen := H.len
 obtain ⟨p, hp⟩ : ∃ p, bs[j]? = some p := ⟨bs[j]'(by omega), List.getElem?_eq_getElem (by omega)⟩
 have hr := H.rowAt (H.at hb hp)
 have hi := (H.inn j b p hb hp).read
 refine ⟨pU b p, rfl, za w b (by have := hi.2.1; omega) hi.1, fun i u hu => ?_⟩
 rw [Go.WideShapes.add_plain, Nat.zero_add]
 exact hr.2 i u hu
structure KB (w wr : World) (base h1 gb n cap : Nat) (g : List S47) (bs : List (Nat × Nat)) (i : Nat) : Prop where
 kp : Kp (fun k => base ≤ k ∧ k < h1) w wr
 row : (Kd.raw 8).R 47 wr base (fun _ => True) (.slice (some ⟨gb, 0, none⟩) n cap) (List.zipWith pU g bs ++ [rowE, rowE])
 inn : ∀ (j : Nat) (b : S47) (p : Nat × Nat), i ≤ j → g[j]? = some b → bs[j]? = some p → kw wr p.1 b.f0 p.2
theorem Kp.cell {S : Nat → Prop} {w w1 : World} (h : Kp S w w1) {a : Addr} {u : Value} (hc : w.cell? a = some u) (hS : ¬ S a.block) : w1.cell? a = some u :=
 (World.cell?_of_block (h.block a.block (World.block_lt_of_cell? w a hc) hS)).trans hc
theorem KB.cell {w wr : World} {base h1 gb n cap : Nat} {g : List S47} {bs : List (Nat × Nat)} {i : Nat} {b : S47} {p : Nat × Nat} (H : KB w wr base h1 gb n cap g bs i) (hb : g[i]? = some b) (hp : bs[i]? = some p) : wr.cell? ⟨gb, i * 8, none⟩ = some (.slice (some ⟨p.1, 0, none⟩) b.f0.length p.2) := by
 have hC := (Kd.iw H.row).2.2
 obtain ⟨_, _, hr⟩ := hC
 have h1 := (List.getElem?_eq_some_iff.1 hb).1
 have h2 := (List.getElem?_eq_some_iff.1 hp).1
 obtain ⟨ad, e, hc⟩ := hr (by simp)
 obtain rfl : (⟨gb, 0, none⟩ : Addr) = ad := by injection e
 obtain ⟨c, hcl, hk, hcc⟩ := hc i (pU b p) (by rw [List.getElem?_append_left (by rw [List.length_zipWith]; omega), List.getElem?_zipWith, hb, hp])
 obtain rfl : c = pU b p := hk.1
 have := hcc 0 _ rfl
 rw [Go.WideShapes.add_plain, Nat.zero_add] at this
 exact this
theorem KB.next {w wr w2 : World} {base h1 gb n cap : Nat} {g : List S47} {bs : List (Nat × Nat)} {i : Nat} {b : S47} {p : Nat × Nat} (H : KB w wr base h1 gb n cap g bs i) (hsep : bs.Pairwise (fun p q => p.1 ≠ q.1)) (hb : g[i]? = some b) (hp : bs[i]? = some p) (hlo : base ≤ p.1) (hhi : p.1 < h1)
 (k : Kp (fun x => x = p.1) wr w2) : KB w w2 base h1 gb n cap g bs (i + 1) := by
 obtain ⟨cells, hc⟩ := (H.inn i b p (Nat.le_refl _) hb hp).typed
 refine ⟨H.kp.trans ⟨k.os, k.tape, k.output, k.size, fun x hx hS => k.block x hx (fun e => hS (by rw [e]; exact ⟨hlo, hhi⟩))⟩, ?_, fun j b' p' hj h1 h2 => ?_⟩
 · refine vQ H.row (S := fun x => x = p.1) (fun x e => .inl ⟨_, _, _, e ▸ hc, by decide⟩) k
 have hi := H.inn j b' p' (by omega) h1 h2
 refine hi.move (k.block _ hi.lt (fun e => ?_))
 have hne := List.pairwise_iff_getElem.1 hsep i j (List.getElem?_eq_some_iff.1 hp).1 (List.getElem?_eq_some_iff.1 h2).1 (by omega)
 rw [(List.getElem?_eq_some_iff.1 hp).2, (List.getElem?_eq_some_iff.1 h2).2] at hne
 exact hne e.symm
def b8 (p : Value × S47) : List Value := [p.1, .int .i64 p.2.f1, .int .u16 p.2.f2.f0, .int .u8 p.2.f2.f1, .int .u8 p.2.f2.f2, .int .u32 p.2.f2.f3, .int .i64 p.2.f3, .int .i64 p.2.f4]
def bv (bs : List (Value × S47)) (tl : List Value) : Array Value := (bs.flatMap b8 ++ tl).toArray
theorem rE (bs : List (Value × S47)) : (bs.flatMap b8).length = bs.length * 8 := by
 induction bs with
 | nil => rfl
 | cons a r ih => rw [List.flatMap_cons, List.length_append, ih, List.length_cons]; show 8 + _ = _; omega
theorem rc_fm : ∀ (bs : List (Value × S47)) (n : Nat) (p : Value × S47), bs[n]? = some p → ∀ j, j < 8 → (bs.flatMap b8)[n * 8 + j]? = (b8 p)[j]? := by
 intro bs
 induction bs with
 | nil => intro n p h; simp at h
 | cons a r ih =>
  intro n p h j hj
  rw [List.flatMap_cons]
  have hl : (b8 a).length = 8 := rfl
  cases n with
  | zero =>
   cases h
   rw [Nat.zero_mul, Nat.zero_add, List.getElem?_append_left (by omega)]
  | succ n =>
   rw [List.getElem?_append_right (by omega), hl, show (n + 1) * 8 + j - 8 = n * 8 + j by omega]
   exact ih n p h j hj
theorem l6 {bs : List (Value × S47)} {n : Nat} {p : Value × S47} (h : bs[n]? = some p) : n < bs.length := (List.getElem?_eq_some_iff.1 h).1
theorem aH {bs : List (Value × S47)} {tl : List Value} {n : Nat} {p : Value × S47} (h : bs[n]? = some p) {j : Nat} (hj : j < 8) : (bv bs tl)[n * 8 + j]? = (b8 p)[j]? := by
 unfold bv; rw [List.getElem?_toArray, List.getElem?_append_left (by rw [rE]; have := l6 h; omega)]; exact rc_fm bs n p h j hj
theorem rc_set1 : ∀ (bs : List (Value × S47)) (n : Nat) (p q : Value × S47) (j : Nat) (v : Value), bs[n]? = some p → j < 8 → (b8 p).set j v = b8 q → (bs.flatMap b8).set (n * 8 + j) v = (bs.set n q).flatMap b8 := by
 intro bs
 induction bs with
 | nil => intro n p q j v h; simp at h
 | cons a r ih =>
  intro n p q j v h hj e
  rw [List.flatMap_cons]
  have hl : (b8 a).length = 8 := rfl
  cases n with
  | zero =>
   cases h
   rw [Nat.zero_mul, Nat.zero_add, List.set_append_left _ _ (by omega), e, List.set_cons_zero, List.flatMap_cons]
  | succ n =>
   rw [List.set_append_right _ _ (by omega), hl, show (n + 1) * 8 + j - 8 = n * 8 + j by omega, ih n p q j v h hj e, List.set_cons_succ, List.flatMap_cons]
theorem rc_set {bs : List (Value × S47)} {tl : List Value} {n : Nat} {p : Value × S47} (h : bs[n]? = some p) (q : Value × S47) {j : Nat} (hj : j < 8) {v : Value} (e : (b8 p).set j v = b8 q) : (bv bs tl).setIfInBounds (n * 8 + j) v = bv (bs.set n q) tl := by
 unfold bv; rw [List.setIfInBounds_toArray, List.set_append_left _ _ (by rw [rE]; have := l6 h; omega), rc_set1 bs n p q j v h hj e]
theorem aN {bs : List (Value × S47)} {n : Nat} {p q : Value × S47} (h : bs[n]? = some p) : (bs.set n q)[n]? = some q := by
 rw [List.getElem?_set_self (l6 h)]
theorem set_set {bs : List (Value × S47)} {n : Nat} {q r : Value × S47} : (bs.set n q).set n r = bs.set n r := List.set_set _
theorem set_self {bs : List (Value × S47)} {n : Nat} {p : Value × S47} (h : bs[n]? = some p) : bs.set n p = bs := by
 apply List.ext_getElem?
 intro i
 rw [List.getElem?_set]
 split
 · rename_i e; subst e; split
   · exact h.symm
   have := l6 h; omega
 rfl
theorem bH {W : World} {gb n j : Nat} {bs : List (Value × S47)} {tl : List Value} {p : Value × S47} (hB : W.heap[gb]? = some (.cells (bv bs tl) 47 (0, 0))) (h : bs[n]? = some p) (q : Value × S47) (hj : j < 8) (v : Value) (e : (b8 p).set j v = b8 q) :
 (W.setCell ⟨gb, n * 8 + j, none⟩ v).heap[gb]? = some (.cells (bv (bs.set n q) tl) 47 (0, 0)) := aQ hB (n * 8 + j) v (rc_set h q hj e)
def i4 (i : S45) : List Value := [.int .u16 i.f0, .int .u8 i.f1, .int .u8 i.f2, .int .u32 i.f3]
theorem j4 (c : List S45) : (c.flatMap i4).length = c.length * 4 := by
 induction c with
 | nil => rfl
 | cons a r ih => rw [List.flatMap_cons, List.length_append, ih, List.length_cons]; show 4 + _ = _; omega
theorem tT : ∀ (c : List S45) (n : Nat) (i : S45), c[n]? = some i → ∀ j, j < 4 → (c.flatMap i4)[n * 4 + j]? = (i4 i)[j]? := by
 intro c
 induction c with
 | nil => intro n p h; simp at h
 | cons a r ih =>
  intro n p h j hj
  rw [List.flatMap_cons]
  have hl : (i4 a).length = 4 := rfl
  cases n with
  | zero =>
   cases h
   rw [Nat.zero_mul, Nat.zero_add, List.getElem?_append_left (by omega)]
  | succ n =>
   rw [List.getElem?_append_right (by omega), hl, show (n + 1) * 4 + j - 4 = n * 4 + j by omega]
   exact ih n p h j hj
structure CdA (w : World) (g cap : Nat) (c : List S45) (tl : List Value) : Prop where
 blk : w.heap[g]? = some (.cells (c.flatMap i4 ++ tl).toArray 45 (0, 0))
 len : c.length ≤ cap
 max : cap ≤ maxLen
 size : (c.flatMap i4 ++ tl).length = cap * 4
def Cd (w : World) (v : Value) (c : List S45) : Prop := (v = .slice none 0 0 ∧ c = []) ∨ ∃ g cap tl, v = .slice (some ⟨g, 0, none⟩) c.length cap ∧ CdA w g cap c tl
theorem reps_i4 {W : World} {base : Nat} {ok : Nat → Prop} : ∀ (c : List S45), fD (k45.M W base ok) 4 c (c.flatMap i4) := by
 intro c
 refine ⟨j4 c, fun j i h => ?_⟩
 have h2 : ((c.flatMap i4).drop (j * 4)).take 4 = i4 i := by
  apply List.ext_getElem?
  intro q
  rw [List.getElem?_take, List.getElem?_drop]
  split
  · rename_i hq; exact tT c j i h q hq
  rename_i hq; exact (List.getElem?_eq_none (by show 4 ≤ q; omega)).symm
 rw [h2]
 exact kT _ _ _ i
theorem i4_reps {W : World} {base : Nat} {ok : Nat → Prop} {c : List S45} {cs : List Value} (h : fD (k45.M W base ok) 4 c cs) : cs = c.flatMap i4 := by
 obtain ⟨h1, h2⟩ := h
 apply List.ext_getElem?
 intro q
 by_cases hq : q < c.length * 4
 · have hj : q / 4 < c.length := by omega
   have h3 := h2 (q / 4) c[q / 4] (List.getElem?_eq_getElem hj)
   have h4 := jW (k45.K_of_M h3)
   have e1 : cs[q]? = ((cs.drop (q / 4 * 4)).take 4)[q % 4]? := by
    rw [List.getElem?_take, List.getElem?_drop, if_pos (by omega)]; congr 1; omega
   rw [e1, h4]
   have e2 := tT c (q / 4) c[q / 4] (List.getElem?_eq_getElem hj) (q % 4) (by omega)
   rw [show q / 4 * 4 + q % 4 = q by omega] at e2
   rw [e2]; rfl
 rw [List.getElem?_eq_none (by omega), List.getElem?_eq_none (by rw [j4]; omega)]
theorem lL {w : World} {base : Nat} {ok : Nat → Prop} {v : Value} {c : List S45} (h : k45.R 45 w base ok v c) : Cd w v c := by
 obtain ⟨_, inner, ho, hr⟩ := h
 obtain rfl := i4_reps hr
 rcases ho.2 with ⟨h1, h2⟩ | ⟨g, cap, cur, h1, _, h3, h4, h5, h6, h7⟩
 · exact .inl ⟨h1, List.eq_nil_of_length_eq_zero h2⟩
 refine .inr ⟨g, cap, cur.toList.drop (c.length * 4), h1, ?_, h4, h5, ?_⟩
 · rw [h3]
   congr 2
   have := List.take_append_drop (c.length * 4) cur.toList
   rw [show cur.toList.take (c.length * 4) = c.flatMap i4 from h7] at this
   rw [this]
 have := List.take_append_drop (c.length * 4) cur.toList
 rw [show cur.toList.take (c.length * 4) = c.flatMap i4 from h7] at this
 rw [this, Array.length_toList, h6]; rfl
theorem nN {w : World} {base : Nat} {ok : Nat → Prop} {v : Value} {c : List S45} (h : Cd w v c) (hb : ∀ g, v.ownBlock = some g → base ≤ g ∧ ok g) : k45.R 45 w base ok v c := by
 refine ⟨fun k hk => (hb k hk).2, c.flatMap i4, ⟨j4 c, ?_⟩, reps_i4 c⟩
 rcases h with ⟨h1, rfl⟩ | ⟨g, cap, tl, h1, h2⟩
 · exact .inl ⟨h1, rfl⟩
 refine .inr ⟨g, cap, _, h1, (hb g (by rw [h1]; rfl)).1, h2.blk, h2.len, h2.max, ?_, ?_⟩
 · rw [List.size_toArray, h2.size]; rfl
 show (c.flatMap i4 ++ tl).take (c.length * 4) = _
 rw [← j4 c, List.take_left]
theorem Cd.slice {w : World} {v : Value} {c : List S45} (h : Cd w v c) : ∃ A cap, v = .slice A c.length cap := by
 rcases h with ⟨h1, rfl⟩ | ⟨g, cap, tl, h1, _⟩
 · exact ⟨none, 0, h1⟩
 exact ⟨_, cap, h1⟩
theorem Cd.kp {S : Nat → Prop} {w w1 : World} {v : Value} {c : List S45} (h : Cd w v c) (k : Kp S w w1) (hS : ∀ g, v.ownBlock = some g → ¬ S g) : Cd w1 v c := by
 rcases h with h | ⟨g, cap, tl, h1, h2⟩
 · exact .inl h
 exact .inr ⟨g, cap, tl, h1, (k.block g (av h2.blk) (hS g (by rw [h1]; rfl))).trans h2.blk, h2.len, h2.max, h2.size⟩
theorem Cd.below {w w1 : World} {v : Value} {c : List S45} (h : Cd w v c) (k : Below w.heap.size w w1) : Cd w1 v c := by
 rcases h with h | ⟨g, cap, tl, h1, h2⟩
 · exact .inl h
 exact .inr ⟨g, cap, tl, h1, ah h2.blk k, h2.len, h2.max, h2.size⟩
theorem Cd.lt {w : World} {v : Value} {c : List S45} (h : Cd w v c) {g : Nat} (hg : v.ownBlock = some g) : ∃ cs, w.heap[g]? = some (.cells cs 45 (0, 0)) := by
 rcases h with ⟨h1, _⟩ | ⟨g', cap, tl, h1, h2⟩
 · rw [h1] at hg; cases hg
 rw [h1] at hg; injection hg with hg; subst hg; exact ⟨_, h2.blk⟩
theorem mi {P : Program} (w : World) {ops : Array Oper} {rest : List Oper} {o : Oper} {a : Act} {Q : Exit → Act → World → Prop}
 (hg : o.guard = none) (s x : Operand) (t : TypeId) (hop : o.op = Op.call { callee := Callee.builtin Builtin.append, args := #[s, x], argTypes := #[t, t] })
 (e : TypeId) (z : Value) (size bytes : Nat) (ht : P.underlying t = some (.slice e)) (hinfo : (P.info? e).map (fun i => (i.zero, i.size, i.bytes)) = some (some z, size, bytes))
 (g n cap : Nat) (hs : a.eval s = .slice (some ⟨g, 0, none⟩) n cap) (cur : Array Value) (hcur : w.heap[g]? = some (.cells cur e (0, 0)))
 (ad : Addr) (m c : Nat) (news : List Value) (hx : a.eval x = .slice (some ad) m c) (hl : news.length = m * size) (hnews : ∀ j u, news[j]? = some u → w.cell? (ad.add j) = some u) (h1 : ∀ u ∈ news, u.oneCell' = true)
 (hroom : n + m ≤ cap) (hfit : n * size + news.length ≤ cur.size)
 (hK : ∀ w', w'.heap[g]? = some (.cells (cur.toList.take (n * size) ++ news ++ cur.toList.drop (n * size + news.length)).toArray e (0, 0)) → Kp (fun k => k = g) w w' → wpList P ops Q rest (a.put o.dst (.slice (some ⟨g, 0, none⟩) (n + m) cap)) w') :
 wpList P ops Q (o :: rest) a w := by
 obtain ⟨i, hi, hzz⟩ := Option.map_eq_some_iff.1 hinfo
 simp only [Prod.mk.injEq] at hzz
 obtain ⟨_, hs1, _⟩ := hzz
 subst hs1
 refine wpList_plain hg fun K hK' => ?_
 have hrun := run_append_room (P := P) w t o.type e i ht hi g n cap cur hcur ad m c news hl hnews h1 hroom hfit
 unfold Oper.wp
 simp [execOp, hop, resolve, invoke, builtin, hs, hx, hrun, Result.andThen]
 rw [← List.append_assoc]
 refine hK' _ _ (hK _ (setRow_heap w g cur _ e _ hcur) ⟨rfl, rfl, rfl, by simp [World.setRow], fun k _ hk => setRow_other w g k _ hk⟩)
end Go.Proofs.Ytdkalnkplgfgoaa.Ln
