/- LineRuns: of any graph that can be laid out, and any packet, the program comes to the same Value and Fault, in no fewer steps. Conditions: none. -/
import Derived.Test.YtdkalnkplgfgoaaRows
import Derived.WalkKit
import Derived.ProofKit
import Derived.OpenShut
import Derived.ShutString
import Derived.ChangeOld
import Derived.Below
import Derived.SizedLaws
import Derived.Test.YtdkalnkplgfgoaaZRl
namespace Go.Proofs.Ytdkalnkplgfgoaa.lineRuns
open Go.ChangeShapes Go.WideShapes Go.ChangeAt Go.RowKit Go.Proofs.Ytdkalnkplgfgoaa.PA Go.Proofs.Ytdkalnkplgfgoaa.Ln Go.Proofs.Ytdkalnkplgfgoaa.Rd Go.Proofs.YtdkalnkplgfgoaaW.PrintWords
set_option linter.unusedVariables false
theorem own : ownKnob Try.prog.godebug = none := by kernel_rfl
theorem laidOut : laidOutB Try.prog = true := by kernel_rfl
theorem reach_eq : reachBytes = 140737488351232 := by decide
set_option maxRecDepth 100000 in
theorem lifted (os : Os) (started : os.Started) (H : Type) (enc : TypeId × Value → H) :
    ReturnsInHanded {} Try.checked os 4 .any (Rows.lineRunsSpec.pre6 enc Try.prog Try.f4 Rows.lineRunsRow.domain false) (Rows.lineRunsSpec.post enc Try.prog Try.f4 false true false false) := by
  refine returnsInHanded_of_change_sized (C := Try.checked) own started (by kernel_rfl) Try.func4
    (ChangeSpec.witness6 (enc := enc) (C := Try.checked) false ⟨#[], #[.slice none 0 0, .slice none 0 0], []⟩ 8 (by kernel_rfl) (by kernel_rfl) (by kernel_rfl) (by kernel_rfl)) ?_
  intro W base args ds gs before hval0 hW hcnd hsz0 _
  have hsz : (DataW.weightsEach Try.prog (Try.f4.params.toList ++ Rows.lineRunsSpec.plain.varTypes Try.prog) (ds ++ gs)).all (· ≤ reachBytes) = true := hsz0
  have hval : ∀ (j : Nat) t v, Try.f4.params[j]? = some t → args[j]? = some v → Value.okWide Try.prog W .any base t v := hval0
  have hW' := hW
  obtain ⟨p, q, hA0, hV, rfl, hfz, hnd⟩ := hW
  have hA : DataW.TrodAll enc Try.prog W 0 (fun _ => true) true Try.f4.params.toList args.toList ds p := hA0
  rw [Try.params4] at hA hval hsz
  obtain ⟨v0, vs0, d0, ds0, p0, q0, hargs, rfl, rfl, h0, r0⟩ := trodAll_cons hA
  obtain ⟨v1, vs1, d1, ds1, p1, q1, rfl, rfl, rfl, h1, r1⟩ := trodAll_cons r0
  obtain ⟨rfl, rfl, rfl⟩ := trodAll_nil r1
  obtain rfl : args = #[v0, v1] := by cases args; simp_all
  obtain ⟨rfl, rfl⟩ := trodVars_none hV
  have k0 := h0
  have k1 := h1
  have lt0 : ∀ x ∈ p0, x.block < W.heap.size := by obtain ⟨m, hm⟩ := k0; exact DataW.trod_lt m _ _ _ hm
  have lt1 : ∀ x ∈ p1, x.block < W.heap.size := by obtain ⟨m, hm⟩ := k1; exact DataW.trod_lt m _ _ _ hm
  obtain ⟨A0, c0, g, rfl, hc0, hC0, hg, hgl⟩ := arg_row (d := k47) (b := 56) Try.underlying22 (by kernel_rfl) (by kernel_rfl) rd_block (okWide_slice Try.underlying22 (hval 0 22 v0 rfl rfl)) h0 (weights_at hsz (j := 0) (t := 22) rfl rfl)
  obtain ⟨A1, c1, pk, rfl, hc1, hC1, hp, hpl⟩ := arg_row (d := Kd.int .u8) (b := 1) Try.underlying38 (by kernel_rfl) (by kernel_rfl) (rd_int Try.underlying5) (okWide_slice Try.underlying38 (hval 1 38 v1 rfl rfl)) h1 (weights_at hsz (j := 1) (t := 38) rfl rfl)
  clear hA0 hval0 hsz0 hsz
  refine (runs_calls W g A0 c0 pk A1 c1 hC0 hc0 hC1 hc1 (fun b hb => by have := (hg b hb).2.1; rw [reach_eq] at this; omega) (fun b hb => ⟨fun i hi => ((hg b hb).1 i hi).2.2.2.2.2.2.1, (hg b hb).2.2.1.2.2.2.2.2.2.1⟩)).mono fun e W' ⟨he, bel⟩ => ?_
  subst he
  exact ⟨_, rfl, _, _, _, [], _, [], hW', trodAll_mk1 (shut_bool Try.underlying4 _), (trodAll_cons_mk (Below.trod laidOut (by kernel_rfl) (of_decide_eq_true (by kernel_rfl)) k0 bel lt0) (trodAll_cons_mk (Below.trod laidOut (by kernel_rfl) (of_decide_eq_true (by kernel_rfl)) k1 bel lt1) trodAll_mk0)), rfl, bel.frame _, fun h => by cases h⟩
theorem over : Rows.lineRunsRow.holds Try.pinned (OpenSpec.ofChange Rows.lineRunsSpec) :=
  OpenClaim.holds_of_wide 4 Try.f4 rfl rfl rfl rfl rfl rfl rfl ⟨rfl, rfl, rfl, rfl, rfl⟩ rfl rfl rfl rfl rfl (by kernel_rfl) Try.func4 (by kernel_rfl)
    (of_decide_eq_true (by kernel_rfl)) (by unfold Func.isWrapper; first | (rw [if_pos (by decide +kernel)]; kernel_rfl) | (rw [if_neg (by decide +kernel)]; exact ⟨rfl, rfl⟩))
    (fun os started H enc _ => lifted os started H enc)
theorem proved : Rows.LineRunsSaid := over
end Go.Proofs.Ytdkalnkplgfgoaa.lineRuns
namespace Go.Proofs.Ytdkalnkplgfgoaa
/-- The row, under a short name, for the claim. -/
theorem lineRuns_holds : Rows.LineRunsSaid := lineRuns.proved
end Go.Proofs.Ytdkalnkplgfgoaa
