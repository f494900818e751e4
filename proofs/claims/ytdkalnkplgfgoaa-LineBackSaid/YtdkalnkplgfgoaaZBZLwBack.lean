/- LineBack: the graph of the program that a graph was laid out as runs as the graph, and so does the program: value and fault. Conditions: none. -/
import Derived.Test.YtdkalnkplgfgoaaRows
import Derived.WalkKit
import Derived.ProofKit
import Derived.OpenShut
import Derived.ShutString
import Derived.ChangeOld
import Derived.Below
import Derived.SizedLaws
import Derived.Test.YtdkalnkplgfgoaaZBo
set_option maxRecDepth 100000
set_option linter.unusedVariables false
set_option linter.unusedSimpArgs false
namespace Go.Proofs.Ytdkalnkplgfgoaa.lineBack
open Go.ChangeShapes Go.WideShapes Go.ChangeAt Go.RowKit Go.Proofs.Ytdkalnkplgfgoaa.PA Go.Proofs.Ytdkalnkplgfgoaa.Ln Go.Proofs.Ytdkalnkplgfgoaa.Rd Go.Proofs.YtdkalnkplgfgoaaW.PrintWords
theorem own:ownKnob Try.prog.godebug=none:=by kernel_rfl
theorem laidOut:laidOutB Try.prog=true:=by kernel_rfl
theorem lifted (os:Os) (started:os.Started) (H:Type) (enc:TypeId × Value→H) :
    ReturnsInHanded {} Try.checked os 12 .any (Rows.lineBackSpec.pre6 enc Try.prog Try.f12 Rows.lineBackRow.domain false) (Rows.lineBackSpec.post enc Try.prog Try.f12 false true false false):=by
  refine returnsInHanded_of_change_sized (C:=Try.checked) own started (by kernel_rfl) Try.func12
    (ChangeSpec.witness6 (enc:=enc) (C:=Try.checked) false ⟨#[],#[.slice none 0 0,.slice none 0 0],[]⟩ 8 (by kernel_rfl) (by kernel_rfl) (by kernel_rfl) (by kernel_rfl)) ?_
  intro W base args ds gs before hval0 hW hcnd hsz0 _
  have hsz:(DataW.weightsEach Try.prog (Try.f12.params.toList++Rows.lineBackSpec.plain.varTypes Try.prog) (ds++gs)).all (·≤reachBytes)=true:=hsz0
  have hval:∀ (j:Nat) t v,Try.f12.params[j]?=some t→args[j]?=some v→Value.okWide Try.prog W .any base t v:=hval0
  have hW':=hW
  obtain ⟨p,q,hA0,hV,rfl,hfz,hnd⟩:=hW
  have hA:DataW.TrodAll enc Try.prog W 0 (fun _=>true) true Try.f12.params.toList args.toList ds p:=hA0
  rw [Try.params12] at hA hval hsz
  obtain ⟨v0,vs0,d0,ds0,p0,q0,hargs,rfl,rfl,h0,r0⟩:=trodAll_cons hA
  obtain ⟨v1,vs1,d1,ds1,p1,q1,rfl,rfl,rfl,h1,r1⟩:=trodAll_cons r0
  obtain ⟨rfl,rfl,rfl⟩:=trodAll_nil r1
  obtain rfl:args=#[v0,v1]:=by cases args;simp_all
  obtain ⟨rfl,rfl⟩:=trodVars_none hV
  have k0:=h0
  have lt0:∀ x∈p0,x.block<W.heap.size:=by obtain ⟨m,hm⟩:=k0;exact DataW.trod_lt m _ _ _ hm
  obtain ⟨A0,c0,x0,rfl,hc0,hC0,hx0,hl0⟩:=qP (d:=k47) (b:=56) Try.underlying22 (by kernel_rfl) (by kernel_rfl) uS (okWide_slice Try.underlying22 (hval 0 22 v0 rfl rfl)) h0 (l8 hsz (j:=0) (t:=22) rfl rfl)
  have k1:=h1
  have lt1:∀ x∈p1,x.block<W.heap.size:=by obtain ⟨m,hm⟩:=k1;exact DataW.trod_lt m _ _ _ hm
  obtain ⟨A1,c1,x1,rfl,hc1,hC1,hx1,hl1⟩:=qP (d:=Kd.int .u8) (b:=1) Try.underlying38 (by kernel_rfl) (by kernel_rfl) (rd_int Try.underlying5) (okWide_slice Try.underlying38 (hval 1 38 v1 rfl rfl)) h1 (l8 hsz (j:=1) (t:=38) rfl rfl)
  clear hA0 hval0 hsz0 hsz
  have iG:reachBytes=140737488351232:=by decide
  rw [iG] at hl0 hl1
  refine Calls.mono (lM W x0 A0 c0 x1 A1 c1 hC0 hc0 hC1 hc1 (tQ hx0 hl0) (fun b hb=>⟨fun i hi=>⟨((hx0 b hb).1 i hi).2.2.2.2.2.2.1,((hx0 b hb).1 i hi).2.2.2.2.2.2.2⟩,⟨(hx0 b hb).2.2.1.2.2.2.2.2.2.1,(hx0 b hb).2.2.1.2.2.2.2.2.2.2⟩⟩)) fun e W' ⟨he,bel⟩=>?_
  subst he
  exact ⟨_,rfl,_,_,_,[],_,[],hW',trodAll_mk1 (shut_bool Try.underlying4 _),(trodAll_cons_mk (Below.trod laidOut (by kernel_rfl) (of_decide_eq_true (by kernel_rfl)) k0 bel lt0) (trodAll_cons_mk (Below.trod laidOut (by kernel_rfl) (of_decide_eq_true (by kernel_rfl)) k1 bel lt1) trodAll_mk0)),rfl,bel.frame _,fun h=>by cases h⟩
theorem over:Rows.lineBackRow.holds Try.pinned (OpenSpec.ofChange Rows.lineBackSpec):=
  OpenClaim.holds_of_wide 12 Try.f12 rfl rfl rfl rfl rfl rfl rfl ⟨rfl,rfl,rfl,rfl,rfl⟩ rfl rfl rfl rfl rfl (by kernel_rfl) Try.func12 (by kernel_rfl)
    (of_decide_eq_true (by kernel_rfl)) (by unfold Func.isWrapper;first | (rw [if_pos (by decide +kernel)];kernel_rfl) | (rw [if_neg (by decide +kernel)];exact ⟨rfl,rfl⟩))
    (fun os started H enc _=>lifted os started H enc)
theorem proved:Rows.LineBackSaid:=over
end Go.Proofs.Ytdkalnkplgfgoaa.lineBack
namespace Go.Proofs.Ytdkalnkplgfgoaa
theorem lineBack_holds:Rows.LineBackSaid:=lineBack.proved
end Go.Proofs.Ytdkalnkplgfgoaa
