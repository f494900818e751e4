/- Lemmas and walks for the statements of the texts ZBZ..: the declarations that they need, taken together by a program of this session. Conditions: as each says. -/
import Derived.OrdersHeld
import Derived.Deep.RegionHeld3
import Derived.Laws.BitsLemmas
import Derived.RowKit
import Derived.Laws.StructEq
import Derived.Test.YtdkalnkplgfgoaaProg
import Derived.Below
import Derived.Deep.Draws
import Derived.Deep.AppendLies
import Derived.Maps.AppendAt
import Derived.OwnWalk
import Derived.Laws.BytesArg
import Derived.Laws.MakeOwn
import Derived.Laws.OwnMore
import Derived.Deep.OwnRows
import Derived.Tactics
import Derived.Lib.ConvBytes
import Derived.Laws.Slices
import Derived.WalkKit
import Derived.KernelRfl
import Derived.RowKit3
import Derived.Deep.LoopGhost
import Derived.Deep.QuietTactic
import Derived.BigQuiet
import Derived.WideLaws
import Derived.Deep.DeepCutAuto
import Derived.Deep.CutBlock
import Derived.Laws.Rows
import Derived.Lib.AppendStr
import Derived.ArgAppend
import Derived.Laws.IdiomCopy
import Derived.Maps.OwnSet
import Derived.Maps.Views
import Derived.Test.YtdkalnkplgfgoaaZBa
set_option maxHeartbeats 1000000
set_option maxRecDepth 100000
set_option linter.unusedVariables false
set_option linter.unusedSimpArgs false
namespace Go.Proofs.YtdkalnkplgfgoaaW.PrintLast
section
variable {P:Program} {ops:Array Oper} {Q:Exit→Act→World→Prop} {md:Region.Mode} {S:World→Prop} {ds:List Nat}
def Region.gJ (md:Region.Mode) (ops:Array Oper) (i:Nat):Nat→Nat→Bool
 | 0,_=>false
 | fuel+1,d=>match ops[d]? with
  | some o=>o.after.any fun e=>Region.binds md e&&(e.on==i||Region.gJ md ops i fuel e.on)
  | none=>false
def Region.nG (md:Region.Mode) (ops:Array Oper) (listed:Array Bool):Bool:=
 (List.range ops.size).all fun j=>!listed.getD j false||match ops[j]? with
   | some o=>o.after.all fun e=>!Region.binds md e||listed.getD e.on false
   | none=>true
def Region.lastB (md:Region.Mode) (ops:Array Oper) (listed:Array Bool) (ds:List Nat) (i:Nat):Bool:=
 ds.all fun d=>listed.getD d true||Region.gJ md ops i ops.size d
def eO (md:Region.Mode) (ops:Array Oper) (listed:Array Bool):Prop:=
 ∀ j oj,ops[j]?=some oj→listed.getD j false=true→∀ e∈oj.after,Region.binds md e=true→listed.getD e.on false=true
theorem Region.nH {listed:Array Bool} (h:Region.nG md ops listed=true):eO md ops listed:=by
 intro j oj hj hl e he hb
 have hlt:j<ops.size:=(Array.getElem?_eq_some_iff.1 hj).1
 have h1:=List.all_eq_true.1 h j (List.mem_range.2 hlt)
 simp only [hl,hj,Bool.not_true,Bool.false_or] at h1
 have h2:=Array.all_eq_true_iff_forall_mem.1 h1 e he
 simpa [hb] using h2
theorem eO.set {listed:Array Bool} {i:Nat} (h:eO md ops listed) (hi:i∈Region.ready md ops listed):eO md ops (listed.setIfInBounds i true):=by
 obtain ⟨_,oi,hoi,hall⟩:=mem_ready.1 hi
 intro j oj hj hl e he hb
 by_cases hij:i=j
 · subst hij
   have:oj=oi:=Option.some.inj (hj.symm.trans hoi)
   subst this
   exact getD_set_true (hall e he hb)
 rw [getD_set_ne false hij] at hl
 exact getD_set_true (h j oj hj hl e he hb)
theorem Region.jO {listed:Array Bool} {i:Nat} (hc:eO md ops listed):∀ (fuel d:Nat),Region.gJ md ops i fuel d=true→listed.getD d false=true→listed.getD i false=true
 | 0,_,h,_=>by simp [Region.gJ] at h
 | fuel+1,d,h,hl=>by
  unfold Region.gJ at h
  cases ho:ops[d]? with
  | none=>rw [ho] at h;simp at h
  | some o=>
   rw [ho] at h
   obtain ⟨e,he,h1⟩:=Array.any_eq_true'.1 h
   simp only [Bool.and_eq_true,Bool.or_eq_true,beq_iff_eq] at h1
   have hle:=hc d o ho hl e he h1.1
   rcases h1.2 with h2 | h2
   · rw [←h2];exact hle
   exact Region.jO hc fuel e.on h2 hle
theorem Region.kX {listed:Array Bool} {i d fuel:Nat} (hc:eO md ops listed) (hr:Region.gJ md ops i fuel d=true) (hun:listed.getD i true=false):d ∉ Region.ready md ops listed:=by
 intro hd
 obtain ⟨_,o,ho,hall⟩:=mem_ready.1 hd
 have hi:listed.getD i false=true:=by
  cases fuel with
  | zero=>simp [Region.gJ] at hr
  | succ n=>
   unfold Region.gJ at hr
   rw [ho] at hr
   obtain ⟨e,he,h1⟩:=Array.any_eq_true'.1 hr
   simp only [Bool.and_eq_true,Bool.or_eq_true,beq_iff_eq] at h1
   have hle:=hall e he h1.1
   rcases h1.2 with h2 | h2
   · rw [←h2];exact hle
   exact Region.jO hc n e.on h2 hle
 rcases Nat.lt_or_ge i listed.size with h' | h'
 · simp [h'] at hun hi
   rw [hun] at hi
   cases hi
 simp [Array.getElem?_eq_none h'] at hun
def bz (P:Program) (md:Region.Mode) (ops:Array Oper) (Q:Exit→Act→World→Prop) (S:World→Prop) (ds:List Nat):Nat→Array Bool→Act→World→Prop
 | 0,listed,a,w=>Region.ready md ops listed=[]∧Q .normal a w
 | fuel+1,listed,a,w=>
  (Region.ready md ops listed=[]→Q .normal a w) ∧
  ∀ i∈Region.ready md ops listed,wpOp P ops Q i (fun a' w'=>(i ∉ ds→S w→S w')∧bz P md ops Q S ds fuel (listed.setIfInBounds i true) a' w') a w
theorem jA:∀ (fuel:Nat) (listed:Array Bool) (a:Act) (w:World),bz P md ops Q S ds fuel listed a w→wpAny P md ops Q fuel listed a w
 | 0,_,_,_,h=>h
 | fuel+1,_,_,_,h=>⟨h.1,fun i hi=>wpOp_mono (fun a' w' h'=>jA fuel _ a' w' h'.2) (h.2 i hi)⟩
theorem kZ {i:Nat} {oi:Oper} {v:Value} (hi:ops[i]?=some oi) (hsel:∀ (j:Nat) (o:Oper) cs b,ops[j]?=some o→o.op ≠ .select cs b)
 (hQ:∀ c a w,Q (.panic c) (a.put oi.dst v) w→Q (.panic c) a w) (n:Nat) :
 ∀ (fuel:Nat) (listed:Array Bool) (a:Act) (w:World),
  (∀ j oj,ops[j]?=some oj→j≠i→listed.getD j true=false→(∀ e∈oj.after,Region.binds md e=true→e.on≠i)→oi.apart ops oj=true) →
  eO md ops listed→(∀ d∈ds,listed.getD d true=false→Region.gJ md ops i n d=true) →
  i∈Region.ready md ops listed→YieldsIf P ops S oi v a→S w →
  bz P md ops Q S ds fuel (listed.setIfInBounds i true) (a.put oi.dst v) w→bz P md ops Q S ds (fuel+1) listed a w:=by
 intro fuel
 induction fuel with
 | zero=>
  intro listed a w _ _ _ hr hy hS H
  refine ⟨fun h=>(by rw [h] at hr;cases hr),fun j hj=>?_⟩
  by_cases hji:j=i
  · subst hji;exact hy.wpOp hi hS ⟨fun _ h=>h,H⟩
  have:=ready_mono hj hji
  rw [H.1] at this
  cases this
 | succ fuel ih=>
  intro listed a w hfree hc hd hr hy hS H
  refine ⟨fun h=>(by rw [h] at hr;cases hr),fun j hj=>?_⟩
  by_cases hji:j=i
  · subst hji;exact hy.wpOp hi hS ⟨fun _ h=>h,H⟩
  have h1:=H.2 j (ready_mono hj hji)
  obtain ⟨hjun,oj,hoj,hall⟩:=mem_ready.1 hj
  have hiun:=(mem_ready.1 hr).1
  have hnot:∀ e∈oj.after,Region.binds md e=true→e.on≠i:=fun e he hb heq=>by
   have h1:=hall e he hb
   rw [heq] at h1
   rcases Nat.lt_or_ge i listed.size with h' | h'
   · simp [h'] at hiun h1;rw [hiun] at h1;cases h1
   simp [Array.getElem?_eq_none h'] at h1
  have hjd:j ∉ ds:=fun hm=>Region.kX hc (hd j hm hjun) hiun hj
  have h2:=wpOp_putIf hoj (hfree j oj hoj hji hjun hnot) (fun cs b=>hsel i oi cs b hi) (fun cs b=>hsel j oj cs b hoj) hQ hy h1
  have hfree':∀ k ok,ops[k]?=some ok→k≠i→(listed.setIfInBounds j true).getD k true=false →
   (∀ e∈ok.after,Region.binds md e=true→e.on≠i)→oi.apart ops ok=true:=fun k ok hk hki hun hno=>by
   refine hfree k ok hk hki ?_ hno
   by_cases hjk:j=k
   · subst hjk;exact hjun
   rw [getD_set_ne true hjk] at hun;exact hun
  have hd':∀ d∈ds,(listed.setIfInBounds j true).getD d true=false→Region.gJ md ops i n d=true:=fun d hm hun=>by
   refine hd d hm ?_
   by_cases hjk:j=d
   · subst hjk;exact hjun
   rw [getD_set_ne true hjk] at hun;exact hun
  refine wpOp_mono (fun a' w' h3=>⟨h3.2.1,ih (listed.setIfInBounds j true) a' w' hfree' (hc.set hj) hd' (ready_mono hr (Ne.symm hji)) h3.1 (h3.2.1 hjd hS) ?_⟩) h2
  rw [Array.setIfInBounds_comm _ _ hji]
  exact h3.2.2
theorem mG {i:Nat} {oi:Oper} {v:Value} (hi:ops[i]?=some oi) (hsel:∀ (j:Nat) (o:Oper) cs b,ops[j]?=some o→o.op ≠ .select cs b)
 (hQ:∀ c a w,Q (.panic c) (a.put oi.dst v) w→Q (.panic c) a w) :
 ∀ (fuel:Nat) (listed:Array Bool) (a:Act) (w:World),
  (∀ j oj,ops[j]?=some oj→j≠i→listed.getD j true=false→(∀ e∈oj.after,Region.binds md e=true→e.on≠i)→oi.apart ops oj=true) →
  i∈Region.ready md ops listed→Yields P ops oi v a →
  bz P md ops Q S ds fuel (listed.setIfInBounds i true) (a.put oi.dst v) w→bz P md ops Q S ds (fuel+1) listed a w:=by
 intro fuel
 induction fuel with
 | zero=>
  intro listed a w _ hr hy H
  refine ⟨fun h=>(by rw [h] at hr;cases hr),fun j hj=>?_⟩
  by_cases hji:j=i
  · subst hji;exact (hy.yieldsIf (S:=fun _=>True)).wpOp hi trivial ⟨fun _ h=>h,H⟩
  have:=ready_mono hj hji
  rw [H.1] at this
  cases this
 | succ fuel ih=>
  intro listed a w hfree hr hy H
  refine ⟨fun h=>(by rw [h] at hr;cases hr),fun j hj=>?_⟩
  by_cases hji:j=i
  · subst hji;exact (hy.yieldsIf (S:=fun _=>True)).wpOp hi trivial ⟨fun _ h=>h,H⟩
  have h1:=H.2 j (ready_mono hj hji)
  obtain ⟨hjun,oj,hoj,hall⟩:=mem_ready.1 hj
  have hiun:=(mem_ready.1 hr).1
  have hnot:∀ e∈oj.after,Region.binds md e=true→e.on≠i:=fun e he hb heq=>by
   have h1:=hall e he hb
   rw [heq] at h1
   rcases Nat.lt_or_ge i listed.size with h' | h'
   · simp [h'] at hiun h1;rw [hiun] at h1;cases h1
   simp [Array.getElem?_eq_none h'] at h1
  have h2:=wpOp_put hoj (hfree j oj hoj hji hjun hnot) (fun cs b=>hsel i oi cs b hi) (fun cs b=>hsel j oj cs b hoj) hQ hy h1
  have hfree':∀ k ok,ops[k]?=some ok→k≠i→(listed.setIfInBounds j true).getD k true=false →
   (∀ e∈ok.after,Region.binds md e=true→e.on≠i)→oi.apart ops ok=true:=fun k ok hk hki hun hno=>by
   refine hfree k ok hk hki ?_ hno
   by_cases hjk:j=k
   · subst hjk;exact hjun
   rw [getD_set_ne true hjk] at hun;exact hun
  refine wpOp_mono (fun a' w' h3=>⟨h3.2.1,ih (listed.setIfInBounds j true) a' w' hfree' (ready_mono hr (Ne.symm hji)) h3.1 ?_⟩) h2
  rw [Array.setIfInBounds_comm _ _ hji]
  exact h3.2.2
theorem mf {i:Nat} {oi:Oper} {v:Value} {fuel:Nat} {listed:Array Bool} {a:Act} {w:World} (hi:ops[i]?=some oi)
 (hs:Region.noSelect ops=true) (hf:Region.free md ops listed i=true) (hr:(Region.ready md ops listed).contains i=true)
 (hc:Region.nG md ops listed=true) (hl:Region.lastB md ops listed ds i=true)
 (hQ:∀ c a w,Q (.panic c) (a.put oi.dst v) w→Q (.panic c) a w) (hy:YieldsIf P ops S oi v a) (hS:S w)
 (h:bz P md ops Q S ds fuel (listed.setIfInBounds i true) (a.put oi.dst v) w):bz P md ops Q S ds (fuel+1) listed a w:=
 kZ hi (Region.noSelect_spec hs) hQ ops.size fuel listed a w (Region.free_spec hi hf) (Region.nH hc)
  (fun d hm hun=>by have:=List.all_eq_true.1 hl d hm;rw [hun] at this;simpa using this) (by simpa using hr) hy hS h
theorem mE {rs:List Nat} {fuel:Nat} {listed:Array Bool} {a:Act} {w:World} (hr:Region.ready md ops listed=rs) (hne:rs≠[])
 (h:∀ i∈rs,wpOp P ops Q i (fun a' w'=>(i ∉ ds→S w→S w')∧bz P md ops Q S ds fuel (listed.setIfInBounds i true) a' w') a w):bz P md ops Q S ds (fuel+1) listed a w:=
 ⟨fun h0=>absurd (hr ▸ h0) hne,hr ▸ h⟩
theorem l9 {listed:Array Bool} {a:Act} {w:World} (hr:Region.ready md ops listed=[]) (h:Q .normal a w) :
 ∀ fuel,bz P md ops Q S ds fuel listed a w
 | 0=>⟨hr,h⟩
 | _+1=>⟨fun _=>h,by rw [hr];simp⟩
theorem mg {id:Nat} {a:Act} {w:World} (hm:P.follows .mixedOrders=true)
 (h:bz P .any ops Q S ds ops.size (Array.replicate ops.size false) a {w with drawn:=w.drawn+1}):(Code.region id ops true).wp P Q a w:=
 wp_region_any hm (jA _ _ _ _ h)
end
section
variable {P:Program} {ops:Array Oper} {Q:Exit→Act→World→Prop} {md:Region.Mode} {S:World→Prop} {ds:List Nat}
def dU (P:Program) (md:Region.Mode) (ops:Array Oper) (Q:Exit→Act→World→Prop) (S:World→Prop) (ds:List Nat) (fuel:Nat) (listed:Array Bool) (a:Act) (w:World) (rs:List Nat):Prop:=
 ∀ i∈rs,wpOp P ops Q i (fun a' w'=>(i ∉ ds→S w→S w')∧bz P md ops Q S ds fuel (listed.setIfInBounds i true) a' w') a w
theorem dU.nil {fuel:Nat} {listed:Array Bool} {a:Act} {w:World}:dU P md ops Q S ds fuel listed a w []:=fun _ h=>by cases h
theorem dU.cons {fuel:Nat} {listed:Array Bool} {a:Act} {w:World} {i:Nat} {o:Oper} {rs:List Nat} (ho:ops[i]?=some o) (hd:i ∉ ds)
 (h:∀ K':Act→World→Prop,Shut (∀ a w,S w→(S w→bz P md ops Q S ds fuel (listed.setIfInBounds i true) a w)→K' a w)→if Region.wanted o (yielded ops a.tmps)=true then Oper.wp P o a w K' Q else K' (a.put o.dst undef) w)
 (hs:dU P md ops Q S ds fuel listed a w rs):dU P md ops Q S ds fuel listed a w (i :: rs):=fun j hj=>by
 rcases List.mem_cons.1 hj with rfl | hj
 · exact wpOp_step ho (fun K' hK=>h K' (fun a w hS hW=>hK a w ⟨fun _ _=>hS,hW hS⟩))
 exact hs j hj
theorem dU.rR {fuel:Nat} {listed:Array Bool} {a:Act} {w:World} {i:Nat} {o:Oper} {rs:List Nat} (ho:ops[i]?=some o) (hd:i∈ds)
 (h:∀ K':Act→World→Prop,Shut (∀ a w,bz P md ops Q S ds fuel (listed.setIfInBounds i true) a w→K' a w)→if Region.wanted o (yielded ops a.tmps)=true then Oper.wp P o a w K' Q else K' (a.put o.dst undef) w)
 (hs:dU P md ops Q S ds fuel listed a w rs):dU P md ops Q S ds fuel listed a w (i :: rs):=fun j hj=>by
 rcases List.mem_cons.1 hj with rfl | hj
 · exact wpOp_step ho (fun K' hK=>h K' (fun a w hW=>hK a w ⟨fun hn=>absurd hd hn,hW⟩))
 exact hs j hj
theorem iP {rs:List Nat} {fuel:Nat} {listed:Array Bool} {a:Act} {w:World} (hr:Region.ready md ops listed=rs) (hne:rs≠[])
 (h:dU P md ops Q S ds fuel listed a w rs):bz P md ops Q S ds (fuel+1) listed a w:=mE hr hne h
theorem dR {id n:Nat} {a:Act} {w:World} (l:Array Bool) (hm:P.follows .mixedOrders=true) (hn:ops.size=n) (hl:Array.replicate n false=l) (hS:S w.drew)
 (h:S w.drew→bz P .any ops Q S ds n l a w.drew):(Code.region id ops true).wp P Q a w:=by
 subst hn
 subst hl
 exact mg hm (h hS)
def takeB (md:Region.Mode) (ops:Array Oper) (ds:List Nat) (l l':Array Bool) (i:Nat):Bool:=
 Region.noSelect ops&&Region.free md ops l i&&(Region.ready md ops l).contains i&&Region.nG md ops l&&Region.lastB md ops l ds i&&(l.setIfInBounds i true==l')
theorem cu {i:Nat} {N:Option Tmp} {oi:Oper} {v:Value} {fuel:Nat} {l:Array Bool} {a:Act} {w:World} (l':Array Bool) (hi:ops[i]?=some oi) (hN:oi.dst=N) (hc:takeB md ops ds l l' i=true)
 (hQ:∀ c a w,Q (.panic c) (a.put oi.dst v) w→Q (.panic c) a w) (hy:YieldsIf P ops S oi v a) (hS:S w) {a':Act} (ha:a.put N v=a')
 (h:bz P md ops Q S ds fuel l' a' w):bz P md ops Q S ds (fuel+1) l a w:=by
 subst ha
 subst hN
 simp only [takeB,Bool.and_eq_true,beq_iff_eq] at hc
 obtain ⟨⟨⟨⟨⟨h1,h2⟩,h3⟩,h4⟩,h5⟩,h6⟩:=hc
 subst h6
 exact mf hi h1 h2 h3 h4 h5 hQ hy hS h
def anyB (md:Region.Mode) (ops:Array Oper) (l l':Array Bool) (i:Nat):Bool:=
 Region.noSelect ops&&Region.free md ops l i&&(Region.ready md ops l).contains i&&(l.setIfInBounds i true==l')
theorem aH {i:Nat} {N:Option Tmp} {oi:Oper} {v:Value} {fuel:Nat} {l:Array Bool} {a:Act} {w:World} (l':Array Bool) (hi:ops[i]?=some oi) (hN:oi.dst=N) (hc:anyB md ops l l' i=true)
 (hQ:∀ c a w,Q (.panic c) (a.put oi.dst v) w→Q (.panic c) a w) (hy:Yields P ops oi v a) {a':Act} (ha:a.put N v=a')
 (h:bz P md ops Q S ds fuel l' a' w):bz P md ops Q S ds (fuel+1) l a w:=by
 subst ha
 subst hN
 simp only [anyB,Bool.and_eq_true,beq_iff_eq] at hc
 obtain ⟨⟨⟨h1,h2⟩,h3⟩,h6⟩:=hc
 subst h6
 exact mG hi (Region.noSelect_spec h1) hQ fuel l a w (Region.free_spec hi h2) (by simpa using h3) hy h
def kC (md:Region.Mode) (ops:Array Oper) (l l':Array Bool) (i:Nat):Bool:=(Region.ready md ops l==[i])&&(l.setIfInBounds i true==l')
theorem gV {i:Nat} {N:Option Tmp} {oi:Oper} {fuel:Nat} {l:Array Bool} {a:Act} {w:World} (l':Array Bool) (hi:ops[i]?=some oi) (hN:oi.dst=N) (hc:kC md ops l l' i=true) (hd:i ∉ ds)
 (h:∀ K:Act→World→Prop,Shut (∀ a' w',S w'→(S w'→bz P md ops Q S ds fuel l' a' w')→K a' w')→if Region.wanted oi (yielded ops a.tmps)=true then Oper.wp P oi a w K Q else K (a.put N undef) w) :
 bz P md ops Q S ds (fuel+1) l a w:=by
 subst hN
 simp only [kC,Bool.and_eq_true,beq_iff_eq] at hc
 obtain ⟨h1,h2⟩:=hc
 subst h2
 exact iP h1 (by simp) (dU.cons hi hd (fun K hK=>h K hK) dU.nil)
theorem gL {i:Nat} {N:Option Tmp} {oi:Oper} {fuel:Nat} {l:Array Bool} {a:Act} {w:World} (l':Array Bool) (hi:ops[i]?=some oi) (hN:oi.dst=N) (hc:kC md ops l l' i=true) (hd:i∈ds)
 (h:∀ K:Act→World→Prop,Shut (∀ a' w',bz P md ops Q S ds fuel l' a' w'→K a' w')→if Region.wanted oi (yielded ops a.tmps)=true then Oper.wp P oi a w K Q else K (a.put N undef) w) :
 bz P md ops Q S ds (fuel+1) l a w:=by
 subst hN
 simp only [kC,Bool.and_eq_true,beq_iff_eq] at hc
 obtain ⟨h1,h2⟩:=hc
 subst h2
 exact iP h1 (by simp) (dU.rR hi hd (fun K hK=>h K hK) dU.nil)
theorem dS {l:Array Bool} {a:Act} {w:World} {n:Nat} (hr:(Region.ready md ops l==[])=true) (h:Q .normal a w):bz P md ops Q S ds n l a w:=l9 (by simpa using hr) h n
theorem fe {fuel:Nat} {l:Array Bool} {a a':Act} {w:World} (ha:a=a') (h:bz P md ops Q S ds fuel l a' w):bz P md ops Q S ds fuel l a w:=by
 subst ha
 exact h
theorem call_ {oi:Oper} {N:Option Tmp} {a:Act} {w:World} {K:Act→World→Prop} (f:FuncId) (args:Array Value) (hw:Region.wanted oi (yielded ops a.tmps)=true) (hN:oi.dst=N) (hrun:(execOp a.eval oi).run P w = .ok (.enter f args) w)
 (h:Calls P f args w fun e w'=>∃ v,e = .returned v∧K (a.put N v) w'):if Region.wanted oi (yielded ops a.tmps)=true then Oper.wp P oi a w K Q else K (a.put N undef) w:=by
 rw [if_pos hw]
 subst hN
 unfold Oper.wp
 rw [hrun,Oper.upon_enter]
 refine h.mono fun e w'' hh=>?_
 obtain ⟨v,rfl,hk⟩:=hh
 exact hk
theorem qW {f:FuncId} {fn:Func} (hf:P.funcs[f]?=some fn) (hname:(fn.name == "runtime.NumGoroutine")=false) (hb:fn.body.isSome=true) (args:Array Value) (w:World):(callFunc f args).run P w = .ok (.enter f args) w:=by
 have h1:fn.name ≠ "runtime.NumGoroutine" := by simpa using hname
 obtain ⟨c,hc⟩:=Option.isSome_iff_exists.1 hb
 simp [callFunc,hf,h1,hc]
theorem gK {oi:Oper} {N:Option Tmp} {a:Act} {w:World} {K:Act→World→Prop} {f:FuncId} {fn:Func} {as_:Array Operand} {ts:Array TypeId} (hf:P.funcs[f]?=some fn) (hname:(fn.name == "runtime.NumGoroutine")=false) (hb:fn.body.isSome=true) (args:Array Value)
 (hw:Region.wanted oi (yielded ops a.tmps)=true) (hN:oi.dst=N) (hop:oi.op = .call {callee := .value (.func f),args:=as_,argTypes:=ts}) (hargs:as_.map a.eval=args)
 (h:Calls P f args w fun e w'=>∃ v,e = .returned v∧K (a.put N v) w'):if Region.wanted oi (yielded ops a.tmps)=true then Oper.wp P oi a w K Q else K (a.put N undef) w:=by
 refine call_ f args hw hN ?_ h
 have he:=qW hf hname hb args w
 unfold execOp
 simp [hop,resolve,Deferred.ofValue,invoke,Act.eval,hargs,he]
theorem oh {oi:Oper} {N:Option Tmp} {a:Act} {w w1:World} {v:Value} {K:Act→World→Prop} (hw:Region.wanted oi (yielded ops a.tmps)=true) (hN:oi.dst=N) (hrun:(execOp a.eval oi).run P w = .ok (.value v) w1)
 (h:K (a.put N v) w1):if Region.wanted oi (yielded ops a.tmps)=true then Oper.wp P oi a w K Q else K (a.put N undef) w:=by
 rw [if_pos hw]
 subst hN
 unfold Oper.wp
 rw [hrun]
 exact h
theorem gX {oi:Oper} {a:Act} {w w1:World} {K:Act→World→Prop} (hw:Region.wanted oi (yielded ops a.tmps)=true) (hN:oi.dst=none) (hrun:(execOp a.eval oi).run P w = .ok .skip w1)
 (h:K a w1):if Region.wanted oi (yielded ops a.tmps)=true then Oper.wp P oi a w K Q else K (a.put none undef) w:=by
 rw [if_pos hw]
 unfold Oper.wp
 rw [hrun]
 show K (a.put oi.dst undef) w1
 rw [hN]
 exact h
theorem ax (n:Int):IntKind.i64.wrap n=Go.RowKit.wrap64 n:=by unfold Go.RowKit.wrap64;exact IntKind.wrap_i64 n
theorem ay (n:Int):IntKind.i32.wrap n=Go.RowKit.wrap32 n:=by unfold Go.RowKit.wrap32;exact IntKind.wrap_i32 n
end
open Go.Proofs.YtdkalnkplgfgoaaW.PrintWords (aa)
def lq (md:Region.Mode) (o:Oper):List Nat:=(o.after.toList.filter (fun e=>Region.binds md e)).map (fun e=>e.on)
def qR (md:Region.Mode) (ops:Array Oper) (i:Nat) (oi:Oper):List Nat:=(List.range ops.size).filter fun j=>!(j==i)&&match ops[j]? with
 | some oj=>!(oj.after.any (fun e=>Region.binds md e&&e.on==i)||oi.apart ops oj)
 | none=>false
def sD (md:Region.Mode) (ops:Array Oper):Bool × List (List Nat × List Nat):=(Region.noSelect ops,(List.range ops.size).map fun i=>match ops[i]? with
 | some o=>(lq md o,qR md ops i o)
 | none=>([],[]))
def ql (T:List (List Nat × List Nat)) (i:Nat):Nat→Nat→Bool
 | 0,_=>false
 | fuel+1,d=>match T[d]? with
  | some r=>r.1.any fun j=>j==i||ql T i fuel j
  | none=>false
section
variable {md:Region.Mode} {ops:Array Oper} {T:Bool × List (List Nat × List Nat)} {l l' li lj lk:Array Bool} {ds:List Nat} {i j k:Nat}
theorem gd (l:Array Bool) (j:Nat) (b:Bool):l.getD j b=l.toList.getD j b:=by simp [Array.getD_eq_getD_getElem?,List.getD_eq_getElem?_getD]
theorem rY (o:Oper) (p:Nat→Bool):o.after.any (fun e=>Region.binds md e&&p e.on)=(lq md o).any p:=by
 unfold lq
 rw [←Array.any_toList]
 induction o.after.toList with
 | nil=>rfl
 | cons e r ih=>
  rw [List.any_cons,ih,List.filter_cons]
  cases h:Region.binds md e<;>simp
theorem o7:(sD md ops).2.length=ops.size:=by simp [sD]
theorem sG {o:Oper} (h:ops[i]?=some o):(sD md ops).2[i]?=some (lq md o,qR md ops i o):=by
 have hi:=(Array.getElem?_eq_some_iff.1 h).1
 unfold sD
 rw [List.getElem?_map,List.getElem?_range hi,Option.map_some,h]
theorem sF (h:ops[i]?=none):(sD md ops).2[i]?=none:=by
 have hi:ops.size≤i:=Array.getElem?_eq_none_iff.1 h
 exact List.getElem?_eq_none (by rw [o7];exact hi)
theorem iG:∀ (fuel d:Nat),Region.gJ md ops i fuel d=ql (sD md ops).2 i fuel d
 | 0,_=>rfl
 | fuel+1,d=>by
  unfold Region.gJ ql
  cases h:ops[d]? with
  | none=>rw [sF h]
  | some o=>
   rw [sG h]
   simp only
   rw [←rY]
   congr 1
   funext e
   rw [iG fuel]
end
end Go.Proofs.YtdkalnkplgfgoaaW.PrintLast
namespace Go.Proofs.YtdkalnkplgfgoaaW.PrintWords
open Go.RowKit
namespace Kd
def tag {α:Type} (f:Nat→Nat) (d:Kd α):Kd (α × Nat) where
 sz:=d.sz
 E:=d.E
 K:=fun w x cs=>d.K w x.1 cs
 M:=fun w base ok x cs=>d.M w base (fun k=>ok k∧f k=x.2) x.1 cs
 K_len:=fun h=>d.K_len h
 K_one:=fun h=>d.K_one h
 K_below:=fun hb h=>d.K_below hb h
 K_of_M:=fun h=>d.K_of_M h
 M_mono:=fun hok h=>d.M_mono (fun k hk=>⟨hok k hk.1,hk.2⟩) h
 M_bound:=fun h=>d.M_mono (fun _ hk=>⟨⟨hk.1.1,hk.2⟩,hk.1.2⟩) (d.M_bound h)
 M_move:=fun hm h=>d.M_move (fun k hk=>hm k hk.1) h
 M_lower:=fun hb h=>d.M_lower hb h
def raw (sz:Nat):Kd (List Value) where
 sz:=sz
 E:=[]
 K:=fun _ x cs=>cs=x∧cs.length=sz∧∀ u∈cs,u.oneCell'=true
 M:=fun _ _ _ x cs=>cs=x∧cs.length=sz∧∀ u∈cs,u.oneCell'=true
 K_len:=fun h=>h.2.1
 K_one:=fun h=>h.2.2
 K_below:=fun _ h=>h
 K_of_M:=fun h=>h
 M_mono:=fun _ h=>h
 M_bound:=fun h=>h
 M_move:=fun _ h=>h
 M_lower:=fun _ h=>h
def S {α:Type} (d:Kd α) (e:Nat) (w:World) (base:Nat) (ok:Nat→Prop) (v:Value) (xs:List α):Prop:=∃ f,(tag f d).R e w base ok v xs.zipIdx
section
variable {α β:Type} {d:Kd α} {d':Kd β} {e e':Nat} {w w1 W:World} {base b:Nat} {ok ok' okv oku:Nat→Prop} {u v:Value} {xs:List α} {ys:List β}
theorem zip_at {xs:List α} {j:Nat} {p:α} (h:xs[j]?=some p):xs.zipIdx[j]?=some (p,j):=by rw [List.getElem?_zipIdx,h,Nat.zero_add];rfl
theorem S_R (h:S d e w base ok v xs):d.R e w base ok v xs:=by
 obtain ⟨f,h0,inner,ho,hr⟩:=h
 rw [List.length_zipIdx] at ho
 exact ⟨h0,inner,ho,by have:=hr.1;rw [List.length_zipIdx] at this;exact this,fun j p hj=>d.M_mono (fun _ hk=>hk.1) (hr.2 j (p,j) (zip_at hj))⟩
theorem qM (hE:d.E=[]) (h:d.R e w base ok v xs):d.R e w base (fun k=>some k=v.ownBlock) v xs:=by
 obtain ⟨h0,inner,ho,hr⟩:=h
 refine ⟨fun k hk=>hk.symm,inner,ho,hr.gH (fun p c hp=>d.M_mono (fun k hk=>?_) (d.M_bound hp))⟩
 obtain ⟨_,_,_,q,hq,_⟩:=hk
 rw [hE] at hq
 cases hq
theorem S_nil (d:Kd α) (e:Nat) (w:World) (base:Nat) (ok:Nat→Prop):S d e w base ok (.slice none 0 0) []:=⟨fun _=>0,jy _ _ _ _ _⟩
theorem iR (h:S d e w base ok v xs) (hok:∀ k,ok k→ok' k):S d e w base ok' v xs:=by
 obtain ⟨f,h⟩:=h
 exact ⟨f,eG h hok⟩
theorem qN (h:S d e w base ok v xs):S d e w base (fun k=>ok k∧base≤k∧k<w.heap.size∧∃ q,q∈e :: d.E∧∃ cells,w.heap[k]?=some (.cells cells q (0,0))) v xs:=by
 obtain ⟨f,h⟩:=h
 exact ⟨f,fu h⟩
theorem S_move (h:S d e w base ok v xs) (hm:∀ k,ok k→w1.heap[k]?=w.heap[k]?):S d e w1 base ok v xs:=by
 obtain ⟨f,h⟩:=h
 exact ⟨f,jW h hm⟩
theorem sV (h:S d e w base ok v xs) (hm:∀ k,ok k→k<w.heap.size→w1.heap[k]?=w.heap[k]?):S d e w1 base ok v xs:=
 iR (S_move (qN h) (fun k hk=>hm k hk.1 hk.2.2.1)) (fun _ hk=>hk.1)
theorem lh (h:S d e w base ok v xs) (hb:Below w.heap.size w w1):S d e w1 base ok v xs:=sV h (fun k _ hk=>hb.block k hk)
theorem je (h:S d e w base ok v xs) (o:Obj):S d e (w.alloc o) base ok v xs:=lh h (ai (Below.refl _ _) o)
theorem jX (h:S d e w base ok v xs):S d e w.drew base ok v xs:=lh h (jB (Below.refl _ _))
theorem jg (h:S d e w base ok v xs) (m:Nat):S d e (w.drewN m) base ok v xs:=lh h (af (Below.refl _ _) m)
theorem jI (h:S d e w base ok v xs) {p:Addr} (hok:∀ k,ok k→k≠p.block) (u:Value):S d e (w.setCell p u) base ok v xs:=sV h (fun k ho _=>Below.heap_setCell w p u k (hok k ho))
theorem qO (h:S d e w base ok v xs):∀ k,v.ownBlock=some k→∃ cells,w.heap[k]?=some (.cells cells e (0,0)):=iI (S_R h)
theorem sS (h:S d e W base ok u xs) (hbase:∀ k,v.ownBlock=some k→W.heap.size≤k) (hb:Below W.heap.size W w1):S d e w1 base (fun k=>ok k∧some k≠v.ownBlock) u xs:=by
 obtain ⟨f,h⟩:=h
 exact ⟨f,sN h hbase hb⟩
theorem R_tag {f f':Nat→Nat} {zs:List (α × Nat)} (h:(tag f d).R e w base ok v zs) (hf:∀ k,ok k→k<w.heap.size→f' k=f k):(tag f' d).R e w base ok v zs:=by
 obtain ⟨h0,inner,ho,hr⟩:=fu h
 exact ⟨fun k hk=>(h0 k hk).1,inner,ho,hr.1,fun j p hj=>d.M_mono (fun k hk=>⟨⟨hk.1.1.1,hk.1.2⟩,(hf k hk.1.1.1 hk.1.1.2.2.1).trans hk.2⟩) (hr.2 j p hj)⟩
end
section
variable {α β:Type} {d:Kd α} {d':Kd β} {e e' g:Nat} {w w1 W:World} {base b:Nat} {ok ok' okv oku:Nat→Prop} {u v:Value} {xs:List α} {ys:List β}
theorem S_away (h:S d e w base ok v xs) (hok:∀ k,ok k→k≠g):some g≠v.ownBlock:=R_away (S_R h) hok
theorem sU (h:S d e w base ok v xs) (a:Nat) (ha:w.heap.size≤a):S d e w base (fun k=>ok k∧k≠a) v xs:=iR (qN h) (fun k hk=>⟨hk.1,by have:=hk.2.2.1;omega⟩)
theorem vN (xs:List α) (p:α):(xs++[p]).zipIdx=xs.zipIdx++[(p,xs.length)]:=by rw [List.zipIdx_append];simp
end
section
open Classical in
theorem S_tag {α:Type} {d:Kd α} {e base:Nat} {okv:Nat→Prop} {w:World} {v:Value} {xs:List α} (h:S d e w base okv v xs) (m:Nat) (okp:Nat→Prop) (hap:∀ k,okp k→¬okv k):∃ f,(∀ k,okp k→f k=m)∧(tag f d).R e w base okv v xs.zipIdx:=by
 obtain ⟨f,h⟩:=h
 exact ⟨fun k=>if okp k then m else f k,fun k hk=>if_pos hk,R_tag h (fun k hk _=>if_neg (fun h2=>hap k h2 hk))⟩
variable {P:Program} {ops:Array Oper} {rest:List Oper} {o:Oper} {a:Act} {Q:Exit→Act→World→Prop} {Kc:Act→World→Prop} {α:Type}
theorem sQ (d:Kd α) {w0 W:World} (base:Nat) (hgd:o.guard=none) (s x:Operand) (t e:TypeId) (z:Value) (bytes:Nat)
 (ho:o.op = .call {callee := .builtin .append,args:=#[s,x],argTypes:=#[t,t]})
 (ht:P.underlying t=some (.slice e)) (hinfo:(P.info? e).map (fun i=>(i.zero,i.size,i.bytes))=some (some z,d.sz,bytes)) (hz:z.cells.size=d.sz) (hs0:0<d.sz) (hb0:0<bytes)
 (v:Value) (xs:List α) (p:α) (cs:List Value) (ok okp:Nat→Prop) (hs:a.eval s=v) (hx:a.eval x = .slice (some ⟨W.heap.size,0,none⟩) 1 1) (hp:d.M W base okp p cs) (hokp:∀ k,okp k→ok k∧some k≠v.ownBlock) (hfresh:∀ k,W.heap.size≤k→ok k)
 (HO:S d e W base (fun k=>ok k∧¬okp k) v xs) (HB:Below base w0 W) (hbase:base≤W.heap.size) (hl:(xs.length+1)*bytes≤140737488355328)
 (h:∀ v1 w1,S d e w1 base ok v1 (xs++[p])→Below base w0 w1→W.grownBy w1 v.ownBlock→(v1.ownBlock=v.ownBlock∨∃ b,v1.ownBlock=some b∧W.heap.size≤b)→wpList P ops Q rest (a.put o.dst v1) w1) :
 wpList P ops Q (o :: rest) a (W.alloc (.cells cs.toArray e)):=by
 obtain ⟨f,hf,hR⟩:=S_tag HO xs.length okp (fun _ hk h2=>h2.2 hk)
 refine iB (tag f d) base hgd s x t e z bytes ho ht hinfo hz hs0 hb0 v xs.zipIdx (p,xs.length) cs ok okp hs hx (d.M_mono (fun k hk=>⟨hk,hf k hk⟩) hp) hokp hfresh (eG hR (fun _ hk=>hk.1)) HB hbase (by rw [List.length_zipIdx];exact hl) ?_
 intro v1 w1 hr
 rw [←vN] at hr
 exact h v1 w1 ⟨f,hr⟩
end
def gap {α:Type} (f:Nat→Nat) (d:Kd α) (i:Nat) (c:List Value):Kd (α × Nat) where
 sz:=d.sz
 E:=d.E
 K:=fun w x cs=>(x.2=i→cs=c∧cs.length=d.sz∧∀ u∈cs,u.oneCell'=true)∧(x.2≠i→d.K w x.1 cs)
 M:=fun w base ok x cs=>(x.2=i→cs=c∧cs.length=d.sz∧∀ u∈cs,u.oneCell'=true)∧(x.2≠i→d.M w base (fun k=>ok k∧f k=x.2) x.1 cs)
 K_len:=fun {w x cs} h=>by
  by_cases hx:x.2=i
  · exact (h.1 hx).2.1
  exact d.K_len (h.2 hx)
 K_one:=fun {w x cs} h=>by
  by_cases hx:x.2=i
  · exact (h.1 hx).2.2
  exact d.K_one (h.2 hx)
 K_below:=fun hb h=>⟨h.1,fun hx=>d.K_below hb (h.2 hx)⟩
 K_of_M:=fun h=>⟨h.1,fun hx=>d.K_of_M (h.2 hx)⟩
 M_mono:=fun hok h=>⟨h.1,fun hx=>d.M_mono (fun k hk=>⟨hok k hk.1,hk.2⟩) (h.2 hx)⟩
 M_bound:=fun h=>⟨h.1,fun hx=>d.M_mono (fun _ hk=>⟨⟨hk.1.1,hk.2⟩,hk.1.2⟩) (d.M_bound (h.2 hx))⟩
 M_move:=fun hm h=>⟨h.1,fun hx=>d.M_move (fun k hk=>hm k hk.1) (h.2 hx)⟩
 M_lower:=fun hb h=>⟨h.1,fun hx=>d.M_lower hb (h.2 hx)⟩
def H {α:Type} (d:Kd α) (e:Nat) (w:World) (base:Nat) (ok:Nat→Prop) (v:Value) (xs:List α) (i:Int) (oki:Nat→Prop) (c:List Value):Prop:=
 (∀ k,oki k→ok k)∧∃ f,(gap f d i.toNat c).R e w base (fun k=>ok k∧¬oki k) v xs.zipIdx
end Kd
open Go.RowKit
namespace Kd
theorem uT {α:Type} {R:α→List Value→Prop} {size:Nat} {ps:List α} {cs:List Value} (h:dQ R size ps cs) (hs0:0<size) (hR:∀ p c,R p c→∀ u∈c,u.oneCell'=true):∀ u∈cs,u.oneCell'=true:=by
 intro u hu
 obtain ⟨q,hq,rfl⟩:=List.mem_iff_getElem.1 hu
 have hql:q / size<ps.length:=by
  rw [Nat.div_lt_iff_lt_mul hs0,←h.1]
  exact hq
 refine hR _ _ (h.2 (q / size) _ (List.getElem?_eq_getElem hql)) _ ?_
 rw [List.mem_iff_getElem?]
 refine ⟨q % size,?_⟩
 rw [List.getElem?_take,if_pos (Nat.mod_lt _ hs0),List.getElem?_drop,Nat.mul_comm,Nat.div_add_mod,List.getElem?_eq_getElem hq]
def arr {α:Type} (n:Nat) (d:Kd α) (hs:0<d.sz):Kd (List α) where
 sz:=n*d.sz
 E:=d.E
 K:=fun w xs cs=>xs.length=n∧dQ (d.K w) d.sz xs cs
 M:=fun w base ok xs cs=>xs.length=n∧dQ (d.M w base ok) d.sz xs cs
 K_len:=fun h=>by rw [←h.1];exact h.2.1
 K_one:=fun h=>uT h.2 hs (fun _ _ hk=>d.K_one hk)
 K_below:=fun hb h=>⟨h.1,h.2.gH (fun _ _ hk=>d.K_below hb hk)⟩
 K_of_M:=fun h=>⟨h.1,h.2.gH (fun _ _ hk=>d.K_of_M hk)⟩
 M_mono:=fun hok h=>⟨h.1,h.2.gH (fun _ _ hk=>d.M_mono hok hk)⟩
 M_bound:=fun h=>⟨h.1,h.2.gH (fun _ _ hk=>d.M_bound hk)⟩
 M_move:=fun hm h=>⟨h.1,h.2.gH (fun _ _ hk=>d.M_move hm hk)⟩
 M_lower:=fun hb h=>⟨h.1,h.2.gH (fun _ _ hk=>d.M_lower hb hk)⟩
end Kd
open Go.RowKit
namespace Kd
structure Heap {α:Type} (d:Kd α):Prop where
 K:∀ {w w1:World} {x:α} {cs:List Value},(∀ k,k<w.heap.size→w1.heap[k]?=w.heap[k]?)→d.K w x cs→d.K w1 x cs
theorem rP {w w1:World} (hb:∀ k,k<w.heap.size→w1.heap[k]?=w.heap[k]?) {a:Addr} {v:Value} (h:w.cell? a=some v):w1.cell? a=some v:=by
 have:=hb a.block (World.block_lt_of_cell? w a h)
 simpa [World.cell?,this] using h
theorem Heap.C {α:Type} {d:Kd α} (hd:Heap d) {w w1:World} {A:Option Addr} {n:Nat} {xs:List α} (hb:∀ k,k<w.heap.size→w1.heap[k]?=w.heap[k]?) (h:d.C w A n xs):d.C w1 A n xs:=
 ⟨h.1,h.2.1,fun hn=>by
  obtain ⟨ad,e,hc⟩:=h.2.2 hn
  refine ⟨ad,e,fun j p hj=>?_⟩
  obtain ⟨c,hs,hr,hcell⟩:=hc j p hj
  exact ⟨c,hs,hd.K hb hr,fun i u hu=>rP hb (hcell i u hu)⟩⟩
end Kd
open Go.RowKit
def Kept (w W:World) (S:Nat→Prop):Prop:=w.heap.size≤W.heap.size∧∀ i,i<w.heap.size→¬S i→W.heap[i]?=w.heap[i]?
section
variable {w W W2:World} {S S2 S':Nat→Prop}
theorem Kept.refl (w:World) (S:Nat→Prop):Kept w w S:=⟨Nat.le_refl _,fun _ _ _=>rfl⟩
theorem Kept.of_below (h:Below w.heap.size w W) (S:Nat→Prop):Kept w W S:=⟨h.size,fun i hi _=>h.block i hi⟩
theorem Kept.mono (h:Kept w W S) (hs:∀ k,S k→S' k):Kept w W S':=⟨h.1,fun i hi hn=>h.2 i hi (fun hk=>hn (hs i hk))⟩
theorem Kept.then_ (h:Kept w W S) (k:Kept W W2 S2) (hs:∀ k,S2 k→S k∨w.heap.size≤k):Kept w W2 S:=
 ⟨Nat.le_trans h.1 k.1,fun i hi hn=>(k.2 i (Nat.lt_of_lt_of_le hi h.1) (fun h2=>(hs i h2).elim hn (fun h3=>by omega))).trans (h.2 i hi hn)⟩
theorem Kept.below (h:Kept w W S) (hb:Below W.heap.size W W2):Kept w W2 S:=h.then_ (Kept.of_below hb (fun _=>False)) (fun _ hk=>hk.elim)
theorem Kept.alloc (h:Kept w W S) (o:Obj):Kept w (W.alloc o) S:=h.below (ai (Below.refl _ _) o)
theorem Kept.drew (h:Kept w W S):Kept w W.drew S:=h
theorem Kept.drewN (h:Kept w W S) (m:Nat):Kept w (W.drewN m) S:=h
theorem Kept.setCell (h:Kept w W S) {p:Addr} (hp:S p.block∨w.heap.size≤p.block) (u:Value):Kept w (W.setCell p u) S:=
 h.then_ (S2:=fun k=>k=p.block) ⟨by simp [World.setCell],fun i _ hn=>Below.heap_setCell W p u i hn⟩ (fun k hk=>by rw [hk];exact hp)
end
namespace Kd
end Kd
open Go.RowKit
def jG (P:World→Prop) (W:World) (ok:Nat→Prop):Prop:=∀ W':World,(∀ k,ok k→k<W.heap.size→W'.heap[k]?=W.heap[k]?)→P W'
theorem heap_lt {W W1:World} {k:Nat} (h:W1.heap[k]?=W.heap[k]?) (hlt:k<W.heap.size):k<W1.heap.size:=by
 rw [Array.getElem?_eq_getElem hlt] at h
 exact (Array.getElem?_eq_some_iff.1 h).1
namespace jG
variable {P Q:World→Prop} {W W1:World} {ok ok':Nat→Prop}
theorem mono (h:jG P W ok) (hok:∀ k,ok k→ok' k):jG P W ok':=fun W' hW=>h W' (fun k hk hlt=>hW k (hok k hk) hlt)
theorem bound (h:jG P W ok):jG P W (fun k=>ok k∧k<W.heap.size):=fun W' hW=>h W' (fun k hk hlt=>hW k ⟨hk,hlt⟩ hlt)
theorem step (h:jG P W ok) (hm:∀ k,ok k→k<W.heap.size→W1.heap[k]?=W.heap[k]?):jG P W1 ok:=fun W' hW=>h W' (fun k hk hlt=>(hW k hk (heap_lt (hm k hk hlt) hlt)).trans (hm k hk hlt))
theorem imp (h:jG P W ok) (hi:∀ W',P W'→Q W'):jG Q W ok:=fun W' hW=>hi W' (h W' hW)
theorem old (h:jG P W ok) (hb:Below W.heap.size W W1):jG P W1 (fun k=>ok k∧k<W.heap.size):=(h.bound).step (fun k _ hlt=>hb.block k hlt)
end jG
namespace Kd
def F {α:Type} (d:Kd α) (W:World) (ok:Nat→Prop) (A:Option Addr) (n:Nat) (xs:List α):Prop:=jG (fun W=>d.C W A n xs) W ok
def FK {α:Type} (d:Kd α) (W:World) (ok:Nat→Prop) (x:α) (c:List Value):Prop:=jG (fun W=>d.K W x c) W ok
section
variable {α β:Type} {d:Kd α} {e base n n' cc g N:Nat} {ok ok' okp S:Nat→Prop} {w w0 w1 W W1:World} {A A':Option Addr} {u v v1:Value} {xs:List α} {xs':List β} {d':Kd β} {x:α} {c:List Value}
theorem F_nil (d:Kd α) (W:World) (ok:Nat→Prop):F d W ok none ([]:List α).length []:=fun W' _=>qJ d W'
theorem FK_of_M (h:d.M W base ok x c):FK d W ok x c:=fun _ hW=>d.K_of_M (sM h hW)
end
end Kd
open Go.RowKit
namespace Kd
def chunks (sz:Nat) (n:Nat) (inner:List Value):List (List Value):=(List.range n).map fun j=>(inner.drop (j*sz)).take sz
theorem fG (sz n:Nat) (inner:List Value):(chunks sz n inner).length=n:=by simp [chunks]
theorem rQ {sz n:Nat} {inner:List Value} {j:Nat} (hj:j<n):(chunks sz n inner)[j]?=some ((inner.drop (j*sz)).take sz):=by simp [chunks,hj]
theorem lJ {sz n:Nat} {inner:List Value} {j:Nat} {c:List Value} (h:(chunks sz n inner)[j]?=some c):c=(inner.drop (j*sz)).take sz:=by
 have hj:j<n:=by have:=(List.getElem?_eq_some_iff.1 h).1;rwa [fG] at this
 rw [rQ hj] at h
 injection h with h
 exact h.symm
theorem uU {α:Type} {Rr:α→List Value→Prop} {sz:Nat} {xs:List α} {inner:List Value} (h:dQ Rr sz xs inner) (hR:∀ x c,Rr x c→c.length=sz∧∀ u∈c,u.oneCell'=true):dQ (fun x cs=>cs=x∧cs.length=sz∧∀ u∈cs,u.oneCell'=true) sz (chunks sz xs.length inner) inner:=by
 refine ⟨by rw [fG];exact h.1,fun j p hj=>?_⟩
 have hjl:j<xs.length:=by have:=(List.getElem?_eq_some_iff.1 hj).1;rwa [fG] at this
 have hp:=lJ hj
 exact ⟨hp.symm,hR _ _ (h.2 j _ (List.getElem?_eq_getElem hjl))⟩
section
variable {α:Type} {d:Kd α} {e base n cc g:Nat} {ok ok' okp S:Nat→Prop} {w w1 W W1:World} {A:Option Addr} {u v v1:Value} {xs:List α} {x:α} {c:List Value}
def N {α:Type} (d:Kd α) (e:Nat) (w:World) (base:Nat) (ok:Nat→Prop) (v:Value) (xs:List α):Prop:=
 (∀ k,v.ownBlock=some k→ok k)∧∃ rows:List (List Value),rows.length=xs.length∧(raw d.sz).R e w base (fun k=>some k=v.ownBlock) v rows∧∀ (j:Nat) (x:α) (c:List Value),xs[j]?=some x→rows[j]?=some c→FK d w (fun k=>ok k∧some k≠v.ownBlock) x c
theorem R_N (h:d.R e w base ok v xs):N d e w base ok v xs:=by
 obtain ⟨h0,inner,ho,hr⟩:=h
 refine ⟨h0,chunks d.sz xs.length inner,fG _ _ _,⟨fun k hk=>hk.symm,inner,by rw [fG];exact ho,uU hr (fun x c hp=>⟨d.K_len (d.K_of_M hp),d.K_one (d.K_of_M hp)⟩)⟩,fun j x c hx hc=>?_⟩
 rw [lJ hc]
 exact FK_of_M (hr.2 j x hx)
theorem N_nil (d:Kd α) (e:Nat) (w:World) (base:Nat) (ok:Nat→Prop):N d e w base ok (.slice none 0 0) []:=R_N (jy _ _ _ _ _)
end
end Kd
open Go.RowKit
section
variable {P:Program} {d:Nat} {xs ys:Array Value} {f:Field} {fs:List Field} {a b:Value} {r s:Bool} {w:World}
theorem tN (hn:(f.name == "_")=false) (ha:(part f.type xs f.offset).run P w = .ok a w) (hb:(part f.type ys f.offset).run P w = .ok b w) (he:(Op.equalIn d f.type a b).run P w = .ok r w):(Op.eqFields d xs ys [f]).run P w = .ok r w:=by
 have hn':f.name ≠ "_" := by simpa using hn
 simp only [Op.eqFields,if_pos hn',Sem.run_bind,ha,hb,he,Result.andThen_ok]
 cases r<;>simp
theorem lK (hn:(f.name == "_")=false) (ha:(part f.type xs f.offset).run P w = .ok a w) (hb:(part f.type ys f.offset).run P w = .ok b w) (he:(Op.equalIn d f.type a b).run P w = .ok r w) (hr:(Op.eqFields d xs ys fs).run P w = .ok s w):(Op.eqFields d xs ys (f :: fs)).run P w = .ok (r&&s) w:=by
 have hn':f.name ≠ "_" := by simpa using hn
 rw [Op.eqFields]
 simp only [if_pos hn',Sem.run_bind,ha,hb,he,Result.andThen_ok]
 cases r
 · simp
 simpa using hr
theorem eqA_of {t:TypeId} {fs:Array Field} (hu:P.underlying t=some (.struct fs)) (hp:P.stoodInHeld t=false) (h:(Op.eqFields d xs ys fs.toList).run P w = .ok r w):(Op.equalIn (d+1) t (.agg xs) (.agg ys)).run P w = .ok r w:=by
 have hf:P.fieldsOf t=fs:=by simp [Program.fieldsOf,hu]
 rw [run_equalIn_struct (P:=P) w d t xs ys (by rw [hf];exact hu) hp,hf]
 exact h
end
theorem dQ.one {α:Type} {R:α→List Value→Prop} {ps:List α} {cs:List Value} {p:α} {v:Value} (hp:R p [v]) (h:dQ R 1 ps cs):dQ R 1 (p :: ps) (v :: cs):=by
 refine ⟨by simp [h.1],fun j q hq=>?_⟩
 cases j with
 | zero=>
  simp only [List.getElem?_cons_zero,Option.some.injEq] at hq
  subst hq
  simpa using hp
 | succ j=>
  simp only [List.getElem?_cons_succ] at hq
  have h1:=h.2 j q hq
  simpa [Nat.mul_one] using h1
end Go.Proofs.YtdkalnkplgfgoaaW.PrintWords
namespace Go.Proofs.YtdkalnkplgfgoaaW.PrintMore
open Go.RowKit Go.Proofs.YtdkalnkplgfgoaaW.PrintWords
namespace Kd
open Go.Proofs.YtdkalnkplgfgoaaW.PrintWords.Kd
end Kd
theorem dE (k k':IntKind) (x y:Int):Builtin.max2 (.int k x) (.int k' y)=pure (.int k (if x<y then y else x)):=by simp only [Builtin.max2,gt_iff_lt]
theorem dG (k k':IntKind) (x y:Int):Builtin.min2 (.int k x) (.int k' y)=pure (.int k (if y<x then y else x)):=by simp only [Builtin.min2]
theorem ed (ats:Array TypeId) (ty:TypeId) (a b:Value):Builtin.max_ ats ty #[a,b]=(Builtin.max2 a b >>= fun s=>pure s):=by simp only [Builtin.max_,List.foldlM_cons,List.foldlM_nil]
theorem ek (ats:Array TypeId) (ty:TypeId) (a b:Value):Builtin.min_ ats ty #[a,b]=(Builtin.min2 a b >>= fun s=>pure s):=by simp only [Builtin.min_,List.foldlM_cons,List.foldlM_nil]
theorem dm (ats:Array TypeId) (ty:TypeId) (a b c:Value):Builtin.max_ ats ty #[a,b,c]=(Builtin.max2 a b >>= fun s=>Builtin.max2 s c >>= fun s=>pure s):=by simp only [Builtin.max_,List.foldlM_cons,List.foldlM_nil]
theorem dn (ats:Array TypeId) (ty:TypeId) (a b c:Value):Builtin.min_ ats ty #[a,b,c]=(Builtin.min2 a b >>= fun s=>Builtin.min2 s c >>= fun s=>pure s):=by simp only [Builtin.min_,List.foldlM_cons,List.foldlM_nil]
theorem dF (ats:Array TypeId) (ty:TypeId) (a b c d:Value):Builtin.max_ ats ty #[a,b,c,d]=(Builtin.max2 a b >>= fun s=>Builtin.max2 s c >>= fun s=>Builtin.max2 s d >>= fun s=>pure s):=by simp only [Builtin.max_,List.foldlM_cons,List.foldlM_nil]
theorem dH (ats:Array TypeId) (ty:TypeId) (a b c d:Value):Builtin.min_ ats ty #[a,b,c,d]=(Builtin.min2 a b >>= fun s=>Builtin.min2 s c >>= fun s=>Builtin.min2 s d >>= fun s=>pure s):=by simp only [Builtin.min_,List.foldlM_cons,List.foldlM_nil]
end Go.Proofs.YtdkalnkplgfgoaaW.PrintMore
namespace Go.Proofs.YtdkalnkplgfgoaaW.PrintWords
open Go.RowKit
section
variable {P:Program} {ops:Array Oper} {rest:List Oper} {o:Oper} {a:Act} {Q:Exit→Act→World→Prop} {W:World}
theorem iM {b:Builtin} {xs:Array Operand} {ts:Array TypeId} (_ho:o.op = .call {callee := .builtin b,args:=xs,argTypes:=ts}) (h:wpList P ops Q (o :: rest) a W):wpList P ops Q (o :: rest) a W:=h
end
def mx (a b:Int):Int:=if a<b then b else a
def shl (k:IntKind) (x y:Int):Int:=k.wrap (x*2 ^ min y.toNat k.bits)
def shr (k:IntKind) (x y:Int):Int:=x / 2 ^ min y.toNat k.bits
theorem mU {k:IntKind} {x y j:Int} (h:shl k x y=j) (hy:y≤k.bits):k.wrap (x*2 ^ y.toNat)=j:=by rw [←h];unfold shl;rw [Nat.min_eq_left (by omega)]
theorem mV {k:IntKind} {x y j:Int} (h:shr k x y=j) (hy:y≤k.bits):x / 2 ^ y.toNat=j:=by rw [←h];unfold shr;rw [Nat.min_eq_left (by omega)]
namespace Kd
end Kd
open Go.RowKit
namespace Kd
def V {α:Type} (d:Kd α) (_e:Nat) (W:World) (_base:Nat) (ok:Nat→Prop) (v:Value) (xs:List α):Prop:=∃ A c,v = .slice A xs.length c∧xs.length≤c∧F d W ok A xs.length xs
section
variable {α β:Type} {d:Kd α} {e base base' n m c g N' lo hi:Nat} {ok ok' S:Nat→Prop} {w W w1:World} {A:Option Addr} {ad:Addr} {u v v1:Value} {xs:List α}
theorem V_nil (d:Kd α) (e:Nat) (W:World) (base:Nat) (ok:Nat→Prop):V d e W base ok (.slice none 0 0) []:=⟨none,0,rfl,Nat.le_refl _,F_nil d W ok⟩
end
end Kd
end Go.Proofs.YtdkalnkplgfgoaaW.PrintWords
namespace Go.Proofs.Ytdkalnkplgfgoaa.PA
open Go.RowKit Go.Proofs.YtdkalnkplgfgoaaW.PrintWords Go.Proofs.YtdkalnkplgfgoaaW.PrintLast Go.Proofs.YtdkalnkplgfgoaaW.PrintMore
attribute [local go_sem] dE dG ed ek dm dn dF dH
def tO:Option Int→Value
 | none => .nilIface
 | some c => .iface 0 (.int .i64 c)
theorem fB:tO none = .nilIface:=rfl
theorem fC (c:Int):tO (some c) = .iface 0 (.int .i64 c):=rfl
theorem info3:(Try.prog.info? 3).map (fun i=>(i.zero,i.size,i.bytes))=some (some (.int .i64 0),1,8):=by kernel_rfl
theorem info4:(Try.prog.info? 4).map (fun i=>(i.zero,i.size,i.bytes))=some (some (.bool false),1,1):=by kernel_rfl
theorem info5:(Try.prog.info? 5).map (fun i=>(i.zero,i.size,i.bytes))=some (some (.int .u8 0),1,1):=by kernel_rfl
theorem iU:(Try.prog.info? 45).map (fun i=>(i.zero,i.size,i.bytes))=some (some (.agg #[(.int .u16 0),(.int .u8 0),(.int .u8 0),(.int .u32 0)]),4,8):=by kernel_rfl
theorem uu:(Try.prog.info? 47).map (fun i=>(i.zero,i.size,i.bytes))=some (some (.agg #[(.slice none 0 0),(.int .i64 0),(.int .u16 0),(.int .u8 0),(.int .u8 0),(.int .u32 0),(.int .i64 0),(.int .i64 0)]),8,56):=by kernel_rfl
structure S45 where
 f0:Int
 f1:Int
 f2:Int
 f3:Int
def z45:S45:=⟨(0:Int),(0:Int),(0:Int),(0:Int)⟩
def k45:Kd S45:=Kd.iso (Kd.pair (Kd.int .u16) (Kd.pair (Kd.int .u8) (Kd.pair (Kd.int .u8) (Kd.int .u32)))) (fun x:S45=>(x.f0,x.f1,x.f2,x.f3))
theorem iE {w:World} {x:S45} {cs:List Value} (h:k45.K w x cs):cs=[.int .u16 x.f0,.int .u8 x.f1,.int .u8 x.f2,.int .u32 x.f3]:=by
 obtain ⟨_,_,rfl,rfl,⟨_,_,rfl,rfl,⟨_,_,rfl,rfl,rfl⟩⟩⟩:=h
 exact rfl
theorem uA (w:World) (x:S45):k45.K w x [.int .u16 x.f0,.int .u8 x.f1,.int .u8 x.f2,.int .u32 x.f3]:=⟨[.int .u16 x.f0],[.int .u8 x.f1,.int .u8 x.f2,.int .u32 x.f3],rfl,rfl,⟨[.int .u8 x.f1],[.int .u8 x.f2,.int .u32 x.f3],rfl,rfl,⟨[.int .u8 x.f2],[.int .u32 x.f3],rfl,rfl,rfl⟩⟩⟩
theorem ik (w:World) (base:Nat) (ok:Nat→Prop) (x:S45):k45.M w base ok x [.int .u16 x.f0,.int .u8 x.f1,.int .u8 x.f2,.int .u32 x.f3]:=⟨[.int .u16 x.f0],[.int .u8 x.f1,.int .u8 x.f2,.int .u32 x.f3],rfl,rfl,⟨[.int .u8 x.f1],[.int .u8 x.f2,.int .u32 x.f3],rfl,rfl,⟨[.int .u8 x.f2],[.int .u32 x.f3],rfl,rfl,rfl⟩⟩⟩
def bg (xs:List S45) (i:Int):S45:=xs.getD i.toNat z45
theorem pU {w:World} {A:Option Addr} {n:Nat} {xs:List S45} (h:Kd.C k45 w A n xs) (i:Int) (h0:0≤i) (h1:i<n):∃ ad,A=some ad∧w.cell? (ad.add (i.toNat*4))=some (.int .u16 (bg xs i).f0)∧w.cell? ⟨(ad.add (i.toNat*4)).block,(ad.add (i.toNat*4)).off+1,none⟩=some (.int .u8 (bg xs i).f1)∧w.cell? ⟨(ad.add (i.toNat*4)).block,(ad.add (i.toNat*4)).off+2,none⟩=some (.int .u8 (bg xs i).f2)∧w.cell? ⟨(ad.add (i.toNat*4)).block,(ad.add (i.toNat*4)).off+3,none⟩=some (.int .u32 (bg xs i).f3):=by
 obtain ⟨ad,c,e,_,hK,hc0⟩:=Kd.C_get h z45 i h0 h1
 have hc:∀ j u,c[j]?=some u→w.cell? (ad.add (i.toNat*4+j))=some u:=hc0
 obtain rfl:=iE hK
 exact ⟨ad,e,hc 0 _ rfl,by rw [←eY _ _ 1 (by omega)];exact hc 1 _ rfl,by rw [←eY _ _ 2 (by omega)];exact hc 2 _ rfl,by rw [←eY _ _ 3 (by omega)];exact hc 3 _ rfl⟩
structure S47 where
 f0:(List S45)
 f1:Int
 f2:S45
 f3:Int
 f4:Int
def z47:S47:=⟨([]:List S45),(0:Int),z45,(0:Int),(0:Int)⟩
def k47:Kd S47:=Kd.iso (Kd.pair (Kd.slice 45 k45) (Kd.pair (Kd.int .i64) (Kd.pair k45 (Kd.pair (Kd.int .i64) (Kd.int .i64))))) (fun x:S47=>(x.f0,x.f1,x.f2,x.f3,x.f4))
theorem uB {w:World} {x:S47} {cs:List Value} (h:k47.K w x cs):∃ A0 c0,cs=[.slice A0 x.f0.length c0,.int .i64 x.f1,.int .u16 x.f2.f0,.int .u8 x.f2.f1,.int .u8 x.f2.f2,.int .u32 x.f2.f3,.int .i64 x.f3,.int .i64 x.f4]∧x.f0.length≤c0∧k45.C w A0 x.f0.length x.f0:=by
 obtain ⟨_,_,rfl,⟨A0,c0,rfl,l0,g0⟩,⟨_,_,rfl,rfl,⟨_,_,rfl,s2,⟨_,_,rfl,rfl,rfl⟩⟩⟩⟩:=h
 obtain rfl:=iE s2
 exact ⟨A0,c0,rfl,l0,g0⟩
theorem k47_mk (w:World) (x:S47) {A0:Option Addr} {c0:Nat} (l0:x.f0.length≤c0) (g0:k45.C w A0 x.f0.length x.f0):k47.K w x [.slice A0 x.f0.length c0,.int .i64 x.f1,.int .u16 x.f2.f0,.int .u8 x.f2.f1,.int .u8 x.f2.f2,.int .u32 x.f2.f3,.int .i64 x.f3,.int .i64 x.f4]:=⟨[.slice A0 x.f0.length c0],[.int .i64 x.f1,.int .u16 x.f2.f0,.int .u8 x.f2.f1,.int .u8 x.f2.f2,.int .u32 x.f2.f3,.int .i64 x.f3,.int .i64 x.f4],rfl,⟨A0,c0,rfl,l0,g0⟩,⟨[.int .i64 x.f1],[.int .u16 x.f2.f0,.int .u8 x.f2.f1,.int .u8 x.f2.f2,.int .u32 x.f2.f3,.int .i64 x.f3,.int .i64 x.f4],rfl,rfl,⟨[.int .u16 x.f2.f0,.int .u8 x.f2.f1,.int .u8 x.f2.f2,.int .u32 x.f2.f3],[.int .i64 x.f3,.int .i64 x.f4],rfl,(uA w x.f2),⟨[.int .i64 x.f3],[.int .i64 x.f4],rfl,rfl,rfl⟩⟩⟩⟩
theorem nR (w:World) (base:Nat) (ok:Nat→Prop) (x:S47) {v0:Value} (g0:k45.R 45 w base ok v0 x.f0):k47.M w base ok x [v0,.int .i64 x.f1,.int .u16 x.f2.f0,.int .u8 x.f2.f1,.int .u8 x.f2.f2,.int .u32 x.f2.f3,.int .i64 x.f3,.int .i64 x.f4]:=⟨[v0],[.int .i64 x.f1,.int .u16 x.f2.f0,.int .u8 x.f2.f1,.int .u8 x.f2.f2,.int .u32 x.f2.f3,.int .i64 x.f3,.int .i64 x.f4],rfl,⟨v0,rfl,g0⟩,⟨[.int .i64 x.f1],[.int .u16 x.f2.f0,.int .u8 x.f2.f1,.int .u8 x.f2.f2,.int .u32 x.f2.f3,.int .i64 x.f3,.int .i64 x.f4],rfl,rfl,⟨[.int .u16 x.f2.f0,.int .u8 x.f2.f1,.int .u8 x.f2.f2,.int .u32 x.f2.f3],[.int .i64 x.f3,.int .i64 x.f4],rfl,(ik w base ok x.f2),⟨[.int .i64 x.f3],[.int .i64 x.f4],rfl,rfl,rfl⟩⟩⟩⟩
def ah (xs:List S47) (i:Int):S47:=xs.getD i.toNat z47
theorem iJ {w:World} {A:Option Addr} {n:Nat} {xs:List S47} (h:Kd.C k47 w A n xs) (i:Int) (h0:0≤i) (h1:i<n):∃ ad A0 c0,A=some ad∧w.cell? (ad.add (i.toNat*8))=some (.slice A0 (ah xs i).f0.length c0)∧w.cell? ⟨(ad.add (i.toNat*8)).block,(ad.add (i.toNat*8)).off+1,none⟩=some (.int .i64 (ah xs i).f1)∧w.cell? ⟨(ad.add (i.toNat*8)).block,(ad.add (i.toNat*8)).off+2,none⟩=some (.int .u16 (ah xs i).f2.f0)∧w.cell? ⟨(ad.add (i.toNat*8)).block,(ad.add (i.toNat*8)).off+3,none⟩=some (.int .u8 (ah xs i).f2.f1)∧w.cell? ⟨(ad.add (i.toNat*8)).block,(ad.add (i.toNat*8)).off+4,none⟩=some (.int .u8 (ah xs i).f2.f2)∧w.cell? ⟨(ad.add (i.toNat*8)).block,(ad.add (i.toNat*8)).off+5,none⟩=some (.int .u32 (ah xs i).f2.f3)∧w.cell? ⟨(ad.add (i.toNat*8)).block,(ad.add (i.toNat*8)).off+6,none⟩=some (.int .i64 (ah xs i).f3)∧w.cell? ⟨(ad.add (i.toNat*8)).block,(ad.add (i.toNat*8)).off+7,none⟩=some (.int .i64 (ah xs i).f4)∧(ah xs i).f0.length≤c0∧k45.C w A0 (ah xs i).f0.length (ah xs i).f0:=by
 obtain ⟨ad,c,e,_,hK,hc0⟩:=Kd.C_get h z47 i h0 h1
 have hc:∀ j u,c[j]?=some u→w.cell? (ad.add (i.toNat*8+j))=some u:=hc0
 obtain ⟨A0,c0,rfl,l0,g0⟩:=uB hK
 exact ⟨ad,A0,c0,e,hc 0 _ rfl,by rw [←eY _ _ 1 (by omega)];exact hc 1 _ rfl,by rw [←eY _ _ 2 (by omega)];exact hc 2 _ rfl,by rw [←eY _ _ 3 (by omega)];exact hc 3 _ rfl,by rw [←eY _ _ 4 (by omega)];exact hc 4 _ rfl,by rw [←eY _ _ 5 (by omega)];exact hc 5 _ rfl,by rw [←eY _ _ 6 (by omega)];exact hc 6 _ rfl,by rw [←eY _ _ 7 (by omega)];exact hc 7 _ rfl,l0,g0⟩
theorem bI {w W:World} (h:Below w.heap.size w W:=by repeat (first | (with_reducible first | exact aa.out (by assumption) | apply ai | apply af | apply ae | refine bU ?_ (aa.out (by assumption))) | exact aa.out (by assumption))):Below w.heap.size w W:=h
theorem di {w W0 W W2:World} (_:aa (Below w.heap.size w W0)) (hb:Below W.heap.size W W2) (h:Below w.heap.size w W:=by exact bI):aa (Below w.heap.size w W2):=⟨ak h hb⟩
theorem geN {w W0 W:World} {g:Nat} (_:aa (Below w.heap.size w W0)) (hg:g=W.heap.size) (h:Below w.heap.size w W:=by exact bI):aa (w.heap.size≤g):=⟨hg ▸ eu h⟩
theorem gT {W:World} {g:Nat} {o:Obj} (h:W.heap[g]?=some o:=by (with_reducible repeat (first | refine aQ ?_ _ | refine aX ?_ | refine aV ?_ _));exact aa.out (by assumption)):W.heap[g]?=some o:=h
theorem lG {W0 W W2:World} {g:Nat} {o:Obj} (_:aa (W0.heap[g]?=some o)) (hb:Below W.heap.size W W2) (h:W.heap[g]?=some o:=by exact gT):aa (W2.heap[g]?=some o):=⟨au h hb⟩
theorem nbN {W0 W:World} {g g':Nat} {o:Obj} (_:aa (W0.heap[g]?=some o)) (hg:g'=W.heap.size) (h:W.heap[g]?=some o:=by exact gT):aa (g≠g'):=⟨hg ▸ Nat.ne_of_lt (aZ h)⟩
theorem nbM {W0 W:World} {g g':Nat} {o:Obj} (_:aa (W0.heap[g]?=some o)) (hg:g'=W.heap.size) (h:W.heap[g]?=some o:=by exact gT):aa (g'≠g):=⟨hg ▸ Nat.ne_of_gt (aZ h)⟩
theorem dw {α:Sort _} {a b:α} (h:a=b:=by first | rfl | (simp [fB,fC]<;>rfl) | (simp [*,fB,fC]<;>rfl)):a=b:=h
theorem aY {α:Sort _} {a b:α} (h:a=b:=by first | rfl | (simp;done) | (simp [*];done)):a=b:=h
theorem bB {w W:World} (h:bR w W:=by repeat (first | exact bR.refl _ | apply bR.step)):bR w W:=h
theorem le0 {a b:Nat} (h:a≤b:=by first | omega | exact Nat.le_refl _):a≤b:=h
theorem sd1 {σ:Type} {K:Kd σ} {w W0 W:World} {A:Option Addr} {n:Nat} {l:List σ} (HR:aa (Kd.C K w A n l)) (_:aa (Below w.heap.size w W0)) (h:Below w.heap.size w W:=by exact bI):Kd.C K W A n l:=Kd.bJ HR.out h
theorem fF {P:Program} {ops:Array Oper} {Q:Exit→Act→World→Prop} {o:Oper} {rest:List Oper} {a:Act} {W:World} {N:Tmp} {cs:Array Value} {t:TypeId}
    (h:∀ g,g=W.heap.size→∀ w1,w1.heap[g]?=some (.cells cs t (0,0))→Below W.heap.size W w1→wpList P ops Q rest (a.put o.dst (.pointer (some ⟨g,0,none⟩))) w1)
    (hgd:o.guard=none:=by rfl) (hd:o.dst=some N:=by rfl)
    (hrun:(execOp a.eval o).run P W = .ok (.value (.pointer (some ⟨W.heap.size,0,none⟩))) (W.alloc (.cells cs t (0,0))):=by first | (go_simp;done) | (go_simp;rfl)):wpList P ops Q (o :: rest) a W:=rO hgd hd hrun h
theorem mD {α:Sort _} {c:Prop} [Decidable c] {x y r:α} (h:(if c then x else y)=r):(x=r∧c)∨(y=r∧¬c):=by
  by_cases hc:c
  · rw [if_pos hc] at h;exact .inl ⟨h,hc⟩
  · rw [if_neg hc] at h;exact .inr ⟨h,hc⟩
theorem gy {α:Sort _} {c:Prop} [Decidable c] {x y r:α} (h:(if c then x else y)=r):(x=r∧c∧decide c=true)∨(y=r∧¬c∧decide c=false):=by
  rcases mD h with ⟨h,hc⟩ | ⟨h,hc⟩
  · exact .inl ⟨h,hc,decide_eq_true hc⟩
  · exact .inr ⟨h,hc,decide_eq_false hc⟩
theorem qo {α:Sort _} {a b:Int} {x y r:α} (h:(if a>b then x else y)=r):(x=r∧b<a∧decide (b<a)=true)∨(y=r∧¬b<a∧decide (b<a)=false):=gy h
theorem o9 {α:Sort _} {a b:Int} {x y r:α} (h:(if a≥b then x else y)=r):(x=r∧b≤a∧decide (b≤a)=true)∨(y=r∧¬b≤a∧decide (b≤a)=false):=gy h
theorem bL {α:Sort _} {a b:Int} {x y r:α} (h:(if a=b then x else y)=r):(x=r∧a=b∧(a==b)=true∧(a != b)=false)∨(y=r∧¬a=b∧(a==b)=false∧(a != b)=true):=by
  rcases mD h with ⟨h,hc⟩ | ⟨h,hc⟩
  · exact .inl ⟨h,hc,beq_iff_eq.mpr hc,bne_eq_false_iff_eq.mpr hc⟩
  · exact .inr ⟨h,hc,beq_eq_false_iff_ne.mpr hc,bne_iff_ne.mpr hc⟩
theorem iQ {α:Sort _} {t:Bool} {x y r:α} (h:(if t=true then x else y)=r):(t=true∧x=r)∨(t=false∧y=r):=by
  cases t
  · exact .inr ⟨rfl,h⟩
  · exact .inl ⟨rfl,h⟩
theorem bnd {α β:Type _} {x:Option α} {f:α→Option β} {r:β} (h:(x.bind f)=some r):∃ t,aa (x=some t)∧f t=some r:=by
  obtain ⟨t,a,b⟩:=Option.bind_eq_some_iff.mp h
  exact ⟨t,⟨a⟩,b⟩
theorem so2 {α β:Type _} {a c:α} {b d:β} (h:some (a,b)=some (c,d)):a=c∧b=d:=by
  cases h;exact ⟨rfl,rfl⟩
theorem so3 {α β γ:Type _} {a c:α} {b d:β} {x y:γ} (h:some (a,b,x)=some (c,d,y)):a=c∧b=d∧x=y:=by
  cases h;exact ⟨rfl,rfl,rfl⟩
theorem cz4 {w:World} {g:Nat} {t:TypeId} {a b c d:Value} (h:aa (w.heap[g]?=some (.cells #[a,b,c,d] t (0,0)))):w.cell? ⟨g,0,none⟩=some a∧w.cell? ⟨g,1,none⟩=some b∧w.cell? ⟨g,2,none⟩=some c∧w.cell? ⟨g,3,none⟩=some d∧w.frozen? ⟨g,0,none⟩=false∧w.frozen? ⟨g,1,none⟩=false∧w.frozen? ⟨g,2,none⟩=false∧w.frozen? ⟨g,3,none⟩=false:=
  ⟨(ag h.out 0).trans rfl,(ag h.out 1).trans rfl,(ag h.out 2).trans rfl,(ag h.out 3).trans rfl,aj h.out 0,aj h.out 1,aj h.out 2,aj h.out 3⟩
theorem cz8 {w:World} {g:Nat} {t:TypeId} {a b c d e f i j:Value} (h:aa (w.heap[g]?=some (.cells #[a,b,c,d,e,f,i,j] t (0,0)))):w.cell? ⟨g,0,none⟩=some a∧w.cell? ⟨g,1,none⟩=some b∧w.cell? ⟨g,2,none⟩=some c∧w.cell? ⟨g,3,none⟩=some d∧w.cell? ⟨g,4,none⟩=some e∧w.cell? ⟨g,5,none⟩=some f∧w.cell? ⟨g,6,none⟩=some i∧w.cell? ⟨g,7,none⟩=some j∧w.frozen? ⟨g,0,none⟩=false∧w.frozen? ⟨g,1,none⟩=false∧w.frozen? ⟨g,2,none⟩=false∧w.frozen? ⟨g,3,none⟩=false∧w.frozen? ⟨g,4,none⟩=false∧w.frozen? ⟨g,5,none⟩=false∧w.frozen? ⟨g,6,none⟩=false∧w.frozen? ⟨g,7,none⟩=false:=
  ⟨(ag h.out 0).trans rfl,(ag h.out 1).trans rfl,(ag h.out 2).trans rfl,(ag h.out 3).trans rfl,(ag h.out 4).trans rfl,(ag h.out 5).trans rfl,(ag h.out 6).trans rfl,(ag h.out 7).trans rfl,aj h.out 0,aj h.out 1,aj h.out 2,aj h.out 3,aj h.out 4,aj h.out 5,aj h.out 6,aj h.out 7⟩
theorem fD {w W:World} {ad:Addr} {n:Nat} {xs:List S45} (h:aa (Kd.C k45 w (some ad) n xs)) (HB:aa (Below w.heap.size w W)) (i:Int) (p:decide (0≤i)=true) (q:decide (i<n)=true):W.cell? (ad.add (i.toNat*4))=some (.int .u16 (bg xs i).f0)∧W.cell? ⟨(ad.add (i.toNat*4)).block,(ad.add (i.toNat*4)).off+1,none⟩=some (.int .u8 (bg xs i).f1)∧W.cell? ⟨(ad.add (i.toNat*4)).block,(ad.add (i.toNat*4)).off+2,none⟩=some (.int .u8 (bg xs i).f2)∧W.cell? ⟨(ad.add (i.toNat*4)).block,(ad.add (i.toNat*4)).off+3,none⟩=some (.int .u32 (bg xs i).f3)∧(0≤i)=True∧(i<n)=True:=by
  obtain ⟨ad,e,h0,h1,h2,h3⟩:=pU h.out i (of_decide_eq_true p) (of_decide_eq_true q)
  cases e
  have mv:∀ {a:Addr} {v:Value},w.cell? a=some v→W.cell? a=some v:=fun h=>(HB.out.cell (World.block_lt_of_cell? w _ h)).trans h
  exact ⟨mv h0,mv h1,mv h2,mv h3,eq_true (of_decide_eq_true p),eq_true (of_decide_eq_true q)⟩
theorem fK {w W:World} {A:Option Addr} {n:Nat} {xs:List S45} (h:aa (Kd.C k45 w A n xs)) (HB:aa (Below w.heap.size w W)) (i:Int) (p:decide (0≤i)=true) (q:decide (i<n)=true):∃ ad,A=some ad∧W.cell? (ad.add (i.toNat*4))=some (.int .u16 (bg xs i).f0)∧W.cell? ⟨(ad.add (i.toNat*4)).block,(ad.add (i.toNat*4)).off+1,none⟩=some (.int .u8 (bg xs i).f1)∧W.cell? ⟨(ad.add (i.toNat*4)).block,(ad.add (i.toNat*4)).off+2,none⟩=some (.int .u8 (bg xs i).f2)∧W.cell? ⟨(ad.add (i.toNat*4)).block,(ad.add (i.toNat*4)).off+3,none⟩=some (.int .u32 (bg xs i).f3)∧(0≤i)=True∧(i<n)=True:=by
  obtain ⟨ad,e,_⟩:=pU h.out i (of_decide_eq_true p) (of_decide_eq_true q)
  cases e
  exact ⟨ad,rfl,fD h HB i p q⟩
theorem uP {w W:World} {ad:Addr} {n:Nat} {xs:List S47} (h:aa (Kd.C k47 w (some ad) n xs)) (HB:aa (Below w.heap.size w W)) (i:Int) (p:decide (0≤i)=true) (q:decide (i<n)=true):∃ A0 c0,W.cell? (ad.add (i.toNat*8))=some (.slice A0 (ah xs i).f0.length c0)∧W.cell? ⟨(ad.add (i.toNat*8)).block,(ad.add (i.toNat*8)).off+1,none⟩=some (.int .i64 (ah xs i).f1)∧W.cell? ⟨(ad.add (i.toNat*8)).block,(ad.add (i.toNat*8)).off+2,none⟩=some (.int .u16 (ah xs i).f2.f0)∧W.cell? ⟨(ad.add (i.toNat*8)).block,(ad.add (i.toNat*8)).off+3,none⟩=some (.int .u8 (ah xs i).f2.f1)∧W.cell? ⟨(ad.add (i.toNat*8)).block,(ad.add (i.toNat*8)).off+4,none⟩=some (.int .u8 (ah xs i).f2.f2)∧W.cell? ⟨(ad.add (i.toNat*8)).block,(ad.add (i.toNat*8)).off+5,none⟩=some (.int .u32 (ah xs i).f2.f3)∧W.cell? ⟨(ad.add (i.toNat*8)).block,(ad.add (i.toNat*8)).off+6,none⟩=some (.int .i64 (ah xs i).f3)∧W.cell? ⟨(ad.add (i.toNat*8)).block,(ad.add (i.toNat*8)).off+7,none⟩=some (.int .i64 (ah xs i).f4)∧aa (k45.C w A0 (ah xs i).f0.length (ah xs i).f0)∧aa ((ah xs i).f0.length≤c0)∧(0≤i)=True∧(i<n)=True:=by
  obtain ⟨ad,A0,c0,e,h0,h1,h2,h3,h4,h5,h6,h7,hl,hi⟩:=iJ h.out i (of_decide_eq_true p) (of_decide_eq_true q)
  cases e
  have mv:∀ {a:Addr} {v:Value},w.cell? a=some v→W.cell? a=some v:=fun h=>(HB.out.cell (World.block_lt_of_cell? w _ h)).trans h
  exact ⟨A0,c0,mv h0,mv h1,mv h2,mv h3,mv h4,mv h5,mv h6,mv h7,⟨hi⟩,⟨hl⟩,eq_true (of_decide_eq_true p),eq_true (of_decide_eq_true q)⟩
theorem oV {w:World} {A:Option Addr} {n:Nat} {xs:List S47} (h:aa (Kd.C k47 w A n xs)) (i:Int) (p:decide (0≤i)=true) (q:decide (i<n)=true):∃ ad,A=some ad:=by
  obtain ⟨ad,_,_,e,_⟩:=iJ h.out i (of_decide_eq_true p) (of_decide_eq_true q)
  exact ⟨ad,e⟩
section
variable {P:Program} {ops:Array Oper} {Q:Exit→Act→World→Prop} {S:World→Prop} {ds:List Nat} {md:Region.Mode}
theorem gQ {id:Nat} {a:Act} {w:World} (n:Nat) (S:World→Prop) (ds:List Nat) (hS:S w.drew) (h:S w.drew→bz P .any ops Q S ds n (Array.replicate n false) a w.drew) (hm:P.follows .mixedOrders=true:=by kernel_rfl) (hn:ops.size=n:=by exact rfl):(Code.region id ops true).wp P Q a w:=dR _ hm hn rfl hS h
theorem aM (i N:Nat) {oi:Oper} {v:Value} {fuel:Nat} {l:Array Bool} {a:Act} {w:World} {a':Act} (h:bz P md ops Q S ds fuel (l.setIfInBounds i true) a' w) (hi:ops[i]?=some oi:=by exact rfl) (hN:oi.dst=some N:=by exact rfl) (hc:anyB md ops l (l.setIfInBounds i true) i=true:=by kernel_rfl)
    (hQ:∀ c a w,Q (.panic c) (a.put oi.dst v) w→Q (.panic c) a w:=by exact fun _ _ _ h=>h) (hy:Yields P ops oi v a:=by refine Or.inl ⟨by rfl,?_⟩;intro w';go_simp;with_reducible rfl) (ha:a.put (some N) v=a':=by simp only [Act.put,List.setIfInBounds_toArray,List.set_cons_zero,List.set_cons_succ,ax,ay];rfl):bz P md ops Q S ds (fuel+1) l a w:=aH _ hi hN hc hQ hy ha h
theorem dN (i N:Nat) {oi:Oper} {v:Value} {fuel:Nat} {l:Array Bool} {a:Act} {w:World} {a':Act} (hS:S w) (h:bz P md ops Q S ds fuel (l.setIfInBounds i true) a' w) (hi:ops[i]?=some oi:=by exact rfl) (hN:oi.dst=some N:=by exact rfl) (hc:takeB md ops ds l (l.setIfInBounds i true) i=true:=by kernel_rfl)
    (hQ:∀ c a w,Q (.panic c) (a.put oi.dst v) w→Q (.panic c) a w:=by exact fun _ _ _ h=>h) (hy:YieldsIf P ops S oi v a:=by refine Or.inl ⟨by rfl,?_⟩;intro w' hs;repeat (obtain ⟨_,hs⟩:=hs);go_simp;with_reducible rfl) (ha:a.put (some N) v=a':=by simp only [Act.put,List.setIfInBounds_toArray,List.set_cons_zero,List.set_cons_succ,ax,ay];rfl):bz P md ops Q S ds (fuel+1) l a w:=cu _ hi hN hc hQ hy hS ha h
theorem iZ (i:Nat) (N:Option Tmp) {oi:Oper} {fuel:Nat} {l:Array Bool} {a:Act} {w:World} (h:∀ K:Act→World→Prop,Shut (∀ a' w',S w'→(S w'→bz P md ops Q S ds fuel (l.setIfInBounds i true) a' w')→K a' w')→if Region.wanted oi (yielded ops a.tmps)=true then Oper.wp P oi a w K Q else K (a.put N undef) w)
    (hi:ops[i]?=some oi:=by exact rfl) (hN:oi.dst=N:=by exact rfl) (hc:kC md ops l (l.setIfInBounds i true) i=true:=by kernel_rfl) (hd:i ∉ ds:=by decide):bz P md ops Q S ds (fuel+1) l a w:=gV _ hi hN hc hd h
theorem gI (i:Nat) (N:Option Tmp) {oi:Oper} {fuel:Nat} {l:Array Bool} {a:Act} {w:World} (h:∀ K:Act→World→Prop,Shut (∀ a' w',bz P md ops Q S ds fuel (l.setIfInBounds i true) a' w'→K a' w')→if Region.wanted oi (yielded ops a.tmps)=true then Oper.wp P oi a w K Q else K (a.put N undef) w)
    (hi:ops[i]?=some oi:=by exact rfl) (hN:oi.dst=N:=by exact rfl) (hc:kC md ops l (l.setIfInBounds i true) i=true:=by kernel_rfl) (hd:i∈ds:=by decide):bz P md ops Q S ds (fuel+1) l a w:=gL _ hi hN hc hd h
theorem fU (T:Nat) {fuel:Nat} {l:Array Bool} {a a':Act} {v:Value} {w:World} (h:bz P md ops Q S ds fuel l a' w) (ha:a.put (some T) v=a':=by simp only [Act.put,List.setIfInBounds_toArray,List.set_cons_zero,List.set_cons_succ,ax,ay];rfl):bz P md ops Q S ds fuel l (a.put (some T) v) w:=fe ha h
theorem j5 {oi:Oper} {N:Option Tmp} {a:Act} {w:World} {K:Act→World→Prop} {f:FuncId} {fn:Func} {as_:Array Operand} {ts:Array TypeId} (hf:P.funcs[f]?=some fn) (args:Array Value) (h:Calls P f args w fun e w'=>∃ v,e = .returned v∧K (a.put N v) w')
    (hname:(fn.name == "runtime.NumGoroutine")=false:=by kernel_rfl) (hb:fn.body.isSome=true:=by exact rfl) (hw:Region.wanted oi (yielded ops a.tmps)=true:=by rfl) (hN:oi.dst=N:=by exact rfl) (hop:oi.op = .call {callee := .value (.func f),args:=as_,argTypes:=ts}:=by exact rfl) (hargs:as_.map a.eval=args:=by simp only [List.map_toArray,List.map_cons,List.map_nil];rfl) :
    if Region.wanted oi (yielded ops a.tmps)=true then Oper.wp P oi a w K Q else K (a.put N undef) w:=gK hf hname hb args hw hN hop hargs h
theorem iy {oi:Oper} {a:Act} {w w1:World} {K:Act→World→Prop} (h:K a w1) (hw:Region.wanted oi (yielded ops a.tmps)=true:=by rfl) (hN:oi.dst=none:=by exact rfl) (hrun:(execOp a.eval oi).run P w = .ok .skip w1:=by go_simp;rfl):if Region.wanted oi (yielded ops a.tmps)=true then Oper.wp P oi a w K Q else K (a.put none undef) w:=gX hw hN hrun h
end
theorem jZ {B:Nat} {W V:World} (h:Below B W V:=by repeat (first | (with_reducible exact Below.refl _ _) | apply af | apply ae)):Below B W V:=h
theorem mo {w V:World} (h:Below w.heap.size w V:=by repeat (first | (with_reducible exact Below.refl _ _) | apply af | apply ae | apply ai)):Below w.heap.size w V:=h
theorem ab0 {a:Addr} {b g:Nat} (hn:b≠g) (h:a.block=b:=by first | exact add_block _ _ | rfl | (show (Addr.add _ _).block=_;exact add_block _ _)):a.block≠g:=h ▸ hn
theorem fQ {w:World} {g:Nat} {t:TypeId} {cs:Array Value} (h:w.heap[g]?=some (.cells cs t (0,0))) (i:Nat) {v:Value} (e:cs[i]?=some v:=by exact rfl):w.cell? ⟨g,i,none⟩=some v:=(ag h i).trans e
end Go.Proofs.Ytdkalnkplgfgoaa.PA
namespace Go.Proofs.Ytdkalnkplgfgoaa.Ln
open Go.Maps Go.RowKit
def tok (v:Value):Option (DataW Value × List MemPlace):=some (.held v,[])
def eX (P:Program) (k:TypeId) (z:Value) (w:World) (b n:Nat) (f:Int→Value):Prop:=
 ∃ D,w.ownsMap P k tok b n D∧∀ a,(Lit.int .i64 a).wf=true→D.atKey (.int .i64 a) (.held z) = .held (f a)
def upd {α:Type} (f:Int→α) (a:Int) (v:α):Int→α:=fun x=>if x=a then v else f x
section
variable {P:Program} {k e t:TypeId} {z:Value} {w w1:World} {b n:Nat} {f:Int→Value}
theorem eX.made (w:World) (P:Program) (k:TypeId) (z:Value):eX P k z (w.alloc (.map #[] 0)) w.heap.size 0 (fun _=>z):=
 ⟨_,World.ownsMap_made w P k tok,fun _ _=>rfl⟩
theorem eX.kept (h:eX P k z w b n f) {row:Option Nat} (hg:w.grownBy w1 row) (hne:some b≠row):eX P k z w1 b n f:=by
 obtain ⟨D,h1,h2⟩:=h
 exact ⟨D,h1.kept hg hne,h2⟩
theorem eX.move (h:eX P k z w b n f) (hm:w1.heap[b]?=w.heap[b]?):eX P k z w1 b n f:=by
 obtain ⟨D,⟨es,c,hb,r⟩,h2⟩:=h
 exact ⟨D,⟨es,c,hm.trans hb,r⟩,h2⟩
theorem eX.below (h:eX P k z w b n f) (hb:Below w.heap.size w w1):eX P k z w1 b n f:=by
 obtain ⟨D,h1,h2⟩:=h
 exact ⟨D,h1.kept ⟨hb.os,hb.tape,hb.output,hb.size,fun i hi _=>hb.block i hi⟩ (row:=none) (by simp),h2⟩
theorem eX.mono (h:eX P k z w b n f) {m:Nat} (hn:n≤m):eX P k z w b m f:=by
 obtain ⟨D,h1,h2⟩:=h
 exact ⟨D,h1.mono hn,h2⟩
theorem eX.lt (h:eX P k z w b n f):b<w.heap.size:=by
 obtain ⟨D,h1,_⟩:=h
 exact h1.lt
theorem eX.iD (h:eX P k z w b n f):∃ es c,w.heap[b]?=some (.map es c):=by
 obtain ⟨D,⟨es,c,hb,_⟩,_⟩:=h
 exact ⟨es,c,hb⟩
theorem eX.look (h:eX P k z w b n f) (K:Keyed P k) (hk:P.underlying k=some (.int .i64)) (ht:P.underlying t=some (.map k e)) (hz:∀ w,(zeroValue e).run P w = .ok z w)
 (a:Int) (ha:(Lit.int .i64 a).wf=true):(Instr.lookup t (.map (some b)) (.int .i64 a) false).run P w = .ok (f a) w:=by
 obtain ⟨D,h1,h2⟩:=h
 obtain ⟨v,ps,hrun,hv⟩:=h1.lookup K ht (hz w) (zd := .held z) (zp:=[]) rfl (keyOf_int_mk hk ha)
 rw [h2 a ha] at hv
 simp only [tok,Option.some.injEq,Prod.mk.injEq,DataW.held.injEq] at hv
 rw [hrun,hv.1]
theorem eX.store (h:eX P k z w b n f) (K:Keyed P k) (hk:P.underlying k=some (.int .i64)) (ht:P.underlying t=some (.map k e)) (hn:n<maxLen)
 (a:Int) (ha:(Lit.int .i64 a).wf=true) (v:Value):∃ w',(Instr.mapUpdate t (.map (some b)) (.int .i64 a) v).run P w = .ok () w'∧eX P k z w' b (n+1) (upd f a v)∧w.grownBy w' (some b):=by
 obtain ⟨D,h1,h2⟩:=h
 obtain ⟨w',hrun,ho,hg⟩:=h1.update K ht hn (keyOf_int_mk hk ha) (d := .held v) (ps:=[]) (val:=v) rfl
 refine ⟨w',hrun,⟨_,ho,fun x hx=>?_⟩,hg⟩
 unfold upd
 by_cases e:x=a
 · subst e
   rw [if_pos rfl]
   exact atKey_put_same h1.isMap (K.key (keyOf_int_mk hk ha)) _ _
 rw [if_neg e]
 exact (atKey_put_other (by intro h;injection h with _ h;exact e h) _ _).trans (h2 x hx)
end
theorem jF {P:Program} (w:World) {ops:Array Oper} {rest:List Oper} {o:Oper} {a:Act} {Q:Exit→Act→World→Prop}
 (hg:o.guard=none) (m x v:Operand) (t:TypeId) (hop:o.op=Op.mapUpdate t m x v)
 (k e:TypeId) (K:Keyed P k) (hk:P.underlying k=some (.int .i64)) (ht:P.underlying t=some (.map k e)) (z:Value) (b n:Nat) (f:Int→Value)
 (hm:a.eval m = .map (some b)) (hF:eX P k z w b n f) (hn:n<maxLen) (key:Int) (val:Value) (hx:a.eval x = .int .i64 key) (hv:a.eval v=val) (hkey:(Lit.int .i64 key).wf=true)
 (hK:∀ w',eX P k z w' b (n+1) (upd f key val)→w.grownBy w' (some b)→wpList P ops Q rest (a.put o.dst undef) w') :
 wpList P ops Q (o :: rest) a w:=by
 refine wpList_plain hg fun K' hK'=>?_
 obtain ⟨w',hrun,r1,r2⟩:=hF.store K hk ht hn key hkey val
 unfold Oper.wp
 simp [execOp,hop,hm,hx,hv,hrun,Result.andThen]
 exact hK' _ _ (hK w' r1 r2)
open Go.Proofs.YtdkalnkplgfgoaaW.PrintWords Go.Proofs.YtdkalnkplgfgoaaW.PrintLast Go.Proofs.YtdkalnkplgfgoaaW.PrintMore Go.Proofs.Ytdkalnkplgfgoaa.PA
theorem rW:Keyed Try.prog 3:=int_keyed Try.underlying3
theorem zeroI (w:World):(zeroValue 3).run Try.prog w = .ok (.int .i64 0) w:=by kernel_rfl
theorem zeroF (w:World):(zeroValue 121).run Try.prog w = .ok (.agg #[.bool false,.bool false]) w:=by kernel_rfl
abbrev MI (w:World) (b n:Nat) (f:Int→Int):Prop:=eX Try.prog 3 (.int .i64 0) w b n (fun x => .int .i64 (f x))
def oF (p:Bool × Bool):Value := .agg #[.bool p.1,.bool p.2]
abbrev MF (w:World) (b n:Nat) (f:Int→Bool × Bool):Prop:=eX Try.prog 3 (.agg #[.bool false,.bool false]) w b n (fun x=>oF (f x))
theorem fM {w:World} {b n:Nat} {f:Int→Int} (h:MI w b n f) (a:Int) (ha:(Lit.int .i64 a).wf=true):(Instr.lookup 66 (.map (some b)) (.int .i64 a) false).run Try.prog w = .ok (.int .i64 (f a)) w:=
 h.look rW Try.underlying3 Try.underlying66 zeroI a ha
theorem lc {w:World} {b n:Nat} {f:Int→Bool × Bool} (h:MF w b n f) (a:Int) (ha:(Lit.int .i64 a).wf=true):(Instr.lookup 67 (.map (some b)) (.int .i64 a) false).run Try.prog w = .ok (.agg #[.bool (f a).1,.bool (f a).2]) w:=
 h.look rW Try.underlying3 Try.underlying67 zeroF a ha
theorem far_f0 (x y:Bool) (w:World):(Instr.field 121 (.agg #[.bool x,.bool y]) 0).run Try.prog w = .ok (.bool x) w:=by kernel_rfl
theorem far_f1 (x y:Bool) (w:World):(Instr.field 121 (.agg #[.bool x,.bool y]) 1).run Try.prog w = .ok (.bool y) w:=by kernel_rfl
def eD (b:S47) (a:Int) (f:Bool × Bool):Int:=
 if b.f1=2∧b.f3=a then 0 else if b.f1=3 then 1+(if f.1 then 1 else 0)+(if f.2 then 1 else 0) else 1
theorem qD (g:List S47) (B c:Nat) (A:Option Addr) (vc vo vp:Value) (bA bF nA nF:Nat) (after:Int→Int) (fars:Int→Bool × Bool) (i:Int) (w:World)
 (hB:w.heap[B]?=some (.cells #[vc,.slice A g.length c,vo,.map (some bA),vp,.map (some bF)] 72 (0,0))) (HG:Kd.C k47 w A g.length g)
 (h0:0≤i) (h1:i<(g.length:Int)) (hA:MI w bA nA after) (hF:MF w bF nF fars) :
 Calls Try.prog 77 #[.pointer (some ⟨B,0,none⟩),.int .i64 i] w fun e w'=>e = .returned (.int .i64 (eD (ah g i) (after i) (fars i)))∧Below w.heap.size w w':=by
 have hlen:=Kd.kI HG
 have hwf:(Lit.int .i64 i).wf=true:=WalkArith.wf_i64 (by omega)
 obtain ⟨ad,A0,c0,rfl,x0,x1,x2,x3,x4,x5,x6,x7,hl,hi⟩:=iJ HG i h0 h1
 have b1:=fQ hB 1
 have b3:=fQ hB 3
 have b5:=fQ hB 5
 have lA:∀ o n,(Instr.lookup 66 (.map (some bA)) (.int .i64 i) false).run Try.prog ((w.alloc o).drewN n) = .ok (.int .i64 (after i)) ((w.alloc o).drewN n):=fun o n=>fM (hA.below (af (ai (Below.refl _ _) o) n)) i hwf
 have lF:∀ o n,(Instr.lookup 67 (.map (some bF)) (.int .i64 i) false).run Try.prog ((w.alloc o).drewN n) = .ok (.agg #[.bool (fars i).1,.bool (fars i).2]) ((w.alloc o).drewN n):=fun o n=>lc (hF.below (af (ai (Below.refl _ _) o) n)) i hwf
 have hBl:=aZ hB
 clear hA hF HG hi hl hB
 generalize after i=aft at *
 generalize hp:fars i=p at *
 clear hp
 obtain ⟨fy,fn⟩:=p
 dsimp only at lF
 by_cases c1:(ah g i).f1=2
 · have c1b:((ah g i).f1==2)=true:=beq_iff_eq.mpr c1
   have c3b:((ah g i).f1==3)=false:=beq_eq_false_iff_ne.mpr (by omega)
   by_cases c2:(ah g i).f3=aft
   · have e:eD (ah g i) aft (fy,fn)=0:=if_pos ⟨c1,c2⟩
     have c2b:((ah g i).f3==aft)=true:=beq_iff_eq.mpr c2
     rw [e]
     clear c1 c2 e
     go_enter Try.func77,Try.ntmps77
     go_wp2
     go_quiet (fail)
     go_wp2
     go_ret
     exact ⟨rfl,af (ai (Below.refl _ _) _) _⟩
   have e:eD (ah g i) aft (fy,fn)=1:=by unfold eD;rw [if_neg (fun h=>c2 h.2),if_neg (by omega)]
   have c2b:((ah g i).f3==aft)=false:=beq_eq_false_iff_ne.mpr c2
   rw [e]
   clear c1 c2 e
   go_enter Try.func77,Try.ntmps77
   go_wp2
   go_quiet (fail)
   go_wp2
   go_ret
   exact ⟨rfl,af (ai (Below.refl _ _) _) _⟩
 have c1b:((ah g i).f1==2)=false:=beq_eq_false_iff_ne.mpr c1
 by_cases c3:(ah g i).f1=3
 · have c3b:((ah g i).f1==3)=true:=beq_iff_eq.mpr c3
   have e:eD (ah g i) aft (fy,fn)=1+(if fy then 1 else 0)+(if fn then 1 else 0):=by unfold eD;rw [if_neg (fun h=>c1 h.1),if_pos c3]
   rw [e]
   clear c1 c3 e
   have k0:=far_f0
   have k1:=far_f1
   cases fy<;>cases fn
   all_goals
    go_enter Try.func77,Try.ntmps77
    go_wp2
    go_quiet (fail)
    go_wp2
    go_ret
    exact ⟨rfl,af (ai (Below.refl _ _) _) _⟩
 have c3b:((ah g i).f1==3)=false:=beq_eq_false_iff_ne.mpr c3
 have e:eD (ah g i) aft (fy,fn)=1:=by unfold eD;rw [if_neg (fun h=>c1 h.1),if_neg c3]
 rw [e]
 clear c1 c3 e
 go_enter Try.func77,Try.ntmps77
 go_wp2
 go_quiet (fail)
 go_wp2
 go_ret
 exact ⟨rfl,af (ai (Below.refl _ _) _) _⟩
end Go.Proofs.Ytdkalnkplgfgoaa.Ln
