/- Lemmas and walks for the statements of the texts ZTZ..: the declarations that they need, taken together by a program of this session. Conditions: as each says. -/
import Derived.Maps.OwnSet
import Derived.Maps.Views
import Derived.Below
import Derived.Deep.RegionHeld3
import Derived.BigRegion
import Derived.Test.YtdkalnkplgfgoaaProg
import Derived.Deep.Draws
import Derived.Deep.AppendLies
import Derived.Maps.AppendAt
import Derived.OwnWalk
import Derived.Laws.BytesArg
import Derived.Laws.MakeOwn
import Derived.Laws.OwnMore
import Derived.Deep.OwnRows
import Derived.Tactics
import Derived.Lib.ConvBytes
import Derived.Laws.Slices
import Derived.WalkKit
import Derived.KernelRfl
import Derived.RowKit3
import Derived.Deep.LoopGhost
import Derived.Deep.QuietTactic
import Derived.BigQuiet
import Derived.WideLaws
import Derived.Deep.DeepCutAuto
import Derived.Deep.CutBlock
import Derived.Laws.Rows
import Derived.Lib.AppendStr
import Derived.ArgAppend
import Derived.Laws.IdiomCopy
import Derived.OrdersHeld
import Derived.Laws.BitsLemmas
import Derived.RowKit
import Derived.Test.YtdkalnkplgfgoaaZTa
set_option maxHeartbeats 8000000
set_option maxRecDepth 100000
set_option linter.unusedVariables false
set_option linter.unusedSimpArgs false
namespace Go.Proofs.Ytdkalnkplgfgoaa.PA
open Go.RowKit Go.Proofs.YtdkalnkplgfgoaaW.PrintWords Go.Proofs.YtdkalnkplgfgoaaW.PrintLast Go.Proofs.YtdkalnkplgfgoaaW.PrintMore
theorem bU {w W:World} (h:Below w.heap.size w W:=by repeat (first | (with_reducible first | exact aa.out (by assumption) | apply ai | apply aj | apply af | refine eY ?_ (aa.out (by assumption))) | exact aa.out (by assumption))):Below w.heap.size w W:=h
theorem di {w W0 W W2:World} (_:aa (Below w.heap.size w W0)) (hb:Below W.heap.size W W2) (h:Below w.heap.size w W:=by exact bU):aa (Below w.heap.size w W2):=⟨au h hb⟩
theorem geN {w W0 W:World} {g:Nat} (_:aa (Below w.heap.size w W0)) (hg:g=W.heap.size) (h:Below w.heap.size w W:=by exact bU):aa (w.heap.size≤g):=⟨hg ▸ fA h⟩
theorem kV {W:World} {g:Nat} {o:Obj} (h:W.heap[g]?=some o:=by (with_reducible repeat (first | refine aV ?_ _ | refine aY ?_ | refine aH ?_ _));exact aa.out (by assumption)):W.heap[g]?=some o:=h
theorem nR {W0 W W2:World} {g:Nat} {o:Obj} (_:aa (W0.heap[g]?=some o)) (hb:Below W.heap.size W W2) (h:W.heap[g]?=some o:=by exact kV):aa (W2.heap[g]?=some o):=⟨ak h hb⟩
theorem nbN {W0 W:World} {g g':Nat} {o:Obj} (_:aa (W0.heap[g]?=some o)) (hg:g'=W.heap.size) (h:W.heap[g]?=some o:=by exact kV):aa (g≠g'):=⟨hg ▸ Nat.ne_of_lt (ay h)⟩
theorem nbM {W0 W:World} {g g':Nat} {o:Obj} (_:aa (W0.heap[g]?=some o)) (hg:g'=W.heap.size) (h:W.heap[g]?=some o:=by exact kV):aa (g'≠g):=⟨hg ▸ Nat.ne_of_gt (ay h)⟩
theorem dL {α:Sort _} {a b:α} (h:a=b:=by first | rfl | (simp [l9,ma]<;>rfl) | (simp [*,l9,ma]<;>rfl)):a=b:=h
theorem bT {α:Sort _} {a b:α} (h:a=b:=by first | rfl | (simp;done) | (simp [*];done)):a=b:=h
theorem cZ {w W:World} (h:df w W:=by repeat (first | exact df.refl _ | apply df.step)):df w W:=h
theorem le0 {a b:Nat} (h:a≤b:=by first | omega | exact Nat.le_refl _):a≤b:=h
theorem sd1 {σ:Type} {K:Kd σ} {w W0 W:World} {A:Option Addr} {n:Nat} {l:List σ} (HR:aa (Kd.C K w A n l)) (_:aa (Below w.heap.size w W0)) (h:Below w.heap.size w W:=by exact bU):Kd.C K W A n l:=Kd.bY HR.out h
theorem fe {P:Program} {ops:Array Oper} {Q:Exit→Act→World→Prop} {o:Oper} {rest:List Oper} {a:Act} {W:World} {N:Tmp} {cs:Array Value} {t:TypeId}
    (h:∀ g,g=W.heap.size→∀ w1,w1.heap[g]?=some (.cells cs t (0,0))→Below W.heap.size W w1→wpList P ops Q rest (a.put o.dst (.pointer (some ⟨g,0,none⟩))) w1)
    (hgd:o.guard=none:=by rfl) (hd:o.dst=some N:=by rfl)
    (hrun:(execOp a.eval o).run P W = .ok (.value (.pointer (some ⟨W.heap.size,0,none⟩))) (W.alloc (.cells cs t (0,0))):=by first | (go_simp;done) | (go_simp;rfl)):wpList P ops Q (o :: rest) a W:=vB hgd hd hrun h
theorem rY {α:Sort _} {c:Prop} [Decidable c] {x y r:α} (h:(if c then x else y)=r):(x=r∧c)∨(y=r∧¬c):=by
  by_cases hc:c
  · rw [if_pos hc] at h;exact .inl ⟨h,hc⟩
  · rw [if_neg hc] at h;exact .inr ⟨h,hc⟩
theorem kL {α:Sort _} {c:Prop} [Decidable c] {x y r:α} (h:(if c then x else y)=r):(x=r∧c∧decide c=true)∨(y=r∧¬c∧decide c=false):=by
  rcases rY h with ⟨h,hc⟩ | ⟨h,hc⟩
  · exact .inl ⟨h,hc,decide_eq_true hc⟩
  · exact .inr ⟨h,hc,decide_eq_false hc⟩
theorem sp_g {α:Sort _} {a b:Int} {x y r:α} (h:(if a>b then x else y)=r):(x=r∧b<a∧decide (b<a)=true)∨(y=r∧¬b<a∧decide (b<a)=false):=kL h
theorem sp_h {α:Sort _} {a b:Int} {x y r:α} (h:(if a≥b then x else y)=r):(x=r∧b≤a∧decide (b≤a)=true)∨(y=r∧¬b≤a∧decide (b≤a)=false):=kL h
theorem cK {α:Sort _} {a b:Int} {x y r:α} (h:(if a=b then x else y)=r):(x=r∧a=b∧(a==b)=true∧(a != b)=false)∨(y=r∧¬a=b∧(a==b)=false∧(a != b)=true):=by
  rcases rY h with ⟨h,hc⟩ | ⟨h,hc⟩
  · exact .inl ⟨h,hc,beq_iff_eq.mpr hc,bne_eq_false_iff_eq.mpr hc⟩
  · exact .inr ⟨h,hc,beq_eq_false_iff_ne.mpr hc,bne_iff_ne.mpr hc⟩
theorem qR {α:Sort _} {t:Bool} {x y r:α} (h:(if t=true then x else y)=r):(t=true∧x=r)∨(t=false∧y=r):=by
  cases t
  · exact .inr ⟨rfl,h⟩
  · exact .inl ⟨rfl,h⟩
theorem bnd {α β:Type _} {x:Option α} {f:α→Option β} {r:β} (h:(x.bind f)=some r):∃ t,aa (x=some t)∧f t=some r:=by
  obtain ⟨t,a,b⟩:=Option.bind_eq_some_iff.mp h
  exact ⟨t,⟨a⟩,b⟩
theorem so2 {α β:Type _} {a c:α} {b d:β} (h:some (a,b)=some (c,d)):a=c∧b=d:=by
  cases h;exact ⟨rfl,rfl⟩
theorem so3 {α β γ:Type _} {a c:α} {b d:β} {x y:γ} (h:some (a,b,x)=some (c,d,y)):a=c∧b=d∧x=y:=by
  cases h;exact ⟨rfl,rfl,rfl⟩
theorem cz4 {w:World} {g:Nat} {t:TypeId} {a b c d:Value} (h:aa (w.heap[g]?=some (.cells #[a,b,c,d] t (0,0)))):w.cell? ⟨g,0,none⟩=some a∧w.cell? ⟨g,1,none⟩=some b∧w.cell? ⟨g,2,none⟩=some c∧w.cell? ⟨g,3,none⟩=some d∧w.frozen? ⟨g,0,none⟩=false∧w.frozen? ⟨g,1,none⟩=false∧w.frozen? ⟨g,2,none⟩=false∧w.frozen? ⟨g,3,none⟩=false:=
  ⟨(ae h.out 0).trans rfl,(ae h.out 1).trans rfl,(ae h.out 2).trans rfl,(ae h.out 3).trans rfl,ah h.out 0,ah h.out 1,ah h.out 2,ah h.out 3⟩
theorem cz8 {w:World} {g:Nat} {t:TypeId} {a b c d e f i j:Value} (h:aa (w.heap[g]?=some (.cells #[a,b,c,d,e,f,i,j] t (0,0)))):w.cell? ⟨g,0,none⟩=some a∧w.cell? ⟨g,1,none⟩=some b∧w.cell? ⟨g,2,none⟩=some c∧w.cell? ⟨g,3,none⟩=some d∧w.cell? ⟨g,4,none⟩=some e∧w.cell? ⟨g,5,none⟩=some f∧w.cell? ⟨g,6,none⟩=some i∧w.cell? ⟨g,7,none⟩=some j∧w.frozen? ⟨g,0,none⟩=false∧w.frozen? ⟨g,1,none⟩=false∧w.frozen? ⟨g,2,none⟩=false∧w.frozen? ⟨g,3,none⟩=false∧w.frozen? ⟨g,4,none⟩=false∧w.frozen? ⟨g,5,none⟩=false∧w.frozen? ⟨g,6,none⟩=false∧w.frozen? ⟨g,7,none⟩=false:=
  ⟨(ae h.out 0).trans rfl,(ae h.out 1).trans rfl,(ae h.out 2).trans rfl,(ae h.out 3).trans rfl,(ae h.out 4).trans rfl,(ae h.out 5).trans rfl,(ae h.out 6).trans rfl,(ae h.out 7).trans rfl,ah h.out 0,ah h.out 1,ah h.out 2,ah h.out 3,ah h.out 4,ah h.out 5,ah h.out 6,ah h.out 7⟩
theorem rd45 {w W:World} {ad:Addr} {n:Nat} {xs:List S45} (h:aa (Kd.C k45 w (some ad) n xs)) (HB:aa (Below w.heap.size w W)) (i:Int) (p:decide (0≤i)=true) (q:decide (i<n)=true):W.cell? (ad.add (i.toNat*4))=some (.int .u16 (bX xs i).f0)∧W.cell? ⟨(ad.add (i.toNat*4)).block,(ad.add (i.toNat*4)).off+1,none⟩=some (.int .u8 (bX xs i).f1)∧W.cell? ⟨(ad.add (i.toNat*4)).block,(ad.add (i.toNat*4)).off+2,none⟩=some (.int .u8 (bX xs i).f2)∧W.cell? ⟨(ad.add (i.toNat*4)).block,(ad.add (i.toNat*4)).off+3,none⟩=some (.int .u32 (bX xs i).f3)∧(0≤i)=True∧(i<n)=True:=by
  obtain ⟨ad,e,h0,h1,h2,h3⟩:=xz h.out i (of_decide_eq_true p) (of_decide_eq_true q)
  cases e
  have mv:∀ {a:Addr} {v:Value},w.cell? a=some v→W.cell? a=some v:=fun h=>(HB.out.cell (World.block_lt_of_cell? w _ h)).trans h
  exact ⟨mv h0,mv h1,mv h2,mv h3,eq_true (of_decide_eq_true p),eq_true (of_decide_eq_true q)⟩
theorem zP {w W:World} {A:Option Addr} {n:Nat} {xs:List S45} (h:aa (Kd.C k45 w A n xs)) (HB:aa (Below w.heap.size w W)) (i:Int) (p:decide (0≤i)=true) (q:decide (i<n)=true):∃ ad,A=some ad∧W.cell? (ad.add (i.toNat*4))=some (.int .u16 (bX xs i).f0)∧W.cell? ⟨(ad.add (i.toNat*4)).block,(ad.add (i.toNat*4)).off+1,none⟩=some (.int .u8 (bX xs i).f1)∧W.cell? ⟨(ad.add (i.toNat*4)).block,(ad.add (i.toNat*4)).off+2,none⟩=some (.int .u8 (bX xs i).f2)∧W.cell? ⟨(ad.add (i.toNat*4)).block,(ad.add (i.toNat*4)).off+3,none⟩=some (.int .u32 (bX xs i).f3)∧(0≤i)=True∧(i<n)=True:=by
  obtain ⟨ad,e,_⟩:=xz h.out i (of_decide_eq_true p) (of_decide_eq_true q)
  cases e
  exact ⟨ad,rfl,rd45 h HB i p q⟩
theorem zQ {w W:World} {ad:Addr} {n:Nat} {xs:List S47} (h:aa (Kd.C k47 w (some ad) n xs)) (HB:aa (Below w.heap.size w W)) (i:Int) (p:decide (0≤i)=true) (q:decide (i<n)=true):∃ A0 c0,W.cell? (ad.add (i.toNat*8))=some (.slice A0 (av xs i).f0.length c0)∧W.cell? ⟨(ad.add (i.toNat*8)).block,(ad.add (i.toNat*8)).off+1,none⟩=some (.int .i64 (av xs i).f1)∧W.cell? ⟨(ad.add (i.toNat*8)).block,(ad.add (i.toNat*8)).off+2,none⟩=some (.int .u16 (av xs i).f2.f0)∧W.cell? ⟨(ad.add (i.toNat*8)).block,(ad.add (i.toNat*8)).off+3,none⟩=some (.int .u8 (av xs i).f2.f1)∧W.cell? ⟨(ad.add (i.toNat*8)).block,(ad.add (i.toNat*8)).off+4,none⟩=some (.int .u8 (av xs i).f2.f2)∧W.cell? ⟨(ad.add (i.toNat*8)).block,(ad.add (i.toNat*8)).off+5,none⟩=some (.int .u32 (av xs i).f2.f3)∧W.cell? ⟨(ad.add (i.toNat*8)).block,(ad.add (i.toNat*8)).off+6,none⟩=some (.int .i64 (av xs i).f3)∧W.cell? ⟨(ad.add (i.toNat*8)).block,(ad.add (i.toNat*8)).off+7,none⟩=some (.int .i64 (av xs i).f4)∧aa (k45.C w A0 (av xs i).f0.length (av xs i).f0)∧aa ((av xs i).f0.length≤c0)∧(0≤i)=True∧(i<n)=True:=by
  obtain ⟨ad,A0,c0,e,h0,h1,h2,h3,h4,h5,h6,h7,hl,hi⟩:=nQ h.out i (of_decide_eq_true p) (of_decide_eq_true q)
  cases e
  have mv:∀ {a:Addr} {v:Value},w.cell? a=some v→W.cell? a=some v:=fun h=>(HB.out.cell (World.block_lt_of_cell? w _ h)).trans h
  exact ⟨A0,c0,mv h0,mv h1,mv h2,mv h3,mv h4,mv h5,mv h6,mv h7,⟨hi⟩,⟨hl⟩,eq_true (of_decide_eq_true p),eq_true (of_decide_eq_true q)⟩
theorem rQ {w:World} {A:Option Addr} {n:Nat} {xs:List S47} (h:aa (Kd.C k47 w A n xs)) (i:Int) (p:decide (0≤i)=true) (q:decide (i<n)=true):∃ ad,A=some ad:=by
  obtain ⟨ad,_,_,e,_⟩:=nQ h.out i (of_decide_eq_true p) (of_decide_eq_true q)
  exact ⟨ad,e⟩
section
variable {P:Program} {ops:Array Oper} {Q:Exit→Act→World→Prop} {S:World→Prop} {ds:List Nat} {md:Region.Mode}
theorem fF {id:Nat} {a:Act} {w:World} (n:Nat) (S:World→Prop) (ds:List Nat) (hS:S w.drew) (h:S w.drew→bC P .any ops Q S ds n (Array.replicate n false) a w.drew) (hm:P.follows .mixedOrders=true:=by kernel_rfl) (hn:ops.size=n:=by exact rfl):(Code.region id ops true).wp P Q a w:=jK _ hm hn rfl hS h
theorem bi (i N:Nat) {oi:Oper} {v:Value} {fuel:Nat} {l:Array Bool} {a:Act} {w:World} {a':Act} (h:bC P md ops Q S ds fuel (l.setIfInBounds i true) a' w) (hi:ops[i]?=some oi:=by exact rfl) (hN:oi.dst=some N:=by exact rfl) (hc:anyB md ops l (l.setIfInBounds i true) i=true:=by kernel_rfl)
    (hQ:∀ c a w,Q (.panic c) (a.put oi.dst v) w→Q (.panic c) a w:=by exact fun _ _ _ h=>h) (hy:Yields P ops oi v a:=by refine Or.inl ⟨by rfl,?_⟩;intro w';go_simp;with_reducible rfl) (ha:a.put (some N) v=a':=by simp only [Act.put,List.setIfInBounds_toArray,List.set_cons_zero,List.set_cons_succ,aQ,aN];rfl):bC P md ops Q S ds (fuel+1) l a w:=bG _ hi hN hc hQ hy ha h
theorem dn (i N:Nat) {oi:Oper} {v:Value} {fuel:Nat} {l:Array Bool} {a:Act} {w:World} {a':Act} (hS:S w) (h:bC P md ops Q S ds fuel (l.setIfInBounds i true) a' w) (hi:ops[i]?=some oi:=by exact rfl) (hN:oi.dst=some N:=by exact rfl) (hc:takeB md ops ds l (l.setIfInBounds i true) i=true:=by kernel_rfl)
    (hQ:∀ c a w,Q (.panic c) (a.put oi.dst v) w→Q (.panic c) a w:=by exact fun _ _ _ h=>h) (hy:YieldsIf P ops S oi v a:=by refine Or.inl ⟨by rfl,?_⟩;intro w' hs;repeat (obtain ⟨_,hs⟩:=hs);go_simp;with_reducible rfl) (ha:a.put (some N) v=a':=by simp only [Act.put,List.setIfInBounds_toArray,List.set_cons_zero,List.set_cons_succ,aQ,aN];rfl):bC P md ops Q S ds (fuel+1) l a w:=fI _ hi hN hc hQ hy hS ha h
theorem jD (i:Nat) (N:Option Tmp) {oi:Oper} {fuel:Nat} {l:Array Bool} {a:Act} {w:World} (h:∀ K:Act→World→Prop,Shut (∀ a' w',S w'→(S w'→bC P md ops Q S ds fuel (l.setIfInBounds i true) a' w')→K a' w')→if Region.wanted oi (yielded ops a.tmps)=true then Oper.wp P oi a w K Q else K (a.put N undef) w)
    (hi:ops[i]?=some oi:=by exact rfl) (hN:oi.dst=N:=by exact rfl) (hc:mo md ops l (l.setIfInBounds i true) i=true:=by kernel_rfl) (hd:i ∉ ds:=by decide):bC P md ops Q S ds (fuel+1) l a w:=tJ _ hi hN hc hd h
theorem gD (i:Nat) (N:Option Tmp) {oi:Oper} {fuel:Nat} {l:Array Bool} {a:Act} {w:World} (h:∀ K:Act→World→Prop,Shut (∀ a' w',bC P md ops Q S ds fuel (l.setIfInBounds i true) a' w'→K a' w')→if Region.wanted oi (yielded ops a.tmps)=true then Oper.wp P oi a w K Q else K (a.put N undef) w)
    (hi:ops[i]?=some oi:=by exact rfl) (hN:oi.dst=N:=by exact rfl) (hc:mo md ops l (l.setIfInBounds i true) i=true:=by kernel_rfl) (hd:i∈ds:=by decide):bC P md ops Q S ds (fuel+1) l a w:=oq _ hi hN hc hd h
theorem gF (T:Nat) {fuel:Nat} {l:Array Bool} {a a':Act} {v:Value} {w:World} (h:bC P md ops Q S ds fuel l a' w) (ha:a.put (some T) v=a':=by simp only [Act.put,List.setIfInBounds_toArray,List.set_cons_zero,List.set_cons_succ,aQ,aN];rfl):bC P md ops Q S ds fuel l (a.put (some T) v) w:=kI ha h
theorem iN {oi:Oper} {N:Option Tmp} {a:Act} {w:World} {K:Act→World→Prop} {f:FuncId} {fn:Func} {as_:Array Operand} {ts:Array TypeId} (hf:P.funcs[f]?=some fn) (args:Array Value) (h:Calls P f args w fun e w'=>∃ v,e = .returned v∧K (a.put N v) w')
    (hname:(fn.name == "runtime.NumGoroutine")=false:=by kernel_rfl) (hb:fn.body.isSome=true:=by exact rfl) (hw:Region.wanted oi (yielded ops a.tmps)=true:=by rfl) (hN:oi.dst=N:=by exact rfl) (hop:oi.op = .call {callee := .value (.func f),args:=as_,argTypes:=ts}:=by exact rfl) (hargs:as_.map a.eval=args:=by simp only [List.map_toArray,List.map_cons,List.map_nil];rfl) :
    if Region.wanted oi (yielded ops a.tmps)=true then Oper.wp P oi a w K Q else K (a.put N undef) w:=kY hf hname hb args hw hN hop hargs h
theorem iD {oi:Oper} {a:Act} {w w1:World} {K:Act→World→Prop} (h:K a w1) (hw:Region.wanted oi (yielded ops a.tmps)=true:=by rfl) (hN:oi.dst=none:=by exact rfl) (hrun:(execOp a.eval oi).run P w = .ok .skip w1:=by go_simp;rfl):if Region.wanted oi (yielded ops a.tmps)=true then Oper.wp P oi a w K Q else K (a.put none undef) w:=uT hw hN hrun h
end
theorem jU {B:Nat} {W V:World} (h:Below B W V:=by repeat (first | (with_reducible exact Below.refl _ _) | apply aj | apply af)):Below B W V:=h
theorem bel2 {w V:World} (h:Below w.heap.size w V:=by repeat (first | (with_reducible exact Below.refl _ _) | apply aj | apply af | apply ai)):Below w.heap.size w V:=h
abbrev SJ (gi:Nat) (j:S45) (V:World):Prop:=V.cell? ⟨gi,0,none⟩=some (.int .u16 j.f0)∧V.cell? ⟨gi,1,none⟩=some (.int .u8 j.f1)∧V.cell? ⟨gi,2,none⟩=some (.int .u8 j.f2)∧V.cell? ⟨gi,3,none⟩=some (.int .u32 j.f3)∧V.cell? ⟨gi+1,0,none⟩=some (.int .u16 0)∧V.cell? ⟨gi+1,1,none⟩=some (.int .u8 0)∧V.cell? ⟨gi+1,2,none⟩=some (.int .u8 0)∧V.cell? ⟨gi+1,3,none⟩=some (.int .u32 0)∧V.frozen? ⟨gi+1,0,none⟩=false∧V.frozen? ⟨gi+1,1,none⟩=false∧V.frozen? ⟨gi+1,2,none⟩=false∧V.frozen? ⟨gi+1,3,none⟩=false
theorem mD {gi:Nat} {j:S45} {V:World} (hi:V.heap[gi]?=some (.cells #[.int .u16 j.f0,.int .u8 j.f1,.int .u8 j.f2,.int .u32 j.f3] 45 (0,0))) (hr:V.heap[gi+1]?=some (.cells #[.int .u16 0,.int .u8 0,.int .u8 0,.int .u32 0] 45 (0,0))) (V' V'':World) (h1:Below V.heap.size V V') (h2:Below V'.heap.size V' V''):SJ gi j V'':=by
  obtain ⟨p0,p1,p2,p3,-,-,-,-⟩:=cz4 ⟨ak (ak hi h1) h2⟩
  obtain ⟨z0,z1,z2,z3,t0,t1,t2,t3⟩:=cz4 ⟨ak (ak hr h1) h2⟩
  exact ⟨p0,p1,p2,p3,z0,z1,z2,z3,t0,t1,t2,t3⟩
theorem ab0 {a:Addr} {b g:Nat} (hn:b≠g) (h:a.block=b:=by first | exact add_block _ _ | rfl | (show (Addr.add _ _).block=_;exact add_block _ _)):a.block≠g:=h ▸ hn
theorem d9 {w:World} {g:Nat} {t:TypeId} {cs:Array Value} (h:w.heap[g]?=some (.cells cs t (0,0))) (i:Nat) {v:Value} (e:cs[i]?=some v:=by exact rfl):w.cell? ⟨g,i,none⟩=some v:=(ae h i).trans e
end Go.Proofs.Ytdkalnkplgfgoaa.PA
namespace Go.Proofs.Ytdkalnkplgfgoaa.Ln
open Go.RowKit Go.Proofs.YtdkalnkplgfgoaaW.PrintWords Go.Proofs.YtdkalnkplgfgoaaW.PrintLast Go.Proofs.YtdkalnkplgfgoaaW.PrintMore
theorem oL {B g:Nat} (W:World) (h:B≤g) (vs:List Value):Below B W (W.setCells g 0 vs):=
 let s:=iG g vs 0 W
 ⟨s.1,s.2.1,s.2.2.1,Nat.le_of_eq s.2.2.2.symm,fun i hi=>ik vs 0 i (by omega)⟩
section
variable {P:Program} {ops:Array Oper} {rest:List Oper} {o o2:Oper} {a:Act} {Q:Exit→Act→World→Prop} {W:World}
theorem wF {t:TypeId} {g:Nat} {cs cs':Array Value} {T:TypeId} (hb:W.heap[g]?=some (.cells cs T (0,0))) {u:Value} (hu:u.cells=cs') (hsz:cs'.size=cs.size) (ht:(P.info? t).map (·.size)=some cs.size) (h1:∀ q∈cs'.toList,q.oneCell'=true) :
 ∃ w1,(Instr.storeAt t (.pointer (some ⟨g,0,none⟩)) u).run P W = .ok () w1∧w1.heap[g]?=some (.cells cs' T (0,0))∧(∀ k,k≠g→w1.heap[k]?=W.heap[k]?)∧Below g W w1:=by
 have hl:cs'.toList.length=cs.size:=by rw [Array.length_toList,hsz]
 have hst:=pg (P:=P) (o:=0) t u cs'.toList hb (by rw [hu]) (by rw [ht,hl]) (by rw [hl];omega) h1
 obtain ⟨cur',h3,h4,h5⟩:=kg cs'.toList 0 W cs hb (by rw [hl];omega)
 have he:cur'=cs':=by
  apply Array.ext'
  rw [h5,List.take_zero,List.nil_append,Nat.zero_add,hl,List.drop_eq_nil_of_le (by rw [Array.length_toList];exact Nat.le_refl _),List.append_nil]
 rw [he] at h3
 exact ⟨_,hst,h3,fun k hk=>ik _ 0 k hk,oL W (Nat.le_refl _) _⟩
theorem iL (hgd:o.guard=none) (hN:o.dst=none) {t:TypeId} {p x:Operand} (ho:o.op = .store t p x) {g:Nat} {cs cs':Array Value} {T:TypeId} (haddr:a.eval p = .pointer (some ⟨g,0,none⟩))
 (hb:W.heap[g]?=some (.cells cs T (0,0))) {u:Value} (hx:a.eval x=u) (hu:u.cells=cs') (hsz:cs'.size=cs.size) (ht:(P.info? t).map (·.size)=some cs.size) (h1:∀ q∈cs'.toList,q.oneCell'=true)
 (h:∀ w1,w1.heap[g]?=some (.cells cs' T (0,0))→(∀ k,k≠g→w1.heap[k]?=W.heap[k]?)→Below g W w1→wpList P ops Q rest a w1):wpList P ops Q (o :: rest) a W:=by
 obtain ⟨w1,hrun,r1,r2,r3⟩:=wF (P:=P) (t:=t) hb hu hsz ht h1
 refine wpList_plain hgd fun K hK=>?_
 unfold Oper.wp execOp
 simp only [ho,haddr,hx,Sem.run_bind,Sem.run_pure,Result.andThen_ok,hrun]
 show K (a.put o.dst undef) _
 rw [hN]
 exact hK a _ (h _ r1 r2 r3)
end
open Go.Maps Go.Proofs.Ytdkalnkplgfgoaa.PA
structure Kp (S:Nat→Prop) (w w1:World):Prop where
 os:w1.os=w.os
 tape:w1.tape=w.tape
 output:w1.output=w.output
 size:w.heap.size≤w1.heap.size
 block:∀ k,k<w.heap.size→¬S k→w1.heap[k]?=w.heap[k]?
theorem Kp.refl (S:Nat→Prop) (w:World):Kp S w w:=⟨rfl,rfl,rfl,Nat.le_refl _,fun _ _ _=>rfl⟩
theorem Kp.trans {S:Nat→Prop} {w w1 w2:World} (h:Kp S w w1) (k:Kp S w1 w2):Kp S w w2:=
 ⟨k.os.trans h.os,k.tape.trans h.tape,k.output.trans h.output,Nat.le_trans h.size k.size,fun i hi hS=>(k.block i (Nat.lt_of_lt_of_le hi h.size) hS).trans (h.block i hi hS)⟩
theorem Kp.below {S:Nat→Prop} {w w1 w2:World} (h:Kp S w w1) (k:Below w1.heap.size w1 w2):Kp S w w2:=
 ⟨k.os.trans h.os,k.tape.trans h.tape,k.output.trans h.output,Nat.le_trans h.size k.size,fun i hi hS=>(k.block i (Nat.lt_of_lt_of_le hi h.size)).trans (h.block i hi hS)⟩
theorem Kp.grown {S:Nat→Prop} {w w1 w2:World} {r:Option Nat} (h:Kp S w w1) (k:w1.grownBy w2 r) (hr:∀ b,r=some b→S b∨w.heap.size≤b):Kp S w w2:=
 ⟨k.os.trans h.os,k.tape.trans h.tape,k.output.trans h.output,Nat.le_trans h.size k.size,fun i hi hS=>(k.block i (Nat.lt_of_lt_of_le hi h.size) (fun e=>by rcases hr i e.symm with h1 | h1;exact hS h1;omega)).trans (h.block i hi hS)⟩
theorem Kp.set {S:Nat→Prop} {w w1:World} {g:Nat} (h:Kp S w w1) (hg:S g∨w.heap.size≤g) (j:Nat) (u:Value):Kp S w (w1.setCell ⟨g,j,none⟩ u):=by
 have b:=(Below.refl g w1).setCell (Nat.le_refl g) (p:=⟨g,j,none⟩) u
 refine ⟨b.os.trans h.os,b.tape.trans h.tape,b.output.trans h.output,Nat.le_trans h.size b.size,fun i hi hS=>?_⟩
 have hne:i≠g:=fun e=>by subst e;rcases hg with h1 | h1;exact hS h1;omega
 exact (Below.heap_setCell w1 ⟨g,j,none⟩ u i hne).trans (h.block i hi hS)
theorem Kp.gW {S:Nat→Prop} {w0 w w1:World} {B:Nat} (hb:Below B w0 w) (h:Kp S w w1) (hB:B≤w.heap.size) (hS:∀ k,S k→B≤k):Below B w0 w1:=
 ⟨h.os.trans hb.os,h.tape.trans hb.tape,h.output.trans hb.output,Nat.le_trans hb.size h.size,fun i hi=>(h.block i (by omega) (fun s=>by have:=hS i s;omega)).trans (hb.block i hi)⟩
theorem R_kp {α:Type} {d:Kd α} {e:Nat} {w wr:World} {base:Nat} {v:Value} {xs:List α} {S:Nat→Prop} (h:d.R e w base (fun _=>True) v xs)
 (hS:∀ k,S k→(∃ cs t fr,w.heap[k]?=some (.cells cs t fr)∧∀ q,q∈e :: d.E→q≠t)∨(∃ es c,w.heap[k]?=some (.map es c))) (kp:Kp S w wr):d.R e wr base (fun _=>True) v xs:=by
 refine Kd.gK (Kd.p8 (Kd.gK (ok':=fun k=>¬S k) (Kd.jm h) ?_) (fun k hok hlt=>kp.block k hlt hok)) (fun _ _=>trivial)
 rintro k ⟨_,_,_,q,hq,cells,hc⟩ hs
 rcases hS k hs with ⟨cs,t,fr,h1,h2⟩ | ⟨es,c,h1⟩
 · rw [hc] at h1
   injection h1 with h1
   injection h1 with _ h1
   exact h2 q hq h1
 rw [hc] at h1
 cases h1
theorem forget {P:Program} {code:Code} {Q:Exit→Act→World→Prop} {a:Act} {W:World} (F:World→Prop) (h:F W) (k:∀ W',F W'→code.wp P Q a W'):code.wp P Q a W:=k W h
end Go.Proofs.Ytdkalnkplgfgoaa.Ln
namespace Go.Proofs.Ytdkalnkplgfgoaa.PB
open Go.RowKit Go.Proofs.YtdkalnkplgfgoaaW.PrintWords Go.Proofs.YtdkalnkplgfgoaaW.PrintLast Go.Proofs.YtdkalnkplgfgoaaW.PrintMore
attribute [local go_sem] dR dU fD fE dC dD dS dV
def xR:Option Int→Value
  | none => .nilIface
  | some c => .iface 0 (.int .i64 c)
theorem l9:xR none = .nilIface:=rfl
theorem ma (c:Int):xR (some c) = .iface 0 (.int .i64 c):=rfl
theorem info5:(Try.prog.info? 5).map (fun i=>(i.zero,i.size,i.bytes))=some (some (.int .u8 0),1,1):=by kernel_rfl
end Go.Proofs.Ytdkalnkplgfgoaa.PB
namespace Go.Proofs.Ytdkalnkplgfgoaa.Ln
open Go.RowKit Go.Maps Go.Proofs.YtdkalnkplgfgoaaW.PrintWords Go.Proofs.YtdkalnkplgfgoaaW.PrintLast Go.Proofs.YtdkalnkplgfgoaaW.PrintMore Go.Proofs.Ytdkalnkplgfgoaa.PB
def be4 (l:List Int):Int:=l.foldl (fun x b=>Go.bits .or .u32 ((x*256) % 4294967296) (b % 4294967296)) 0
def rdG (p:List Int) (a s:Int):Int × Bool:=if a+s≤p.length then (be4 ((p.take (a+s).toNat).drop a.toNat),true) else (0,false)
theorem xB (l:List Int) (b:Int):be4 (l++[b])=Go.bits .or .u32 ((be4 l*256) % 4294967296) (b % 4294967296):=by
  unfold be4
  rw [List.foldl_append];rfl
theorem xC {l:List Int} {j:Nat} (h:j<l.length):be4 (l.take (j+1))=Go.bits .or .u32 ((be4 (l.take j)*256) % 4294967296) (rd l (j:Int) % 4294967296):=by
  rw [List.take_succ_eq_append_getElem h,xB]
  unfold rd
  rw [Int.toNat_natCast,List.getD_eq_getElem?_getD,List.getElem?_eq_getElem h];rfl
theorem sJ (w:World) (n a s:Int) (h0:0≤a) (hs:s=1∨s=2∨s=4) (hn:0≤n) (hn2:n<2 ^ 62) :
    Calls Try.prog 168 #[.int .i64 n,.int .i64 a,.int .i64 s] w fun e w'=>e = .returned (.bool (decide (a+s≤n)))∧df w w':=by
  have hw:wrap64 (n - s)=n - s:=by unfold wrap64;omega
  have e:decide (a+s≤n)=decide (a≤wrap64 (n - s)):=decide_eq_decide.2 (by rw [hw];omega)
  rw [e]
  have c1:decide (0≤a)=true:=decide_eq_true h0
  clear hw e hn hn2
  rcases hs with rfl | rfl | rfl
  all_goals
    go_enter Try.func168,Try.ntmps168
    go_wp2
    go_ret
    exact ⟨rfl,df.refl _⟩
theorem vJ (w:World) (p:List Int) (A:Option Addr) (c:Nat) (a s:Int) (hP:Kd.C (Kd.int .u8) w A p.length p) (hc:p.length≤c) (hl:p.length<2 ^ 62) (h0:0≤a) (ha:a<2 ^ 62) (hs:s=1∨s=2∨s=4) :
    Calls Try.prog 164 #[.slice A p.length c,.int .i64 a,.int .i64 s] w fun e w'=>e = .returned (.tuple #[.int .u32 (rdG p a s).1,.bool (rdG p a s).2])∧df w w':=by
  have HF:=aa.mk (sJ w (p.length:Int) a s h0 hs (by omega) (by omega))
  by_cases h:a+s≤(p.length:Int)
  · have hb:decide (a+s≤(p.length:Int))=true:=decide_eq_true h
    have hw:wrap64 (a+s)=a+s:=by unfold wrap64;omega
    obtain ⟨e,he⟩:∃ e,e=wrap64 (a+s):=⟨_,rfl⟩
    have hea:a≤e:=by omega
    have hel:e≤(p.length:Int):=by omega
    have hr:rdG p a s=(be4 ((p.take e.toNat).drop a.toNat),true):=by unfold rdG;rw [if_pos h,he,hw]
    rw [hr]
    rw [hb] at HF
    obtain ⟨i,hi,_,hsz,_⟩:=info_parts info5
    obtain ⟨A9,hcut,hA9,hC9⟩:=qL (P:=Try.prog) (Value.int .u8) 0 38 5 .i64 .i64 Try.underlying38 hi hsz A c p a e h0 hea hel hc
    have HR:=aa.mk (Kd.su (h1:=fun _=>rfl) (hA9 _ (Kd.oJ hP)))
    obtain ⟨q,hq⟩:∃ q,q=(p.take e.toNat).drop a.toNat:=⟨_,rfl⟩
    rw [←hq] at hcut HR ⊢
    rw [he] at hcut
    have hq4:q.length≤4:=by rw [hq,List.length_drop,List.length_take];omega
    clear hA9 hC9 hi hsz hP hc hr hb hw h hq he hea hel hs h0 ha hl
    dsimp only
    go_enter Try.func164,Try.ntmps164
    go_wp2_with (go_at_call 168;refine HF.out.mono ?_;rintro e w' ⟨rfl,⟨nd,rfl⟩⟩)
    go_loopw [8,24] (fun v8 v24 wr=>∃ j:Nat,j≤q.length∧v24 = .int .i64 j∧v8 = .int .u32 (be4 (q.take j))∧df w wr) (fun _ v24 _=>q.length - (intOf v24).toNat)
    case atStart=>exact ⟨0,Nat.zero_le _,rfl,by rw [List.take_zero];rfl,⟨_,rfl⟩⟩
    case round=>
      obtain ⟨j,hj,rfl,rfl,⟨m,rfl⟩⟩:=hrel
      by_cases hlt:j<q.length
      · have hlb:decide (j<q.length)=true:=decide_eq_true hlt
        have HB:=aa.mk (xC hlt)
        have i0:(0:Int)≤(j:Int):=by omega
        have i1:(j:Int)<(q.length:Int):=by omega
        obtain ⟨ad,ead,hx⟩:=Kd.p9 HR.out (j:Int) i0 i1
        cases ead
        rw [Int.toNat_natCast] at hx
        obtain ⟨b,eb⟩:∃ b,b=rd q (j:Int):=⟨_,rfl⟩
        obtain ⟨x,ex⟩:∃ x,x=be4 (q.take j):=⟨_,rfl⟩
        rw [←eb] at HB hx
        rw [←ex] at HB ⊢
        clear eb ex
        go_wp2
        go_roundw
        case rel=>exact ⟨j+1,by omega,by go_num,by rw [HB.out],⟨_,rfl⟩⟩
        case measure=>simp [intOf];omega
      · have hlb:decide (j<q.length)=false:=decide_eq_false hlt
        have hj2:q.take j=q:=List.take_of_length_le (by omega)
        rw [hj2]
        clear hj2
        go_wp2
        go_ret2
        exact ⟨rfl,⟨_,rfl⟩⟩
  · have hb:decide (a+s≤(p.length:Int))=false:=decide_eq_false h
    have hr:rdG p a s=(0,false):=by unfold rdG;rw [if_neg h]
    rw [hr]
    rw [hb] at HF
    clear hr hb h
    dsimp only
    go_enter Try.func164,Try.ntmps164
    go_wp2_with (go_at_call 168;refine HF.out.mono ?_;rintro e w' ⟨rfl,⟨nd,rfl⟩⟩)
    go_ret2
    exact ⟨rfl,⟨_,rfl⟩⟩
end Go.Proofs.Ytdkalnkplgfgoaa.Ln
namespace Go.Proofs.Ytdkalnkplgfgoaa.PA
open Go.RowKit Go.Proofs.YtdkalnkplgfgoaaW.PrintWords Go.Proofs.YtdkalnkplgfgoaaW.PrintLast Go.Proofs.YtdkalnkplgfgoaaW.PrintMore
attribute [local go_sem] dR dU fD fE dC dD dS dV
def dE.f (a0:Int):Option (Bool):=if a0=21 then (some true) else (if a0=29 then (some true) else (if a0=37 then (some true) else (if a0=45 then (some true) else (if a0=53 then (some true) else (if a0=61 then (some true) else (if a0=69 then (some true) else (if a0=77 then (some true) else (some false))))))))
def aW.j0:Nat→Int→Bool→Option (Bool)
 | 0,_,_=>none
 | k+1,x3,x4=>if x4=true then (some true) else (if x3=100 then (some true) else (if x3=108 then (some true) else (if x3=116 then (some true) else (if x3=124 then (some true) else (if x3=148 then (some true) else (if x3=156 then (some true) else (if x3=164 then (some true) else (if x3=172 then (some true) else (some false)))))))))
def aW.f (k:Nat) (a0:Int):Option (Bool):=if a0=4 then (aW.j0 k a0 (a0==4)) else (if a0=12 then (aW.j0 k a0 (a0==12)) else (if a0=20 then (aW.j0 k a0 (a0==20)) else (if a0=28 then (aW.j0 k a0 (a0==28)) else (if a0=36 then (aW.j0 k a0 (a0==36)) else (if a0=44 then (aW.j0 k a0 (a0==44)) else (if a0=52 then (aW.j0 k a0 (a0==52)) else (if a0=60 then (aW.j0 k a0 (a0==60)) else (if a0=68 then (aW.j0 k a0 (a0==68)) else (if a0=76 then (aW.j0 k a0 (a0==76)) else (if a0=84 then (aW.j0 k a0 (a0==84)) else (aW.j0 k a0 (a0==92))))))))))))
attribute [local go_sem] dR dU fD fE dC dD dS dV
mutual
def aK.j0:Nat→Int→Int→Bool→Option (Bool)
 | 0,_,_,_=>none
 | k+1,x0,x3,x4=>if x4=true then (some true) else (if x3=1 then (aK.j1 k x0 (x3==1)) else (if x3=97 then (aK.j1 k x0 (x3==97)) else (if x3=129 then (aK.j1 k x0 (x3==129)) else (if x3=177 then (aK.j1 k x0 (x3==177)) else (if x3=2 then (aK.j1 k x0 (x3==2)) else (if x3=3 then (aK.j1 k x0 (x3==3)) else (if x3=132 then (aK.j1 k x0 (x3==132)) else (if x3=6 then (aK.j1 k x0 (x3==6)) else (if x3=22 then (aK.j1 k x0 (x3==22)) else (if x3=7 then (aK.j1 k x0 (x3==7)) else (if x3=135 then (aK.j1 k x0 (x3==135)) else (aK.j1 k x0 (x3==5)))))))))))))
def aK.j1:Nat→Int→Bool→Option (Bool)
 | 0,_,_=>none
 | k+1,x0,x14=>if x14=true then (some true) else ((dE.f x0).bind fun t103=>(if t103=true then (some true) else ((aW.f k x0).bind fun t104=>(some t104))))
end
def aK.f (k:Nat) (a0:Int):Option (Bool):=if a0=0 then (aK.j0 k a0 a0 (a0==0)) else (if a0=32 then (aK.j0 k a0 a0 (a0==32)) else (if a0=40 then (aK.j0 k a0 a0 (a0==40)) else (if a0=48 then (aK.j0 k a0 a0 (a0==48)) else (if a0=64 then (aK.j0 k a0 a0 (a0==64)) else (if a0=72 then (aK.j0 k a0 a0 (a0==72)) else (if a0=80 then (aK.j0 k a0 a0 (a0==80)) else (if a0=96 then (aK.j0 k a0 a0 (a0==96)) else (aK.j0 k a0 a0 (a0==128)))))))))
attribute [local go_sem] dR dU fD fE dC dD dS dV
def eF.f (k:Nat) (a0:Int):Option (Bool):=(dE.f a0).bind fun t112=>(if t112=true then (some ((Go.bits .and .u16 a0 8) != 0)) else ((aW.f k a0).bind fun t113=>(if t113=true then (some ((Go.bits .and .u16 a0 8) != 0)) else (some false))))
def ko.f (a0:Int):Option (Bool):=if a0=32 then (some true) else (if a0=40 then (some true) else (if a0=48 then (some true) else (if a0=64 then (some true) else (if a0=72 then (some true) else (if a0=80 then (some true) else (if a0=177 then (some true) else (some false)))))))
def cO.j0:Nat→Int→Bool→Bool→Option (Bool × Bool × Bool)
 | 0,_,_,_=>none
 | k+1,x0,x5,x13=>if x13=true then ((dE.f x0).bind fun t116=>((ko.f x0).bind fun t117=>(if t117=true then (some (false,t116,true)) else (if x0=60 then (some (false,t116,true)) else (some (false,t116,(x0==156))))))) else ((dE.f x0).bind fun t118=>((ko.f x0).bind fun t119=>(if t119=true then (some (x5,t118,true)) else (if x0=60 then (some (x5,t118,true)) else (some (x5,t118,(x0==156)))))))
def cO.f (k:Nat) (a0:Int):Option (Bool × Bool × Bool):=(aK.f k a0).bind fun t114=>(if t114=true then ((eF.f k a0).bind fun t115=>(if a0=128 then (cO.j0 k a0 (!t115) (a0==128)) else (if a0=129 then (cO.j0 k a0 (!t115) (a0==129)) else (if a0=132 then (cO.j0 k a0 (!t115) (a0==132)) else (if a0=22 then (cO.j0 k a0 (!t115) (a0==22)) else (if a0=7 then (cO.j0 k a0 (!t115) (a0==7)) else (cO.j0 k a0 (!t115) (a0==135)))))))) else (some (false,false,false)))
attribute [local go_sem] dR dU fD fE dC dD dS dV
theorem eqA45 (d:Nat) (w:World) (x0 y0:Int) (x1 y1:Int) (x2 y2:Int) (x3 y3:Int) :
 (Op.equalIn (d+2) 45 (.agg #[.int .u16 x0,.int .u8 x1,.int .u8 x2,.int .u32 x3]) (.agg #[.int .u16 y0,.int .u8 y1,.int .u8 y2,.int .u32 y3])).run Try.prog w = .ok (x0==y0&&(x1==y1&&(x2==y2&&(x3==y3)))) w:=by
 refine eqA_of Try.underlying45 (by kernel_rfl) ?_
 refine nV (by rfl) (by go_simp;rfl) (by go_simp;rfl) (by go_simp) ?_
 refine nV (by rfl) (by go_simp;rfl) (by go_simp;rfl) (by go_simp) ?_
 refine nV (by rfl) (by go_simp;rfl) (by go_simp;rfl) (by go_simp) ?_
 exact xQ (by rfl) (by go_simp;rfl) (by go_simp;rfl) (by go_simp)
attribute [local go_sem] dR dU fD fE dC dD dS dV
def jR.f (k:Nat) (a0:Int):Option (Int):=(aK.f k a0).bind fun t107=>(if t107=true then (some (wrap64 (Go.bits .and .u16 a0 7))) else (some (-1)))
def ig.f (a0:Int):Option (Bool):=if a0=6 then (some true) else (some (a0==22))
attribute [local go_sem] dR dU fD fE dC dD dS dV
def dx.f (l0:List (S45)):Option ((List (S45))):=(some (([]:List (S45)):List (S45))).bind fun y139=>(if y139.length+l0.length<17592186044416 then (some (y139++l0)) else (none))
theorem dx.calls (A0:Option Addr) (c0:Nat) (l0:List (S45)) (r:List (S45)) (w:World) (hr0:Kd.C k45 w A0 l0.length l0) (hc0:l0.length≤c0) (h:dx.f l0=some r) :
 Calls Try.prog 22 #[.slice A0 l0.length c0] w fun e w'=>∃ v0_:Value,e = .returned (v0_)∧Kd.R k45 45 w' w.heap.size (fun _=>True) v0_ r∧Below w.heap.size w w':=by
 have HR0:=aa.mk hr0
 have HC0:=aa.mk hc0
 clear hr0 hc0
 have HB:=aa.mk (Below.refl w.heap.size w)
 have H:((some (([]:List (S45)):List (S45))).bind fun y139=>(if y139.length+l0.length<17592186044416 then (some (y139++l0)) else (none)))=some r:=h
 clear h
 obtain ⟨y139,hy139⟩:∃ y_:List (S45),y_=(([]:List (S45))):=⟨_,rfl⟩
 replace H:(if y139.length+l0.length<17592186044416 then (some (y139++l0)) else (none))=some r:=by first | (rw [hy139];with_reducible exact H) | (have H2_:=(Option.bind_some _ _).symm.trans H;rw [hy139];with_reducible exact H2_) | (have H2_:=(Option.bind_some _ _).symm.trans H;with_reducible exact H2_) | with_reducible exact H | (rw [hy139];exact H) | exact H
 have Ny139:=aa.mk hy139
 clear hy139
 replace H:=rY H
 obtain ⟨H,c2⟩ | ⟨H,c2⟩:=H
 · have LMc2:=aa.mk c2
   clear c2
   obtain ⟨y142,hy142⟩:∃ y_:List (S45),y_=(y139++l0):=⟨_,rfl⟩
   replace H:(some y142)=some r:=by first | (rw [hy142];with_reducible exact H) | (have H2_:=(Option.bind_some _ _).symm.trans H;rw [hy142];with_reducible exact H2_) | (have H2_:=(Option.bind_some _ _).symm.trans H;with_reducible exact H2_) | with_reducible exact H | (rw [hy142];exact H) | exact H
   have Ny142:=aa.mk hy142
   clear hy142
   obtain rfl:=Option.some.inj H
   go_enter Try.func22,Try.ntmps22
   go_wp2_with (first | ((with_reducible refine bA (N:=3) rfl ?_);refine Kd.uo k45 _ 45 ?hg (N:=3) ?hd (xs:=([]:List (S45))) (inner:=[]) (ok:=fun _=>True) (okp:=fun _=>True) ?hr ?hp (fun _ hk=>hk) trivial (Below.refl _ _) (Nat.le_refl _) (by simp) ?_;(case hd=>rfl);(case hg=>rfl);(case hr=>first | (go_simp;done) | (go_simp;rfl));(case hp=>exact (eu.none _ _));intro v140 w3 ho4 hb hg_ hnew_;clear hg_ hnew_;(first | rw [←Ny139.out] at ho4 | (simp only [Int.reduceToNat] at ho4;rw [←Ny139.out] at ho4));have HO141:=aa.mk (Kd.jT ho4 (fA bU));replace HB:=di HB hb;clear hb ho4) | ((with_reducible refine jW (b := .append) (xs:=#[.tmp 3,.tmp 4]) rfl ?_);at_builtin;refine Kd.jG k45 (w0:=w) w.heap.size rfl (.tmp 3) (.tmp 4) 26 45 (.agg #[(.int .u16 0),(.int .u8 0),(.int .u8 0),(.int .u32 0)]) 8 rfl Try.underlying26 mh rfl (by decide) (by omega) v140 y139 l0 _ _ _ (fun _=>True) (fun _=>False) rfl rfl ?aO ?aR (fun _ _ h=>h) (fun _ h=>h.elim) ?aF ?aB ?aS ?aL ?_;(case aR=>repeat (first | exact (Kd.bY HR0.out HB.out) | (with_reducible refine Kd.iE ?_ _) | (with_reducible refine Kd.jl ?_ _) | (with_reducible refine Kd.kv ?_)));(case aB=>exact bU);(case aF=>exact (fun _ _=>trivial));(case aO=>exact (by (with_reducible repeat (first | apply Kd.iR | apply Kd.iT | apply Kd.jH));exact HO141.out));(case aS=>exact (fA bU));(case aL=>have:=LMc2.out;omega);intro v143 w5 ho hb hg hat;rw [←Ny142.out] at ho;have HO144:=aa.mk (ho);replace HB:=aa.mk hb;clear HO141;clear ho hb hg hat))
   go_ret
   exact ⟨_,dL,by (with_reducible repeat (first | apply Kd.iR | apply Kd.iT | apply Kd.jH));exact HO144.out,bU⟩
 exact absurd H (by simp)
def fH.f (l0_0:List (S45)) (a0_1:Int) (a0_2:Int) (a0_3:Int) (a0_4:Int) (a0_5:Int) (a0_6:Int) (a0_7:Int):Option (List Int):=if a0_1=2 then (some (([a0_6]:List Int))) else (if a0_1=3 then (some (([a0_6,a0_7]:List Int))) else (some ([]:List Int)))
theorem fH.calls (A0_0:Option Addr) (c0_0:Nat) (l0_0:List (S45)) (a0_1:Int) (a0_2:Int) (a0_3:Int) (a0_4:Int) (a0_5:Int) (a0_6:Int) (a0_7:Int) (r:List Int) (w:World) (hr0_0:Kd.C k45 w A0_0 l0_0.length l0_0) (hc0_0:l0_0.length≤c0_0) (h:fH.f l0_0 a0_1 a0_2 a0_3 a0_4 a0_5 a0_6 a0_7=some r) :
 Calls Try.prog 76 #[.agg #[.slice A0_0 l0_0.length c0_0,.int .i64 a0_1,.int .u16 a0_2,.int .u8 a0_3,.int .u8 a0_4,.int .u32 a0_5,.int .i64 a0_6,.int .i64 a0_7]] w fun e w'=>∃ v0_:Value,e = .returned (v0_)∧Kd.R (Kd.int .i64) 3 w' w.heap.size (fun _=>True) v0_ r∧Below w.heap.size w w':=by
 have hu47:=Try.underlying47
 have HR0_0:=aa.mk hr0_0
 have HC0_0:=aa.mk hc0_0
 clear hr0_0 hc0_0
 have HB:=aa.mk (Below.refl w.heap.size w)
 have H:(if a0_1=2 then (some (([a0_6]:List Int))) else (if a0_1=3 then (some (([a0_6,a0_7]:List Int))) else (some ([]:List Int))))=some r:=h
 clear h
 replace H:=cK H
 obtain ⟨H,-,_,_⟩ | ⟨H,c2,_,_⟩:=H
 · obtain ⟨y176,hy176⟩:∃ y_:List Int,y_=(([a0_6]:List Int)):=⟨_,rfl⟩
   replace H:(some y176)=some r:=by first | (rw [hy176];with_reducible exact H) | (have H2_:=(Option.bind_some _ _).symm.trans H;rw [hy176];with_reducible exact H2_) | (have H2_:=(Option.bind_some _ _).symm.trans H;with_reducible exact H2_) | with_reducible exact H | (rw [hy176];exact H) | exact H
   have Ny176:=aa.mk hy176
   clear hy176
   obtain rfl:=Option.some.inj H
   go_enter Try.func76,Try.ntmps76
   go_wp2_with (first | ((with_reducible refine bA (N:=1) rfl ?_);refine fe (N:=1) (cs:=#[.slice A0_0 l0_0.length c0_0,.int .i64 a0_1,.int .u16 a0_2,.int .u8 a0_3,.int .u8 a0_4,.int .u32 a0_5,.int .i64 a0_6,.int .i64 a0_7]) (t:=47) ?_;intro gb175 hg w3 hbox hb;have GE175:=geN HB hg;have BK175:=aa.mk hbox;replace HB:=di HB hb;clear hb hbox hg;obtain ⟨_,_,_,_,_,_,_,_,_,_,_,_,_,_,_,_⟩:=cz8 BK175) | ((with_reducible refine bA (N:=9) rfl ?_);refine Kd.uo (Kd.int .i64) _ 3 ?hg (N:=9) ?hd (xs:=([a0_6]:List Int)) (inner:=[.int .i64 a0_6]) (ok:=fun _=>True) (okp:=fun _=>True) ?hr ?hp (fun _ hk=>hk) trivial (Below.refl _ _) (Nat.le_refl _) (by simp) ?_;(case hd=>rfl);(case hg=>rfl);(case hr=>first | (go_simp;done) | (go_simp;rfl));(case hp=>exact (eu.one (show Kd.M (Kd.int .i64) _ _ _ a0_6 [.int .i64 a0_6] from rfl) (eu.none _ _)));intro v177 w5 ho6 hb hg_ hnew_;clear hg_ hnew_;(first | rw [←Ny176.out] at ho6 | (simp only [Int.reduceToNat] at ho6;rw [←Ny176.out] at ho6));have HO178:=aa.mk (Kd.jT ho6 (fA bU));replace BK175:=nR BK175 hb;replace HB:=di HB hb;clear hb ho6))
   go_ret
   exact ⟨_,dL,by (with_reducible repeat (first | apply Kd.iR | apply Kd.iT | apply Kd.jH));exact HO178.out,bU⟩
 replace H:=cK H
 obtain ⟨H,-,_,_⟩ | ⟨H,c7,_,_⟩:=H
 · obtain ⟨y179,hy179⟩:∃ y_:List Int,y_=(([a0_6,a0_7]:List Int)):=⟨_,rfl⟩
   replace H:(some y179)=some r:=by first | (rw [hy179];with_reducible exact H) | (have H2_:=(Option.bind_some _ _).symm.trans H;rw [hy179];with_reducible exact H2_) | (have H2_:=(Option.bind_some _ _).symm.trans H;with_reducible exact H2_) | with_reducible exact H | (rw [hy179];exact H) | exact H
   have Ny179:=aa.mk hy179
   clear hy179
   obtain rfl:=Option.some.inj H
   go_enter Try.func76,Try.ntmps76
   go_wp2_with (first | ((with_reducible refine bA (N:=1) rfl ?_);refine fe (N:=1) (cs:=#[.slice A0_0 l0_0.length c0_0,.int .i64 a0_1,.int .u16 a0_2,.int .u8 a0_3,.int .u8 a0_4,.int .u32 a0_5,.int .i64 a0_6,.int .i64 a0_7]) (t:=47) ?_;intro gb175 hg w8 hbox hb;have GE175:=geN HB hg;have BK175:=aa.mk hbox;replace HB:=di HB hb;clear hb hbox hg;obtain ⟨_,_,_,_,_,_,_,_,_,_,_,_,_,_,_,_⟩:=cz8 BK175) | ((with_reducible refine bA (N:=16) rfl ?_);refine Kd.uo (Kd.int .i64) _ 3 ?hg (N:=16) ?hd (xs:=([a0_6,a0_7]:List Int)) (inner:=[.int .i64 a0_6,.int .i64 a0_7]) (ok:=fun _=>True) (okp:=fun _=>True) ?hr ?hp (fun _ hk=>hk) trivial (Below.refl _ _) (Nat.le_refl _) (by simp) ?_;(case hd=>rfl);(case hg=>rfl);(case hr=>first | (go_simp;done) | (go_simp;rfl));(case hp=>exact (eu.one (show Kd.M (Kd.int .i64) _ _ _ a0_6 [.int .i64 a0_6] from rfl) (eu.one (show Kd.M (Kd.int .i64) _ _ _ a0_7 [.int .i64 a0_7] from rfl) (eu.none _ _))));intro v180 w10 ho11 hb hg_ hnew_;clear hg_ hnew_;(first | rw [←Ny179.out] at ho11 | (simp only [Int.reduceToNat] at ho11;rw [←Ny179.out] at ho11));have HO181:=aa.mk (Kd.jT ho11 (fA bU));replace BK175:=nR BK175 hb;replace HB:=di HB hb;clear hb ho11))
   go_ret
   exact ⟨_,dL,by (with_reducible repeat (first | apply Kd.iR | apply Kd.iT | apply Kd.jH));exact HO181.out,bU⟩
 obtain rfl:=Option.some.inj H
 go_enter Try.func76,Try.ntmps76
 go_wp2_with ((with_reducible refine bA (N:=1) rfl ?_);refine fe (N:=1) (cs:=#[.slice A0_0 l0_0.length c0_0,.int .i64 a0_1,.int .u16 a0_2,.int .u8 a0_3,.int .u8 a0_4,.int .u32 a0_5,.int .i64 a0_6,.int .i64 a0_7]) (t:=47) ?_;intro gb175 hg w12 hbox hb;have GE175:=geN HB hg;have BK175:=aa.mk hbox;replace HB:=di HB hb;clear hb hbox hg;obtain ⟨_,_,_,_,_,_,_,_,_,_,_,_,_,_,_,_⟩:=cz8 BK175)
 go_ret
 exact ⟨_,dL,by first | exact Kd.kX _ _ _ _ _ | exact Kd.N_nil _ _ _ _ _ | exact Kd.V_nil _ _ _ _ _ | exact Kd.Q_nil _ _ _ _ _ | exact Kd.S_nil _ _ _ _ _,bU⟩
attribute [local go_sem] dR dU fD fE dC dD dS dV
def bK.j0:Nat→Int→Bool→Option (Bool)
 | 0,_,_=>none
 | k+1,x3,x4=>if x4=true then (some true) else (if x3=29 then (some true) else (if x3=45 then (some true) else (if x3=61 then (some true) else (if x3=77 then (some true) else (some false)))))
def bK.f (k:Nat) (a0:Int):Option (Bool):=if a0=21 then (bK.j0 k a0 (a0==21)) else (if a0=37 then (bK.j0 k a0 (a0==37)) else (if a0=53 then (bK.j0 k a0 (a0==53)) else (bK.j0 k a0 (a0==69))))
theorem bK.calls (k:Nat) (a0:Int) (r:Bool) (w:World) (h:bK.f k a0=some r) :
 Calls Try.prog 151 #[.int .u16 a0] w fun e w'=>e = .returned (.bool r)∧df w w':=by
 have H:(if a0=21 then (bK.j0 k a0 (a0==21)) else (if a0=37 then (bK.j0 k a0 (a0==37)) else (if a0=53 then (bK.j0 k a0 (a0==53)) else (bK.j0 k a0 (a0==69)))))=some r:=h
 clear h
 have HC2:=aa.mk H
 clear H
 go_enter Try.func151,Try.ntmps151
 go_upto_if 4 with (fail)
 go_cut [4] (fun v4 wc=>∃ (kq:Nat) (x4_1:Bool),v4 = .bool x4_1∧aa (bK.j0 kq a0 x4_1=some r)∧aa (kq≤k)∧df w wc)
 case first=>
  have H:=HC2.out
  clear HC2
  replace H:=cK H
  obtain ⟨H,-,c3b0,_⟩ | ⟨H,c3,c3b0,_⟩:=H
  · (first | rw [c3b0] | (simp only [aQ,aN];rw [c3b0]) | skip)
    replace H:=aa.mk H
    go_wp2
    go_meet
    case rel=>exact ⟨_,_,bT,H,⟨le0⟩,cZ⟩
  (first | rw [c3b0] | (simp only [aQ,aN];rw [c3b0]) | skip)
  iterate 2
   replace H:=cK H
   obtain ⟨H,-,_,_⟩ | ⟨H,c4,_,_⟩:=H
   · replace H:=aa.mk H
     go_wp2
     go_meet
     case rel=>exact ⟨_,_,bT,H,⟨le0⟩,cZ⟩
  replace H:=aa.mk H
  go_wp2
  go_meet
  case rel=>exact ⟨_,_,bT,H,⟨le0⟩,cZ⟩
 case rest=>
  clear HC2
  obtain ⟨kq,x4_1,rfl,HA,HJ1,⟨mc1,rfl⟩⟩:=hcut
  cases kq with
  | zero=>exact absurd HA.out (by simp [bK.j0])
  | succ kj1=>
   have H:=HA.out
   clear HA
   simp only [bK.j0] at H
   by_cases c6:x4_1=true
   · subst c6
     have H1:(some true)=some r:=by rw [if_pos rfl] at H;exact H
     clear H
     have H:=H1
     clear H1
     cases H
     go_wp2
     go_ret
     exact ⟨bT,cZ⟩
   replace c6:=Bool.eq_false_iff.mpr c6
   subst c6
   have H1:(if a0=29 then (some true) else (if a0=45 then (some true) else (if a0=61 then (some true) else (if a0=77 then (some true) else (some false)))))=some r:=by rw [if_neg (show ¬(false=true) by decide)] at H;exact H
   clear H
   have H:=H1
   clear H1
   iterate 2
    replace H:=cK H
    obtain ⟨H,-,_,_⟩ | ⟨H,c7,_,_⟩:=H
    · cases H
      go_wp2
      go_ret
      exact ⟨bT,cZ⟩
   iterate 2
    replace H:=cK H
    obtain ⟨H,-,_,_⟩ | ⟨H,c9,_,_⟩:=H
    · cases H
      go_wp2
      go_ret
      exact ⟨bT,cZ⟩
   cases H
   go_wp2
   go_ret
   exact ⟨bT,cZ⟩
mutual
def aT.j0:Nat→Int→Bool→Option (Bool)
 | 0,_,_=>none
 | k+1,x3,x4=>if x4=true then (some true) else (if x3=12 then (aT.j1 k x3 (x3==12)) else (if x3=28 then (aT.j1 k x3 (x3==28)) else (if x3=44 then (aT.j1 k x3 (x3==44)) else (if x3=60 then (aT.j1 k x3 (x3==60)) else (if x3=76 then (aT.j1 k x3 (x3==76)) else (if x3=92 then (aT.j1 k x3 (x3==92)) else (if x3=108 then (aT.j1 k x3 (x3==108)) else (if x3=124 then (aT.j1 k x3 (x3==124)) else (if x3=156 then (aT.j1 k x3 (x3==156)) else (aT.j1 k x3 (x3==172)))))))))))
def aT.j1:Nat→Int→Bool→Option (Bool)
 | 0,_,_=>none
 | k+1,x3,x15=>if x15=true then (some true) else (if x3=132 then (some true) else (some false))
end
def aT.f (k:Nat) (a0:Int):Option (Bool):=if a0=4 then (aT.j0 k a0 (a0==4)) else (if a0=20 then (aT.j0 k a0 (a0==20)) else (if a0=36 then (aT.j0 k a0 (a0==36)) else (if a0=52 then (aT.j0 k a0 (a0==52)) else (if a0=68 then (aT.j0 k a0 (a0==68)) else (if a0=84 then (aT.j0 k a0 (a0==84)) else (if a0=100 then (aT.j0 k a0 (a0==100)) else (if a0=116 then (aT.j0 k a0 (a0==116)) else (if a0=148 then (aT.j0 k a0 (a0==148)) else (aT.j0 k a0 (a0==164))))))))))
theorem aT.calls (k:Nat) (a0:Int) (r:Bool) (w:World) (h:aT.f k a0=some r) :
 Calls Try.prog 163 #[.int .u16 a0] w fun e w'=>e = .returned (.bool r)∧df w w':=by
 have H:(if a0=4 then (aT.j0 k a0 (a0==4)) else (if a0=20 then (aT.j0 k a0 (a0==20)) else (if a0=36 then (aT.j0 k a0 (a0==36)) else (if a0=52 then (aT.j0 k a0 (a0==52)) else (if a0=68 then (aT.j0 k a0 (a0==68)) else (if a0=84 then (aT.j0 k a0 (a0==84)) else (if a0=100 then (aT.j0 k a0 (a0==100)) else (if a0=116 then (aT.j0 k a0 (a0==116)) else (if a0=148 then (aT.j0 k a0 (a0==148)) else (aT.j0 k a0 (a0==164)))))))))))=some r:=h
 clear h
 have HC2:=aa.mk H
 clear H
 go_enter Try.func163,Try.ntmps163
 go_upto_if 4 with (fail)
 go_cut [4] (fun v4 wc=>∃ (kq:Nat) (x4_1:Bool),v4 = .bool x4_1∧aa (aT.j0 kq a0 x4_1=some r)∧aa (kq≤k)∧df w wc)
 case first=>
  have H:=HC2.out
  clear HC2
  replace H:=cK H
  obtain ⟨H,-,c3b0,_⟩ | ⟨H,c3,c3b0,_⟩:=H
  · (first | rw [c3b0] | (simp only [aQ,aN];rw [c3b0]) | skip)
    replace H:=aa.mk H
    go_wp2
    go_meet
    case rel=>exact ⟨_,_,bT,H,⟨le0⟩,cZ⟩
  (first | rw [c3b0] | (simp only [aQ,aN];rw [c3b0]) | skip)
  iterate 2
   replace H:=cK H
   obtain ⟨H,-,_,_⟩ | ⟨H,c4,_,_⟩:=H
   · replace H:=aa.mk H
     go_wp2
     go_meet
     case rel=>exact ⟨_,_,bT,H,⟨le0⟩,cZ⟩
  iterate 2
   replace H:=cK H
   obtain ⟨H,-,_,_⟩ | ⟨H,c6,_,_⟩:=H
   · replace H:=aa.mk H
     go_wp2
     go_meet
     case rel=>exact ⟨_,_,bT,H,⟨le0⟩,cZ⟩
  iterate 2
   replace H:=cK H
   obtain ⟨H,-,_,_⟩ | ⟨H,c8,_,_⟩:=H
   · replace H:=aa.mk H
     go_wp2
     go_meet
     case rel=>exact ⟨_,_,bT,H,⟨le0⟩,cZ⟩
  iterate 2
   replace H:=cK H
   obtain ⟨H,-,_,_⟩ | ⟨H,c10,_,_⟩:=H
   · replace H:=aa.mk H
     go_wp2
     go_meet
     case rel=>exact ⟨_,_,bT,H,⟨le0⟩,cZ⟩
  replace H:=aa.mk H
  go_wp2
  go_meet
  case rel=>exact ⟨_,_,bT,H,⟨le0⟩,cZ⟩
 case rest=>
  clear HC2
  obtain ⟨kq,x4_1,rfl,HA,HJ1,⟨mc1,rfl⟩⟩:=hcut
  cases kq with
  | zero=>exact absurd HA.out (by simp [aT.j0])
  | succ kj1=>
   have H:=HA.out
   clear HA
   simp only [aT.j0] at H
   by_cases c12:x4_1=true
   · subst c12
     have H1:(some true)=some r:=by rw [if_pos rfl] at H;exact H
     clear H
     have H:=H1
     clear H1
     cases H
     go_wp2
     go_ret
     exact ⟨bT,cZ⟩
   replace c12:=Bool.eq_false_iff.mpr c12
   subst c12
   have H1:(if a0=12 then (aT.j1 kj1 a0 (a0==12)) else (if a0=28 then (aT.j1 kj1 a0 (a0==28)) else (if a0=44 then (aT.j1 kj1 a0 (a0==44)) else (if a0=60 then (aT.j1 kj1 a0 (a0==60)) else (if a0=76 then (aT.j1 kj1 a0 (a0==76)) else (if a0=92 then (aT.j1 kj1 a0 (a0==92)) else (if a0=108 then (aT.j1 kj1 a0 (a0==108)) else (if a0=124 then (aT.j1 kj1 a0 (a0==124)) else (if a0=156 then (aT.j1 kj1 a0 (a0==156)) else (aT.j1 kj1 a0 (a0==172)))))))))))=some r:=by rw [if_neg (show ¬(false=true) by decide)] at H;exact H
   clear H
   have H:=H1
   clear H1
   have HC13:=aa.mk H
   clear H
   go_upto_if 15 with (fail)
   go_cut [15] (fun v15 wc=>∃ (kq:Nat) (x15_12:Bool),v15 = .bool x15_12∧aa (aT.j1 kq a0 x15_12=some r)∧aa (kq≤kj1)∧df w wc)
   case first=>
    have H:=HC13.out
    clear HC13
    replace H:=cK H
    obtain ⟨H,-,c14b0,_⟩ | ⟨H,c14,c14b0,_⟩:=H
    · (first | rw [c14b0] | (simp only [aQ,aN];rw [c14b0]) | skip)
      replace H:=aa.mk H
      go_wp2
      go_meet
      case rel=>exact ⟨_,_,bT,H,⟨by have:=HJ1.out;first | omega | exact Nat.le_refl _⟩,cZ⟩
    (first | rw [c14b0] | (simp only [aQ,aN];rw [c14b0]) | skip)
    iterate 2
     replace H:=cK H
     obtain ⟨H,-,_,_⟩ | ⟨H,c15,_,_⟩:=H
     · replace H:=aa.mk H
       go_wp2
       go_meet
       case rel=>exact ⟨_,_,bT,H,⟨by have:=HJ1.out;first | omega | exact Nat.le_refl _⟩,cZ⟩
    iterate 2
     replace H:=cK H
     obtain ⟨H,-,_,_⟩ | ⟨H,c17,_,_⟩:=H
     · replace H:=aa.mk H
       go_wp2
       go_meet
       case rel=>exact ⟨_,_,bT,H,⟨by have:=HJ1.out;first | omega | exact Nat.le_refl _⟩,cZ⟩
    iterate 2
     replace H:=cK H
     obtain ⟨H,-,_,_⟩ | ⟨H,c19,_,_⟩:=H
     · replace H:=aa.mk H
       go_wp2
       go_meet
       case rel=>exact ⟨_,_,bT,H,⟨by have:=HJ1.out;first | omega | exact Nat.le_refl _⟩,cZ⟩
    iterate 2
     replace H:=cK H
     obtain ⟨H,-,_,_⟩ | ⟨H,c21,_,_⟩:=H
     · replace H:=aa.mk H
       go_wp2
       go_meet
       case rel=>exact ⟨_,_,bT,H,⟨by have:=HJ1.out;first | omega | exact Nat.le_refl _⟩,cZ⟩
    replace H:=aa.mk H
    go_wp2
    go_meet
    case rel=>exact ⟨_,_,bT,H,⟨by have:=HJ1.out;first | omega | exact Nat.le_refl _⟩,cZ⟩
   case rest=>
    clear HC13
    obtain ⟨kq,x15_12,rfl,HA,HJ12,⟨mc12,rfl⟩⟩:=hcut
    cases kq with
    | zero=>exact absurd HA.out (by simp [aT.j1])
    | succ kj12=>
     have H:=HA.out
     clear HA
     simp only [aT.j1] at H
     by_cases c23:x15_12=true
     · subst c23
       have H1:(some true)=some r:=by rw [if_pos rfl] at H;exact H
       clear H
       have H:=H1
       clear H1
       cases H
       go_wp2
       go_ret
       exact ⟨bT,cZ⟩
     replace c23:=Bool.eq_false_iff.mpr c23
     subst c23
     have H1:(if a0=132 then (some true) else (some false))=some r:=by rw [if_neg (show ¬(false=true) by decide)] at H;exact H
     clear H
     have H:=H1
     clear H1
     replace H:=cK H
     obtain ⟨H,-,_,_⟩ | ⟨H,c24,_,_⟩:=H
     · cases H
       go_wp2
       go_ret
       exact ⟨bT,cZ⟩
     cases H
     go_wp2
     go_ret
     exact ⟨bT,cZ⟩
attribute [local go_sem] dR dU fD fE dC dD dS dV
mutual
def aD.j0:Nat→Int→Int→Bool→Option (Bool)
 | 0,_,_,_=>none
 | k+1,x0,x3,x4=>if x4=true then (some true) else (if x3=1 then (aD.j1 k x0 x3 (x3==1)) else (if x3=97 then (aD.j1 k x0 x3 (x3==97)) else (if x3=129 then (aD.j1 k x0 x3 (x3==129)) else (aD.j1 k x0 x3 (x3==177)))))
def aD.j1:Nat→Int→Int→Bool→Option (Bool)
 | 0,_,_,_=>none
 | k+1,x0,x3,x14=>if x14=true then (some true) else (if x3=2 then (aD.j2 k x0 (x3==2)) else (if x3=3 then (aD.j2 k x0 (x3==3)) else (if x3=6 then (aD.j2 k x0 (x3==6)) else (if x3=22 then (aD.j2 k x0 (x3==22)) else (if x3=7 then (aD.j2 k x0 (x3==7)) else (if x3=135 then (aD.j2 k x0 (x3==135)) else (aD.j2 k x0 (x3==5))))))))
def aD.j2:Nat→Int→Bool→Option (Bool)
 | 0,_,_=>none
 | k+1,x0,x19=>if x19=true then (some true) else ((aT.f k x0).bind fun t182=>(if t182=true then (some true) else ((bK.f k x0).bind fun t183=>(some t183))))
end
def aD.f (k:Nat) (a0:Int):Option (Bool):=if a0=0 then (aD.j0 k a0 a0 (a0==0)) else (if a0=32 then (aD.j0 k a0 a0 (a0==32)) else (if a0=40 then (aD.j0 k a0 a0 (a0==40)) else (if a0=48 then (aD.j0 k a0 a0 (a0==48)) else (if a0=64 then (aD.j0 k a0 a0 (a0==64)) else (if a0=72 then (aD.j0 k a0 a0 (a0==72)) else (if a0=80 then (aD.j0 k a0 a0 (a0==80)) else (if a0=96 then (aD.j0 k a0 a0 (a0==96)) else (aD.j0 k a0 a0 (a0==128)))))))))
theorem aD.calls (k:Nat) (a0:Int) (r:Bool) (w:World) (h:aD.f k a0=some r) :
 Calls Try.prog 143 #[.int .u16 a0] w fun e w'=>e = .returned (.bool r)∧df w w':=by
 have H:(if a0=0 then (aD.j0 k a0 a0 (a0==0)) else (if a0=32 then (aD.j0 k a0 a0 (a0==32)) else (if a0=40 then (aD.j0 k a0 a0 (a0==40)) else (if a0=48 then (aD.j0 k a0 a0 (a0==48)) else (if a0=64 then (aD.j0 k a0 a0 (a0==64)) else (if a0=72 then (aD.j0 k a0 a0 (a0==72)) else (if a0=80 then (aD.j0 k a0 a0 (a0==80)) else (if a0=96 then (aD.j0 k a0 a0 (a0==96)) else (aD.j0 k a0 a0 (a0==128))))))))))=some r:=h
 clear h
 have HC2:=aa.mk H
 clear H
 go_enter Try.func143,Try.ntmps143
 go_upto_if 4 with (fail)
 go_cut [4] (fun v4 wc=>∃ (kq:Nat) (x4_1:Bool),v4 = .bool x4_1∧aa (aD.j0 kq a0 a0 x4_1=some r)∧aa (kq≤k)∧df w wc)
 case first=>
  have H:=HC2.out
  clear HC2
  replace H:=cK H
  obtain ⟨H,-,c3b0,_⟩ | ⟨H,c3,c3b0,_⟩:=H
  · (first | rw [c3b0] | (simp only [aQ,aN];rw [c3b0]) | skip)
    replace H:=aa.mk H
    go_wp2
    go_meet
    case rel=>exact ⟨_,_,bT,H,⟨le0⟩,cZ⟩
  (first | rw [c3b0] | (simp only [aQ,aN];rw [c3b0]) | skip)
  replace H:=cK H
  obtain ⟨H,-,_,_⟩ | ⟨H,c4,_,_⟩:=H
  · replace H:=aa.mk H
    go_wp2
    go_meet
    case rel=>exact ⟨_,_,bT,H,⟨le0⟩,cZ⟩
  iterate 2
   replace H:=cK H
   obtain ⟨H,-,_,_⟩ | ⟨H,c5,_,_⟩:=H
   · replace H:=aa.mk H
     go_wp2
     go_meet
     case rel=>exact ⟨_,_,bT,H,⟨le0⟩,cZ⟩
  iterate 2
   replace H:=cK H
   obtain ⟨H,-,_,_⟩ | ⟨H,c7,_,_⟩:=H
   · replace H:=aa.mk H
     go_wp2
     go_meet
     case rel=>exact ⟨_,_,bT,H,⟨le0⟩,cZ⟩
  iterate 2
   replace H:=cK H
   obtain ⟨H,-,_,_⟩ | ⟨H,c9,_,_⟩:=H
   · replace H:=aa.mk H
     go_wp2
     go_meet
     case rel=>exact ⟨_,_,bT,H,⟨le0⟩,cZ⟩
  replace H:=aa.mk H
  go_wp2
  go_meet
  case rel=>exact ⟨_,_,bT,H,⟨le0⟩,cZ⟩
 case rest=>
  clear HC2
  obtain ⟨kq,x4_1,rfl,HA,HJ1,⟨mc1,rfl⟩⟩:=hcut
  cases kq with
  | zero=>exact absurd HA.out (by simp [aD.j0])
  | succ kj1=>
   have H:=HA.out
   clear HA
   simp only [aD.j0] at H
   by_cases c11:x4_1=true
   · subst c11
     have H1:(some true)=some r:=by rw [if_pos rfl] at H;exact H
     clear H
     have H:=H1
     clear H1
     cases H
     go_wp2
     go_ret
     exact ⟨bT,cZ⟩
   replace c11:=Bool.eq_false_iff.mpr c11
   subst c11
   have H1:(if a0=1 then (aD.j1 kj1 a0 a0 (a0==1)) else (if a0=97 then (aD.j1 kj1 a0 a0 (a0==97)) else (if a0=129 then (aD.j1 kj1 a0 a0 (a0==129)) else (aD.j1 kj1 a0 a0 (a0==177)))))=some r:=by rw [if_neg (show ¬(false=true) by decide)] at H;exact H
   clear H
   have H:=H1
   clear H1
   have HC12:=aa.mk H
   clear H
   go_upto_if 14 with (fail)
   go_cut [14] (fun v14 wc=>∃ (kq:Nat) (x14_11:Bool),v14 = .bool x14_11∧aa (aD.j1 kq a0 a0 x14_11=some r)∧aa (kq≤kj1)∧df w wc)
   case first=>
    have H:=HC12.out
    clear HC12
    replace H:=cK H
    obtain ⟨H,-,c13b0,_⟩ | ⟨H,c13,c13b0,_⟩:=H
    · (first | rw [c13b0] | (simp only [aQ,aN];rw [c13b0]) | skip)
      replace H:=aa.mk H
      go_wp2
      go_meet
      case rel=>exact ⟨_,_,bT,H,⟨by have:=HJ1.out;first | omega | exact Nat.le_refl _⟩,cZ⟩
    (first | rw [c13b0] | (simp only [aQ,aN];rw [c13b0]) | skip)
    iterate 2
     replace H:=cK H
     obtain ⟨H,-,_,_⟩ | ⟨H,c14,_,_⟩:=H
     · replace H:=aa.mk H
       go_wp2
       go_meet
       case rel=>exact ⟨_,_,bT,H,⟨by have:=HJ1.out;first | omega | exact Nat.le_refl _⟩,cZ⟩
    replace H:=aa.mk H
    go_wp2
    go_meet
    case rel=>exact ⟨_,_,bT,H,⟨by have:=HJ1.out;first | omega | exact Nat.le_refl _⟩,cZ⟩
   case rest=>
    clear HC12
    obtain ⟨kq,x14_11,rfl,HA,HJ11,⟨mc11,rfl⟩⟩:=hcut
    cases kq with
    | zero=>exact absurd HA.out (by simp [aD.j1])
    | succ kj11=>
     have H:=HA.out
     clear HA
     simp only [aD.j1] at H
     by_cases c16:x14_11=true
     · subst c16
       have H1:(some true)=some r:=by rw [if_pos rfl] at H;exact H
       clear H
       have H:=H1
       clear H1
       cases H
       go_wp2
       go_ret
       exact ⟨bT,cZ⟩
     replace c16:=Bool.eq_false_iff.mpr c16
     subst c16
     have H1:(if a0=2 then (aD.j2 kj11 a0 (a0==2)) else (if a0=3 then (aD.j2 kj11 a0 (a0==3)) else (if a0=6 then (aD.j2 kj11 a0 (a0==6)) else (if a0=22 then (aD.j2 kj11 a0 (a0==22)) else (if a0=7 then (aD.j2 kj11 a0 (a0==7)) else (if a0=135 then (aD.j2 kj11 a0 (a0==135)) else (aD.j2 kj11 a0 (a0==5))))))))=some r:=by rw [if_neg (show ¬(false=true) by decide)] at H;exact H
     clear H
     have H:=H1
     clear H1
     have HC17:=aa.mk H
     clear H
     go_upto_if 19 with (fail)
     go_cut [19] (fun v19 wc=>∃ (kq:Nat) (x19_16:Bool),v19 = .bool x19_16∧aa (aD.j2 kq a0 x19_16=some r)∧aa (kq≤kj11)∧df w wc)
     case first=>
      have H:=HC17.out
      clear HC17
      replace H:=cK H
      obtain ⟨H,-,c18b0,_⟩ | ⟨H,c18,c18b0,_⟩:=H
      · (first | rw [c18b0] | (simp only [aQ,aN];rw [c18b0]) | skip)
        replace H:=aa.mk H
        go_wp2
        go_meet
        case rel=>exact ⟨_,_,bT,H,⟨by have:=HJ1.out;have:=HJ11.out;first | omega | exact Nat.le_refl _⟩,cZ⟩
      (first | rw [c18b0] | (simp only [aQ,aN];rw [c18b0]) | skip)
      replace H:=cK H
      obtain ⟨H,-,_,_⟩ | ⟨H,c19,_,_⟩:=H
      · replace H:=aa.mk H
        go_wp2
        go_meet
        case rel=>exact ⟨_,_,bT,H,⟨by have:=HJ1.out;have:=HJ11.out;first | omega | exact Nat.le_refl _⟩,cZ⟩
      iterate 2
       replace H:=cK H
       obtain ⟨H,-,_,_⟩ | ⟨H,c20,_,_⟩:=H
       · replace H:=aa.mk H
         go_wp2
         go_meet
         case rel=>exact ⟨_,_,bT,H,⟨by have:=HJ1.out;have:=HJ11.out;first | omega | exact Nat.le_refl _⟩,cZ⟩
      iterate 2
       replace H:=cK H
       obtain ⟨H,-,_,_⟩ | ⟨H,c22,_,_⟩:=H
       · replace H:=aa.mk H
         go_wp2
         go_meet
         case rel=>exact ⟨_,_,bT,H,⟨by have:=HJ1.out;have:=HJ11.out;first | omega | exact Nat.le_refl _⟩,cZ⟩
      replace H:=aa.mk H
      go_wp2
      go_meet
      case rel=>exact ⟨_,_,bT,H,⟨by have:=HJ1.out;have:=HJ11.out;first | omega | exact Nat.le_refl _⟩,cZ⟩
     case rest=>
      clear HC17
      obtain ⟨kq,x19_16,rfl,HA,HJ16,⟨mc16,rfl⟩⟩:=hcut
      cases kq with
      | zero=>exact absurd HA.out (by simp [aD.j2])
      | succ kj16=>
       have H:=HA.out
       clear HA
       simp only [aD.j2] at H
       by_cases c24:x19_16=true
       · subst c24
         have H1:(some true)=some r:=by rw [if_pos rfl] at H;exact H
         clear H
         have H:=H1
         clear H1
         cases H
         go_wp2
         go_ret
         exact ⟨bT,cZ⟩
       replace c24:=Bool.eq_false_iff.mpr c24
       subst c24
       have H1:((aT.f kj16 a0).bind fun t182=>(if t182=true then (some true) else ((bK.f kj16 a0).bind fun t183=>(some t183))))=some r:=by rw [if_neg (show ¬(false=true) by decide)] at H;exact H
       clear H
       have H:=H1
       clear H1
       replace H:=bnd H
       obtain ⟨t182,A25,H⟩:=H
       replace H:=qR H
       obtain ⟨rfl,H⟩ | ⟨rfl,H⟩:=H
       · cases H
         go_wp2_with (go_at_call 163;(with_reducible refine (aT.calls _ _ _ _ A25.out).mono ?_);rintro e w' ⟨rfl,⟨nd,rfl⟩⟩)
         go_ret
         exact ⟨bT,cZ⟩
       replace H:=bnd H
       obtain ⟨t183,A27,H⟩:=H
       cases H
       go_wp2_with (first | (go_at_call 163;(with_reducible refine (aT.calls _ _ _ _ A25.out).mono ?_);rintro e w' ⟨rfl,⟨nd,rfl⟩⟩) | (go_at_call 151;(with_reducible refine (bK.calls _ _ _ _ A27.out).mono ?_);rintro e w' ⟨rfl,⟨nd,rfl⟩⟩))
       go_ret
       exact ⟨bT,cZ⟩
def aC.f (k:Nat) (a0:Int):Option (Int):=(aD.f k a0).bind fun t184=>(if t184=true then (some (wrap64 (Go.bits .and .u16 a0 7))) else (some (-1)))
theorem aC.calls (k:Nat) (a0:Int) (r:Int) (w:World) (h:aC.f k a0=some r) :
 Calls Try.prog 99 #[.int .u16 a0] w fun e w'=>e = .returned (.int .i64 r)∧df w w':=by
 have H:((aD.f k a0).bind fun t184=>(if t184=true then (some (wrap64 (Go.bits .and .u16 a0 7))) else (some (-1))))=some r:=h
 clear h
 replace H:=bnd H
 obtain ⟨t184,A2,H⟩:=H
 replace H:=qR H
 obtain ⟨rfl,H⟩ | ⟨rfl,H⟩:=H
 · cases H
   go_enter Try.func99,Try.ntmps99
   go_wp2_with (go_at_call 143;(with_reducible refine (aD.calls _ _ _ _ A2.out).mono ?_);rintro e w' ⟨rfl,⟨nd,rfl⟩⟩)
   go_ret
   exact ⟨bT,cZ⟩
 cases H
 go_enter Try.func99,Try.ntmps99
 go_wp2_with (go_at_call 143;(with_reducible refine (aD.calls _ _ _ _ A2.out).mono ?_);rintro e w' ⟨rfl,⟨nd,rfl⟩⟩)
 go_ret
 exact ⟨bT,cZ⟩
attribute [local go_sem] dR dU fD fE dC dD dS dV
mutual
def aM.j0:Nat→Int→Bool→Int→Int→Int→Int→Option (Bool)
 | 0,_,_,_,_,_,_=>none
 | k+1,x11,x12,x186000,x186001,x186002,x186003=>if x12=true then (some (decide (x186003<16))) else (if x11=52 then (aM.j1 k x11 (x11==52) x186000 x186001 x186002 x186003) else (aM.j1 k x11 (x11==148) x186000 x186001 x186002 x186003))
def aM.j1:Nat→Int→Bool→Int→Int→Int→Int→Option (Bool)
 | 0,_,_,_,_,_,_=>none
 | k+1,x11,x20,x186000,x186001,x186002,x186003=>if x20=true then (some (x186003 != 0)) else (if x11=100 then (some (decide (x186003≤31))) else (if x11=116 then (some (decide (x186003≤31))) else (some true)))
end
def aM.f (k:Nat) (a0_0:Int) (a0_1:Int) (a0_2:Int) (a0_3:Int):Option (Bool):=(aC.f k a0_0).bind fun t186=>(if t186=(-1) then (some false) else (if t186=5 then (some false) else (if t186=6 then (some false) else (if a0_0=2 then (aM.j0 k a0_0 (a0_0==2) a0_0 a0_1 a0_2 a0_3) else (if a0_0=3 then (aM.j0 k a0_0 (a0_0==3) a0_0 a0_1 a0_2 a0_3) else (if a0_0=96 then (aM.j0 k a0_0 (a0_0==96) a0_0 a0_1 a0_2 a0_3) else (aM.j0 k a0_0 (a0_0==97) a0_0 a0_1 a0_2 a0_3)))))))
theorem aM.calls (k:Nat) (a0_0:Int) (a0_1:Int) (a0_2:Int) (a0_3:Int) (r:Bool) (w:World) (h:aM.f k a0_0 a0_1 a0_2 a0_3=some r) :
 Calls Try.prog 123 #[.agg #[.int .u16 a0_0,.int .u8 a0_1,.int .u8 a0_2,.int .u32 a0_3]] w fun e w'=>e = .returned (.bool r)∧Below w.heap.size w w':=by
 have hu45:=Try.underlying45
 have HB:=aa.mk (Below.refl w.heap.size w)
 have H:((aC.f k a0_0).bind fun t186=>(if t186=(-1) then (some false) else (if t186=5 then (some false) else (if t186=6 then (some false) else (if a0_0=2 then (aM.j0 k a0_0 (a0_0==2) a0_0 a0_1 a0_2 a0_3) else (if a0_0=3 then (aM.j0 k a0_0 (a0_0==3) a0_0 a0_1 a0_2 a0_3) else (if a0_0=96 then (aM.j0 k a0_0 (a0_0==96) a0_0 a0_1 a0_2 a0_3) else (aM.j0 k a0_0 (a0_0==97) a0_0 a0_1 a0_2 a0_3))))))))=some r:=h
 clear h
 replace H:=bnd H
 obtain ⟨t186,A2,H⟩:=H
 replace H:=cK H
 obtain ⟨H,-,_,_⟩ | ⟨H,c3,_,_⟩:=H
 · cases H
   go_enter Try.func123,Try.ntmps123
   go_wp2_with (first | ((with_reducible refine bA (N:=1) rfl ?_);refine fe (N:=1) (cs:=#[.int .u16 a0_0,.int .u8 a0_1,.int .u8 a0_2,.int .u32 a0_3]) (t:=45) ?_;intro gb185 hg w4 hbox hb;have GE185:=geN HB hg;have BK185:=aa.mk hbox;replace HB:=di HB hb;clear hb hbox hg;obtain ⟨_,_,_,_,_,_,_,_⟩:=cz4 BK185) | (go_at_call 99;(with_reducible refine (aC.calls _ _ _ _ A2.out).mono ?_);rintro e w' ⟨rfl,⟨nd,rfl⟩⟩))
   go_ret
   exact ⟨dL,bU⟩
 iterate 2
  replace H:=cK H
  obtain ⟨H,-,_,_⟩ | ⟨H,c6,_,_⟩:=H
  · cases H
    go_enter Try.func123,Try.ntmps123
    go_wp2_with (first | ((with_reducible refine bA (N:=1) rfl ?_);refine fe (N:=1) (cs:=#[.int .u16 a0_0,.int .u8 a0_1,.int .u8 a0_2,.int .u32 a0_3]) (t:=45) ?_;intro gb185 hg w7 hbox hb;have GE185:=geN HB hg;have BK185:=aa.mk hbox;replace HB:=di HB hb;clear hb hbox hg;obtain ⟨_,_,_,_,_,_,_,_⟩:=cz4 BK185) | (go_at_call 99;(with_reducible refine (aC.calls _ _ _ _ A2.out).mono ?_);rintro e w' ⟨rfl,⟨nd,rfl⟩⟩))
    go_ret
    exact ⟨dL,bU⟩
 have HC12:=aa.mk H
 clear H
 go_enter Try.func123,Try.ntmps123
 go_upto_if 12 with (first | ((with_reducible refine bA (N:=1) rfl ?_);refine fe (N:=1) (cs:=#[.int .u16 a0_0,.int .u8 a0_1,.int .u8 a0_2,.int .u32 a0_3]) (t:=45) ?_;intro gb185 hg w13 hbox hb;have GE185:=geN HB hg;have BK185:=aa.mk hbox;replace HB:=di HB hb;clear hb hbox hg;obtain ⟨_,_,_,_,_,_,_,_⟩:=cz4 BK185) | (go_at_call 99;(with_reducible refine (aC.calls _ _ _ _ A2.out).mono ?_);rintro e w' ⟨rfl,⟨nd,rfl⟩⟩))
 (try simp only [Act.put,List.setIfInBounds_toArray,List.set_cons_zero,List.set_cons_succ])
 go_cut [12] (fun v12 wc=>∃ (kq:Nat) (x12_11:Bool),v12 = .bool x12_11∧aa (aM.j0 kq a0_0 x12_11 a0_0 a0_1 a0_2 a0_3=some r)∧aa (kq≤k)∧aa (wc.heap[gb185]?=some (.cells #[.int .u16 a0_0,.int .u8 a0_1,.int .u8 a0_2,.int .u32 a0_3] 45 (0,0)))∧aa (Below w.heap.size w wc))
 case first=>
  have H:=HC12.out
  clear HC12
  replace H:=cK H
  obtain ⟨H,-,c15b0,_⟩ | ⟨H,c15,c15b0,_⟩:=H
  · (first | rw [c15b0] | (simp only [aQ,aN];rw [c15b0]) | skip)
    replace H:=aa.mk H
    go_wp2
    go_meet
    case rel=>exact ⟨_,_,bT,H,⟨le0⟩,⟨kV⟩,⟨bU⟩⟩
  (first | rw [c15b0] | (simp only [aQ,aN];rw [c15b0]) | skip)
  iterate 2
   replace H:=cK H
   obtain ⟨H,-,_,_⟩ | ⟨H,c16,_,_⟩:=H
   · replace H:=aa.mk H
     go_wp2
     go_meet
     case rel=>exact ⟨_,_,bT,H,⟨le0⟩,⟨kV⟩,⟨bU⟩⟩
  replace H:=aa.mk H
  go_wp2
  go_meet
  case rel=>exact ⟨_,_,bT,H,⟨le0⟩,⟨kV⟩,⟨bU⟩⟩
 case rest=>
  clear HC12
  obtain ⟨kq,x12_11,rfl,HA,HJ11,BK185,HB⟩:=hcut
  cases kq with
  | zero=>exact absurd HA.out (by simp [aM.j0])
  | succ kj11=>
   have H:=HA.out
   clear HA
   simp only [aM.j0] at H
   by_cases c18:x12_11=true
   · subst c18
     have H1:(some (decide (a0_3<16)))=some r:=by rw [if_pos rfl] at H;exact H
     clear H
     have H:=H1
     clear H1
     cases H
     obtain ⟨_,_,_,_,_,_,_,_⟩:=cz4 BK185
     go_wp2
     go_ret
     exact ⟨dL,bU⟩
   replace c18:=Bool.eq_false_iff.mpr c18
   subst c18
   have H1:(if a0_0=52 then (aM.j1 kj11 a0_0 (a0_0==52) a0_0 a0_1 a0_2 a0_3) else (aM.j1 kj11 a0_0 (a0_0==148) a0_0 a0_1 a0_2 a0_3))=some r:=by rw [if_neg (show ¬(false=true) by decide)] at H;exact H
   clear H
   have H:=H1
   clear H1
   have HC20:=aa.mk H
   clear H
   go_upto_if 20 with (fail)
   go_cut [20] (fun v20 wc=>∃ (kq:Nat) (x20_19:Bool),v20 = .bool x20_19∧aa (aM.j1 kq a0_0 x20_19 a0_0 a0_1 a0_2 a0_3=some r)∧aa (kq≤kj11)∧aa (wc.heap[gb185]?=some (.cells #[.int .u16 a0_0,.int .u8 a0_1,.int .u8 a0_2,.int .u32 a0_3] 45 (0,0)))∧aa (Below w.heap.size w wc))
   case first=>
    have H:=HC20.out
    clear HC20
    replace H:=cK H
    obtain ⟨H,-,c21b0,_⟩ | ⟨H,c21,c21b0,_⟩:=H
    · (first | rw [c21b0] | (simp only [aQ,aN];rw [c21b0]) | skip)
      replace H:=aa.mk H
      go_wp2
      go_meet
      case rel=>exact ⟨_,_,bT,H,⟨by have:=HJ11.out;first | omega | exact Nat.le_refl _⟩,⟨kV⟩,⟨bU⟩⟩
    (first | rw [c21b0] | (simp only [aQ,aN];rw [c21b0]) | skip)
    replace H:=aa.mk H
    go_wp2
    go_meet
    case rel=>exact ⟨_,_,bT,H,⟨by have:=HJ11.out;first | omega | exact Nat.le_refl _⟩,⟨kV⟩,⟨bU⟩⟩
   case rest=>
    clear HC20
    obtain ⟨kq,x20_19,rfl,HA,HJ19,BK185,HB⟩:=hcut
    cases kq with
    | zero=>exact absurd HA.out (by simp [aM.j1])
    | succ kj19=>
     have H:=HA.out
     clear HA
     simp only [aM.j1] at H
     by_cases c22:x20_19=true
     · subst c22
       have H1:(some (a0_3 != 0))=some r:=by rw [if_pos rfl] at H;exact H
       clear H
       have H:=H1
       clear H1
       cases H
       obtain ⟨_,_,_,_,_,_,_,_⟩:=cz4 BK185
       go_wp2
       go_ret
       exact ⟨dL,bU⟩
     replace c22:=Bool.eq_false_iff.mpr c22
     subst c22
     have H1:(if a0_0=100 then (some (decide (a0_3≤31))) else (if a0_0=116 then (some (decide (a0_3≤31))) else (some true)))=some r:=by rw [if_neg (show ¬(false=true) by decide)] at H;exact H
     clear H
     have H:=H1
     clear H1
     iterate 2
      replace H:=cK H
      obtain ⟨H,-,_,_⟩ | ⟨H,c24,_,_⟩:=H
      · cases H
        obtain ⟨_,_,_,_,_,_,_,_⟩:=cz4 BK185
        go_wp2
        go_ret
        exact ⟨dL,bU⟩
     cases H
     go_wp2
     go_ret
     exact ⟨dL,bU⟩
def bI.j0:Nat→Int→Bool→Option (Bool)
 | 0,_,_=>none
 | k+1,x0,x4=>if x4=true then (some false) else ((aT.f k x0).bind fun t187=>(if t187=true then (some ((Go.bits .and .u16 x0 8)==0)) else ((bK.f k x0).bind fun t188=>(if t188=true then (some ((Go.bits .and .u16 x0 8)==0)) else (some true)))))
def bI.f (k:Nat) (a0:Int):Option (Bool):=if a0=128 then (bI.j0 k a0 (a0==128)) else (if a0=129 then (bI.j0 k a0 (a0==129)) else (if a0=132 then (bI.j0 k a0 (a0==132)) else (if a0=22 then (bI.j0 k a0 (a0==22)) else (if a0=7 then (bI.j0 k a0 (a0==7)) else (bI.j0 k a0 (a0==135))))))
theorem bI.calls (k:Nat) (a0:Int) (r:Bool) (w:World) (h:bI.f k a0=some r) :
 Calls Try.prog 150 #[.int .u16 a0] w fun e w'=>e = .returned (.bool r)∧df w w':=by
 have H:(if a0=128 then (bI.j0 k a0 (a0==128)) else (if a0=129 then (bI.j0 k a0 (a0==129)) else (if a0=132 then (bI.j0 k a0 (a0==132)) else (if a0=22 then (bI.j0 k a0 (a0==22)) else (if a0=7 then (bI.j0 k a0 (a0==7)) else (bI.j0 k a0 (a0==135)))))))=some r:=h
 clear h
 have HC2:=aa.mk H
 clear H
 go_enter Try.func150,Try.ntmps150
 go_upto_if 4 with (fail)
 go_cut [4] (fun v4 wc=>∃ (kq:Nat) (x4_1:Bool),v4 = .bool x4_1∧aa (bI.j0 kq a0 x4_1=some r)∧aa (kq≤k)∧df w wc)
 case first=>
  have H:=HC2.out
  clear HC2
  replace H:=cK H
  obtain ⟨H,-,c3b0,_⟩ | ⟨H,c3,c3b0,_⟩:=H
  · (first | rw [c3b0] | (simp only [aQ,aN];rw [c3b0]) | skip)
    replace H:=aa.mk H
    go_wp2
    go_meet
    case rel=>exact ⟨_,_,bT,H,⟨le0⟩,cZ⟩
  (first | rw [c3b0] | (simp only [aQ,aN];rw [c3b0]) | skip)
  iterate 2
   replace H:=cK H
   obtain ⟨H,-,_,_⟩ | ⟨H,c4,_,_⟩:=H
   · replace H:=aa.mk H
     go_wp2
     go_meet
     case rel=>exact ⟨_,_,bT,H,⟨le0⟩,cZ⟩
  iterate 2
   replace H:=cK H
   obtain ⟨H,-,_,_⟩ | ⟨H,c6,_,_⟩:=H
   · replace H:=aa.mk H
     go_wp2
     go_meet
     case rel=>exact ⟨_,_,bT,H,⟨le0⟩,cZ⟩
  replace H:=aa.mk H
  go_wp2
  go_meet
  case rel=>exact ⟨_,_,bT,H,⟨le0⟩,cZ⟩
 case rest=>
  clear HC2
  obtain ⟨kq,x4_1,rfl,HA,HJ1,⟨mc1,rfl⟩⟩:=hcut
  cases kq with
  | zero=>exact absurd HA.out (by simp [bI.j0])
  | succ kj1=>
   have H:=HA.out
   clear HA
   simp only [bI.j0] at H
   by_cases c8:x4_1=true
   · subst c8
     have H1:(some false)=some r:=by rw [if_pos rfl] at H;exact H
     clear H
     have H:=H1
     clear H1
     cases H
     go_wp2
     go_ret
     exact ⟨bT,cZ⟩
   replace c8:=Bool.eq_false_iff.mpr c8
   subst c8
   have H1:((aT.f kj1 a0).bind fun t187=>(if t187=true then (some ((Go.bits .and .u16 a0 8)==0)) else ((bK.f kj1 a0).bind fun t188=>(if t188=true then (some ((Go.bits .and .u16 a0 8)==0)) else (some true)))))=some r:=by rw [if_neg (show ¬(false=true) by decide)] at H;exact H
   clear H
   have H:=H1
   clear H1
   replace H:=bnd H
   obtain ⟨t187,A9,H⟩:=H
   replace H:=qR H
   obtain ⟨rfl,H⟩ | ⟨rfl,H⟩:=H
   · cases H
     go_wp2_with (go_at_call 163;(with_reducible refine (aT.calls _ _ _ _ A9.out).mono ?_);rintro e w' ⟨rfl,⟨nd,rfl⟩⟩)
     go_ret
     exact ⟨bT,cZ⟩
   replace H:=bnd H
   obtain ⟨t188,A11,H⟩:=H
   replace H:=qR H
   obtain ⟨rfl,H⟩ | ⟨rfl,H⟩:=H
   · cases H
     go_wp2_with (first | (go_at_call 163;(with_reducible refine (aT.calls _ _ _ _ A9.out).mono ?_);rintro e w' ⟨rfl,⟨nd,rfl⟩⟩) | (go_at_call 151;(with_reducible refine (bK.calls _ _ _ _ A11.out).mono ?_);rintro e w' ⟨rfl,⟨nd,rfl⟩⟩))
     go_ret
     exact ⟨bT,cZ⟩
   cases H
   go_wp2_with (first | (go_at_call 163;(with_reducible refine (aT.calls _ _ _ _ A9.out).mono ?_);rintro e w' ⟨rfl,⟨nd,rfl⟩⟩) | (go_at_call 151;(with_reducible refine (bK.calls _ _ _ _ A11.out).mono ?_);rintro e w' ⟨rfl,⟨nd,rfl⟩⟩))
   go_ret
   exact ⟨bT,cZ⟩
def fT.f (a0:Int):Option (Bool):=if a0=32 then (some true) else (if a0=40 then (some true) else (if a0=48 then (some true) else (if a0=64 then (some true) else (if a0=72 then (some true) else (if a0=80 then (some true) else (if a0=177 then (some true) else (if a0=60 then (some true) else (if a0=156 then (some true) else (some false)))))))))
theorem fT.calls (a0:Int) (r:Bool) (w:World) (h:fT.f a0=some r) :
 Calls Try.prog 152 #[.int .u16 a0] w fun e w'=>e = .returned (.bool r)∧df w w':=by
 have H:(if a0=32 then (some true) else (if a0=40 then (some true) else (if a0=48 then (some true) else (if a0=64 then (some true) else (if a0=72 then (some true) else (if a0=80 then (some true) else (if a0=177 then (some true) else (if a0=60 then (some true) else (if a0=156 then (some true) else (some false))))))))))=some r:=h
 clear h
 replace H:=cK H
 obtain ⟨H,-,_,_⟩ | ⟨H,c2,_,_⟩:=H
 · cases H
   go_enter Try.func152,Try.ntmps152
   go_wp2
   go_ret
   exact ⟨bT,cZ⟩
 iterate 2
  replace H:=cK H
  obtain ⟨H,-,_,_⟩ | ⟨H,c3,_,_⟩:=H
  · cases H
    go_enter Try.func152,Try.ntmps152
    go_wp2
    go_ret
    exact ⟨bT,cZ⟩
 iterate 2
  replace H:=cK H
  obtain ⟨H,-,_,_⟩ | ⟨H,c5,_,_⟩:=H
  · cases H
    go_enter Try.func152,Try.ntmps152
    go_wp2
    go_ret
    exact ⟨bT,cZ⟩
 iterate 2
  replace H:=cK H
  obtain ⟨H,-,_,_⟩ | ⟨H,c7,_,_⟩:=H
  · cases H
    go_enter Try.func152,Try.ntmps152
    go_wp2
    go_ret
    exact ⟨bT,cZ⟩
 iterate 2
  replace H:=cK H
  obtain ⟨H,-,_,_⟩ | ⟨H,c9,_,_⟩:=H
  · cases H
    go_enter Try.func152,Try.ntmps152
    go_wp2
    go_ret
    exact ⟨bT,cZ⟩
 cases H
 go_enter Try.func152,Try.ntmps152
 go_wp2
 go_ret
 exact ⟨bT,cZ⟩
def dM.f (k:Nat) (a0:Int):Option (Bool × Bool × Bool):=(aD.f k a0).bind fun t189=>(if t189=true then ((bI.f k a0).bind fun t190=>((bK.f k a0).bind fun t191=>((fT.f a0).bind fun t192=>(some (t190,t191,t192))))) else (some (false,false,false)))
theorem dM.calls (k:Nat) (a0:Int) (r1:Bool) (r2:Bool) (r3:Bool) (w:World) (h:dM.f k a0=some (r1,r2,r3)) :
 Calls Try.prog 100 #[.int .u16 a0] w fun e w'=>e = .returned (.tuple #[.bool r1,.bool r2,.bool r3])∧df w w':=by
 have H:((aD.f k a0).bind fun t189=>(if t189=true then ((bI.f k a0).bind fun t190=>((bK.f k a0).bind fun t191=>((fT.f a0).bind fun t192=>(some (t190,t191,t192))))) else (some (false,false,false))))=some (r1,r2,r3):=h
 clear h
 replace H:=bnd H
 obtain ⟨t189,A2,H⟩:=H
 replace H:=qR H
 obtain ⟨rfl,H⟩ | ⟨rfl,H⟩:=H
 · replace H:=bnd H
   obtain ⟨t190,A4,H⟩:=H
   replace H:=bnd H
   obtain ⟨t191,A5,H⟩:=H
   replace H:=bnd H
   obtain ⟨t192,A6,H⟩:=H
   obtain ⟨rfl,rfl,rfl⟩:=so3 H
   go_enter Try.func100,Try.ntmps100
   go_wp2_with (first | (go_at_call 143;(with_reducible refine (aD.calls _ _ _ _ A2.out).mono ?_);rintro e w' ⟨rfl,⟨nd,rfl⟩⟩) | (go_at_call 150;(with_reducible refine (bI.calls _ _ _ _ A4.out).mono ?_);rintro e w' ⟨rfl,⟨nd,rfl⟩⟩) | (go_at_call 151;(with_reducible refine (bK.calls _ _ _ _ A5.out).mono ?_);rintro e w' ⟨rfl,⟨nd,rfl⟩⟩) | (go_at_call 152;(with_reducible refine (fT.calls _ _ _ A6.out).mono ?_);rintro e w' ⟨rfl,⟨nd,rfl⟩⟩))
   go_ret3
   exact ⟨bT,cZ⟩
 obtain ⟨rfl,rfl,rfl⟩:=so3 H
 go_enter Try.func100,Try.ntmps100
 go_wp2_with (go_at_call 143;(with_reducible refine (aD.calls _ _ _ _ A2.out).mono ?_);rintro e w' ⟨rfl,⟨nd,rfl⟩⟩)
 go_ret3
 exact ⟨bT,cZ⟩
attribute [local go_sem] dR dU fD fE dC dD dS dV
attribute [local go_sem high] eqA45
def dP.f (k:Nat) (a0_0:Int) (a0_1:Int) (a0_2:Int) (a0_3:Int):Option (Bool):=(dM.f k a0_0).bind fun bt194=>(if a0_1=0 then (if a0_2=0 then (if bt194.1=true then (some true) else (some (a0_3==0))) else (some false)) else (some false))
theorem dP.calls (k:Nat) (a0_0:Int) (a0_1:Int) (a0_2:Int) (a0_3:Int) (r:Bool) (w:World) (h:dP.f k a0_0 a0_1 a0_2 a0_3=some r) :
 Calls Try.prog 158 #[.agg #[.int .u16 a0_0,.int .u8 a0_1,.int .u8 a0_2,.int .u32 a0_3]] w fun e w'=>e = .returned (.bool r)∧Below w.heap.size w w':=by
 have hu45:=Try.underlying45
 have HB:=aa.mk (Below.refl w.heap.size w)
 have H:((dM.f k a0_0).bind fun bt194=>(if a0_1=0 then (if a0_2=0 then (if bt194.1=true then (some true) else (some (a0_3==0))) else (some false)) else (some false)))=some r:=h
 clear h
 replace H:=Option.bind_eq_some_iff.mp H
 obtain ⟨⟨t194,t195,t196⟩,A20,H⟩:=H
 replace H:(if a0_1=0 then (if a0_2=0 then (if t194=true then (some true) else (some (a0_3==0))) else (some false)) else (some false))=some r:=H
 have A2:=aa.mk A20
 clear A20
 replace H:=cK H
 obtain ⟨H,-,_,_⟩ | ⟨H,c3,_,_⟩:=H
 · replace H:=cK H
   obtain ⟨H,-,_,_⟩ | ⟨H,c4,_,_⟩:=H
   · replace H:=qR H
     obtain ⟨rfl,H⟩ | ⟨rfl,H⟩:=H
     · cases H
       go_enter Try.func158,Try.ntmps158
       go_wp2_with (first | ((with_reducible refine bA (N:=1) rfl ?_);refine fe (N:=1) (cs:=#[.int .u16 a0_0,.int .u8 a0_1,.int .u8 a0_2,.int .u32 a0_3]) (t:=45) ?_;intro gb193 hg w6 hbox hb;have GE193:=geN HB hg;have BK193:=aa.mk hbox;replace HB:=di HB hb;clear hb hbox hg;obtain ⟨_,_,_,_,_,_,_,_⟩:=cz4 BK193) | (go_at_call 100;(with_reducible refine (dM.calls _ _ _ _ _ _ A2.out).mono ?_);rintro e w' ⟨rfl,⟨nd,rfl⟩⟩))
       go_ret
       exact ⟨dL,bU⟩
     cases H
     go_enter Try.func158,Try.ntmps158
     go_wp2_with (first | ((with_reducible refine bA (N:=1) rfl ?_);refine fe (N:=1) (cs:=#[.int .u16 a0_0,.int .u8 a0_1,.int .u8 a0_2,.int .u32 a0_3]) (t:=45) ?_;intro gb193 hg w8 hbox hb;have GE193:=geN HB hg;have BK193:=aa.mk hbox;replace HB:=di HB hb;clear hb hbox hg;obtain ⟨_,_,_,_,_,_,_,_⟩:=cz4 BK193) | (go_at_call 100;(with_reducible refine (dM.calls _ _ _ _ _ _ A2.out).mono ?_);rintro e w' ⟨rfl,⟨nd,rfl⟩⟩))
     go_ret
     exact ⟨dL,bU⟩
   cases H
   go_enter Try.func158,Try.ntmps158
   go_wp2_with (first | ((with_reducible refine bA (N:=1) rfl ?_);refine fe (N:=1) (cs:=#[.int .u16 a0_0,.int .u8 a0_1,.int .u8 a0_2,.int .u32 a0_3]) (t:=45) ?_;intro gb193 hg w10 hbox hb;have GE193:=geN HB hg;have BK193:=aa.mk hbox;replace HB:=di HB hb;clear hb hbox hg;obtain ⟨_,_,_,_,_,_,_,_⟩:=cz4 BK193) | (go_at_call 100;(with_reducible refine (dM.calls _ _ _ _ _ _ A2.out).mono ?_);rintro e w' ⟨rfl,⟨nd,rfl⟩⟩))
   go_ret
   exact ⟨dL,bU⟩
 cases H
 go_enter Try.func158,Try.ntmps158
 go_wp2_with (first | ((with_reducible refine bA (N:=1) rfl ?_);refine fe (N:=1) (cs:=#[.int .u16 a0_0,.int .u8 a0_1,.int .u8 a0_2,.int .u32 a0_3]) (t:=45) ?_;intro gb193 hg w12 hbox hb;have GE193:=geN HB hg;have BK193:=aa.mk hbox;replace HB:=di HB hb;clear hb hbox hg;obtain ⟨_,_,_,_,_,_,_,_⟩:=cz4 BK193) | (go_at_call 100;(with_reducible refine (dM.calls _ _ _ _ _ _ A2.out).mono ?_);rintro e w' ⟨rfl,⟨nd,rfl⟩⟩))
 go_ret
 exact ⟨dL,bU⟩
def gq.f (k:Nat) (l0_0:List (S45)) (a0_1:Int) (a0_2:Int) (a0_3:Int) (a0_4:Int) (a0_5:Int) (a0_6:Int) (a0_7:Int):Option (Bool):=if a0_1=1 then ((aC.f k a0_2).bind fun t198=>(if t198=6 then ((dP.f k a0_2 a0_3 a0_4 a0_5).bind fun t199=>(if t199=true then (if a0_6=0 then (some (a0_7==0)) else (some false)) else (some false))) else (some false))) else (if a0_1=2 then (if (a0_2==0&&(a0_3==0&&(a0_4==0&&(a0_5==0))))=true then (some (a0_7==0)) else (some false)) else (if a0_1=3 then ((aC.f k a0_2).bind fun t200=>(if t200=5 then (if a0_2=5 then (some false) else ((dP.f k a0_2 a0_3 a0_4 a0_5).bind fun t201=>(some t201))) else (some false))) else (some false)))
theorem gq.calls (k:Nat) (A0_0:Option Addr) (c0_0:Nat) (l0_0:List (S45)) (a0_1:Int) (a0_2:Int) (a0_3:Int) (a0_4:Int) (a0_5:Int) (a0_6:Int) (a0_7:Int) (r:Bool) (w:World) (hr0_0:Kd.C k45 w A0_0 l0_0.length l0_0) (hc0_0:l0_0.length≤c0_0) (h:gq.f k l0_0 a0_1 a0_2 a0_3 a0_4 a0_5 a0_6 a0_7=some r) :
 Calls Try.prog 124 #[.agg #[.slice A0_0 l0_0.length c0_0,.int .i64 a0_1,.int .u16 a0_2,.int .u8 a0_3,.int .u8 a0_4,.int .u32 a0_5,.int .i64 a0_6,.int .i64 a0_7]] w fun e w'=>e = .returned (.bool r)∧Below w.heap.size w w':=by
 have hu47:=Try.underlying47
 have hu45:=Try.underlying45
 have HR0_0:=aa.mk hr0_0
 have HC0_0:=aa.mk hc0_0
 clear hr0_0 hc0_0
 have HB:=aa.mk (Below.refl w.heap.size w)
 have H:(if a0_1=1 then ((aC.f k a0_2).bind fun t198=>(if t198=6 then ((dP.f k a0_2 a0_3 a0_4 a0_5).bind fun t199=>(if t199=true then (if a0_6=0 then (some (a0_7==0)) else (some false)) else (some false))) else (some false))) else (if a0_1=2 then (if (a0_2==0&&(a0_3==0&&(a0_4==0&&(a0_5==0))))=true then (some (a0_7==0)) else (some false)) else (if a0_1=3 then ((aC.f k a0_2).bind fun t200=>(if t200=5 then (if a0_2=5 then (some false) else ((dP.f k a0_2 a0_3 a0_4 a0_5).bind fun t201=>(some t201))) else (some false))) else (some false))))=some r:=h
 clear h
 replace H:=cK H
 obtain ⟨H,-,_,_⟩ | ⟨H,c2,_,_⟩:=H
 · replace H:=bnd H
   obtain ⟨t198,A3,H⟩:=H
   replace H:=cK H
   obtain ⟨H,-,_,_⟩ | ⟨H,c4,_,_⟩:=H
   · replace H:=bnd H
     obtain ⟨t199,A5,H⟩:=H
     replace H:=qR H
     obtain ⟨rfl,H⟩ | ⟨rfl,H⟩:=H
     · replace H:=cK H
       obtain ⟨H,-,_,_⟩ | ⟨H,c7,_,_⟩:=H
       · cases H
         go_enter Try.func124,Try.ntmps124
         go_wp2_with (first | ((with_reducible refine bA (N:=1) rfl ?_);refine fe (N:=1) (cs:=#[.slice A0_0 l0_0.length c0_0,.int .i64 a0_1,.int .u16 a0_2,.int .u8 a0_3,.int .u8 a0_4,.int .u32 a0_5,.int .i64 a0_6,.int .i64 a0_7]) (t:=47) ?_;intro gb197 hg w8 hbox hb;have GE197:=geN HB hg;have BK197:=aa.mk hbox;replace HB:=di HB hb;clear hb hbox hg;obtain ⟨_,_,_,_,_,_,_,_,_,_,_,_,_,_,_,_⟩:=cz8 BK197) | (go_at_call 99;(with_reducible refine (aC.calls _ _ _ _ A3.out).mono ?_);rintro e w' ⟨rfl,⟨nd,rfl⟩⟩) | (go_at_call 158;(with_reducible refine (dP.calls _ _ _ _ _ _ _ A5.out).mono ?_);rintro e w10 ⟨rfl,hb⟩;replace BK197:=nR BK197 hb;replace HB:=di HB hb;obtain ⟨_,_,_,_,_,_,_,_,_,_,_,_,_,_,_,_⟩:=cz8 BK197))
         go_ret
         exact ⟨dL,bU⟩
       cases H
       go_enter Try.func124,Try.ntmps124
       go_wp2_with (first | ((with_reducible refine bA (N:=1) rfl ?_);refine fe (N:=1) (cs:=#[.slice A0_0 l0_0.length c0_0,.int .i64 a0_1,.int .u16 a0_2,.int .u8 a0_3,.int .u8 a0_4,.int .u32 a0_5,.int .i64 a0_6,.int .i64 a0_7]) (t:=47) ?_;intro gb197 hg w12 hbox hb;have GE197:=geN HB hg;have BK197:=aa.mk hbox;replace HB:=di HB hb;clear hb hbox hg;obtain ⟨_,_,_,_,_,_,_,_,_,_,_,_,_,_,_,_⟩:=cz8 BK197) | (go_at_call 99;(with_reducible refine (aC.calls _ _ _ _ A3.out).mono ?_);rintro e w' ⟨rfl,⟨nd,rfl⟩⟩) | (go_at_call 158;(with_reducible refine (dP.calls _ _ _ _ _ _ _ A5.out).mono ?_);rintro e w14 ⟨rfl,hb⟩;replace BK197:=nR BK197 hb;replace HB:=di HB hb;obtain ⟨_,_,_,_,_,_,_,_,_,_,_,_,_,_,_,_⟩:=cz8 BK197))
       go_ret
       exact ⟨dL,bU⟩
     cases H
     go_enter Try.func124,Try.ntmps124
     go_wp2_with (first | ((with_reducible refine bA (N:=1) rfl ?_);refine fe (N:=1) (cs:=#[.slice A0_0 l0_0.length c0_0,.int .i64 a0_1,.int .u16 a0_2,.int .u8 a0_3,.int .u8 a0_4,.int .u32 a0_5,.int .i64 a0_6,.int .i64 a0_7]) (t:=47) ?_;intro gb197 hg w16 hbox hb;have GE197:=geN HB hg;have BK197:=aa.mk hbox;replace HB:=di HB hb;clear hb hbox hg;obtain ⟨_,_,_,_,_,_,_,_,_,_,_,_,_,_,_,_⟩:=cz8 BK197) | (go_at_call 99;(with_reducible refine (aC.calls _ _ _ _ A3.out).mono ?_);rintro e w' ⟨rfl,⟨nd,rfl⟩⟩) | (go_at_call 158;(with_reducible refine (dP.calls _ _ _ _ _ _ _ A5.out).mono ?_);rintro e w18 ⟨rfl,hb⟩;replace BK197:=nR BK197 hb;replace HB:=di HB hb))
     go_ret
     exact ⟨dL,bU⟩
   cases H
   go_enter Try.func124,Try.ntmps124
   go_wp2_with (first | ((with_reducible refine bA (N:=1) rfl ?_);refine fe (N:=1) (cs:=#[.slice A0_0 l0_0.length c0_0,.int .i64 a0_1,.int .u16 a0_2,.int .u8 a0_3,.int .u8 a0_4,.int .u32 a0_5,.int .i64 a0_6,.int .i64 a0_7]) (t:=47) ?_;intro gb197 hg w19 hbox hb;have GE197:=geN HB hg;have BK197:=aa.mk hbox;replace HB:=di HB hb;clear hb hbox hg;obtain ⟨_,_,_,_,_,_,_,_,_,_,_,_,_,_,_,_⟩:=cz8 BK197) | (go_at_call 99;(with_reducible refine (aC.calls _ _ _ _ A3.out).mono ?_);rintro e w' ⟨rfl,⟨nd,rfl⟩⟩))
   go_ret
   exact ⟨dL,bU⟩
 replace H:=cK H
 obtain ⟨H,-,_,_⟩ | ⟨H,c21,_,_⟩:=H
 · replace H:=rY H
   obtain ⟨H,c22⟩ | ⟨H,c22⟩:=H
   · have c22b0:(a0_2==0&&(a0_3==0&&(a0_4==0&&(a0_5==0))))=true:=c22
     (try (have c22b1:decide (a0_2=0&&(a0_3==0&&(a0_4==0&&(a0_5==0))))=true:=by simpa using c22))
     (try (have c22b2:(a0_2==0&&(a0_3==0&&(a0_4==0&&(a0_5==0))))=true:=by simpa using c22))
     clear c22
     cases H
     go_enter Try.func124,Try.ntmps124
     go_wp2_with ((with_reducible refine bA (N:=1) rfl ?_);refine fe (N:=1) (cs:=#[.slice A0_0 l0_0.length c0_0,.int .i64 a0_1,.int .u16 a0_2,.int .u8 a0_3,.int .u8 a0_4,.int .u32 a0_5,.int .i64 a0_6,.int .i64 a0_7]) (t:=47) ?_;intro gb197 hg w23 hbox hb;have GE197:=geN HB hg;have BK197:=aa.mk hbox;replace HB:=di HB hb;clear hb hbox hg;obtain ⟨_,_,_,_,_,_,_,_,_,_,_,_,_,_,_,_⟩:=cz8 BK197)
     go_ret
     exact ⟨dL,bU⟩
   have c22b0:(a0_2==0&&(a0_3==0&&(a0_4==0&&(a0_5==0))))=false:=by simpa using c22
   (try (have c22b1:decide (a0_2=0&&(a0_3==0&&(a0_4==0&&(a0_5==0))))=false:=by simpa using c22))
   (try (have c22b2:(a0_2==0&&(a0_3==0&&(a0_4==0&&(a0_5==0))))=false:=by simpa using c22))
   (try (have c22b3:¬(a0_2=0&&(a0_3==0&&(a0_4==0&&(a0_5==0)))):=by simpa using c22))
   clear c22
   cases H
   go_enter Try.func124,Try.ntmps124
   go_wp2_with ((with_reducible refine bA (N:=1) rfl ?_);refine fe (N:=1) (cs:=#[.slice A0_0 l0_0.length c0_0,.int .i64 a0_1,.int .u16 a0_2,.int .u8 a0_3,.int .u8 a0_4,.int .u32 a0_5,.int .i64 a0_6,.int .i64 a0_7]) (t:=47) ?_;intro gb197 hg w25 hbox hb;have GE197:=geN HB hg;have BK197:=aa.mk hbox;replace HB:=di HB hb;clear hb hbox hg;obtain ⟨_,_,_,_,_,_,_,_,_,_,_,_,_,_,_,_⟩:=cz8 BK197)
   go_ret
   exact ⟨dL,bU⟩
 replace H:=cK H
 obtain ⟨H,-,_,_⟩ | ⟨H,c27,_,_⟩:=H
 · replace H:=bnd H
   obtain ⟨t200,A28,H⟩:=H
   replace H:=cK H
   obtain ⟨H,-,_,_⟩ | ⟨H,c29,_,_⟩:=H
   · replace H:=cK H
     obtain ⟨H,-,_,_⟩ | ⟨H,c30,_,_⟩:=H
     · cases H
       go_enter Try.func124,Try.ntmps124
       go_wp2_with (first | ((with_reducible refine bA (N:=1) rfl ?_);refine fe (N:=1) (cs:=#[.slice A0_0 l0_0.length c0_0,.int .i64 a0_1,.int .u16 a0_2,.int .u8 a0_3,.int .u8 a0_4,.int .u32 a0_5,.int .i64 a0_6,.int .i64 a0_7]) (t:=47) ?_;intro gb197 hg w31 hbox hb;have GE197:=geN HB hg;have BK197:=aa.mk hbox;replace HB:=di HB hb;clear hb hbox hg;obtain ⟨_,_,_,_,_,_,_,_,_,_,_,_,_,_,_,_⟩:=cz8 BK197) | (go_at_call 99;(with_reducible refine (aC.calls _ _ _ _ A28.out).mono ?_);rintro e w' ⟨rfl,⟨nd,rfl⟩⟩))
       go_ret
       exact ⟨dL,bU⟩
     replace H:=bnd H
     obtain ⟨t201,A33,H⟩:=H
     cases H
     go_enter Try.func124,Try.ntmps124
     go_wp2_with (first | ((with_reducible refine bA (N:=1) rfl ?_);refine fe (N:=1) (cs:=#[.slice A0_0 l0_0.length c0_0,.int .i64 a0_1,.int .u16 a0_2,.int .u8 a0_3,.int .u8 a0_4,.int .u32 a0_5,.int .i64 a0_6,.int .i64 a0_7]) (t:=47) ?_;intro gb197 hg w34 hbox hb;have GE197:=geN HB hg;have BK197:=aa.mk hbox;replace HB:=di HB hb;clear hb hbox hg;obtain ⟨_,_,_,_,_,_,_,_,_,_,_,_,_,_,_,_⟩:=cz8 BK197) | (go_at_call 99;(with_reducible refine (aC.calls _ _ _ _ A28.out).mono ?_);rintro e w' ⟨rfl,⟨nd,rfl⟩⟩) | (go_at_call 158;(with_reducible refine (dP.calls _ _ _ _ _ _ _ A33.out).mono ?_);rintro e w36 ⟨rfl,hb⟩;replace BK197:=nR BK197 hb;replace HB:=di HB hb))
     go_ret
     exact ⟨dL,bU⟩
   cases H
   go_enter Try.func124,Try.ntmps124
   go_wp2_with (first | ((with_reducible refine bA (N:=1) rfl ?_);refine fe (N:=1) (cs:=#[.slice A0_0 l0_0.length c0_0,.int .i64 a0_1,.int .u16 a0_2,.int .u8 a0_3,.int .u8 a0_4,.int .u32 a0_5,.int .i64 a0_6,.int .i64 a0_7]) (t:=47) ?_;intro gb197 hg w37 hbox hb;have GE197:=geN HB hg;have BK197:=aa.mk hbox;replace HB:=di HB hb;clear hb hbox hg;obtain ⟨_,_,_,_,_,_,_,_,_,_,_,_,_,_,_,_⟩:=cz8 BK197) | (go_at_call 99;(with_reducible refine (aC.calls _ _ _ _ A28.out).mono ?_);rintro e w' ⟨rfl,⟨nd,rfl⟩⟩))
   go_ret
   exact ⟨dL,bU⟩
 cases H
 go_enter Try.func124,Try.ntmps124
 go_wp2_with ((with_reducible refine bA (N:=1) rfl ?_);refine fe (N:=1) (cs:=#[.slice A0_0 l0_0.length c0_0,.int .i64 a0_1,.int .u16 a0_2,.int .u8 a0_3,.int .u8 a0_4,.int .u32 a0_5,.int .i64 a0_6,.int .i64 a0_7]) (t:=47) ?_;intro gb197 hg w39 hbox hb;have GE197:=geN HB hg;have BK197:=aa.mk hbox;replace HB:=di HB hb;clear hb hbox hg;obtain ⟨_,_,_,_,_,_,_,_,_,_,_,_,_,_,_,_⟩:=cz8 BK197)
 go_ret
 exact ⟨dL,bU⟩
mutual
def bS.l0:Nat→Int→Int→List (S45)→Int→Int→List (S45)→Int→Int→Int→Int→Int→Int→Int→Option (Int)
 | 0,_,_,_,_,_,_,_,_,_,_,_,_,_=>none
 | k+1,x1,x3,x16,x17,x18,x203000,x203001,x203002,x203003,x203004,x203005,x203006,x203007=>if x18<x17 then (if 0≤x18 then (if x18<(x16.length:Int) then ((aM.f k ((bX x16 x18).f0) ((bX x16 x18).f1) ((bX x16 x18).f2) ((bX x16 x18).f3)).bind fun t205=>(if t205=true then (bS.l0 k x1 x3 x16 x17 (wrap64 (x18+1)) x203000 x203001 x203002 x203003 x203004 x203005 x203006 x203007) else (some 152))) else (none)) else (none)) else ((gq.f k x203000 x203001 x203002 x203003 x203004 x203005 x203006 x203007).bind fun t206=>(if t206=true then ((fH.f x203000 x203001 x203002 x203003 x203004 x203005 x203006 x203007).bind fun t207=>(bS.l1 k x1 x3 t207 (t207.length:Int) 0)) else (some 153)))
def bS.l1:Nat→Int→Int→List Int→Int→Int→Option (Int)
 | 0,_,_,_,_,_=>none
 | k+1,x1,x3,x30,x31,x32=>if x32<x31 then (if 0≤x32 then (if x32<(x30.length:Int) then (if (rd x30 x32)≤x1 then (some 154) else (if (rd x30 x32)≥x3 then (some 154) else (bS.l1 k x1 x3 x30 x31 (wrap64 (x32+1))))) else (none)) else (none)) else (some 0)
end
def bS.f (k:Nat) (l0_0:List (S45)) (a0_1:Int) (a0_2:Int) (a0_3:Int) (a0_4:Int) (a0_5:Int) (a0_6:Int) (a0_7:Int) (a1:Int) (a2:Int) (a3:Int):Option (Int):=if a2>4096 then (some 151) else (bS.l0 k a1 a3 l0_0 (l0_0.length:Int) 0 l0_0 a0_1 a0_2 a0_3 a0_4 a0_5 a0_6 a0_7)
theorem bS.calls (k:Nat) (A0_0:Option Addr) (c0_0:Nat) (l0_0:List (S45)) (a0_1:Int) (a0_2:Int) (a0_3:Int) (a0_4:Int) (a0_5:Int) (a0_6:Int) (a0_7:Int) (a1:Int) (a2:Int) (a3:Int) (r:Int) (w:World) (hr0_0:Kd.C k45 w A0_0 l0_0.length l0_0) (hc0_0:l0_0.length≤c0_0) (h:bS.f k l0_0 a0_1 a0_2 a0_3 a0_4 a0_5 a0_6 a0_7 a1 a2 a3=some r) :
 Calls Try.prog 82 #[.agg #[.slice A0_0 l0_0.length c0_0,.int .i64 a0_1,.int .u16 a0_2,.int .u8 a0_3,.int .u8 a0_4,.int .u32 a0_5,.int .i64 a0_6,.int .i64 a0_7],.int .i64 a1,.int .i64 a2,.int .i64 a3] w fun e w'=>e = .returned (.int .i64 r)∧Below w.heap.size w w':=by
 have hu47:=Try.underlying47
 have hu45:=Try.underlying45
 have HR0_0:=aa.mk hr0_0
 have HC0_0:=aa.mk hc0_0
 clear hr0_0 hc0_0
 have HB:=aa.mk (Below.refl w.heap.size w)
 have H:(if a2>4096 then (some 151) else (bS.l0 k a1 a3 l0_0 (l0_0.length:Int) 0 l0_0 a0_1 a0_2 a0_3 a0_4 a0_5 a0_6 a0_7))=some r:=h
 clear h
 replace H:=sp_g H
 obtain ⟨H,-,_⟩ | ⟨H,-,_⟩:=H
 · cases H
   go_enter Try.func82,Try.ntmps82
   go_wp2_with ((with_reducible refine bA (N:=4) rfl ?_);refine fe (N:=4) (cs:=#[.slice A0_0 l0_0.length c0_0,.int .i64 a0_1,.int .u16 a0_2,.int .u8 a0_3,.int .u8 a0_4,.int .u32 a0_5,.int .i64 a0_6,.int .i64 a0_7]) (t:=47) ?_;intro gb202 hg w6 hbox hb;have GE202:=geN HB hg;have BK202:=aa.mk hbox;replace HB:=di HB hb;clear hb hbox hg)
   go_ret
   exact ⟨dL,bU⟩
 replace H:=aa.mk H
 go_enter Try.func82,Try.ntmps82
 go_wp2_with ((with_reducible refine bA (N:=4) rfl ?_);refine fe (N:=4) (cs:=#[.slice A0_0 l0_0.length c0_0,.int .i64 a0_1,.int .u16 a0_2,.int .u8 a0_3,.int .u8 a0_4,.int .u32 a0_5,.int .i64 a0_6,.int .i64 a0_7]) (t:=47) ?_;intro gb202 hg w7 hbox hb;have GE202:=geN HB hg;have BK202:=aa.mk hbox;replace HB:=di HB hb;clear hb hbox hg;obtain ⟨_,_,_,_,_,_,_,_,_,_,_,_,_,_,_,_⟩:=cz8 BK202)
 go_loopg [18] k (fun kq v18 w'=>∃ (x18_1:Int),v18 = .int .i64 x18_1∧aa (bS.l0 kq a1 a3 l0_0 (l0_0.length:Int) x18_1 l0_0 a0_1 a0_2 a0_3 a0_4 a0_5 a0_6 a0_7=some r)∧aa (kq≤k)∧aa (w'.heap[gb202]?=some (.cells #[(.slice A0_0 l0_0.length c0_0),.int .i64 a0_1,.int .u16 a0_2,.int .u8 a0_3,.int .u8 a0_4,.int .u32 a0_5,.int .i64 a0_6,.int .i64 a0_7] 47 (0,0)))∧aa (Below w.heap.size w w'))
 case atStart=>exact ⟨_,bT,H,⟨Nat.le_refl _⟩,⟨kV⟩,⟨bU⟩⟩
 case round=>
  clear H
  obtain ⟨x18_1,rfl,HA,HK1,BK202,HB⟩:=hrel
  cases gk with
  | zero=>exact absurd HA.out (by simp [bS.l0])
  | succ k1=>
   have H:=HA.out
   clear HA
   simp only [bS.l0] at H
   replace H:=kL H
   obtain ⟨H,-,_⟩ | ⟨H,-,_⟩:=H
   · replace H:=kL H
     obtain ⟨H,-,_⟩ | ⟨H,c10,-⟩:=H
     · replace H:=kL H
       obtain ⟨H,-,_⟩ | ⟨H,c11,-⟩:=H
       · replace H:=bnd H
         obtain ⟨t205,A12,H⟩:=H
         replace H:=qR H
         obtain ⟨rfl,H⟩ | ⟨rfl,H⟩:=H
         · replace H:=aa.mk H
           obtain ⟨ad203,rfl,_,_,_,_,_,_⟩:=zP HR0_0 HB x18_1 (by assumption) (by assumption)
           go_wp2_with (first | ((with_reducible refine bA (N:=10) rfl ?_);refine fe (N:=10) (cs:=#[.int .u16 0,.int .u8 0,.int .u8 0,.int .u32 0]) (t:=45) ?_;intro gb204 hg w14 hbox hb;have NB202_204:=nbN BK202 hg;have NB204_202:=nbM BK202 hg;have GE204:=geN HB hg;replace BK202:=nR BK202 hb;have BK204:=aa.mk hbox;replace HB:=di HB hb;clear hb hbox hg;have hnb15:=NB204_202.out;have hnc15:=NB202_204.out;obtain ⟨_,_,_,_,_,_,_,_⟩:=cz4 BK204) | (go_at_call 123;(with_reducible refine (aM.calls _ _ _ _ _ _ _ A12.out).mono ?_);rintro e w17 ⟨rfl,hb⟩;replace BK202:=aa.mk (ak (g:=gb202) (o := .cells #[.slice (some ad203) l0_0.length c0_0,.int .i64 a0_1,.int .u16 a0_2,.int .u8 a0_3,.int .u8 a0_4,.int .u32 a0_5,.int .i64 a0_6,.int .i64 a0_7] 47 (0,0)) (by (with_reducible repeat (first | refine aV ?_ _ | refine aY ?_ | refine aH ?_ _));refine bN ?_ NB202_204.out _;(with_reducible repeat (first | refine aV ?_ _ | refine aY ?_ | refine aH ?_ _));refine bN ?_ NB202_204.out _;(with_reducible repeat (first | refine aV ?_ _ | refine aY ?_ | refine aH ?_ _));refine bN ?_ NB202_204.out _;(with_reducible repeat (first | refine aV ?_ _ | refine aY ?_ | refine aH ?_ _));refine bN ?_ NB202_204.out _;(with_reducible repeat (first | refine aV ?_ _ | refine aY ?_ | refine aH ?_ _));exact BK202.out) hb);replace BK204:=aa.mk (ak (g:=gb204) (o := .cells #[.int .u16 ((bX l0_0 x18_1).f0),.int .u8 ((bX l0_0 x18_1).f1),.int .u8 ((bX l0_0 x18_1).f2),.int .u32 ((bX l0_0 x18_1).f3)] 45 (0,0)) (by (with_reducible repeat (first | refine aV ?_ _ | refine aY ?_ | refine aH ?_ _));refine aI (cs:=#[.int .u16 ((bX l0_0 x18_1).f0),.int .u8 ((bX l0_0 x18_1).f1),.int .u8 ((bX l0_0 x18_1).f2),.int .u32 0]) ?_ 3 _ rfl;(with_reducible repeat (first | refine aV ?_ _ | refine aY ?_ | refine aH ?_ _));refine aI (cs:=#[.int .u16 ((bX l0_0 x18_1).f0),.int .u8 ((bX l0_0 x18_1).f1),.int .u8 0,.int .u32 0]) ?_ 2 _ rfl;(with_reducible repeat (first | refine aV ?_ _ | refine aY ?_ | refine aH ?_ _));refine aI (cs:=#[.int .u16 ((bX l0_0 x18_1).f0),.int .u8 0,.int .u8 0,.int .u32 0]) ?_ 1 _ rfl;(with_reducible repeat (first | refine aV ?_ _ | refine aY ?_ | refine aH ?_ _));refine aI (cs:=#[.int .u16 0,.int .u8 0,.int .u8 0,.int .u32 0]) ?_ 0 _ rfl;(with_reducible repeat (first | refine aV ?_ _ | refine aY ?_ | refine aH ?_ _));exact BK204.out) hb);replace HB:=di HB hb))
           go_roundg k1
           case measure=>have:=HK1.out;omega
           case rel=>exact ⟨_,bT,H,⟨by have:=HK1.out;omega⟩,⟨kV⟩,⟨bU⟩⟩
         cases H
         obtain ⟨ad203,rfl,_,_,_,_,_,_⟩:=zP HR0_0 HB x18_1 (by assumption) (by assumption)
         go_wp2_with (first | ((with_reducible refine bA (N:=10) rfl ?_);refine fe (N:=10) (cs:=#[.int .u16 0,.int .u8 0,.int .u8 0,.int .u32 0]) (t:=45) ?_;intro gb204 hg w18 hbox hb;have NB202_204:=nbN BK202 hg;have NB204_202:=nbM BK202 hg;have GE204:=geN HB hg;replace BK202:=nR BK202 hb;have BK204:=aa.mk hbox;replace HB:=di HB hb;clear hb hbox hg;have hnb19:=NB204_202.out;have hnc19:=NB202_204.out;obtain ⟨_,_,_,_,_,_,_,_⟩:=cz4 BK204) | (go_at_call 123;(with_reducible refine (aM.calls _ _ _ _ _ _ _ A12.out).mono ?_);rintro e w21 ⟨rfl,hb⟩;replace BK202:=aa.mk (ak (g:=gb202) (o := .cells #[.slice (some ad203) l0_0.length c0_0,.int .i64 a0_1,.int .u16 a0_2,.int .u8 a0_3,.int .u8 a0_4,.int .u32 a0_5,.int .i64 a0_6,.int .i64 a0_7] 47 (0,0)) (by (with_reducible repeat (first | refine aV ?_ _ | refine aY ?_ | refine aH ?_ _));refine bN ?_ NB202_204.out _;(with_reducible repeat (first | refine aV ?_ _ | refine aY ?_ | refine aH ?_ _));refine bN ?_ NB202_204.out _;(with_reducible repeat (first | refine aV ?_ _ | refine aY ?_ | refine aH ?_ _));refine bN ?_ NB202_204.out _;(with_reducible repeat (first | refine aV ?_ _ | refine aY ?_ | refine aH ?_ _));refine bN ?_ NB202_204.out _;(with_reducible repeat (first | refine aV ?_ _ | refine aY ?_ | refine aH ?_ _));exact BK202.out) hb);replace BK204:=aa.mk (ak (g:=gb204) (o := .cells #[.int .u16 ((bX l0_0 x18_1).f0),.int .u8 ((bX l0_0 x18_1).f1),.int .u8 ((bX l0_0 x18_1).f2),.int .u32 ((bX l0_0 x18_1).f3)] 45 (0,0)) (by (with_reducible repeat (first | refine aV ?_ _ | refine aY ?_ | refine aH ?_ _));refine aI (cs:=#[.int .u16 ((bX l0_0 x18_1).f0),.int .u8 ((bX l0_0 x18_1).f1),.int .u8 ((bX l0_0 x18_1).f2),.int .u32 0]) ?_ 3 _ rfl;(with_reducible repeat (first | refine aV ?_ _ | refine aY ?_ | refine aH ?_ _));refine aI (cs:=#[.int .u16 ((bX l0_0 x18_1).f0),.int .u8 ((bX l0_0 x18_1).f1),.int .u8 0,.int .u32 0]) ?_ 2 _ rfl;(with_reducible repeat (first | refine aV ?_ _ | refine aY ?_ | refine aH ?_ _));refine aI (cs:=#[.int .u16 ((bX l0_0 x18_1).f0),.int .u8 0,.int .u8 0,.int .u32 0]) ?_ 1 _ rfl;(with_reducible repeat (first | refine aV ?_ _ | refine aY ?_ | refine aH ?_ _));refine aI (cs:=#[.int .u16 0,.int .u8 0,.int .u8 0,.int .u32 0]) ?_ 0 _ rfl;(with_reducible repeat (first | refine aV ?_ _ | refine aY ?_ | refine aH ?_ _));exact BK204.out) hb);replace HB:=di HB hb))
         go_ret
         exact ⟨dL,bU⟩
       exact absurd H (by simp)
     exact absurd H (by simp)
   replace H:=bnd H
   obtain ⟨t206,A22,H⟩:=H
   replace H:=qR H
   obtain ⟨rfl,H⟩ | ⟨rfl,H⟩:=H
   · replace H:=bnd H
     obtain ⟨t207,A24,H⟩:=H
     replace H:=aa.mk H
     obtain ⟨_,_,_,_,_,_,_,_,_,_,_,_,_,_,_,_⟩:=cz8 BK202
     go_wp2_with (first | (go_at_call 124;(with_reducible refine (gq.calls _ _ _ _ _ _ _ _ _ _ _ _ _ (sd1 HR0_0 HB) HC0_0.out A22.out).mono ?_);rintro e w26 ⟨rfl,hb⟩;replace BK202:=nR BK202 hb;replace HB:=di HB hb;obtain ⟨_,_,_,_,_,_,_,_,_,_,_,_,_,_,_,_⟩:=cz8 BK202) | (go_at_call 76;(with_reducible refine (fH.calls _ _ _ _ _ _ _ _ _ _ _ _ (sd1 HR0_0 HB) HC0_0.out A24.out).mono ?_);rintro e w28 ⟨v208,rfl,ho0,hb⟩;have HO209:=aa.mk (Kd.jT ho0 (fA bU));replace BK202:=nR BK202 hb;replace HB:=di HB hb;obtain ⟨Ao29,co29,eo29⟩:=Kd.iU HO209.out;subst eo29))
     go_loopg [32] k1 (fun kq v32 w'=>∃ (x32_2:Int),v32 = .int .i64 x32_2∧aa (bS.l1 kq a1 a3 t207 (t207.length:Int) x32_2=some r)∧aa (kq≤k1)∧aa (Kd.R (Kd.int .i64) 3 w' w.heap.size (fun _=>True) (.slice Ao29 t207.length co29) t207)∧aa (w'.heap[gb202]?=some (.cells #[(.slice A0_0 l0_0.length c0_0),.int .i64 a0_1,.int .u16 a0_2,.int .u8 a0_3,.int .u8 a0_4,.int .u32 a0_5,.int .i64 a0_6,.int .i64 a0_7] 47 (0,0)))∧aa (Below w.heap.size w w'))
     case atStart=>exact ⟨_,bT,H,⟨Nat.le_refl _⟩,⟨by (with_reducible repeat (first | apply Kd.iR | apply Kd.iT | apply Kd.jH));exact HO209.out⟩,⟨kV⟩,⟨bU⟩⟩
     case round=>
      clear H
      obtain ⟨x32_2,rfl,HA,HK2,HO_30,BK202,HB⟩:=hrel
      cases gk with
      | zero=>exact absurd HA.out (by simp [bS.l1])
      | succ k2=>
       have H:=HA.out
       clear HA
       simp only [bS.l1] at H
       replace H:=kL H
       obtain ⟨H,-,_⟩ | ⟨H,-,_⟩:=H
       · replace H:=kL H
         obtain ⟨H,-,_⟩ | ⟨H,c31,-⟩:=H
         · replace H:=kL H
           obtain ⟨H,-,_⟩ | ⟨H,c32,-⟩:=H
           · replace H:=kL H
             obtain ⟨H,-,_⟩ | ⟨H,-,_⟩:=H
             · cases H
               have p210:0≤(x32_2:Int):=of_decide_eq_true (by first | (with_reducible assumption) | assumption)
               have q210:x32_2<(t207.length:Int):=of_decide_eq_true (by first | (with_reducible assumption) | assumption)
               obtain ⟨ad210,e210,hx210_0⟩:=Kd.p9 (Kd.iW HO_30.out).2.2 x32_2 p210 q210
               cases e210
               replace p210:=eq_true p210
               replace q210:=eq_true q210
               go_wp2
               go_ret
               exact ⟨dL,bU⟩
             replace H:=sp_h H
             obtain ⟨H,-,_⟩ | ⟨H,-,_⟩:=H
             · cases H
               have p210:0≤(x32_2:Int):=of_decide_eq_true (by first | (with_reducible assumption) | assumption)
               have q210:x32_2<(t207.length:Int):=of_decide_eq_true (by first | (with_reducible assumption) | assumption)
               obtain ⟨ad210,e210,hx210_0⟩:=Kd.p9 (Kd.iW HO_30.out).2.2 x32_2 p210 q210
               cases e210
               replace p210:=eq_true p210
               replace q210:=eq_true q210
               go_wp2
               go_ret
               exact ⟨dL,bU⟩
             replace H:=aa.mk H
             have p210:0≤(x32_2:Int):=of_decide_eq_true (by first | (with_reducible assumption) | assumption)
             have q210:x32_2<(t207.length:Int):=of_decide_eq_true (by first | (with_reducible assumption) | assumption)
             obtain ⟨ad210,e210,hx210_0⟩:=Kd.p9 (Kd.iW HO_30.out).2.2 x32_2 p210 q210
             cases e210
             replace p210:=eq_true p210
             replace q210:=eq_true q210
             go_wp2
             go_roundg k2
             case measure=>have:=HK1.out;have:=HK2.out;omega
             case rel=>exact ⟨_,bT,H,⟨by have:=HK1.out;have:=HK2.out;omega⟩,⟨by (with_reducible repeat (first | apply Kd.iR | apply Kd.iT | apply Kd.jH));exact HO_30.out⟩,⟨kV⟩,⟨bU⟩⟩
           exact absurd H (by simp)
         exact absurd H (by simp)
       cases H
       go_wp2
       go_ret
       exact ⟨dL,bU⟩
   cases H
   obtain ⟨_,_,_,_,_,_,_,_,_,_,_,_,_,_,_,_⟩:=cz8 BK202
   go_wp2_with (go_at_call 124;(with_reducible refine (gq.calls _ _ _ _ _ _ _ _ _ _ _ _ _ (sd1 HR0_0 HB) HC0_0.out A22.out).mono ?_);rintro e w36 ⟨rfl,hb⟩;replace BK202:=nR BK202 hb;replace HB:=di HB hb)
   go_ret
   exact ⟨dL,bU⟩
def bJ.l0:Nat→List (S47)→Int→List (S47)→Int→Int→Option (Int × Int)
 | 0,_,_,_,_,_=>none
 | k+1,x0,x4,x14,x15,x16=>if x16<x15 then (if 0≤x16 then (if x16<(x14.length:Int) then ((bS.f k ((av x14 x16).f0) ((av x14 x16).f1) ((av x14 x16).f2.f0) ((av x14 x16).f2.f1) ((av x14 x16).f2.f2) ((av x14 x16).f2.f3) ((av x14 x16).f3) ((av x14 x16).f4) x16 (wrap64 (x4+(((av x14 x16).f0).length:Int))) (x0.length:Int)).bind fun t213=>(if t213=0 then (bJ.l0 k x0 (wrap64 (x4+(((av x14 x16).f0).length:Int))) x14 x15 (wrap64 (x16+1))) else (some (x16,t213)))) else (none)) else (none)) else (some (0,0))
def bJ.f (k:Nat) (l0:List (S47)):Option (Int × Int):=if (l0.length:Int)=0 then (some (0,150)) else (if (l0.length:Int)>4096 then (some (4096,151)) else (bJ.l0 k l0 0 l0 (l0.length:Int) 0))
theorem bJ.calls (k:Nat) (A0:Option Addr) (c0:Nat) (l0:List (S47)) (r1:Int) (r2:Int) (w:World) (hr0:Kd.C k47 w A0 l0.length l0) (hc0:l0.length≤c0) (h:bJ.f k l0=some (r1,r2)) :
 Calls Try.prog 52 #[.slice A0 l0.length c0] w fun e w'=>e = .returned (.tuple #[.int .i64 r1,.int .i64 r2])∧Below w.heap.size w w':=by
 have hu47:=Try.underlying47
 have HR0:=aa.mk hr0
 have HC0:=aa.mk hc0
 clear hr0 hc0
 have HB:=aa.mk (Below.refl w.heap.size w)
 have H:(if (l0.length:Int)=0 then (some (0,150)) else (if (l0.length:Int)>4096 then (some (4096,151)) else (bJ.l0 k l0 0 l0 (l0.length:Int) 0)))=some (r1,r2):=h
 clear h
 replace H:=cK H
 obtain ⟨H,-,_,_⟩ | ⟨H,c2,_,_⟩:=H
 · obtain ⟨rfl,rfl⟩:=so2 H
   go_enter Try.func52,Try.ntmps52
   go_wp2
   go_ret2
   exact ⟨dL,bU⟩
 have c2b2:¬(l0=[]):=fun h_=>c2 (by rw [h_];rfl)
 replace H:=sp_g H
 obtain ⟨H,c3,_⟩ | ⟨H,c3,_⟩:=H
 · have c3b1:decide (4096<l0.length)=true:=decide_eq_true (by omega)
   clear c3
   obtain ⟨rfl,rfl⟩:=so2 H
   go_enter Try.func52,Try.ntmps52
   go_wp2
   go_ret2
   exact ⟨dL,bU⟩
 have c3b1:decide (4096<l0.length)=false:=decide_eq_false (by omega)
 clear c3
 replace H:=aa.mk H
 go_enter Try.func52,Try.ntmps52
 go_wp2
 go_loopg [4,16] k (fun kq v4 v16 w'=>∃ (x4_1:Int) (x16_1:Int),v4 = .int .i64 x4_1∧v16 = .int .i64 x16_1∧aa (bJ.l0 kq l0 x4_1 l0 (l0.length:Int) x16_1=some (r1,r2))∧aa (kq≤k)∧aa (Below w.heap.size w w'))
 case atStart=>exact ⟨_,_,bT,bT,H,⟨Nat.le_refl _⟩,⟨bU⟩⟩
 case round=>
  clear H
  obtain ⟨x4_1,x16_1,rfl,rfl,HA,HK1,HB⟩:=hrel
  cases gk with
  | zero=>exact absurd HA.out (by simp [bJ.l0])
  | succ k1=>
   have H:=HA.out
   clear HA
   simp only [bJ.l0] at H
   replace H:=kL H
   obtain ⟨H,-,_⟩ | ⟨H,-,_⟩:=H
   · replace H:=kL H
     obtain ⟨H,-,_⟩ | ⟨H,c5,-⟩:=H
     · replace H:=kL H
       obtain ⟨H,-,_⟩ | ⟨H,c6,-⟩:=H
       · replace H:=bnd H
         obtain ⟨t213,A7,H⟩:=H
         replace H:=cK H
         obtain ⟨H,-,_,_⟩ | ⟨H,c8,_,_⟩:=H
         · replace H:=aa.mk H
           obtain ⟨ad211,rfl⟩:=rQ HR0 x16_1 (by assumption) (by assumption)
           obtain ⟨A211_0,c211_0,_,_,_,_,_,_,_,_,HR211_0,HC211_0,_,_⟩:=zQ HR0 HB x16_1 (by assumption) (by assumption)
           go_wp2_with (first | ((with_reducible refine bA (N:=6) rfl ?_);refine fe (N:=6) (cs:=#[.slice none 0 0,.int .i64 0,.int .u16 0,.int .u8 0,.int .u8 0,.int .u32 0,.int .i64 0,.int .i64 0]) (t:=47) ?_;intro gb212 hg w9 hbox hb;have GE212:=geN HB hg;have BK212:=aa.mk hbox;replace HB:=di HB hb;clear hb hbox hg;obtain ⟨_,_,_,_,_,_,_,_,_,_,_,_,_,_,_,_⟩:=cz8 BK212) | (go_at_call 82;(with_reducible refine (bS.calls _ _ _ _ _ _ _ _ _ _ _ _ _ _ _ _ ?side1 HC211_0.out A7.out).mono ?_);(case side1=>exact Kd.bY HR211_0.out bU);rintro e w11 ⟨rfl,hb⟩;replace BK212:=aa.mk (ak (g:=gb212) (o := .cells #[.slice A211_0 ((av l0 x16_1).f0).length c211_0,.int .i64 ((av l0 x16_1).f1),.int .u16 ((av l0 x16_1).f2.f0),.int .u8 ((av l0 x16_1).f2.f1),.int .u8 ((av l0 x16_1).f2.f2),.int .u32 ((av l0 x16_1).f2.f3),.int .i64 ((av l0 x16_1).f3),.int .i64 ((av l0 x16_1).f4)] 47 (0,0)) (by (with_reducible repeat (first | refine aV ?_ _ | refine aY ?_ | refine aH ?_ _));refine aI (cs:=#[.slice A211_0 ((av l0 x16_1).f0).length c211_0,.int .i64 ((av l0 x16_1).f1),.int .u16 ((av l0 x16_1).f2.f0),.int .u8 ((av l0 x16_1).f2.f1),.int .u8 ((av l0 x16_1).f2.f2),.int .u32 ((av l0 x16_1).f2.f3),.int .i64 ((av l0 x16_1).f3),.int .i64 0]) ?_ 7 _ rfl;(with_reducible repeat (first | refine aV ?_ _ | refine aY ?_ | refine aH ?_ _));refine aI (cs:=#[.slice A211_0 ((av l0 x16_1).f0).length c211_0,.int .i64 ((av l0 x16_1).f1),.int .u16 ((av l0 x16_1).f2.f0),.int .u8 ((av l0 x16_1).f2.f1),.int .u8 ((av l0 x16_1).f2.f2),.int .u32 ((av l0 x16_1).f2.f3),.int .i64 0,.int .i64 0]) ?_ 6 _ rfl;(with_reducible repeat (first | refine aV ?_ _ | refine aY ?_ | refine aH ?_ _));refine aI (cs:=#[.slice A211_0 ((av l0 x16_1).f0).length c211_0,.int .i64 ((av l0 x16_1).f1),.int .u16 ((av l0 x16_1).f2.f0),.int .u8 ((av l0 x16_1).f2.f1),.int .u8 ((av l0 x16_1).f2.f2),.int .u32 0,.int .i64 0,.int .i64 0]) ?_ 5 _ rfl;(with_reducible repeat (first | refine aV ?_ _ | refine aY ?_ | refine aH ?_ _));refine aI (cs:=#[.slice A211_0 ((av l0 x16_1).f0).length c211_0,.int .i64 ((av l0 x16_1).f1),.int .u16 ((av l0 x16_1).f2.f0),.int .u8 ((av l0 x16_1).f2.f1),.int .u8 0,.int .u32 0,.int .i64 0,.int .i64 0]) ?_ 4 _ rfl;(with_reducible repeat (first | refine aV ?_ _ | refine aY ?_ | refine aH ?_ _));refine aI (cs:=#[.slice A211_0 ((av l0 x16_1).f0).length c211_0,.int .i64 ((av l0 x16_1).f1),.int .u16 ((av l0 x16_1).f2.f0),.int .u8 0,.int .u8 0,.int .u32 0,.int .i64 0,.int .i64 0]) ?_ 3 _ rfl;(with_reducible repeat (first | refine aV ?_ _ | refine aY ?_ | refine aH ?_ _));refine aI (cs:=#[.slice A211_0 ((av l0 x16_1).f0).length c211_0,.int .i64 ((av l0 x16_1).f1),.int .u16 0,.int .u8 0,.int .u8 0,.int .u32 0,.int .i64 0,.int .i64 0]) ?_ 2 _ rfl;(with_reducible repeat (first | refine aV ?_ _ | refine aY ?_ | refine aH ?_ _));refine aI (cs:=#[.slice A211_0 ((av l0 x16_1).f0).length c211_0,.int .i64 0,.int .u16 0,.int .u8 0,.int .u8 0,.int .u32 0,.int .i64 0,.int .i64 0]) ?_ 1 _ rfl;(with_reducible repeat (first | refine aV ?_ _ | refine aY ?_ | refine aH ?_ _));refine aI (cs:=#[.slice none 0 0,.int .i64 0,.int .u16 0,.int .u8 0,.int .u8 0,.int .u32 0,.int .i64 0,.int .i64 0]) ?_ 0 _ rfl;(with_reducible repeat (first | refine aV ?_ _ | refine aY ?_ | refine aH ?_ _));exact BK212.out) hb);replace HB:=di HB hb))
           go_roundg k1
           case measure=>have:=HK1.out;omega
           case rel=>exact ⟨_,_,bT,bT,H,⟨by have:=HK1.out;omega⟩,⟨bU⟩⟩
         obtain ⟨rfl,rfl⟩:=so2 H
         obtain ⟨ad211,rfl⟩:=rQ HR0 x16_1 (by assumption) (by assumption)
         obtain ⟨A211_0,c211_0,_,_,_,_,_,_,_,_,HR211_0,HC211_0,_,_⟩:=zQ HR0 HB x16_1 (by assumption) (by assumption)
         go_wp2_with (first | ((with_reducible refine bA (N:=6) rfl ?_);refine fe (N:=6) (cs:=#[.slice none 0 0,.int .i64 0,.int .u16 0,.int .u8 0,.int .u8 0,.int .u32 0,.int .i64 0,.int .i64 0]) (t:=47) ?_;intro gb212 hg w12 hbox hb;have GE212:=geN HB hg;have BK212:=aa.mk hbox;replace HB:=di HB hb;clear hb hbox hg;obtain ⟨_,_,_,_,_,_,_,_,_,_,_,_,_,_,_,_⟩:=cz8 BK212) | (go_at_call 82;(with_reducible refine (bS.calls _ _ _ _ _ _ _ _ _ _ _ _ _ _ _ _ ?side1 HC211_0.out A7.out).mono ?_);(case side1=>exact Kd.bY HR211_0.out bU);rintro e w14 ⟨rfl,hb⟩;replace BK212:=aa.mk (ak (g:=gb212) (o := .cells #[.slice A211_0 ((av l0 x16_1).f0).length c211_0,.int .i64 ((av l0 x16_1).f1),.int .u16 ((av l0 x16_1).f2.f0),.int .u8 ((av l0 x16_1).f2.f1),.int .u8 ((av l0 x16_1).f2.f2),.int .u32 ((av l0 x16_1).f2.f3),.int .i64 ((av l0 x16_1).f3),.int .i64 ((av l0 x16_1).f4)] 47 (0,0)) (by (with_reducible repeat (first | refine aV ?_ _ | refine aY ?_ | refine aH ?_ _));refine aI (cs:=#[.slice A211_0 ((av l0 x16_1).f0).length c211_0,.int .i64 ((av l0 x16_1).f1),.int .u16 ((av l0 x16_1).f2.f0),.int .u8 ((av l0 x16_1).f2.f1),.int .u8 ((av l0 x16_1).f2.f2),.int .u32 ((av l0 x16_1).f2.f3),.int .i64 ((av l0 x16_1).f3),.int .i64 0]) ?_ 7 _ rfl;(with_reducible repeat (first | refine aV ?_ _ | refine aY ?_ | refine aH ?_ _));refine aI (cs:=#[.slice A211_0 ((av l0 x16_1).f0).length c211_0,.int .i64 ((av l0 x16_1).f1),.int .u16 ((av l0 x16_1).f2.f0),.int .u8 ((av l0 x16_1).f2.f1),.int .u8 ((av l0 x16_1).f2.f2),.int .u32 ((av l0 x16_1).f2.f3),.int .i64 0,.int .i64 0]) ?_ 6 _ rfl;(with_reducible repeat (first | refine aV ?_ _ | refine aY ?_ | refine aH ?_ _));refine aI (cs:=#[.slice A211_0 ((av l0 x16_1).f0).length c211_0,.int .i64 ((av l0 x16_1).f1),.int .u16 ((av l0 x16_1).f2.f0),.int .u8 ((av l0 x16_1).f2.f1),.int .u8 ((av l0 x16_1).f2.f2),.int .u32 0,.int .i64 0,.int .i64 0]) ?_ 5 _ rfl;(with_reducible repeat (first | refine aV ?_ _ | refine aY ?_ | refine aH ?_ _));refine aI (cs:=#[.slice A211_0 ((av l0 x16_1).f0).length c211_0,.int .i64 ((av l0 x16_1).f1),.int .u16 ((av l0 x16_1).f2.f0),.int .u8 ((av l0 x16_1).f2.f1),.int .u8 0,.int .u32 0,.int .i64 0,.int .i64 0]) ?_ 4 _ rfl;(with_reducible repeat (first | refine aV ?_ _ | refine aY ?_ | refine aH ?_ _));refine aI (cs:=#[.slice A211_0 ((av l0 x16_1).f0).length c211_0,.int .i64 ((av l0 x16_1).f1),.int .u16 ((av l0 x16_1).f2.f0),.int .u8 0,.int .u8 0,.int .u32 0,.int .i64 0,.int .i64 0]) ?_ 3 _ rfl;(with_reducible repeat (first | refine aV ?_ _ | refine aY ?_ | refine aH ?_ _));refine aI (cs:=#[.slice A211_0 ((av l0 x16_1).f0).length c211_0,.int .i64 ((av l0 x16_1).f1),.int .u16 0,.int .u8 0,.int .u8 0,.int .u32 0,.int .i64 0,.int .i64 0]) ?_ 2 _ rfl;(with_reducible repeat (first | refine aV ?_ _ | refine aY ?_ | refine aH ?_ _));refine aI (cs:=#[.slice A211_0 ((av l0 x16_1).f0).length c211_0,.int .i64 0,.int .u16 0,.int .u8 0,.int .u8 0,.int .u32 0,.int .i64 0,.int .i64 0]) ?_ 1 _ rfl;(with_reducible repeat (first | refine aV ?_ _ | refine aY ?_ | refine aH ?_ _));refine aI (cs:=#[.slice none 0 0,.int .i64 0,.int .u16 0,.int .u8 0,.int .u8 0,.int .u32 0,.int .i64 0,.int .i64 0]) ?_ 0 _ rfl;(with_reducible repeat (first | refine aV ?_ _ | refine aY ?_ | refine aH ?_ _));exact BK212.out) hb);replace HB:=di HB hb))
         go_ret2
         exact ⟨dL,bU⟩
       exact absurd H (by simp)
     exact absurd H (by simp)
   obtain ⟨rfl,rfl⟩:=so2 H
   go_wp2
   go_ret2
   exact ⟨dL,bU⟩
end Go.Proofs.Ytdkalnkplgfgoaa.PA
