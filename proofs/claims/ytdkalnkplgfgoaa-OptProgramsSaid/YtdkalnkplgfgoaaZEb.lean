/- Lemmas and walks for the statements of the texts ZEZ..: the declarations that they need, taken together by a program of this session. Conditions: as each says. -/
import Derived.Maps.OwnSet
import Derived.Maps.Views
import Derived.Below
import Derived.Deep.RegionHeld3
import Derived.BigRegion
import Derived.Test.YtdkalnkplgfgoaaZEa
set_option maxHeartbeats 8000000
set_option maxRecDepth 100000
set_option linter.unusedVariables false
set_option linter.unusedSimpArgs false
namespace Go.Proofs.Ytdkalnkplgfgoaa.PA
open Go.RowKit Go.Proofs.YtdkalnkplgfgoaaW.PrintWords Go.Proofs.YtdkalnkplgfgoaaW.PrintLast Go.Proofs.YtdkalnkplgfgoaaW.PrintMore
theorem bv {w W:World} (h:Below w.heap.size w W:=by repeat (first | (with_reducible first | exact aa.out (by assumption) | apply ai | apply aA | apply ak | refine dz ?_ (aa.out (by assumption))) | exact aa.out (by assumption))):Below w.heap.size w W:=h
theorem cK {w W0 W W2:World} (_:aa (Below w.heap.size w W0)) (hb:Below W.heap.size W W2) (h:Below w.heap.size w W:=by exact bv):aa (Below w.heap.size w W2):=⟨av h hb⟩
theorem geN {w W0 W:World} {g:Nat} (_:aa (Below w.heap.size w W0)) (hg:g=W.heap.size) (h:Below w.heap.size w W:=by exact bv):aa (w.heap.size≤g):=⟨hg ▸ gF h⟩
theorem iU {W:World} {g:Nat} {o:Obj} (h:W.heap[g]?=some o:=by (with_reducible repeat (first | refine bg ?_ _ | refine bz ?_ | refine aT ?_ _));exact aa.out (by assumption)):W.heap[g]?=some o:=h
theorem lW {W0 W W2:World} {g:Nat} {o:Obj} (_:aa (W0.heap[g]?=some o)) (hb:Below W.heap.size W W2) (h:W.heap[g]?=some o:=by exact iU):aa (W2.heap[g]?=some o):=⟨aj h hb⟩
theorem nbN {W0 W:World} {g g':Nat} {o:Obj} (_:aa (W0.heap[g]?=some o)) (hg:g'=W.heap.size) (h:W.heap[g]?=some o:=by exact iU):aa (g≠g'):=⟨hg ▸ Nat.ne_of_lt (ax h)⟩
theorem nbM {W0 W:World} {g g':Nat} {o:Obj} (_:aa (W0.heap[g]?=some o)) (hg:g'=W.heap.size) (h:W.heap[g]?=some o:=by exact iU):aa (g'≠g):=⟨hg ▸ Nat.ne_of_gt (ax h)⟩
theorem dm {α:Sort _} {a b:α} (h:a=b:=by first | rfl | (simp [iQ,iR]<;>rfl) | (simp [*,iQ,iR]<;>rfl)):a=b:=h
theorem aY {α:Sort _} {a b:α} (h:a=b:=by first | rfl | (simp;done) | (simp [*];done)):a=b:=h
theorem bC {w W:World} (h:bZ w W:=by repeat (first | exact bZ.refl _ | apply bZ.step)):bZ w W:=h
theorem le0 {a b:Nat} (h:a≤b:=by first | omega | exact Nat.le_refl _):a≤b:=h
theorem sd1 {σ:Type} {K:Kd σ} {w W0 W:World} {A:Option Addr} {n:Nat} {l:List σ} (HR:aa (Kd.C K w A n l)) (_:aa (Below w.heap.size w W0)) (h:Below w.heap.size w W:=by exact bv):Kd.C K W A n l:=Kd.dI HR.out h
theorem dS {P:Program} {ops:Array Oper} {Q:Exit→Act→World→Prop} {o:Oper} {rest:List Oper} {a:Act} {W:World} {N:Tmp} {cs:Array Value} {t:TypeId}
    (h:∀ g,g=W.heap.size→∀ w1,w1.heap[g]?=some (.cells cs t (0,0))→Below W.heap.size W w1→wpList P ops Q rest (a.put o.dst (.pointer (some ⟨g,0,none⟩))) w1)
    (hgd:o.guard=none:=by rfl) (hd:o.dst=some N:=by rfl)
    (hrun:(execOp a.eval o).run P W = .ok (.value (.pointer (some ⟨W.heap.size,0,none⟩))) (W.alloc (.cells cs t (0,0))):=by first | (go_simp;done) | (go_simp;rfl)):wpList P ops Q (o :: rest) a W:=wY hgd hd hrun h
theorem mZ {α:Sort _} {c:Prop} [Decidable c] {x y r:α} (h:(if c then x else y)=r):(x=r∧c)∨(y=r∧¬c):=by
  by_cases hc:c
  · rw [if_pos hc] at h;exact .inl ⟨h,hc⟩
  · rw [if_neg hc] at h;exact .inr ⟨h,hc⟩
theorem fo {α:Sort _} {c:Prop} [Decidable c] {x y r:α} (h:(if c then x else y)=r):(x=r∧c∧decide c=true)∨(y=r∧¬c∧decide c=false):=by
  rcases mZ h with ⟨h,hc⟩ | ⟨h,hc⟩
  · exact .inl ⟨h,hc,decide_eq_true hc⟩
  · exact .inr ⟨h,hc,decide_eq_false hc⟩
theorem qD {α:Sort _} {a b:Int} {x y r:α} (h:(if a>b then x else y)=r):(x=r∧b<a∧decide (b<a)=true)∨(y=r∧¬b<a∧decide (b<a)=false):=fo h
theorem sM {α:Sort _} {a b:Int} {x y r:α} (h:(if a≥b then x else y)=r):(x=r∧b≤a∧decide (b≤a)=true)∨(y=r∧¬b≤a∧decide (b≤a)=false):=fo h
theorem bN {α:Sort _} {a b:Int} {x y r:α} (h:(if a=b then x else y)=r):(x=r∧a=b∧(a==b)=true∧(a != b)=false)∨(y=r∧¬a=b∧(a==b)=false∧(a != b)=true):=by
  rcases mZ h with ⟨h,hc⟩ | ⟨h,hc⟩
  · exact .inl ⟨h,hc,beq_iff_eq.mpr hc,bne_eq_false_iff_eq.mpr hc⟩
  · exact .inr ⟨h,hc,beq_eq_false_iff_ne.mpr hc,bne_iff_ne.mpr hc⟩
theorem iY {α:Sort _} {t:Bool} {x y r:α} (h:(if t=true then x else y)=r):(t=true∧x=r)∨(t=false∧y=r):=by
  cases t
  · exact .inr ⟨rfl,h⟩
  · exact .inl ⟨rfl,h⟩
theorem bnd {α β:Type _} {x:Option α} {f:α→Option β} {r:β} (h:(x.bind f)=some r):∃ t,aa (x=some t)∧f t=some r:=by
  obtain ⟨t,a,b⟩:=Option.bind_eq_some_iff.mp h
  exact ⟨t,⟨a⟩,b⟩
theorem so2 {α β:Type _} {a c:α} {b d:β} (h:some (a,b)=some (c,d)):a=c∧b=d:=by
  cases h;exact ⟨rfl,rfl⟩
theorem so3 {α β γ:Type _} {a c:α} {b d:β} {x y:γ} (h:some (a,b,x)=some (c,d,y)):a=c∧b=d∧x=y:=by
  cases h;exact ⟨rfl,rfl,rfl⟩
theorem cz4 {w:World} {g:Nat} {t:TypeId} {a b c d:Value} (h:aa (w.heap[g]?=some (.cells #[a,b,c,d] t (0,0)))):w.cell? ⟨g,0,none⟩=some a∧w.cell? ⟨g,1,none⟩=some b∧w.cell? ⟨g,2,none⟩=some c∧w.cell? ⟨g,3,none⟩=some d∧w.frozen? ⟨g,0,none⟩=false∧w.frozen? ⟨g,1,none⟩=false∧w.frozen? ⟨g,2,none⟩=false∧w.frozen? ⟨g,3,none⟩=false:=
  ⟨(ae h.out 0).trans rfl,(ae h.out 1).trans rfl,(ae h.out 2).trans rfl,(ae h.out 3).trans rfl,af h.out 0,af h.out 1,af h.out 2,af h.out 3⟩
theorem cz8 {w:World} {g:Nat} {t:TypeId} {a b c d e f i j:Value} (h:aa (w.heap[g]?=some (.cells #[a,b,c,d,e,f,i,j] t (0,0)))):w.cell? ⟨g,0,none⟩=some a∧w.cell? ⟨g,1,none⟩=some b∧w.cell? ⟨g,2,none⟩=some c∧w.cell? ⟨g,3,none⟩=some d∧w.cell? ⟨g,4,none⟩=some e∧w.cell? ⟨g,5,none⟩=some f∧w.cell? ⟨g,6,none⟩=some i∧w.cell? ⟨g,7,none⟩=some j∧w.frozen? ⟨g,0,none⟩=false∧w.frozen? ⟨g,1,none⟩=false∧w.frozen? ⟨g,2,none⟩=false∧w.frozen? ⟨g,3,none⟩=false∧w.frozen? ⟨g,4,none⟩=false∧w.frozen? ⟨g,5,none⟩=false∧w.frozen? ⟨g,6,none⟩=false∧w.frozen? ⟨g,7,none⟩=false:=
  ⟨(ae h.out 0).trans rfl,(ae h.out 1).trans rfl,(ae h.out 2).trans rfl,(ae h.out 3).trans rfl,(ae h.out 4).trans rfl,(ae h.out 5).trans rfl,(ae h.out 6).trans rfl,(ae h.out 7).trans rfl,af h.out 0,af h.out 1,af h.out 2,af h.out 3,af h.out 4,af h.out 5,af h.out 6,af h.out 7⟩
theorem gP {w W:World} {ad:Addr} {n:Nat} {xs:List S45} (h:aa (Kd.C k45 w (some ad) n xs)) (HB:aa (Below w.heap.size w W)) (i:Int) (p:decide (0≤i)=true) (q:decide (i<n)=true):W.cell? (ad.add (i.toNat*4))=some (.int .u16 (aV xs i).f0)∧W.cell? ⟨(ad.add (i.toNat*4)).block,(ad.add (i.toNat*4)).off+1,none⟩=some (.int .u8 (aV xs i).f1)∧W.cell? ⟨(ad.add (i.toNat*4)).block,(ad.add (i.toNat*4)).off+2,none⟩=some (.int .u8 (aV xs i).f2)∧W.cell? ⟨(ad.add (i.toNat*4)).block,(ad.add (i.toNat*4)).off+3,none⟩=some (.int .u32 (aV xs i).f3)∧(0≤i)=True∧(i<n)=True:=by
  obtain ⟨ad,e,h0,h1,h2,h3⟩:=ul h.out i (of_decide_eq_true p) (of_decide_eq_true q)
  cases e
  have mv:∀ {a:Addr} {v:Value},w.cell? a=some v→W.cell? a=some v:=fun h=>(HB.out.cell (World.block_lt_of_cell? w _ h)).trans h
  exact ⟨mv h0,mv h1,mv h2,mv h3,eq_true (of_decide_eq_true p),eq_true (of_decide_eq_true q)⟩
theorem gV {w W:World} {A:Option Addr} {n:Nat} {xs:List S45} (h:aa (Kd.C k45 w A n xs)) (HB:aa (Below w.heap.size w W)) (i:Int) (p:decide (0≤i)=true) (q:decide (i<n)=true):∃ ad,A=some ad∧W.cell? (ad.add (i.toNat*4))=some (.int .u16 (aV xs i).f0)∧W.cell? ⟨(ad.add (i.toNat*4)).block,(ad.add (i.toNat*4)).off+1,none⟩=some (.int .u8 (aV xs i).f1)∧W.cell? ⟨(ad.add (i.toNat*4)).block,(ad.add (i.toNat*4)).off+2,none⟩=some (.int .u8 (aV xs i).f2)∧W.cell? ⟨(ad.add (i.toNat*4)).block,(ad.add (i.toNat*4)).off+3,none⟩=some (.int .u32 (aV xs i).f3)∧(0≤i)=True∧(i<n)=True:=by
  obtain ⟨ad,e,_⟩:=ul h.out i (of_decide_eq_true p) (of_decide_eq_true q)
  cases e
  exact ⟨ad,rfl,gP h HB i p q⟩
theorem fe {w W:World} {ad:Addr} {n:Nat} {xs:List S47} (h:aa (Kd.C k47 w (some ad) n xs)) (HB:aa (Below w.heap.size w W)) (i:Int) (p:decide (0≤i)=true) (q:decide (i<n)=true):∃ A0 c0,W.cell? (ad.add (i.toNat*8))=some (.slice A0 (ah xs i).f0.length c0)∧W.cell? ⟨(ad.add (i.toNat*8)).block,(ad.add (i.toNat*8)).off+1,none⟩=some (.int .i64 (ah xs i).f1)∧W.cell? ⟨(ad.add (i.toNat*8)).block,(ad.add (i.toNat*8)).off+2,none⟩=some (.int .u16 (ah xs i).f2.f0)∧W.cell? ⟨(ad.add (i.toNat*8)).block,(ad.add (i.toNat*8)).off+3,none⟩=some (.int .u8 (ah xs i).f2.f1)∧W.cell? ⟨(ad.add (i.toNat*8)).block,(ad.add (i.toNat*8)).off+4,none⟩=some (.int .u8 (ah xs i).f2.f2)∧W.cell? ⟨(ad.add (i.toNat*8)).block,(ad.add (i.toNat*8)).off+5,none⟩=some (.int .u32 (ah xs i).f2.f3)∧W.cell? ⟨(ad.add (i.toNat*8)).block,(ad.add (i.toNat*8)).off+6,none⟩=some (.int .i64 (ah xs i).f3)∧W.cell? ⟨(ad.add (i.toNat*8)).block,(ad.add (i.toNat*8)).off+7,none⟩=some (.int .i64 (ah xs i).f4)∧aa (k45.C w A0 (ah xs i).f0.length (ah xs i).f0)∧aa ((ah xs i).f0.length≤c0)∧(0≤i)=True∧(i<n)=True:=by
  obtain ⟨ad,A0,c0,e,h0,h1,h2,h3,h4,h5,h6,h7,hl,hi⟩:=o8 h.out i (of_decide_eq_true p) (of_decide_eq_true q)
  cases e
  have mv:∀ {a:Addr} {v:Value},w.cell? a=some v→W.cell? a=some v:=fun h=>(HB.out.cell (World.block_lt_of_cell? w _ h)).trans h
  exact ⟨A0,c0,mv h0,mv h1,mv h2,mv h3,mv h4,mv h5,mv h6,mv h7,⟨hi⟩,⟨hl⟩,eq_true (of_decide_eq_true p),eq_true (of_decide_eq_true q)⟩
theorem iK {w:World} {A:Option Addr} {n:Nat} {xs:List S47} (h:aa (Kd.C k47 w A n xs)) (i:Int) (p:decide (0≤i)=true) (q:decide (i<n)=true):∃ ad,A=some ad:=by
  obtain ⟨ad,_,_,e,_⟩:=o8 h.out i (of_decide_eq_true p) (of_decide_eq_true q)
  exact ⟨ad,e⟩
section
variable {P:Program} {ops:Array Oper} {Q:Exit→Act→World→Prop} {S:World→Prop} {ds:List Nat} {md:Region.Mode}
theorem eD {id:Nat} {a:Act} {w:World} (n:Nat) (S:World→Prop) (ds:List Nat) (hS:S w.drew) (h:S w.drew→bR P .any ops Q S ds n (Array.replicate n false) a w.drew) (hm:P.follows .mixedOrders=true:=by kernel_rfl) (hn:ops.size=n:=by exact rfl):(Code.region id ops true).wp P Q a w:=start_ _ hm hn rfl hS h
theorem aH (i N:Nat) {oi:Oper} {v:Value} {fuel:Nat} {l:Array Bool} {a:Act} {w:World} {a':Act} (h:bR P md ops Q S ds fuel (l.setIfInBounds i true) a' w) (hi:ops[i]?=some oi:=by exact rfl) (hN:oi.dst=some N:=by exact rfl) (hc:anyB md ops l (l.setIfInBounds i true) i=true:=by kernel_rfl)
    (hQ:∀ c a w,Q (.panic c) (a.put oi.dst v) w→Q (.panic c) a w:=by exact fun _ _ _ h=>h) (hy:Yields P ops oi v a:=by refine Or.inl ⟨by rfl,?_⟩;intro w';go_simp;with_reducible rfl) (ha:a.put (some N) v=a':=by simp only [Act.put,List.setIfInBounds_toArray,List.set_cons_zero,List.set_cons_succ,dD,dE];rfl):bR P md ops Q S ds (fuel+1) l a w:=ko _ hi hN hc hQ hy ha h
theorem dC (i N:Nat) {oi:Oper} {v:Value} {fuel:Nat} {l:Array Bool} {a:Act} {w:World} {a':Act} (hS:S w) (h:bR P md ops Q S ds fuel (l.setIfInBounds i true) a' w) (hi:ops[i]?=some oi:=by exact rfl) (hN:oi.dst=some N:=by exact rfl) (hc:takeB md ops ds l (l.setIfInBounds i true) i=true:=by kernel_rfl)
    (hQ:∀ c a w,Q (.panic c) (a.put oi.dst v) w→Q (.panic c) a w:=by exact fun _ _ _ h=>h) (hy:YieldsIf P ops S oi v a:=by refine Or.inl ⟨by rfl,?_⟩;intro w' hs;repeat (obtain ⟨_,hs⟩:=hs);go_simp;with_reducible rfl) (ha:a.put (some N) v=a':=by simp only [Act.put,List.setIfInBounds_toArray,List.set_cons_zero,List.set_cons_succ,dD,dE];rfl):bR P md ops Q S ds (fuel+1) l a w:=Cn _ hi hN hc hQ hy hS ha h
theorem iG (i:Nat) (N:Option Tmp) {oi:Oper} {fuel:Nat} {l:Array Bool} {a:Act} {w:World} (h:∀ K:Act→World→Prop,Shut (∀ a' w',S w'→(S w'→bR P md ops Q S ds fuel (l.setIfInBounds i true) a' w')→K a' w')→if Region.wanted oi (yielded ops a.tmps)=true then Oper.wp P oi a w K Q else K (a.put N undef) w)
    (hi:ops[i]?=some oi:=by exact rfl) (hN:oi.dst=N:=by exact rfl) (hc:nO md ops l (l.setIfInBounds i true) i=true:=by kernel_rfl) (hd:i ∉ ds:=by decide):bR P md ops Q S ds (fuel+1) l a w:=one_ _ hi hN hc hd h
theorem fM (i:Nat) (N:Option Tmp) {oi:Oper} {fuel:Nat} {l:Array Bool} {a:Act} {w:World} (h:∀ K:Act→World→Prop,Shut (∀ a' w',bR P md ops Q S ds fuel (l.setIfInBounds i true) a' w'→K a' w')→if Region.wanted oi (yielded ops a.tmps)=true then Oper.wp P oi a w K Q else K (a.put N undef) w)
    (hi:ops[i]?=some oi:=by exact rfl) (hN:oi.dst=N:=by exact rfl) (hc:nO md ops l (l.setIfInBounds i true) i=true:=by kernel_rfl) (hd:i∈ds:=by decide):bR P md ops Q S ds (fuel+1) l a w:=last_ _ hi hN hc hd h
theorem eZ (T:Nat) {fuel:Nat} {l:Array Bool} {a a':Act} {v:Value} {w:World} (h:bR P md ops Q S ds fuel l a' w) (ha:a.put (some T) v=a':=by simp only [Act.put,List.setIfInBounds_toArray,List.set_cons_zero,List.set_cons_succ,dD,dE];rfl):bR P md ops Q S ds fuel l (a.put (some T) v) w:=norm_ ha h
theorem gX {oi:Oper} {N:Option Tmp} {a:Act} {w:World} {K:Act→World→Prop} {f:FuncId} {fn:Func} {as_:Array Operand} {ts:Array TypeId} (hf:P.funcs[f]?=some fn) (args:Array Value) (h:Calls P f args w fun e w'=>∃ v,e = .returned v∧K (a.put N v) w')
    (hname:(fn.name == "runtime.NumGoroutine")=false:=by kernel_rfl) (hb:fn.body.isSome=true:=by exact rfl) (hw:Region.wanted oi (yielded ops a.tmps)=true:=by rfl) (hN:oi.dst=N:=by exact rfl) (hop:oi.op = .call {callee := .value (.func f),args:=as_,argTypes:=ts}:=by exact rfl) (hargs:as_.map a.eval=args:=by simp only [List.map_toArray,List.map_cons,List.map_nil];rfl) :
    if Region.wanted oi (yielded ops a.tmps)=true then Oper.wp P oi a w K Q else K (a.put N undef) w:=goes_ hf hname hb args hw hN hop hargs h
theorem ik {oi:Oper} {a:Act} {w w1:World} {K:Act→World→Prop} (h:K a w1) (hw:Region.wanted oi (yielded ops a.tmps)=true:=by rfl) (hN:oi.dst=none:=by exact rfl) (hrun:(execOp a.eval oi).run P w = .ok .skip w1:=by go_simp;rfl):if Region.wanted oi (yielded ops a.tmps)=true then Oper.wp P oi a w K Q else K (a.put none undef) w:=skip_ hw hN hrun h
end
theorem iy {B:Nat} {W V:World} (h:Below B W V:=by repeat (first | (with_reducible exact Below.refl _ _) | apply aA | apply ak)):Below B W V:=h
theorem mr {w V:World} (h:Below w.heap.size w V:=by repeat (first | (with_reducible exact Below.refl _ _) | apply aA | apply ak | apply ai)):Below w.heap.size w V:=h
abbrev SJ (gi:Nat) (j:S45) (V:World):Prop:=V.cell? ⟨gi,0,none⟩=some (.int .u16 j.f0)∧V.cell? ⟨gi,1,none⟩=some (.int .u8 j.f1)∧V.cell? ⟨gi,2,none⟩=some (.int .u8 j.f2)∧V.cell? ⟨gi,3,none⟩=some (.int .u32 j.f3)∧V.cell? ⟨gi+1,0,none⟩=some (.int .u16 0)∧V.cell? ⟨gi+1,1,none⟩=some (.int .u8 0)∧V.cell? ⟨gi+1,2,none⟩=some (.int .u8 0)∧V.cell? ⟨gi+1,3,none⟩=some (.int .u32 0)∧V.frozen? ⟨gi+1,0,none⟩=false∧V.frozen? ⟨gi+1,1,none⟩=false∧V.frozen? ⟨gi+1,2,none⟩=false∧V.frozen? ⟨gi+1,3,none⟩=false
theorem nU {gi:Nat} {j:S45} {V:World} (hi:V.heap[gi]?=some (.cells #[.int .u16 j.f0,.int .u8 j.f1,.int .u8 j.f2,.int .u32 j.f3] 45 (0,0))) (hr:V.heap[gi+1]?=some (.cells #[.int .u16 0,.int .u8 0,.int .u8 0,.int .u32 0] 45 (0,0))) (V' V'':World) (h1:Below V.heap.size V V') (h2:Below V'.heap.size V' V''):SJ gi j V'':=by
  obtain ⟨p0,p1,p2,p3,-,-,-,-⟩:=cz4 ⟨aj (aj hi h1) h2⟩
  obtain ⟨z0,z1,z2,z3,t0,t1,t2,t3⟩:=cz4 ⟨aj (aj hr h1) h2⟩
  exact ⟨p0,p1,p2,p3,z0,z1,z2,z3,t0,t1,t2,t3⟩
theorem ab0 {a:Addr} {b g:Nat} (hn:b≠g) (h:a.block=b:=by first | exact add_block _ _ | rfl | (show (Addr.add _ _).block=_;exact add_block _ _)):a.block≠g:=h ▸ hn
theorem dA {w:World} {g:Nat} {t:TypeId} {cs:Array Value} (h:w.heap[g]?=some (.cells cs t (0,0))) (i:Nat) {v:Value} (e:cs[i]?=some v:=by exact rfl):w.cell? ⟨g,i,none⟩=some v:=(ae h i).trans e
end Go.Proofs.Ytdkalnkplgfgoaa.PA
namespace Go.Proofs.Ytdkalnkplgfgoaa.Ln
open Go.RowKit Go.Proofs.YtdkalnkplgfgoaaW.PrintWords Go.Proofs.YtdkalnkplgfgoaaW.PrintLast Go.Proofs.YtdkalnkplgfgoaaW.PrintMore
theorem p9 {B g:Nat} (W:World) (h:B≤g) (vs:List Value):Below B W (W.setCells g 0 vs):=
 let s:=jl g vs 0 W
 ⟨s.1,s.2.1,s.2.2.1,Nat.le_of_eq s.2.2.2.symm,fun i hi=>iX vs 0 i (by omega)⟩
section
variable {P:Program} {ops:Array Oper} {rest:List Oper} {o o2:Oper} {a:Act} {Q:Exit→Act→World→Prop} {W:World}
theorem xW {t:TypeId} {g:Nat} {cs cs':Array Value} {T:TypeId} (hb:W.heap[g]?=some (.cells cs T (0,0))) {u:Value} (hu:u.cells=cs') (hsz:cs'.size=cs.size) (ht:(P.info? t).map (·.size)=some cs.size) (h1:∀ q∈cs'.toList,q.oneCell'=true) :
 ∃ w1,(Instr.storeAt t (.pointer (some ⟨g,0,none⟩)) u).run P W = .ok () w1∧w1.heap[g]?=some (.cells cs' T (0,0))∧(∀ k,k≠g→w1.heap[k]?=W.heap[k]?)∧Below g W w1:=by
 have hl:cs'.toList.length=cs.size:=by rw [Array.length_toList,hsz]
 have hst:=qA (P:=P) (o:=0) t u cs'.toList hb (by rw [hu]) (by rw [ht,hl]) (by rw [hl];omega) h1
 obtain ⟨cur',h3,h4,h5⟩:=kJ cs'.toList 0 W cs hb (by rw [hl];omega)
 have he:cur'=cs':=by
  apply Array.ext'
  rw [h5,List.take_zero,List.nil_append,Nat.zero_add,hl,List.drop_eq_nil_of_le (by rw [Array.length_toList];exact Nat.le_refl _),List.append_nil]
 rw [he] at h3
 exact ⟨_,hst,h3,fun k hk=>iX _ 0 k hk,p9 W (Nat.le_refl _) _⟩
theorem jy (hgd:o.guard=none) (hN:o.dst=none) {t:TypeId} {p x:Operand} (ho:o.op = .store t p x) {g:Nat} {cs cs':Array Value} {T:TypeId} (haddr:a.eval p = .pointer (some ⟨g,0,none⟩))
 (hb:W.heap[g]?=some (.cells cs T (0,0))) {u:Value} (hx:a.eval x=u) (hu:u.cells=cs') (hsz:cs'.size=cs.size) (ht:(P.info? t).map (·.size)=some cs.size) (h1:∀ q∈cs'.toList,q.oneCell'=true)
 (h:∀ w1,w1.heap[g]?=some (.cells cs' T (0,0))→(∀ k,k≠g→w1.heap[k]?=W.heap[k]?)→Below g W w1→wpList P ops Q rest a w1):wpList P ops Q (o :: rest) a W:=by
 obtain ⟨w1,hrun,r1,r2,r3⟩:=xW (P:=P) (t:=t) hb hu hsz ht h1
 refine wpList_plain hgd fun K hK=>?_
 unfold Oper.wp execOp
 simp only [ho,haddr,hx,Sem.run_bind,Sem.run_pure,Result.andThen_ok,hrun]
 show K (a.put o.dst undef) _
 rw [hN]
 exact hK a _ (h _ r1 r2 r3)
end
open Go.Maps Go.Proofs.Ytdkalnkplgfgoaa.PA
structure Kp (S:Nat→Prop) (w w1:World):Prop where
 os:w1.os=w.os
 tape:w1.tape=w.tape
 output:w1.output=w.output
 size:w.heap.size≤w1.heap.size
 block:∀ k,k<w.heap.size→¬S k→w1.heap[k]?=w.heap[k]?
theorem Kp.refl (S:Nat→Prop) (w:World):Kp S w w:=⟨rfl,rfl,rfl,Nat.le_refl _,fun _ _ _=>rfl⟩
theorem Kp.trans {S:Nat→Prop} {w w1 w2:World} (h:Kp S w w1) (k:Kp S w1 w2):Kp S w w2:=
 ⟨k.os.trans h.os,k.tape.trans h.tape,k.output.trans h.output,Nat.le_trans h.size k.size,fun i hi hS=>(k.block i (Nat.lt_of_lt_of_le hi h.size) hS).trans (h.block i hi hS)⟩
theorem Kp.below {S:Nat→Prop} {w w1 w2:World} (h:Kp S w w1) (k:Below w1.heap.size w1 w2):Kp S w w2:=
 ⟨k.os.trans h.os,k.tape.trans h.tape,k.output.trans h.output,Nat.le_trans h.size k.size,fun i hi hS=>(k.block i (Nat.lt_of_lt_of_le hi h.size)).trans (h.block i hi hS)⟩
theorem Kp.grown {S:Nat→Prop} {w w1 w2:World} {r:Option Nat} (h:Kp S w w1) (k:w1.grownBy w2 r) (hr:∀ b,r=some b→S b∨w.heap.size≤b):Kp S w w2:=
 ⟨k.os.trans h.os,k.tape.trans h.tape,k.output.trans h.output,Nat.le_trans h.size k.size,fun i hi hS=>(k.block i (Nat.lt_of_lt_of_le hi h.size) (fun e=>by rcases hr i e.symm with h1 | h1;exact hS h1;omega)).trans (h.block i hi hS)⟩
theorem Kp.set {S:Nat→Prop} {w w1:World} {g:Nat} (h:Kp S w w1) (hg:S g∨w.heap.size≤g) (j:Nat) (u:Value):Kp S w (w1.setCell ⟨g,j,none⟩ u):=by
 have b:=(Below.refl g w1).setCell (Nat.le_refl g) (p:=⟨g,j,none⟩) u
 refine ⟨b.os.trans h.os,b.tape.trans h.tape,b.output.trans h.output,Nat.le_trans h.size b.size,fun i hi hS=>?_⟩
 have hne:i≠g:=fun e=>by subst e;rcases hg with h1 | h1;exact hS h1;omega
 exact (Below.heap_setCell w1 ⟨g,j,none⟩ u i hne).trans (h.block i hi hS)
theorem Kp.iO {S:Nat→Prop} {w0 w w1:World} {B:Nat} (hb:Below B w0 w) (h:Kp S w w1) (hB:B≤w.heap.size) (hS:∀ k,S k→B≤k):Below B w0 w1:=
 ⟨h.os.trans hb.os,h.tape.trans hb.tape,h.output.trans hb.output,Nat.le_trans hb.size h.size,fun i hi=>(h.block i (by omega) (fun s=>by have:=hS i s;omega)).trans (hb.block i hi)⟩
theorem R_kp {α:Type} {d:Kd α} {e:Nat} {w wr:World} {base:Nat} {v:Value} {xs:List α} {S:Nat→Prop} (h:d.R e w base (fun _=>True) v xs)
 (hS:∀ k,S k→(∃ cs t fr,w.heap[k]?=some (.cells cs t fr)∧∀ q,q∈e :: d.E→q≠t)∨(∃ es c,w.heap[k]?=some (.map es c))) (kp:Kp S w wr):d.R e wr base (fun _=>True) v xs:=by
 refine Kd.ig (Kd.rq (Kd.ig (ok':=fun k=>¬S k) (Kd.jG h) ?_) (fun k hok hlt=>kp.block k hlt hok)) (fun _ _=>trivial)
 rintro k ⟨_,_,_,q,hq,cells,hc⟩ hs
 rcases hS k hs with ⟨cs,t,fr,h1,h2⟩ | ⟨es,c,h1⟩
 · rw [hc] at h1
   injection h1 with h1
   injection h1 with _ h1
   exact h2 q hq h1
 rw [hc] at h1
 cases h1
theorem forget {P:Program} {code:Code} {Q:Exit→Act→World→Prop} {a:Act} {W:World} (F:World→Prop) (h:F W) (k:∀ W',F W'→code.wp P Q a W'):code.wp P Q a W:=k W h
end Go.Proofs.Ytdkalnkplgfgoaa.Ln
namespace Go.Proofs.Ytdkalnkplgfgoaa.PA
open Go.RowKit Go.Proofs.YtdkalnkplgfgoaaW.PrintWords Go.Proofs.YtdkalnkplgfgoaaW.PrintLast Go.Proofs.YtdkalnkplgfgoaaW.PrintMore
attribute [local go_sem] dZ ek fF fG dQ dR d9 eu
def aK.f (a0:Int):Option (Bool):=if a0=21 then (some true) else (if a0=29 then (some true) else (if a0=37 then (some true) else (if a0=45 then (some true) else (if a0=53 then (some true) else (if a0=61 then (some true) else (if a0=69 then (some true) else (if a0=77 then (some true) else (some false))))))))
theorem aK.calls (a0:Int) (r:Bool) (w:World) (h:aK.f a0=some r) :
 Calls Try.prog 50 #[.int .u16 a0] w fun e w'=>e = .returned (.bool r)∧bZ w w':=by
 have H:(if a0=21 then (some true) else (if a0=29 then (some true) else (if a0=37 then (some true) else (if a0=45 then (some true) else (if a0=53 then (some true) else (if a0=61 then (some true) else (if a0=69 then (some true) else (if a0=77 then (some true) else (some false)))))))))=some r:=h
 clear h
 iterate 2
  replace H:=bN H
  obtain ⟨H,-,_,_⟩ | ⟨H,c2,_,_⟩:=H
  · cases H
    go_enter Try.func50,Try.ntmps50
    go_wp2
    go_ret
    exact ⟨aY,bC⟩
 iterate 2
  replace H:=bN H
  obtain ⟨H,-,_,_⟩ | ⟨H,c4,_,_⟩:=H
  · cases H
    go_enter Try.func50,Try.ntmps50
    go_wp2
    go_ret
    exact ⟨aY,bC⟩
 iterate 2
  replace H:=bN H
  obtain ⟨H,-,_,_⟩ | ⟨H,c6,_,_⟩:=H
  · cases H
    go_enter Try.func50,Try.ntmps50
    go_wp2
    go_ret
    exact ⟨aY,bC⟩
 iterate 2
  replace H:=bN H
  obtain ⟨H,-,_,_⟩ | ⟨H,c8,_,_⟩:=H
  · cases H
    go_enter Try.func50,Try.ntmps50
    go_wp2
    go_ret
    exact ⟨aY,bC⟩
 cases H
 go_enter Try.func50,Try.ntmps50
 go_wp2
 go_ret
 exact ⟨aY,bC⟩
def az.j0:Nat→Int→Bool→Option (Bool)
 | 0,_,_=>none
 | k+1,x3,x4=>if x4=true then (some true) else (if x3=100 then (some true) else (if x3=108 then (some true) else (if x3=116 then (some true) else (if x3=124 then (some true) else (if x3=148 then (some true) else (if x3=156 then (some true) else (if x3=164 then (some true) else (if x3=172 then (some true) else (some false)))))))))
def az.f (k:Nat) (a0:Int):Option (Bool):=if a0=4 then (az.j0 k a0 (a0==4)) else (if a0=12 then (az.j0 k a0 (a0==12)) else (if a0=20 then (az.j0 k a0 (a0==20)) else (if a0=28 then (az.j0 k a0 (a0==28)) else (if a0=36 then (az.j0 k a0 (a0==36)) else (if a0=44 then (az.j0 k a0 (a0==44)) else (if a0=52 then (az.j0 k a0 (a0==52)) else (if a0=60 then (az.j0 k a0 (a0==60)) else (if a0=68 then (az.j0 k a0 (a0==68)) else (if a0=76 then (az.j0 k a0 (a0==76)) else (if a0=84 then (az.j0 k a0 (a0==84)) else (az.j0 k a0 (a0==92))))))))))))
theorem az.calls (k:Nat) (a0:Int) (r:Bool) (w:World) (h:az.f k a0=some r) :
 Calls Try.prog 92 #[.int .u16 a0] w fun e w'=>e = .returned (.bool r)∧bZ w w':=by
 have H:(if a0=4 then (az.j0 k a0 (a0==4)) else (if a0=12 then (az.j0 k a0 (a0==12)) else (if a0=20 then (az.j0 k a0 (a0==20)) else (if a0=28 then (az.j0 k a0 (a0==28)) else (if a0=36 then (az.j0 k a0 (a0==36)) else (if a0=44 then (az.j0 k a0 (a0==44)) else (if a0=52 then (az.j0 k a0 (a0==52)) else (if a0=60 then (az.j0 k a0 (a0==60)) else (if a0=68 then (az.j0 k a0 (a0==68)) else (if a0=76 then (az.j0 k a0 (a0==76)) else (if a0=84 then (az.j0 k a0 (a0==84)) else (az.j0 k a0 (a0==92)))))))))))))=some r:=h
 clear h
 have HC2:=aa.mk H
 clear H
 go_enter Try.func92,Try.ntmps92
 go_upto_if 4 with (fail)
 go_cut [4] (fun v4 wc=>∃ (kq:Nat) (x4_1:Bool),v4 = .bool x4_1∧aa (az.j0 kq a0 x4_1=some r)∧aa (kq≤k)∧bZ w wc)
 case first=>
  have H:=HC2.out
  clear HC2
  replace H:=bN H
  obtain ⟨H,-,c3b0,_⟩ | ⟨H,c3,c3b0,_⟩:=H
  · (first | rw [c3b0] | (simp only [dD,dE];rw [c3b0]) | skip)
    replace H:=aa.mk H
    go_wp2
    go_meet
    case rel=>exact ⟨_,_,aY,H,⟨le0⟩,bC⟩
  (first | rw [c3b0] | (simp only [dD,dE];rw [c3b0]) | skip)
  iterate 2
   replace H:=bN H
   obtain ⟨H,-,_,_⟩ | ⟨H,c4,_,_⟩:=H
   · replace H:=aa.mk H
     go_wp2
     go_meet
     case rel=>exact ⟨_,_,aY,H,⟨le0⟩,bC⟩
  iterate 2
   replace H:=bN H
   obtain ⟨H,-,_,_⟩ | ⟨H,c6,_,_⟩:=H
   · replace H:=aa.mk H
     go_wp2
     go_meet
     case rel=>exact ⟨_,_,aY,H,⟨le0⟩,bC⟩
  iterate 2
   replace H:=bN H
   obtain ⟨H,-,_,_⟩ | ⟨H,c8,_,_⟩:=H
   · replace H:=aa.mk H
     go_wp2
     go_meet
     case rel=>exact ⟨_,_,aY,H,⟨le0⟩,bC⟩
  iterate 2
   replace H:=bN H
   obtain ⟨H,-,_,_⟩ | ⟨H,c10,_,_⟩:=H
   · replace H:=aa.mk H
     go_wp2
     go_meet
     case rel=>exact ⟨_,_,aY,H,⟨le0⟩,bC⟩
  iterate 2
   replace H:=bN H
   obtain ⟨H,-,_,_⟩ | ⟨H,c12,_,_⟩:=H
   · replace H:=aa.mk H
     go_wp2
     go_meet
     case rel=>exact ⟨_,_,aY,H,⟨le0⟩,bC⟩
  replace H:=aa.mk H
  go_wp2
  go_meet
  case rel=>exact ⟨_,_,aY,H,⟨le0⟩,bC⟩
 case rest=>
  clear HC2
  obtain ⟨kq,x4_1,rfl,HA,HJ1,⟨mc1,rfl⟩⟩:=hcut
  cases kq with
  | zero=>exact absurd HA.out (by simp [az.j0])
  | succ kj1=>
   have H:=HA.out
   clear HA
   simp only [az.j0] at H
   by_cases c14:x4_1=true
   · subst c14
     have H1:(some true)=some r:=by rw [if_pos rfl] at H;exact H
     clear H
     have H:=H1
     clear H1
     cases H
     go_wp2
     go_ret
     exact ⟨aY,bC⟩
   replace c14:=Bool.eq_false_iff.mpr c14
   subst c14
   have H1:(if a0=100 then (some true) else (if a0=108 then (some true) else (if a0=116 then (some true) else (if a0=124 then (some true) else (if a0=148 then (some true) else (if a0=156 then (some true) else (if a0=164 then (some true) else (if a0=172 then (some true) else (some false)))))))))=some r:=by rw [if_neg (show ¬(false=true) by decide)] at H;exact H
   clear H
   have H:=H1
   clear H1
   iterate 2
    replace H:=bN H
    obtain ⟨H,-,_,_⟩ | ⟨H,c15,_,_⟩:=H
    · cases H
      go_wp2
      go_ret
      exact ⟨aY,bC⟩
   iterate 2
    replace H:=bN H
    obtain ⟨H,-,_,_⟩ | ⟨H,c17,_,_⟩:=H
    · cases H
      go_wp2
      go_ret
      exact ⟨aY,bC⟩
   iterate 2
    replace H:=bN H
    obtain ⟨H,-,_,_⟩ | ⟨H,c19,_,_⟩:=H
    · cases H
      go_wp2
      go_ret
      exact ⟨aY,bC⟩
   iterate 2
    replace H:=bN H
    obtain ⟨H,-,_,_⟩ | ⟨H,c21,_,_⟩:=H
    · cases H
      go_wp2
      go_ret
      exact ⟨aY,bC⟩
   cases H
   go_wp2
   go_ret
   exact ⟨aY,bC⟩
attribute [local go_sem] dZ ek fF fG dQ dR d9 eu
mutual
def ay.j0:Nat→Int→Int→Bool→Option (Bool)
 | 0,_,_,_=>none
 | k+1,x0,x3,x4=>if x4=true then (some true) else (if x3=1 then (ay.j1 k x0 (x3==1)) else (if x3=97 then (ay.j1 k x0 (x3==97)) else (if x3=129 then (ay.j1 k x0 (x3==129)) else (if x3=177 then (ay.j1 k x0 (x3==177)) else (if x3=2 then (ay.j1 k x0 (x3==2)) else (if x3=3 then (ay.j1 k x0 (x3==3)) else (if x3=132 then (ay.j1 k x0 (x3==132)) else (if x3=6 then (ay.j1 k x0 (x3==6)) else (if x3=22 then (ay.j1 k x0 (x3==22)) else (if x3=7 then (ay.j1 k x0 (x3==7)) else (if x3=135 then (ay.j1 k x0 (x3==135)) else (ay.j1 k x0 (x3==5)))))))))))))
def ay.j1:Nat→Int→Bool→Option (Bool)
 | 0,_,_=>none
 | k+1,x0,x14=>if x14=true then (some true) else ((aK.f x0).bind fun t103=>(if t103=true then (some true) else ((az.f k x0).bind fun t104=>(some t104))))
end
def ay.f (k:Nat) (a0:Int):Option (Bool):=if a0=0 then (ay.j0 k a0 a0 (a0==0)) else (if a0=32 then (ay.j0 k a0 a0 (a0==32)) else (if a0=40 then (ay.j0 k a0 a0 (a0==40)) else (if a0=48 then (ay.j0 k a0 a0 (a0==48)) else (if a0=64 then (ay.j0 k a0 a0 (a0==64)) else (if a0=72 then (ay.j0 k a0 a0 (a0==72)) else (if a0=80 then (ay.j0 k a0 a0 (a0==80)) else (if a0=96 then (ay.j0 k a0 a0 (a0==96)) else (ay.j0 k a0 a0 (a0==128)))))))))
theorem ay.calls (k:Nat) (a0:Int) (r:Bool) (w:World) (h:ay.f k a0=some r) :
 Calls Try.prog 81 #[.int .u16 a0] w fun e w'=>e = .returned (.bool r)∧bZ w w':=by
 have H:(if a0=0 then (ay.j0 k a0 a0 (a0==0)) else (if a0=32 then (ay.j0 k a0 a0 (a0==32)) else (if a0=40 then (ay.j0 k a0 a0 (a0==40)) else (if a0=48 then (ay.j0 k a0 a0 (a0==48)) else (if a0=64 then (ay.j0 k a0 a0 (a0==64)) else (if a0=72 then (ay.j0 k a0 a0 (a0==72)) else (if a0=80 then (ay.j0 k a0 a0 (a0==80)) else (if a0=96 then (ay.j0 k a0 a0 (a0==96)) else (ay.j0 k a0 a0 (a0==128))))))))))=some r:=h
 clear h
 have HC2:=aa.mk H
 clear H
 go_enter Try.func81,Try.ntmps81
 go_upto_if 4 with (fail)
 go_cut [4] (fun v4 wc=>∃ (kq:Nat) (x4_1:Bool),v4 = .bool x4_1∧aa (ay.j0 kq a0 a0 x4_1=some r)∧aa (kq≤k)∧bZ w wc)
 case first=>
  have H:=HC2.out
  clear HC2
  replace H:=bN H
  obtain ⟨H,-,c3b0,_⟩ | ⟨H,c3,c3b0,_⟩:=H
  · (first | rw [c3b0] | (simp only [dD,dE];rw [c3b0]) | skip)
    replace H:=aa.mk H
    go_wp2
    go_meet
    case rel=>exact ⟨_,_,aY,H,⟨le0⟩,bC⟩
  (first | rw [c3b0] | (simp only [dD,dE];rw [c3b0]) | skip)
  replace H:=bN H
  obtain ⟨H,-,_,_⟩ | ⟨H,c4,_,_⟩:=H
  · replace H:=aa.mk H
    go_wp2
    go_meet
    case rel=>exact ⟨_,_,aY,H,⟨le0⟩,bC⟩
  iterate 2
   replace H:=bN H
   obtain ⟨H,-,_,_⟩ | ⟨H,c5,_,_⟩:=H
   · replace H:=aa.mk H
     go_wp2
     go_meet
     case rel=>exact ⟨_,_,aY,H,⟨le0⟩,bC⟩
  iterate 2
   replace H:=bN H
   obtain ⟨H,-,_,_⟩ | ⟨H,c7,_,_⟩:=H
   · replace H:=aa.mk H
     go_wp2
     go_meet
     case rel=>exact ⟨_,_,aY,H,⟨le0⟩,bC⟩
  iterate 2
   replace H:=bN H
   obtain ⟨H,-,_,_⟩ | ⟨H,c9,_,_⟩:=H
   · replace H:=aa.mk H
     go_wp2
     go_meet
     case rel=>exact ⟨_,_,aY,H,⟨le0⟩,bC⟩
  replace H:=aa.mk H
  go_wp2
  go_meet
  case rel=>exact ⟨_,_,aY,H,⟨le0⟩,bC⟩
 case rest=>
  clear HC2
  obtain ⟨kq,x4_1,rfl,HA,HJ1,⟨mc1,rfl⟩⟩:=hcut
  cases kq with
  | zero=>exact absurd HA.out (by simp [ay.j0])
  | succ kj1=>
   have H:=HA.out
   clear HA
   simp only [ay.j0] at H
   by_cases c11:x4_1=true
   · subst c11
     have H1:(some true)=some r:=by rw [if_pos rfl] at H;exact H
     clear H
     have H:=H1
     clear H1
     cases H
     go_wp2
     go_ret
     exact ⟨aY,bC⟩
   replace c11:=Bool.eq_false_iff.mpr c11
   subst c11
   have H1:(if a0=1 then (ay.j1 kj1 a0 (a0==1)) else (if a0=97 then (ay.j1 kj1 a0 (a0==97)) else (if a0=129 then (ay.j1 kj1 a0 (a0==129)) else (if a0=177 then (ay.j1 kj1 a0 (a0==177)) else (if a0=2 then (ay.j1 kj1 a0 (a0==2)) else (if a0=3 then (ay.j1 kj1 a0 (a0==3)) else (if a0=132 then (ay.j1 kj1 a0 (a0==132)) else (if a0=6 then (ay.j1 kj1 a0 (a0==6)) else (if a0=22 then (ay.j1 kj1 a0 (a0==22)) else (if a0=7 then (ay.j1 kj1 a0 (a0==7)) else (if a0=135 then (ay.j1 kj1 a0 (a0==135)) else (ay.j1 kj1 a0 (a0==5)))))))))))))=some r:=by rw [if_neg (show ¬(false=true) by decide)] at H;exact H
   clear H
   have H:=H1
   clear H1
   have HC12:=aa.mk H
   clear H
   go_upto_if 14 with (fail)
   go_cut [14] (fun v14 wc=>∃ (kq:Nat) (x14_11:Bool),v14 = .bool x14_11∧aa (ay.j1 kq a0 x14_11=some r)∧aa (kq≤kj1)∧bZ w wc)
   case first=>
    have H:=HC12.out
    clear HC12
    replace H:=bN H
    obtain ⟨H,-,c13b0,_⟩ | ⟨H,c13,c13b0,_⟩:=H
    · (first | rw [c13b0] | (simp only [dD,dE];rw [c13b0]) | skip)
      replace H:=aa.mk H
      go_wp2
      go_meet
      case rel=>exact ⟨_,_,aY,H,⟨by have:=HJ1.out;first | omega | exact Nat.le_refl _⟩,bC⟩
    (first | rw [c13b0] | (simp only [dD,dE];rw [c13b0]) | skip)
    iterate 2
     replace H:=bN H
     obtain ⟨H,-,_,_⟩ | ⟨H,c14,_,_⟩:=H
     · replace H:=aa.mk H
       go_wp2
       go_meet
       case rel=>exact ⟨_,_,aY,H,⟨by have:=HJ1.out;first | omega | exact Nat.le_refl _⟩,bC⟩
    iterate 2
     replace H:=bN H
     obtain ⟨H,-,_,_⟩ | ⟨H,c16,_,_⟩:=H
     · replace H:=aa.mk H
       go_wp2
       go_meet
       case rel=>exact ⟨_,_,aY,H,⟨by have:=HJ1.out;first | omega | exact Nat.le_refl _⟩,bC⟩
    iterate 2
     replace H:=bN H
     obtain ⟨H,-,_,_⟩ | ⟨H,c18,_,_⟩:=H
     · replace H:=aa.mk H
       go_wp2
       go_meet
       case rel=>exact ⟨_,_,aY,H,⟨by have:=HJ1.out;first | omega | exact Nat.le_refl _⟩,bC⟩
    iterate 2
     replace H:=bN H
     obtain ⟨H,-,_,_⟩ | ⟨H,c20,_,_⟩:=H
     · replace H:=aa.mk H
       go_wp2
       go_meet
       case rel=>exact ⟨_,_,aY,H,⟨by have:=HJ1.out;first | omega | exact Nat.le_refl _⟩,bC⟩
    iterate 2
     replace H:=bN H
     obtain ⟨H,-,_,_⟩ | ⟨H,c22,_,_⟩:=H
     · replace H:=aa.mk H
       go_wp2
       go_meet
       case rel=>exact ⟨_,_,aY,H,⟨by have:=HJ1.out;first | omega | exact Nat.le_refl _⟩,bC⟩
    replace H:=aa.mk H
    go_wp2
    go_meet
    case rel=>exact ⟨_,_,aY,H,⟨by have:=HJ1.out;first | omega | exact Nat.le_refl _⟩,bC⟩
   case rest=>
    clear HC12
    obtain ⟨kq,x14_11,rfl,HA,HJ11,⟨mc11,rfl⟩⟩:=hcut
    cases kq with
    | zero=>exact absurd HA.out (by simp [ay.j1])
    | succ kj11=>
     have H:=HA.out
     clear HA
     simp only [ay.j1] at H
     by_cases c24:x14_11=true
     · subst c24
       have H1:(some true)=some r:=by rw [if_pos rfl] at H;exact H
       clear H
       have H:=H1
       clear H1
       cases H
       go_wp2
       go_ret
       exact ⟨aY,bC⟩
     replace c24:=Bool.eq_false_iff.mpr c24
     subst c24
     have H1:((aK.f a0).bind fun t103=>(if t103=true then (some true) else ((az.f kj11 a0).bind fun t104=>(some t104))))=some r:=by rw [if_neg (show ¬(false=true) by decide)] at H;exact H
     clear H
     have H:=H1
     clear H1
     replace H:=bnd H
     obtain ⟨t103,A25,H⟩:=H
     replace H:=iY H
     obtain ⟨rfl,H⟩ | ⟨rfl,H⟩:=H
     · cases H
       go_wp2_with (go_at_call 50;(with_reducible refine (aK.calls _ _ _ A25.out).mono ?_);rintro e w' ⟨rfl,⟨nd,rfl⟩⟩)
       go_ret
       exact ⟨aY,bC⟩
     replace H:=bnd H
     obtain ⟨t104,A27,H⟩:=H
     cases H
     go_wp2_with (first | (go_at_call 50;(with_reducible refine (aK.calls _ _ _ A25.out).mono ?_);rintro e w' ⟨rfl,⟨nd,rfl⟩⟩) | (go_at_call 92;(with_reducible refine (az.calls _ _ _ _ A27.out).mono ?_);rintro e w' ⟨rfl,⟨nd,rfl⟩⟩))
     go_ret
     exact ⟨aY,bC⟩
attribute [local go_sem] dZ ek fF fG dQ dR d9 eu
def bI.f (k:Nat) (a0:Int):Option (Bool):=(aK.f a0).bind fun t112=>(if t112=true then (some ((Go.bits .and .u16 a0 8) != 0)) else ((az.f k a0).bind fun t113=>(if t113=true then (some ((Go.bits .and .u16 a0 8) != 0)) else (some false))))
theorem bI.calls (k:Nat) (a0:Int) (r:Bool) (w:World) (h:bI.f k a0=some r) :
 Calls Try.prog 58 #[.int .u16 a0] w fun e w'=>e = .returned (.bool r)∧bZ w w':=by
 have H:((aK.f a0).bind fun t112=>(if t112=true then (some ((Go.bits .and .u16 a0 8) != 0)) else ((az.f k a0).bind fun t113=>(if t113=true then (some ((Go.bits .and .u16 a0 8) != 0)) else (some false)))))=some r:=h
 clear h
 replace H:=bnd H
 obtain ⟨t112,A2,H⟩:=H
 replace H:=iY H
 obtain ⟨rfl,H⟩ | ⟨rfl,H⟩:=H
 · cases H
   go_enter Try.func58,Try.ntmps58
   go_wp2_with (go_at_call 50;(with_reducible refine (aK.calls _ _ _ A2.out).mono ?_);rintro e w' ⟨rfl,⟨nd,rfl⟩⟩)
   go_ret
   exact ⟨aY,bC⟩
 replace H:=bnd H
 obtain ⟨t113,A4,H⟩:=H
 replace H:=iY H
 obtain ⟨rfl,H⟩ | ⟨rfl,H⟩:=H
 · cases H
   go_enter Try.func58,Try.ntmps58
   go_wp2_with (first | (go_at_call 50;(with_reducible refine (aK.calls _ _ _ A2.out).mono ?_);rintro e w' ⟨rfl,⟨nd,rfl⟩⟩) | (go_at_call 92;(with_reducible refine (az.calls _ _ _ _ A4.out).mono ?_);rintro e w' ⟨rfl,⟨nd,rfl⟩⟩))
   go_ret
   exact ⟨aY,bC⟩
 cases H
 go_enter Try.func58,Try.ntmps58
 go_wp2_with (first | (go_at_call 50;(with_reducible refine (aK.calls _ _ _ A2.out).mono ?_);rintro e w' ⟨rfl,⟨nd,rfl⟩⟩) | (go_at_call 92;(with_reducible refine (az.calls _ _ _ _ A4.out).mono ?_);rintro e w' ⟨rfl,⟨nd,rfl⟩⟩))
 go_ret
 exact ⟨aY,bC⟩
def dF.f (a0:Int):Option (Bool):=if a0=32 then (some true) else (if a0=40 then (some true) else (if a0=48 then (some true) else (if a0=64 then (some true) else (if a0=72 then (some true) else (if a0=80 then (some true) else (if a0=177 then (some true) else (some false)))))))
theorem dF.calls (a0:Int) (r:Bool) (w:World) (h:dF.f a0=some r) :
 Calls Try.prog 138 #[.int .u16 a0] w fun e w'=>e = .returned (.bool r)∧bZ w w':=by
 have H:(if a0=32 then (some true) else (if a0=40 then (some true) else (if a0=48 then (some true) else (if a0=64 then (some true) else (if a0=72 then (some true) else (if a0=80 then (some true) else (if a0=177 then (some true) else (some false))))))))=some r:=h
 clear h
 replace H:=bN H
 obtain ⟨H,-,_,_⟩ | ⟨H,c2,_,_⟩:=H
 · cases H
   go_enter Try.func138,Try.ntmps138
   go_wp2
   go_ret
   exact ⟨aY,bC⟩
 iterate 2
  replace H:=bN H
  obtain ⟨H,-,_,_⟩ | ⟨H,c3,_,_⟩:=H
  · cases H
    go_enter Try.func138,Try.ntmps138
    go_wp2
    go_ret
    exact ⟨aY,bC⟩
 iterate 2
  replace H:=bN H
  obtain ⟨H,-,_,_⟩ | ⟨H,c5,_,_⟩:=H
  · cases H
    go_enter Try.func138,Try.ntmps138
    go_wp2
    go_ret
    exact ⟨aY,bC⟩
 iterate 2
  replace H:=bN H
  obtain ⟨H,-,_,_⟩ | ⟨H,c7,_,_⟩:=H
  · cases H
    go_enter Try.func138,Try.ntmps138
    go_wp2
    go_ret
    exact ⟨aY,bC⟩
 cases H
 go_enter Try.func138,Try.ntmps138
 go_wp2
 go_ret
 exact ⟨aY,bC⟩
def bu.j0:Nat→Int→Bool→Bool→Option (Bool × Bool × Bool)
 | 0,_,_,_=>none
 | k+1,x0,x5,x13=>if x13=true then ((aK.f x0).bind fun t116=>((dF.f x0).bind fun t117=>(if t117=true then (some (false,t116,true)) else (if x0=60 then (some (false,t116,true)) else (some (false,t116,(x0==156))))))) else ((aK.f x0).bind fun t118=>((dF.f x0).bind fun t119=>(if t119=true then (some (x5,t118,true)) else (if x0=60 then (some (x5,t118,true)) else (some (x5,t118,(x0==156)))))))
def bu.f (k:Nat) (a0:Int):Option (Bool × Bool × Bool):=(ay.f k a0).bind fun t114=>(if t114=true then ((bI.f k a0).bind fun t115=>(if a0=128 then (bu.j0 k a0 (!t115) (a0==128)) else (if a0=129 then (bu.j0 k a0 (!t115) (a0==129)) else (if a0=132 then (bu.j0 k a0 (!t115) (a0==132)) else (if a0=22 then (bu.j0 k a0 (!t115) (a0==22)) else (if a0=7 then (bu.j0 k a0 (!t115) (a0==7)) else (bu.j0 k a0 (!t115) (a0==135)))))))) else (some (false,false,false)))
theorem bu.calls (k:Nat) (a0:Int) (r1:Bool) (r2:Bool) (r3:Bool) (w:World) (h:bu.f k a0=some (r1,r2,r3)) :
 Calls Try.prog 94 #[.int .u16 a0] w fun e w'=>e = .returned (.tuple #[.bool r1,.bool r2,.bool r3])∧bZ w w':=by
 have H:((ay.f k a0).bind fun t114=>(if t114=true then ((bI.f k a0).bind fun t115=>(if a0=128 then (bu.j0 k a0 (!t115) (a0==128)) else (if a0=129 then (bu.j0 k a0 (!t115) (a0==129)) else (if a0=132 then (bu.j0 k a0 (!t115) (a0==132)) else (if a0=22 then (bu.j0 k a0 (!t115) (a0==22)) else (if a0=7 then (bu.j0 k a0 (!t115) (a0==7)) else (bu.j0 k a0 (!t115) (a0==135)))))))) else (some (false,false,false))))=some (r1,r2,r3):=h
 clear h
 replace H:=bnd H
 obtain ⟨t114,A2,H⟩:=H
 replace H:=iY H
 obtain ⟨rfl,H⟩ | ⟨rfl,H⟩:=H
 · replace H:=bnd H
   obtain ⟨t115,A4,H⟩:=H
   have HC5:=aa.mk H
   clear H
   go_enter Try.func94,Try.ntmps94
   go_upto_if 13 with (first | (go_at_call 81;(with_reducible refine (ay.calls _ _ _ _ A2.out).mono ?_);rintro e w' ⟨rfl,⟨nd,rfl⟩⟩) | (go_at_call 58;(with_reducible refine (bI.calls _ _ _ _ A4.out).mono ?_);rintro e w' ⟨rfl,⟨nd,rfl⟩⟩))
   (try simp only [Act.put,List.setIfInBounds_toArray,List.set_cons_zero,List.set_cons_succ])
   go_cut [13] (fun v13 wc=>∃ (kq:Nat) (x13_4:Bool),v13 = .bool x13_4∧aa (bu.j0 kq a0 (!t115) x13_4=some (r1,r2,r3))∧aa (kq≤k)∧bZ w wc)
   case first=>
    have H:=HC5.out
    clear HC5
    replace H:=bN H
    obtain ⟨H,-,c6b0,_⟩ | ⟨H,c6,c6b0,_⟩:=H
    · (first | rw [c6b0] | (simp only [dD,dE];rw [c6b0]) | skip)
      replace H:=aa.mk H
      go_wp2
      go_meet
      case rel=>exact ⟨_,_,aY,H,⟨le0⟩,bC⟩
    (first | rw [c6b0] | (simp only [dD,dE];rw [c6b0]) | skip)
    iterate 2
     replace H:=bN H
     obtain ⟨H,-,_,_⟩ | ⟨H,c7,_,_⟩:=H
     · replace H:=aa.mk H
       go_wp2
       go_meet
       case rel=>exact ⟨_,_,aY,H,⟨le0⟩,bC⟩
    iterate 2
     replace H:=bN H
     obtain ⟨H,-,_,_⟩ | ⟨H,c9,_,_⟩:=H
     · replace H:=aa.mk H
       go_wp2
       go_meet
       case rel=>exact ⟨_,_,aY,H,⟨le0⟩,bC⟩
    replace H:=aa.mk H
    go_wp2
    go_meet
    case rel=>exact ⟨_,_,aY,H,⟨le0⟩,bC⟩
   case rest=>
    clear HC5
    obtain ⟨kq,x13_4,rfl,HA,HJ4,⟨mc4,rfl⟩⟩:=hcut
    cases kq with
    | zero=>exact absurd HA.out (by simp [bu.j0])
    | succ kj4=>
     have H:=HA.out
     clear HA
     simp only [bu.j0] at H
     by_cases c11:x13_4=true
     · subst c11
       have H1:((aK.f a0).bind fun t116=>((dF.f a0).bind fun t117=>(if t117=true then (some (false,t116,true)) else (if a0=60 then (some (false,t116,true)) else (some (false,t116,(a0==156)))))))=some (r1,r2,r3):=by rw [if_pos rfl] at H;exact H
       clear H
       have H:=H1
       clear H1
       replace H:=bnd H
       obtain ⟨t116,A12,H⟩:=H
       replace H:=bnd H
       obtain ⟨t117,A13,H⟩:=H
       replace H:=iY H
       obtain ⟨rfl,H⟩ | ⟨rfl,H⟩:=H
       · obtain ⟨rfl,rfl,rfl⟩:=so3 H
         go_wp2_with (first | (go_at_call 50;(with_reducible refine (aK.calls _ _ _ A12.out).mono ?_);rintro e w' ⟨rfl,⟨nd,rfl⟩⟩) | (go_at_call 138;(with_reducible refine (dF.calls _ _ _ A13.out).mono ?_);rintro e w' ⟨rfl,⟨nd,rfl⟩⟩))
         go_ret3
         exact ⟨aY,bC⟩
       replace H:=bN H
       obtain ⟨H,-,_,_⟩ | ⟨H,c15,_,_⟩:=H
       · obtain ⟨rfl,rfl,rfl⟩:=so3 H
         go_wp2_with (first | (go_at_call 50;(with_reducible refine (aK.calls _ _ _ A12.out).mono ?_);rintro e w' ⟨rfl,⟨nd,rfl⟩⟩) | (go_at_call 138;(with_reducible refine (dF.calls _ _ _ A13.out).mono ?_);rintro e w' ⟨rfl,⟨nd,rfl⟩⟩))
         go_ret3
         exact ⟨aY,bC⟩
       obtain ⟨rfl,rfl,rfl⟩:=so3 H
       go_wp2_with (first | (go_at_call 50;(with_reducible refine (aK.calls _ _ _ A12.out).mono ?_);rintro e w' ⟨rfl,⟨nd,rfl⟩⟩) | (go_at_call 138;(with_reducible refine (dF.calls _ _ _ A13.out).mono ?_);rintro e w' ⟨rfl,⟨nd,rfl⟩⟩))
       go_ret3
       exact ⟨aY,bC⟩
     replace c11:=Bool.eq_false_iff.mpr c11
     subst c11
     have H1:((aK.f a0).bind fun t118=>((dF.f a0).bind fun t119=>(if t119=true then (some ((!t115),t118,true)) else (if a0=60 then (some ((!t115),t118,true)) else (some ((!t115),t118,(a0==156)))))))=some (r1,r2,r3):=by rw [if_neg (show ¬(false=true) by decide)] at H;exact H
     clear H
     have H:=H1
     clear H1
     replace H:=bnd H
     obtain ⟨t118,A16,H⟩:=H
     replace H:=bnd H
     obtain ⟨t119,A17,H⟩:=H
     replace H:=iY H
     obtain ⟨rfl,H⟩ | ⟨rfl,H⟩:=H
     · obtain ⟨rfl,rfl,rfl⟩:=so3 H
       go_wp2_with (first | (go_at_call 50;(with_reducible refine (aK.calls _ _ _ A16.out).mono ?_);rintro e w' ⟨rfl,⟨nd,rfl⟩⟩) | (go_at_call 138;(with_reducible refine (dF.calls _ _ _ A17.out).mono ?_);rintro e w' ⟨rfl,⟨nd,rfl⟩⟩))
       go_ret3
       exact ⟨aY,bC⟩
     replace H:=bN H
     obtain ⟨H,-,_,_⟩ | ⟨H,c19,_,_⟩:=H
     · obtain ⟨rfl,rfl,rfl⟩:=so3 H
       go_wp2_with (first | (go_at_call 50;(with_reducible refine (aK.calls _ _ _ A16.out).mono ?_);rintro e w' ⟨rfl,⟨nd,rfl⟩⟩) | (go_at_call 138;(with_reducible refine (dF.calls _ _ _ A17.out).mono ?_);rintro e w' ⟨rfl,⟨nd,rfl⟩⟩))
       go_ret3
       exact ⟨aY,bC⟩
     obtain ⟨rfl,rfl,rfl⟩:=so3 H
     go_wp2_with (first | (go_at_call 50;(with_reducible refine (aK.calls _ _ _ A16.out).mono ?_);rintro e w' ⟨rfl,⟨nd,rfl⟩⟩) | (go_at_call 138;(with_reducible refine (dF.calls _ _ _ A17.out).mono ?_);rintro e w' ⟨rfl,⟨nd,rfl⟩⟩))
     go_ret3
     exact ⟨aY,bC⟩
 obtain ⟨rfl,rfl,rfl⟩:=so3 H
 go_enter Try.func94,Try.ntmps94
 go_wp2_with (go_at_call 81;(with_reducible refine (ay.calls _ _ _ _ A2.out).mono ?_);rintro e w' ⟨rfl,⟨nd,rfl⟩⟩)
 go_ret3
 exact ⟨aY,bC⟩
attribute [local go_sem] dZ ek fF fG dQ dR d9 eu
theorem zl (d:Nat) (w:World) (x0 y0:Int) (x1 y1:Int) (x2 y2:Int) (x3 y3:Int) :
 (Op.equalIn (d+2) 45 (.agg #[.int .u16 x0,.int .u8 x1,.int .u8 x2,.int .u32 x3]) (.agg #[.int .u16 y0,.int .u8 y1,.int .u8 y2,.int .u32 y3])).run Try.prog w = .ok (x0==y0&&(x1==y1&&(x2==y2&&(x3==y3)))) w:=by
 refine eqA_of Try.underlying45 (by kernel_rfl) ?_
 refine pF (by rfl) (by go_simp;rfl) (by go_simp;rfl) (by go_simp) ?_
 refine pF (by rfl) (by go_simp;rfl) (by go_simp;rfl) (by go_simp) ?_
 refine pF (by rfl) (by go_simp;rfl) (by go_simp;rfl) (by go_simp) ?_
 exact zm (by rfl) (by go_simp;rfl) (by go_simp;rfl) (by go_simp)
attribute [local go_sem] dZ ek fF fG dQ dR d9 eu
mutual
def aD.j0:Nat→Bool→Int→Int→Int→Int→Option (Int)
 | 0,_,_,_,_,_=>none
 | k+1,x8,x106000,x106001,x106002,x106003=>if x8=true then (some 43) else (if x106000=52 then (aD.j1 k (x106003==0) x106000 x106001 x106002 x106003) else (if x106000=148 then (aD.j1 k (x106003==0) x106000 x106001 x106002 x106003) else (aD.j1 k false x106000 x106001 x106002 x106003)))
def aD.j1:Nat→Bool→Int→Int→Int→Int→Option (Int)
 | 0,_,_,_,_,_=>none
 | k+1,x32,x106000,x106001,x106002,x106003=>if x32=true then (some 44) else (if x106000=100 then (if x106003>31 then (some 45) else (some 0)) else (if x106000=116 then (if x106003>31 then (some 45) else (some 0)) else (some 0)))
end
def aD.f (k:Nat) (a0_0:Int) (a0_1:Int) (a0_2:Int) (a0_3:Int):Option (Int):=(ay.f k a0_0).bind fun t106=>(if t106=true then (if a0_0=2 then (aD.j0 k (decide (a0_3≥16)) a0_0 a0_1 a0_2 a0_3) else (if a0_0=3 then (aD.j0 k (decide (a0_3≥16)) a0_0 a0_1 a0_2 a0_3) else (if a0_0=96 then (aD.j0 k (decide (a0_3≥16)) a0_0 a0_1 a0_2 a0_3) else (if a0_0=97 then (aD.j0 k (decide (a0_3≥16)) a0_0 a0_1 a0_2 a0_3) else (aD.j0 k false a0_0 a0_1 a0_2 a0_3))))) else (some 42))
theorem aD.calls (k:Nat) (a0_0:Int) (a0_1:Int) (a0_2:Int) (a0_3:Int) (r:Int) (w:World) (h:aD.f k a0_0 a0_1 a0_2 a0_3=some r) :
 Calls Try.prog 49 #[.agg #[.int .u16 a0_0,.int .u8 a0_1,.int .u8 a0_2,.int .u32 a0_3]] w fun e w'=>e = .returned (.int .i64 r)∧Below w.heap.size w w':=by
 have hu45:=Try.underlying45
 have HB:=aa.mk (Below.refl w.heap.size w)
 have H:((ay.f k a0_0).bind fun t106=>(if t106=true then (if a0_0=2 then (aD.j0 k (decide (a0_3≥16)) a0_0 a0_1 a0_2 a0_3) else (if a0_0=3 then (aD.j0 k (decide (a0_3≥16)) a0_0 a0_1 a0_2 a0_3) else (if a0_0=96 then (aD.j0 k (decide (a0_3≥16)) a0_0 a0_1 a0_2 a0_3) else (if a0_0=97 then (aD.j0 k (decide (a0_3≥16)) a0_0 a0_1 a0_2 a0_3) else (aD.j0 k false a0_0 a0_1 a0_2 a0_3))))) else (some 42)))=some r:=h
 clear h
 replace H:=bnd H
 obtain ⟨t106,A2,H⟩:=H
 replace H:=iY H
 obtain ⟨rfl,H⟩ | ⟨rfl,H⟩:=H
 · have HC4:=aa.mk H
   clear H
   go_enter Try.func49,Try.ntmps49
   go_upto_region 3 with (first | ((with_reducible refine aW (N:=1) rfl ?_);refine dS (N:=1) (cs:=#[.int .u16 a0_0,.int .u8 a0_1,.int .u8 a0_2,.int .u32 a0_3]) (t:=45) ?_;intro gb105 hg w5 hbox hb;have GE105:=geN HB hg;have BK105:=aa.mk hbox;replace HB:=cK HB hb;clear hb hbox hg;obtain ⟨_,_,_,_,_,_,_,_⟩:=cz4 BK105) | (go_at_call 81;(with_reducible refine (ay.calls _ _ _ _ A2.out).mono ?_);rintro e w' ⟨rfl,⟨nd,rfl⟩⟩))
   (try simp only [Act.put,List.setIfInBounds_toArray,List.set_cons_zero,List.set_cons_succ])
   go_cut [8] (fun v8 wc=>∃ (kq:Nat) (x8_3:Bool),v8 = .bool x8_3∧aa (aD.j0 kq x8_3 a0_0 a0_1 a0_2 a0_3=some r)∧aa (kq≤k)∧aa (wc.heap[gb105]?=some (.cells #[.int .u16 a0_0,.int .u8 a0_1,.int .u8 a0_2,.int .u32 a0_3] 45 (0,0)))∧aa (Below w.heap.size w wc))
   case first=>
    have H:=HC4.out
    clear HC4
    replace H:=bN H
    obtain ⟨H,-,c7b0,_⟩ | ⟨H,c7,c7b0,_⟩:=H
    · (first | rw [c7b0] | (simp only [dD,dE];rw [c7b0]) | skip)
      replace H:=aa.mk H
      obtain ⟨_,_,_,_,_,_,_,_⟩:=cz4 BK105
      go_wp2
      go_meet
      case rel=>exact ⟨_,_,aY,H,⟨le0⟩,⟨iU⟩,⟨bv⟩⟩
    (first | rw [c7b0] | (simp only [dD,dE];rw [c7b0]) | skip)
    replace H:=bN H
    obtain ⟨H,-,_,_⟩ | ⟨H,c9,_,_⟩:=H
    · replace H:=aa.mk H
      obtain ⟨_,_,_,_,_,_,_,_⟩:=cz4 BK105
      go_wp2
      go_meet
      case rel=>exact ⟨_,_,aY,H,⟨le0⟩,⟨iU⟩,⟨bv⟩⟩
    iterate 2
     replace H:=bN H
     obtain ⟨H,-,_,_⟩ | ⟨H,c11,_,_⟩:=H
     · replace H:=aa.mk H
       obtain ⟨_,_,_,_,_,_,_,_⟩:=cz4 BK105
       go_wp2
       go_meet
       case rel=>exact ⟨_,_,aY,H,⟨le0⟩,⟨iU⟩,⟨bv⟩⟩
    replace H:=aa.mk H
    obtain ⟨_,_,_,_,_,_,_,_⟩:=cz4 BK105
    go_wp2
    go_meet
    case rel=>exact ⟨_,_,aY,H,⟨le0⟩,⟨iU⟩,⟨bv⟩⟩
   case rest=>
    clear HC4
    obtain ⟨kq,x8_3,rfl,HA,HJ3,BK105,HB⟩:=hcut
    cases kq with
    | zero=>exact absurd HA.out (by simp [aD.j0])
    | succ kj3=>
     have H:=HA.out
     clear HA
     simp only [aD.j0] at H
     by_cases c16:x8_3=true
     · subst c16
       have H1:(some 43)=some r:=by rw [if_pos rfl] at H;exact H
       clear H
       have H:=H1
       clear H1
       cases H
       go_wp2
       go_ret
       exact ⟨dm,bv⟩
     replace c16:=Bool.eq_false_iff.mpr c16
     subst c16
     have H1:(if a0_0=52 then (aD.j1 kj3 (a0_3==0) a0_0 a0_1 a0_2 a0_3) else (if a0_0=148 then (aD.j1 kj3 (a0_3==0) a0_0 a0_1 a0_2 a0_3) else (aD.j1 kj3 false a0_0 a0_1 a0_2 a0_3)))=some r:=by rw [if_neg (show ¬(false=true) by decide)] at H;exact H
     clear H
     have H:=H1
     clear H1
     have HC17:=aa.mk H
     clear H
     go_upto_region 5 with (fail)
     go_cut [32] (fun v32 wc=>∃ (kq:Nat) (x32_16:Bool),v32 = .bool x32_16∧aa (aD.j1 kq x32_16 a0_0 a0_1 a0_2 a0_3=some r)∧aa (kq≤kj3)∧aa (wc.heap[gb105]?=some (.cells #[.int .u16 a0_0,.int .u8 a0_1,.int .u8 a0_2,.int .u32 a0_3] 45 (0,0)))∧aa (Below w.heap.size w wc))
     case first=>
      have H:=HC17.out
      clear HC17
      replace H:=bN H
      obtain ⟨H,-,c18b0,_⟩ | ⟨H,c18,c18b0,_⟩:=H
      · (first | rw [c18b0] | (simp only [dD,dE];rw [c18b0]) | skip)
        replace H:=aa.mk H
        obtain ⟨_,_,_,_,_,_,_,_⟩:=cz4 BK105
        go_wp2
        go_meet
        case rel=>exact ⟨_,_,aY,H,⟨by have:=HJ3.out;first | omega | exact Nat.le_refl _⟩,⟨iU⟩,⟨bv⟩⟩
      (first | rw [c18b0] | (simp only [dD,dE];rw [c18b0]) | skip)
      replace H:=bN H
      obtain ⟨H,-,_,_⟩ | ⟨H,c20,_,_⟩:=H
      · replace H:=aa.mk H
        obtain ⟨_,_,_,_,_,_,_,_⟩:=cz4 BK105
        go_wp2
        go_meet
        case rel=>exact ⟨_,_,aY,H,⟨by have:=HJ3.out;first | omega | exact Nat.le_refl _⟩,⟨iU⟩,⟨bv⟩⟩
      replace H:=aa.mk H
      obtain ⟨_,_,_,_,_,_,_,_⟩:=cz4 BK105
      go_wp2
      go_meet
      case rel=>exact ⟨_,_,aY,H,⟨by have:=HJ3.out;first | omega | exact Nat.le_refl _⟩,⟨iU⟩,⟨bv⟩⟩
     case rest=>
      clear HC17
      obtain ⟨kq,x32_16,rfl,HA,HJ16,BK105,HB⟩:=hcut
      cases kq with
      | zero=>exact absurd HA.out (by simp [aD.j1])
      | succ kj16=>
       have H:=HA.out
       clear HA
       simp only [aD.j1] at H
       by_cases c23:x32_16=true
       · subst c23
         have H1:(some 44)=some r:=by rw [if_pos rfl] at H;exact H
         clear H
         have H:=H1
         clear H1
         cases H
         go_wp2
         go_ret
         exact ⟨dm,bv⟩
       replace c23:=Bool.eq_false_iff.mpr c23
       subst c23
       have H1:(if a0_0=100 then (if a0_3>31 then (some 45) else (some 0)) else (if a0_0=116 then (if a0_3>31 then (some 45) else (some 0)) else (some 0)))=some r:=by rw [if_neg (show ¬(false=true) by decide)] at H;exact H
       clear H
       have H:=H1
       clear H1
       iterate 2
        replace H:=bN H
        obtain ⟨H,-,_,_⟩ | ⟨H,c24,_,_⟩:=H
        · replace H:=qD H
          obtain ⟨H,-,_⟩ | ⟨H,-,_⟩:=H
          · cases H
            obtain ⟨_,_,_,_,_,_,_,_⟩:=cz4 BK105
            go_wp2
            go_ret
            exact ⟨dm,bv⟩
          cases H
          obtain ⟨_,_,_,_,_,_,_,_⟩:=cz4 BK105
          go_wp2
          go_ret
          exact ⟨dm,bv⟩
       cases H
       obtain ⟨_,_,_,_,_,_,_,_⟩:=cz4 BK105
       go_wp2
       go_ret
       exact ⟨dm,bv⟩
 cases H
 go_enter Try.func49,Try.ntmps49
 go_wp2_with (first | ((with_reducible refine aW (N:=1) rfl ?_);refine dS (N:=1) (cs:=#[.int .u16 a0_0,.int .u8 a0_1,.int .u8 a0_2,.int .u32 a0_3]) (t:=45) ?_;intro gb105 hg w33 hbox hb;have GE105:=geN HB hg;have BK105:=aa.mk hbox;replace HB:=cK HB hb;clear hb hbox hg;obtain ⟨_,_,_,_,_,_,_,_⟩:=cz4 BK105) | (go_at_call 81;(with_reducible refine (ay.calls _ _ _ _ A2.out).mono ?_);rintro e w' ⟨rfl,⟨nd,rfl⟩⟩))
 go_ret
 exact ⟨dm,bv⟩
def bL.f (k:Nat) (a0:Int):Option (Int):=(ay.f k a0).bind fun t107=>(if t107=true then (some (wrap64 (Go.bits .and .u16 a0 7))) else (some (-1)))
theorem bL.calls (k:Nat) (a0:Int) (r:Int) (w:World) (h:bL.f k a0=some r) :
 Calls Try.prog 61 #[.int .u16 a0] w fun e w'=>e = .returned (.int .i64 r)∧bZ w w':=by
 have H:((ay.f k a0).bind fun t107=>(if t107=true then (some (wrap64 (Go.bits .and .u16 a0 7))) else (some (-1))))=some r:=h
 clear h
 replace H:=bnd H
 obtain ⟨t107,A2,H⟩:=H
 replace H:=iY H
 obtain ⟨rfl,H⟩ | ⟨rfl,H⟩:=H
 · cases H
   go_enter Try.func61,Try.ntmps61
   go_wp2_with (go_at_call 81;(with_reducible refine (ay.calls _ _ _ _ A2.out).mono ?_);rintro e w' ⟨rfl,⟨nd,rfl⟩⟩)
   go_ret
   exact ⟨aY,bC⟩
 cases H
 go_enter Try.func61,Try.ntmps61
 go_wp2_with (go_at_call 81;(with_reducible refine (ay.calls _ _ _ _ A2.out).mono ?_);rintro e w' ⟨rfl,⟨nd,rfl⟩⟩)
 go_ret
 exact ⟨aY,bC⟩
def bK.l0:Nat→List (S45)→Int→Option (Bool)
 | 0,_,_=>none
 | k+1,x0,x3=>if x3<(x0.length:Int) then (if 0≤x3 then ((bL.f k ((aV x0 x3).f0)).bind fun t109=>(if t109<0 then (some false) else (if t109=5 then (some false) else (if t109=6 then (some false) else ((aD.f k ((aV x0 x3).f0) ((aV x0 x3).f1) ((aV x0 x3).f2) ((aV x0 x3).f3)).bind fun t111=>(if t111=0 then (bK.l0 k x0 (wrap64 (x3+1))) else (some false))))))) else (none)) else (some true)
def bK.f (k:Nat) (l0:List (S45)):Option (Bool):=bK.l0 k l0 0
theorem bK.calls (k:Nat) (A0:Option Addr) (c0:Nat) (l0:List (S45)) (r:Bool) (w:World) (hr0:Kd.C k45 w A0 l0.length l0) (hc0:l0.length≤c0) (h:bK.f k l0=some r) :
 Calls Try.prog 89 #[.slice A0 l0.length c0] w fun e w'=>e = .returned (.bool r)∧Below w.heap.size w w':=by
 have hu45:=Try.underlying45
 have HR0:=aa.mk hr0
 have HC0:=aa.mk hc0
 clear hr0 hc0
 have HB:=aa.mk (Below.refl w.heap.size w)
 have H:(bK.l0 k l0 0)=some r:=h
 clear h
 replace H:=aa.mk H
 go_enter Try.func89,Try.ntmps89
 go_wp2
 go_loopg [3] k (fun kq v3 w'=>∃ (x3_1:Int),v3 = .int .i64 x3_1∧aa (bK.l0 kq l0 x3_1=some r)∧aa (kq≤k)∧aa (Below w.heap.size w w'))
 case atStart=>exact ⟨_,aY,H,⟨Nat.le_refl _⟩,⟨bv⟩⟩
 case round=>
  clear H
  obtain ⟨x3_1,rfl,HA,HK1,HB⟩:=hrel
  cases gk with
  | zero=>exact absurd HA.out (by simp [bK.l0])
  | succ k1=>
   have H:=HA.out
   clear HA
   simp only [bK.l0] at H
   replace H:=fo H
   obtain ⟨H,-,_⟩ | ⟨H,-,_⟩:=H
   · replace H:=fo H
     obtain ⟨H,-,_⟩ | ⟨H,c3,-⟩:=H
     · replace H:=bnd H
       obtain ⟨t109,A4,H⟩:=H
       replace H:=fo H
       obtain ⟨H,-,_⟩ | ⟨H,-,_⟩:=H
       · cases H
         obtain ⟨ad108,rfl,_,_,_,_,_,_⟩:=gV HR0 HB x3_1 (by assumption) (by assumption)
         go_wp2_with (go_at_call 61;(with_reducible refine (bL.calls _ _ _ _ A4.out).mono ?_);rintro e w' ⟨rfl,⟨nd,rfl⟩⟩)
         go_ret
         exact ⟨dm,bv⟩
       iterate 2
        replace H:=bN H
        obtain ⟨H,-,_,_⟩ | ⟨H,c6,_,_⟩:=H
        · cases H
          obtain ⟨ad108,rfl,_,_,_,_,_,_⟩:=gV HR0 HB x3_1 (by assumption) (by assumption)
          go_wp2_with (go_at_call 61;(with_reducible refine (bL.calls _ _ _ _ A4.out).mono ?_);rintro e w' ⟨rfl,⟨nd,rfl⟩⟩)
          go_ret
          exact ⟨dm,bv⟩
       replace H:=bnd H
       obtain ⟨t111,A8,H⟩:=H
       replace H:=bN H
       obtain ⟨H,-,_,_⟩ | ⟨H,c9,_,_⟩:=H
       · replace H:=aa.mk H
         obtain ⟨ad108,rfl,_,_,_,_,_,_⟩:=gV HR0 HB x3_1 (by assumption) (by assumption)
         go_wp2_with (first | (go_at_call 61;(with_reducible refine (bL.calls _ _ _ _ A4.out).mono ?_);rintro e w' ⟨rfl,⟨nd,rfl⟩⟩;obtain ⟨_,_,_,_,_,_⟩:=gP HR0 HB x3_1 (by assumption) (by assumption)) | (go_at_call 49;(with_reducible refine (aD.calls _ _ _ _ _ _ _ A8.out).mono ?_);rintro e w10 ⟨rfl,hb⟩;replace HB:=cK HB hb))
         go_roundg k1
         case measure=>have:=HK1.out;omega
         case rel=>exact ⟨_,aY,H,⟨by have:=HK1.out;omega⟩,⟨bv⟩⟩
       cases H
       obtain ⟨ad108,rfl,_,_,_,_,_,_⟩:=gV HR0 HB x3_1 (by assumption) (by assumption)
       go_wp2_with (first | (go_at_call 61;(with_reducible refine (bL.calls _ _ _ _ A4.out).mono ?_);rintro e w' ⟨rfl,⟨nd,rfl⟩⟩;obtain ⟨_,_,_,_,_,_⟩:=gP HR0 HB x3_1 (by assumption) (by assumption)) | (go_at_call 49;(with_reducible refine (aD.calls _ _ _ _ _ _ _ A8.out).mono ?_);rintro e w11 ⟨rfl,hb⟩;replace HB:=cK HB hb))
       go_ret
       exact ⟨dm,bv⟩
     exact absurd H (by simp)
   cases H
   go_wp2
   go_ret
   exact ⟨dm,bv⟩
def bP.f (a0:Int):Option (Bool):=if a0=6 then (some true) else (some (a0==22))
theorem bP.calls (a0:Int) (r:Bool) (w:World) (h:bP.f a0=some r) :
 Calls Try.prog 51 #[.int .u16 a0] w fun e w'=>e = .returned (.bool r)∧bZ w w':=by
 have H:(if a0=6 then (some true) else (some (a0==22)))=some r:=h
 clear h
 replace H:=bN H
 obtain ⟨H,-,_,_⟩ | ⟨H,c2,_,_⟩:=H
 · cases H
   go_enter Try.func51,Try.ntmps51
   go_wp2
   go_ret
   exact ⟨aY,bC⟩
 cases H
 go_enter Try.func51,Try.ntmps51
 go_wp2
 go_ret
 exact ⟨aY,bC⟩
attribute [local go_sem] dZ ek fF fG dQ dR d9 eu
attribute [local go_sem high] zl
def bq.j0:Nat→Bool→List (S45)→Int→Int→Int→Int→Int→Int→Int→Option (Bool)
 | 0,_,_,_,_,_,_,_,_,_=>none
 | k+1,x33,x121000,x121001,x121002,x121003,x121004,x121005,x121006,x121007=>if x33=true then (some false) else (if x121001=1 then ((bP.f x121002).bind fun t124=>(if t124=true then (if x121006=0 then (some (x121007==0)) else (some false)) else (some false))) else (if x121001=2 then (if (x121002==0&&(x121003==0&&(x121004==0&&(x121005==0))))=true then (some (x121007==0)) else (some false)) else (if x121001=3 then ((aK.f x121002).bind fun t125=>(some t125)) else (some false))))
def bq.f (k:Nat) (l0_0:List (S45)) (a0_1:Int) (a0_2:Int) (a0_3:Int) (a0_4:Int) (a0_5:Int) (a0_6:Int) (a0_7:Int):Option (Bool):=(bu.f k a0_2).bind fun bt121=>(if a0_3=0 then (if a0_4=0 then (if bt121.1=true then (bq.j0 k false l0_0 a0_1 a0_2 a0_3 a0_4 a0_5 a0_6 a0_7) else (bq.j0 k (a0_5 != 0) l0_0 a0_1 a0_2 a0_3 a0_4 a0_5 a0_6 a0_7)) else (bq.j0 k true l0_0 a0_1 a0_2 a0_3 a0_4 a0_5 a0_6 a0_7)) else (bq.j0 k true l0_0 a0_1 a0_2 a0_3 a0_4 a0_5 a0_6 a0_7))
theorem bq.calls (k:Nat) (A0_0:Option Addr) (c0_0:Nat) (l0_0:List (S45)) (a0_1:Int) (a0_2:Int) (a0_3:Int) (a0_4:Int) (a0_5:Int) (a0_6:Int) (a0_7:Int) (r:Bool) (w:World) (hr0_0:Kd.C k45 w A0_0 l0_0.length l0_0) (hc0_0:l0_0.length≤c0_0) (h:bq.f k l0_0 a0_1 a0_2 a0_3 a0_4 a0_5 a0_6 a0_7=some r) :
 Calls Try.prog 90 #[.agg #[.slice A0_0 l0_0.length c0_0,.int .i64 a0_1,.int .u16 a0_2,.int .u8 a0_3,.int .u8 a0_4,.int .u32 a0_5,.int .i64 a0_6,.int .i64 a0_7]] w fun e w'=>e = .returned (.bool r)∧Below w.heap.size w w':=by
 have hu47:=Try.underlying47
 have hu45:=Try.underlying45
 have HR0_0:=aa.mk hr0_0
 have HC0_0:=aa.mk hc0_0
 clear hr0_0 hc0_0
 have HB:=aa.mk (Below.refl w.heap.size w)
 have H:((bu.f k a0_2).bind fun bt121=>(if a0_3=0 then (if a0_4=0 then (if bt121.1=true then (bq.j0 k false l0_0 a0_1 a0_2 a0_3 a0_4 a0_5 a0_6 a0_7) else (bq.j0 k (a0_5 != 0) l0_0 a0_1 a0_2 a0_3 a0_4 a0_5 a0_6 a0_7)) else (bq.j0 k true l0_0 a0_1 a0_2 a0_3 a0_4 a0_5 a0_6 a0_7)) else (bq.j0 k true l0_0 a0_1 a0_2 a0_3 a0_4 a0_5 a0_6 a0_7)))=some r:=h
 clear h
 replace H:=Option.bind_eq_some_iff.mp H
 obtain ⟨⟨t121,t122,t123⟩,A20,H⟩:=H
 replace H:(if a0_3=0 then (if a0_4=0 then (if t121=true then (bq.j0 k false l0_0 a0_1 a0_2 a0_3 a0_4 a0_5 a0_6 a0_7) else (bq.j0 k (a0_5 != 0) l0_0 a0_1 a0_2 a0_3 a0_4 a0_5 a0_6 a0_7)) else (bq.j0 k true l0_0 a0_1 a0_2 a0_3 a0_4 a0_5 a0_6 a0_7)) else (bq.j0 k true l0_0 a0_1 a0_2 a0_3 a0_4 a0_5 a0_6 a0_7))=some r:=H
 have A2:=aa.mk A20
 clear A20
 have HC3:=aa.mk H
 clear H
 go_enter Try.func90,Try.ntmps90
 go_upto_region 2 with (first | ((with_reducible refine aW (N:=1) rfl ?_);refine dS (N:=1) (cs:=#[.slice A0_0 l0_0.length c0_0,.int .i64 a0_1,.int .u16 a0_2,.int .u8 a0_3,.int .u8 a0_4,.int .u32 a0_5,.int .i64 a0_6,.int .i64 a0_7]) (t:=47) ?_;intro gb120 hg w4 hbox hb;have GE120:=geN HB hg;have BK120:=aa.mk hbox;replace HB:=cK HB hb;clear hb hbox hg;obtain ⟨_,_,_,_,_,_,_,_,_,_,_,_,_,_,_,_⟩:=cz8 BK120) | (go_at_call 94;(with_reducible refine (bu.calls _ _ _ _ _ _ A2.out).mono ?_);rintro e w' ⟨rfl,⟨nd,rfl⟩⟩))
 (try simp only [Act.put,List.setIfInBounds_toArray,List.set_cons_zero,List.set_cons_succ])
 go_cut [33] (fun v33 wc=>∃ (kq:Nat) (x33_2:Bool),v33 = .bool x33_2∧aa (bq.j0 kq x33_2 l0_0 a0_1 a0_2 a0_3 a0_4 a0_5 a0_6 a0_7=some r)∧aa (kq≤k)∧aa (wc.heap[gb120]?=some (.cells #[(.slice A0_0 l0_0.length c0_0),.int .i64 a0_1,.int .u16 a0_2,.int .u8 a0_3,.int .u8 a0_4,.int .u32 a0_5,.int .i64 a0_6,.int .i64 a0_7] 47 (0,0)))∧aa (Below w.heap.size w wc))
 case first=>
  have H:=HC3.out
  clear HC3
  replace H:=bN H
  obtain ⟨H,-,c6b0,_⟩ | ⟨H,c6,c6b0,_⟩:=H
  · (first | rw [c6b0] | (simp only [dD,dE];rw [c6b0]) | skip)
    replace H:=bN H
    obtain ⟨H,-,_,_⟩ | ⟨H,c7,_,_⟩:=H
    · replace H:=iY H
      obtain ⟨rfl,H⟩ | ⟨rfl,H⟩:=H
      · replace H:=aa.mk H
        obtain ⟨_,_,_,_,_,_,_,_,_,_,_,_,_,_,_,_⟩:=cz8 BK120
        go_wp2
        go_meet
        case rel=>exact ⟨_,_,aY,H,⟨le0⟩,⟨iU⟩,⟨bv⟩⟩
      replace H:=aa.mk H
      obtain ⟨_,_,_,_,_,_,_,_,_,_,_,_,_,_,_,_⟩:=cz8 BK120
      go_wp2
      go_meet
      case rel=>exact ⟨_,_,aY,H,⟨le0⟩,⟨iU⟩,⟨bv⟩⟩
    replace H:=aa.mk H
    obtain ⟨_,_,_,_,_,_,_,_,_,_,_,_,_,_,_,_⟩:=cz8 BK120
    go_wp2
    go_meet
    case rel=>exact ⟨_,_,aY,H,⟨le0⟩,⟨iU⟩,⟨bv⟩⟩
  (first | rw [c6b0] | (simp only [dD,dE];rw [c6b0]) | skip)
  replace H:=aa.mk H
  obtain ⟨_,_,_,_,_,_,_,_,_,_,_,_,_,_,_,_⟩:=cz8 BK120
  go_wp2
  go_meet
  case rel=>exact ⟨_,_,aY,H,⟨le0⟩,⟨iU⟩,⟨bv⟩⟩
 case rest=>
  clear HC3
  obtain ⟨kq,x33_2,rfl,HA,HJ2,BK120,HB⟩:=hcut
  cases kq with
  | zero=>exact absurd HA.out (by simp [bq.j0])
  | succ kj2=>
   have H:=HA.out
   clear HA
   simp only [bq.j0] at H
   by_cases c13:x33_2=true
   · subst c13
     have H1:(some false)=some r:=by rw [if_pos rfl] at H;exact H
     clear H
     have H:=H1
     clear H1
     cases H
     go_wp2
     go_ret
     exact ⟨dm,bv⟩
   replace c13:=Bool.eq_false_iff.mpr c13
   subst c13
   have H1:(if a0_1=1 then ((bP.f a0_2).bind fun t124=>(if t124=true then (if a0_6=0 then (some (a0_7==0)) else (some false)) else (some false))) else (if a0_1=2 then (if (a0_2==0&&(a0_3==0&&(a0_4==0&&(a0_5==0))))=true then (some (a0_7==0)) else (some false)) else (if a0_1=3 then ((aK.f a0_2).bind fun t125=>(some t125)) else (some false))))=some r:=by rw [if_neg (show ¬(false=true) by decide)] at H;exact H
   clear H
   have H:=H1
   clear H1
   replace H:=bN H
   obtain ⟨H,-,_,_⟩ | ⟨H,c14,_,_⟩:=H
   · replace H:=bnd H
     obtain ⟨t124,A15,H⟩:=H
     replace H:=iY H
     obtain ⟨rfl,H⟩ | ⟨rfl,H⟩:=H
     · replace H:=bN H
       obtain ⟨H,-,_,_⟩ | ⟨H,c17,_,_⟩:=H
       · cases H
         obtain ⟨_,_,_,_,_,_,_,_,_,_,_,_,_,_,_,_⟩:=cz8 BK120
         go_wp2_with (go_at_call 51;(with_reducible refine (bP.calls _ _ _ A15.out).mono ?_);rintro e w' ⟨rfl,⟨nd,rfl⟩⟩)
         go_ret
         exact ⟨dm,bv⟩
       cases H
       obtain ⟨_,_,_,_,_,_,_,_,_,_,_,_,_,_,_,_⟩:=cz8 BK120
       go_wp2_with (go_at_call 51;(with_reducible refine (bP.calls _ _ _ A15.out).mono ?_);rintro e w' ⟨rfl,⟨nd,rfl⟩⟩)
       go_ret
       exact ⟨dm,bv⟩
     cases H
     obtain ⟨_,_,_,_,_,_,_,_,_,_,_,_,_,_,_,_⟩:=cz8 BK120
     go_wp2_with (go_at_call 51;(with_reducible refine (bP.calls _ _ _ A15.out).mono ?_);rintro e w' ⟨rfl,⟨nd,rfl⟩⟩)
     go_ret
     exact ⟨dm,bv⟩
   replace H:=bN H
   obtain ⟨H,-,_,_⟩ | ⟨H,c21,_,_⟩:=H
   · replace H:=mZ H
     obtain ⟨H,c22⟩ | ⟨H,c22⟩:=H
     · have c22b0:(a0_2==0&&(a0_3==0&&(a0_4==0&&(a0_5==0))))=true:=c22
       (try (have c22b1:decide (a0_2=0&&(a0_3==0&&(a0_4==0&&(a0_5==0))))=true:=by simpa using c22))
       (try (have c22b2:(a0_2==0&&(a0_3==0&&(a0_4==0&&(a0_5==0))))=true:=by simpa using c22))
       clear c22
       cases H
       obtain ⟨_,_,_,_,_,_,_,_,_,_,_,_,_,_,_,_⟩:=cz8 BK120
       go_wp2
       go_ret
       exact ⟨dm,bv⟩
     have c22b0:(a0_2==0&&(a0_3==0&&(a0_4==0&&(a0_5==0))))=false:=by simpa using c22
     (try (have c22b1:decide (a0_2=0&&(a0_3==0&&(a0_4==0&&(a0_5==0))))=false:=by simpa using c22))
     (try (have c22b2:(a0_2==0&&(a0_3==0&&(a0_4==0&&(a0_5==0))))=false:=by simpa using c22))
     (try (have c22b3:¬(a0_2=0&&(a0_3==0&&(a0_4==0&&(a0_5==0)))):=by simpa using c22))
     clear c22
     cases H
     obtain ⟨_,_,_,_,_,_,_,_,_,_,_,_,_,_,_,_⟩:=cz8 BK120
     go_wp2
     go_ret
     exact ⟨dm,bv⟩
   replace H:=bN H
   obtain ⟨H,-,_,_⟩ | ⟨H,c25,_,_⟩:=H
   · replace H:=bnd H
     obtain ⟨t125,A26,H⟩:=H
     cases H
     obtain ⟨_,_,_,_,_,_,_,_,_,_,_,_,_,_,_,_⟩:=cz8 BK120
     go_wp2_with (go_at_call 50;(with_reducible refine (aK.calls _ _ _ A26.out).mono ?_);rintro e w' ⟨rfl,⟨nd,rfl⟩⟩)
     go_ret
     exact ⟨dm,bv⟩
   cases H
   obtain ⟨_,_,_,_,_,_,_,_,_,_,_,_,_,_,_,_⟩:=cz8 BK120
   go_wp2
   go_ret
   exact ⟨dm,bv⟩
def eB.f (l0_0:List (S45)) (a0_1:Int) (a0_2:Int) (a0_3:Int) (a0_4:Int) (a0_5:Int) (a0_6:Int) (a0_7:Int) (a1:Int) (a2:Int):Option (Bool):=if a0_1=1 then (if a0_1=3 then (if a0_7>a1 then (some (decide (a0_7<a2))) else (some false)) else (some true)) else (if a0_6≤a1 then (some false) else (if a0_6≥a2 then (some false) else (if a0_1=3 then (if a0_7>a1 then (some (decide (a0_7<a2))) else (some false)) else (some true))))
theorem eB.calls (A0_0:Option Addr) (c0_0:Nat) (l0_0:List (S45)) (a0_1:Int) (a0_2:Int) (a0_3:Int) (a0_4:Int) (a0_5:Int) (a0_6:Int) (a0_7:Int) (a1:Int) (a2:Int) (r:Bool) (w:World) (hr0_0:Kd.C k45 w A0_0 l0_0.length l0_0) (hc0_0:l0_0.length≤c0_0) (h:eB.f l0_0 a0_1 a0_2 a0_3 a0_4 a0_5 a0_6 a0_7 a1 a2=some r) :
 Calls Try.prog 91 #[.agg #[.slice A0_0 l0_0.length c0_0,.int .i64 a0_1,.int .u16 a0_2,.int .u8 a0_3,.int .u8 a0_4,.int .u32 a0_5,.int .i64 a0_6,.int .i64 a0_7],.int .i64 a1,.int .i64 a2] w fun e w'=>e = .returned (.bool r)∧Below w.heap.size w w':=by
 have hu47:=Try.underlying47
 have HR0_0:=aa.mk hr0_0
 have HC0_0:=aa.mk hc0_0
 clear hr0_0 hc0_0
 have HB:=aa.mk (Below.refl w.heap.size w)
 have H:(if a0_1=1 then (if a0_1=3 then (if a0_7>a1 then (some (decide (a0_7<a2))) else (some false)) else (some true)) else (if a0_6≤a1 then (some false) else (if a0_6≥a2 then (some false) else (if a0_1=3 then (if a0_7>a1 then (some (decide (a0_7<a2))) else (some false)) else (some true)))))=some r:=h
 clear h
 replace H:=bN H
 obtain ⟨H,-,_,_⟩ | ⟨H,c4,_,_⟩:=H
 · replace H:=bN H
   obtain ⟨H,-,_,_⟩ | ⟨H,c5,_,_⟩:=H
   · replace H:=qD H
     obtain ⟨H,-,_⟩ | ⟨H,-,_⟩:=H
     · cases H
       go_enter Try.func91,Try.ntmps91
       go_wp2_with ((with_reducible refine aW (N:=3) rfl ?_);refine dS (N:=3) (cs:=#[.slice A0_0 l0_0.length c0_0,.int .i64 a0_1,.int .u16 a0_2,.int .u8 a0_3,.int .u8 a0_4,.int .u32 a0_5,.int .i64 a0_6,.int .i64 a0_7]) (t:=47) ?_;intro gb126 hg w7 hbox hb;have GE126:=geN HB hg;have BK126:=aa.mk hbox;replace HB:=cK HB hb;clear hb hbox hg;obtain ⟨_,_,_,_,_,_,_,_,_,_,_,_,_,_,_,_⟩:=cz8 BK126)
       go_ret
       exact ⟨dm,bv⟩
     cases H
     go_enter Try.func91,Try.ntmps91
     go_wp2_with ((with_reducible refine aW (N:=3) rfl ?_);refine dS (N:=3) (cs:=#[.slice A0_0 l0_0.length c0_0,.int .i64 a0_1,.int .u16 a0_2,.int .u8 a0_3,.int .u8 a0_4,.int .u32 a0_5,.int .i64 a0_6,.int .i64 a0_7]) (t:=47) ?_;intro gb126 hg w9 hbox hb;have GE126:=geN HB hg;have BK126:=aa.mk hbox;replace HB:=cK HB hb;clear hb hbox hg;obtain ⟨_,_,_,_,_,_,_,_,_,_,_,_,_,_,_,_⟩:=cz8 BK126)
     go_ret
     exact ⟨dm,bv⟩
   cases H
   go_enter Try.func91,Try.ntmps91
   go_wp2_with ((with_reducible refine aW (N:=3) rfl ?_);refine dS (N:=3) (cs:=#[.slice A0_0 l0_0.length c0_0,.int .i64 a0_1,.int .u16 a0_2,.int .u8 a0_3,.int .u8 a0_4,.int .u32 a0_5,.int .i64 a0_6,.int .i64 a0_7]) (t:=47) ?_;intro gb126 hg w11 hbox hb;have GE126:=geN HB hg;have BK126:=aa.mk hbox;replace HB:=cK HB hb;clear hb hbox hg;obtain ⟨_,_,_,_,_,_,_,_,_,_,_,_,_,_,_,_⟩:=cz8 BK126)
   go_ret
   exact ⟨dm,bv⟩
 replace H:=fo H
 obtain ⟨H,-,_⟩ | ⟨H,-,_⟩:=H
 · cases H
   go_enter Try.func91,Try.ntmps91
   go_wp2_with ((with_reducible refine aW (N:=3) rfl ?_);refine dS (N:=3) (cs:=#[.slice A0_0 l0_0.length c0_0,.int .i64 a0_1,.int .u16 a0_2,.int .u8 a0_3,.int .u8 a0_4,.int .u32 a0_5,.int .i64 a0_6,.int .i64 a0_7]) (t:=47) ?_;intro gb126 hg w14 hbox hb;have GE126:=geN HB hg;have BK126:=aa.mk hbox;replace HB:=cK HB hb;clear hb hbox hg;obtain ⟨_,_,_,_,_,_,_,_,_,_,_,_,_,_,_,_⟩:=cz8 BK126)
   go_ret
   exact ⟨dm,bv⟩
 replace H:=sM H
 obtain ⟨H,-,_⟩ | ⟨H,-,_⟩:=H
 · cases H
   go_enter Try.func91,Try.ntmps91
   go_wp2_with ((with_reducible refine aW (N:=3) rfl ?_);refine dS (N:=3) (cs:=#[.slice A0_0 l0_0.length c0_0,.int .i64 a0_1,.int .u16 a0_2,.int .u8 a0_3,.int .u8 a0_4,.int .u32 a0_5,.int .i64 a0_6,.int .i64 a0_7]) (t:=47) ?_;intro gb126 hg w17 hbox hb;have GE126:=geN HB hg;have BK126:=aa.mk hbox;replace HB:=cK HB hb;clear hb hbox hg;obtain ⟨_,_,_,_,_,_,_,_,_,_,_,_,_,_,_,_⟩:=cz8 BK126)
   go_ret
   exact ⟨dm,bv⟩
 replace H:=bN H
 obtain ⟨H,-,_,_⟩ | ⟨H,c19,_,_⟩:=H
 · replace H:=qD H
   obtain ⟨H,-,_⟩ | ⟨H,-,_⟩:=H
   · cases H
     go_enter Try.func91,Try.ntmps91
     go_wp2_with ((with_reducible refine aW (N:=3) rfl ?_);refine dS (N:=3) (cs:=#[.slice A0_0 l0_0.length c0_0,.int .i64 a0_1,.int .u16 a0_2,.int .u8 a0_3,.int .u8 a0_4,.int .u32 a0_5,.int .i64 a0_6,.int .i64 a0_7]) (t:=47) ?_;intro gb126 hg w21 hbox hb;have GE126:=geN HB hg;have BK126:=aa.mk hbox;replace HB:=cK HB hb;clear hb hbox hg;obtain ⟨_,_,_,_,_,_,_,_,_,_,_,_,_,_,_,_⟩:=cz8 BK126)
     go_ret
     exact ⟨dm,bv⟩
   cases H
   go_enter Try.func91,Try.ntmps91
   go_wp2_with ((with_reducible refine aW (N:=3) rfl ?_);refine dS (N:=3) (cs:=#[.slice A0_0 l0_0.length c0_0,.int .i64 a0_1,.int .u16 a0_2,.int .u8 a0_3,.int .u8 a0_4,.int .u32 a0_5,.int .i64 a0_6,.int .i64 a0_7]) (t:=47) ?_;intro gb126 hg w23 hbox hb;have GE126:=geN HB hg;have BK126:=aa.mk hbox;replace HB:=cK HB hb;clear hb hbox hg;obtain ⟨_,_,_,_,_,_,_,_,_,_,_,_,_,_,_,_⟩:=cz8 BK126)
   go_ret
   exact ⟨dm,bv⟩
 cases H
 go_enter Try.func91,Try.ntmps91
 go_wp2_with ((with_reducible refine aW (N:=3) rfl ?_);refine dS (N:=3) (cs:=#[.slice A0_0 l0_0.length c0_0,.int .i64 a0_1,.int .u16 a0_2,.int .u8 a0_3,.int .u8 a0_4,.int .u32 a0_5,.int .i64 a0_6,.int .i64 a0_7]) (t:=47) ?_;intro gb126 hg w25 hbox hb;have GE126:=geN HB hg;have BK126:=aa.mk hbox;replace HB:=cK HB hb;clear hb hbox hg;obtain ⟨_,_,_,_,_,_,_,_,_,_,_,_,_,_,_,_⟩:=cz8 BK126)
 go_ret
 exact ⟨dm,bv⟩
attribute [local go_sem] dZ ek fF fG dQ dR d9 eu
def bV.l0:Nat→List (S47)→Int→Int→Option (Int × Int)
 | 0,_,_,_=>none
 | k+1,x0,x4,x5=>if x5<(x0.length:Int) then (if 0≤x5 then (if (((ah x0 x5).f0).length:Int)>x4 then (some (x5,151)) else ((bK.f k ((ah x0 x5).f0)).bind fun t130=>(if t130=true then ((bq.f k ((ah x0 x5).f0) ((ah x0 x5).f1) ((ah x0 x5).f2.f0) ((ah x0 x5).f2.f1) ((ah x0 x5).f2.f2) ((ah x0 x5).f2.f3) ((ah x0 x5).f3) ((ah x0 x5).f4)).bind fun t132=>(if t132=true then ((eB.f ((ah x0 x5).f0) ((ah x0 x5).f1) ((ah x0 x5).f2.f0) ((ah x0 x5).f2.f1) ((ah x0 x5).f2.f2) ((ah x0 x5).f2.f3) ((ah x0 x5).f3) ((ah x0 x5).f4) x5 (x0.length:Int)).bind fun t134=>(if t134=true then (bV.l0 k x0 (wrap64 (x4 - (((ah x0 x5).f0).length:Int))) (wrap64 (x5+1))) else (some (x5,154)))) else (some (x5,153)))) else (some (x5,152))))) else (none)) else (some (0,0))
def bV.f (k:Nat) (l0:List (S47)):Option (Int × Int):=if (l0.length:Int)=0 then (some (0,150)) else (if (l0.length:Int)>4096 then (some (4096,151)) else (bV.l0 k l0 4096 0))
theorem bV.calls (k:Nat) (A0:Option Addr) (c0:Nat) (l0:List (S47)) (r1:Int) (r2:Int) (w:World) (hr0:Kd.C k47 w A0 l0.length l0) (hc0:l0.length≤c0) (h:bV.f k l0=some (r1,r2)) :
 Calls Try.prog 54 #[.slice A0 l0.length c0] w fun e w'=>e = .returned (.tuple #[.int .i64 r1,.int .i64 r2])∧Below w.heap.size w w':=by
 have hu47:=Try.underlying47
 have HR0:=aa.mk hr0
 have HC0:=aa.mk hc0
 clear hr0 hc0
 have HB:=aa.mk (Below.refl w.heap.size w)
 have H:(if (l0.length:Int)=0 then (some (0,150)) else (if (l0.length:Int)>4096 then (some (4096,151)) else (bV.l0 k l0 4096 0)))=some (r1,r2):=h
 clear h
 replace H:=bN H
 obtain ⟨H,-,_,_⟩ | ⟨H,c2,_,_⟩:=H
 · obtain ⟨rfl,rfl⟩:=so2 H
   go_enter Try.func54,Try.ntmps54
   go_wp2
   go_ret2
   exact ⟨dm,bv⟩
 have c2b2:¬(l0=[]):=fun h_=>c2 (by rw [h_];rfl)
 replace H:=qD H
 obtain ⟨H,c3,_⟩ | ⟨H,c3,_⟩:=H
 · have c3b1:decide (4096<l0.length)=true:=decide_eq_true (by omega)
   clear c3
   obtain ⟨rfl,rfl⟩:=so2 H
   go_enter Try.func54,Try.ntmps54
   go_wp2
   go_ret2
   exact ⟨dm,bv⟩
 have c3b1:decide (4096<l0.length)=false:=decide_eq_false (by omega)
 clear c3
 replace H:=aa.mk H
 go_enter Try.func54,Try.ntmps54
 go_wp2
 go_loopg [4,5] k (fun kq v4 v5 w'=>∃ (x4_1:Int) (x5_1:Int),v4 = .int .i64 x4_1∧v5 = .int .i64 x5_1∧aa (bV.l0 kq l0 x4_1 x5_1=some (r1,r2))∧aa (kq≤k)∧aa (Below w.heap.size w w'))
 case atStart=>exact ⟨_,_,aY,aY,H,⟨Nat.le_refl _⟩,⟨bv⟩⟩
 case round=>
  clear H
  obtain ⟨x4_1,x5_1,rfl,rfl,HA,HK1,HB⟩:=hrel
  cases gk with
  | zero=>exact absurd HA.out (by simp [bV.l0])
  | succ k1=>
   have H:=HA.out
   clear HA
   simp only [bV.l0] at H
   replace H:=fo H
   obtain ⟨H,-,_⟩ | ⟨H,-,_⟩:=H
   · replace H:=fo H
     obtain ⟨H,-,_⟩ | ⟨H,c5,-⟩:=H
     · replace H:=qD H
       obtain ⟨H,-,_⟩ | ⟨H,-,_⟩:=H
       · obtain ⟨rfl,rfl⟩:=so2 H
         obtain ⟨ad127,rfl⟩:=iK HR0 x5_1 (by assumption) (by assumption)
         obtain ⟨A127_0,c127_0,_,_,_,_,_,_,_,_,HR127_0,HC127_0,_,_⟩:=fe HR0 HB x5_1 (by assumption) (by assumption)
         go_wp2
         go_ret2
         exact ⟨dm,bv⟩
       replace H:=bnd H
       obtain ⟨t130,A7,H⟩:=H
       replace H:=iY H
       obtain ⟨rfl,H⟩ | ⟨rfl,H⟩:=H
       · replace H:=bnd H
         obtain ⟨t132,A9,H⟩:=H
         replace H:=iY H
         obtain ⟨rfl,H⟩ | ⟨rfl,H⟩:=H
         · replace H:=bnd H
           obtain ⟨t134,A11,H⟩:=H
           replace H:=iY H
           obtain ⟨rfl,H⟩ | ⟨rfl,H⟩:=H
           · replace H:=aa.mk H
             obtain ⟨ad127,rfl⟩:=iK HR0 x5_1 (by assumption) (by assumption)
             obtain ⟨A127_0,c127_0,hx127_0,_,_,_,_,_,_,_,HR127_0,HC127_0,_,_⟩:=fe HR0 HB x5_1 (by assumption) (by assumption)
             obtain ⟨A128_0,c128_0,hx128_0,_,_,_,_,_,_,_,HR128_0,HC128_0,_,_⟩:=fe HR0 HB x5_1 (by assumption) (by assumption)
             have ea_:=Option.some.inj (hx127_0.symm.trans hx128_0)
             injection ea_ with ea_ en_ ec_
             subst ea_
             subst ec_
             clear en_
             obtain ⟨A129_0,c129_0,hx129_0,_,_,_,_,_,_,_,HR129_0,HC129_0,_,_⟩:=fe HR0 HB x5_1 (by assumption) (by assumption)
             have ea_:=Option.some.inj (hx127_0.symm.trans hx129_0)
             injection ea_ with ea_ en_ ec_
             subst ea_
             subst ec_
             clear en_
             go_wp2_with (first | (go_at_call 89;(with_reducible refine (bK.calls _ _ _ _ _ _ (sd1 HR129_0 HB) HC129_0.out A7.out).mono ?_);rintro e w13 ⟨rfl,hb⟩;replace HB:=cK HB hb;obtain ⟨A131_0,c131_0,_,_,_,_,_,_,_,_,HR131_0,HC131_0,_,_⟩:=fe HR0 HB x5_1 (by assumption) (by assumption)) | (go_at_call 90;(with_reducible refine (bq.calls _ _ _ _ _ _ _ _ _ _ _ _ _ (sd1 HR131_0 HB) HC131_0.out A9.out).mono ?_);rintro e w14 ⟨rfl,hb⟩;replace HB:=cK HB hb;obtain ⟨A133_0,c133_0,_,_,_,_,_,_,_,_,HR133_0,HC133_0,_,_⟩:=fe HR0 HB x5_1 (by assumption) (by assumption)) | (go_at_call 91;(with_reducible refine (eB.calls _ _ _ _ _ _ _ _ _ _ _ _ _ _ (sd1 HR133_0 HB) HC133_0.out A11.out).mono ?_);rintro e w15 ⟨rfl,hb⟩;replace HB:=cK HB hb))
             go_roundg k1
             case measure=>have:=HK1.out;omega
             case rel=>exact ⟨_,_,aY,aY,H,⟨by have:=HK1.out;omega⟩,⟨bv⟩⟩
           obtain ⟨rfl,rfl⟩:=so2 H
           obtain ⟨ad127,rfl⟩:=iK HR0 x5_1 (by assumption) (by assumption)
           obtain ⟨A127_0,c127_0,hx127_0,_,_,_,_,_,_,_,HR127_0,HC127_0,_,_⟩:=fe HR0 HB x5_1 (by assumption) (by assumption)
           obtain ⟨A128_0,c128_0,hx128_0,_,_,_,_,_,_,_,HR128_0,HC128_0,_,_⟩:=fe HR0 HB x5_1 (by assumption) (by assumption)
           have ea_:=Option.some.inj (hx127_0.symm.trans hx128_0)
           injection ea_ with ea_ en_ ec_
           subst ea_
           subst ec_
           clear en_
           obtain ⟨A129_0,c129_0,hx129_0,_,_,_,_,_,_,_,HR129_0,HC129_0,_,_⟩:=fe HR0 HB x5_1 (by assumption) (by assumption)
           have ea_:=Option.some.inj (hx127_0.symm.trans hx129_0)
           injection ea_ with ea_ en_ ec_
           subst ea_
           subst ec_
           clear en_
           go_wp2_with (first | (go_at_call 89;(with_reducible refine (bK.calls _ _ _ _ _ _ (sd1 HR129_0 HB) HC129_0.out A7.out).mono ?_);rintro e w16 ⟨rfl,hb⟩;replace HB:=cK HB hb;obtain ⟨A131_0,c131_0,_,_,_,_,_,_,_,_,HR131_0,HC131_0,_,_⟩:=fe HR0 HB x5_1 (by assumption) (by assumption)) | (go_at_call 90;(with_reducible refine (bq.calls _ _ _ _ _ _ _ _ _ _ _ _ _ (sd1 HR131_0 HB) HC131_0.out A9.out).mono ?_);rintro e w17 ⟨rfl,hb⟩;replace HB:=cK HB hb;obtain ⟨A133_0,c133_0,_,_,_,_,_,_,_,_,HR133_0,HC133_0,_,_⟩:=fe HR0 HB x5_1 (by assumption) (by assumption)) | (go_at_call 91;(with_reducible refine (eB.calls _ _ _ _ _ _ _ _ _ _ _ _ _ _ (sd1 HR133_0 HB) HC133_0.out A11.out).mono ?_);rintro e w18 ⟨rfl,hb⟩;replace HB:=cK HB hb))
           go_ret2
           exact ⟨dm,bv⟩
         obtain ⟨rfl,rfl⟩:=so2 H
         obtain ⟨ad127,rfl⟩:=iK HR0 x5_1 (by assumption) (by assumption)
         obtain ⟨A127_0,c127_0,hx127_0,_,_,_,_,_,_,_,HR127_0,HC127_0,_,_⟩:=fe HR0 HB x5_1 (by assumption) (by assumption)
         obtain ⟨A128_0,c128_0,hx128_0,_,_,_,_,_,_,_,HR128_0,HC128_0,_,_⟩:=fe HR0 HB x5_1 (by assumption) (by assumption)
         have ea_:=Option.some.inj (hx127_0.symm.trans hx128_0)
         injection ea_ with ea_ en_ ec_
         subst ea_
         subst ec_
         clear en_
         obtain ⟨A129_0,c129_0,hx129_0,_,_,_,_,_,_,_,HR129_0,HC129_0,_,_⟩:=fe HR0 HB x5_1 (by assumption) (by assumption)
         have ea_:=Option.some.inj (hx127_0.symm.trans hx129_0)
         injection ea_ with ea_ en_ ec_
         subst ea_
         subst ec_
         clear en_
         go_wp2_with (first | (go_at_call 89;(with_reducible refine (bK.calls _ _ _ _ _ _ (sd1 HR129_0 HB) HC129_0.out A7.out).mono ?_);rintro e w19 ⟨rfl,hb⟩;replace HB:=cK HB hb;obtain ⟨A131_0,c131_0,_,_,_,_,_,_,_,_,HR131_0,HC131_0,_,_⟩:=fe HR0 HB x5_1 (by assumption) (by assumption)) | (go_at_call 90;(with_reducible refine (bq.calls _ _ _ _ _ _ _ _ _ _ _ _ _ (sd1 HR131_0 HB) HC131_0.out A9.out).mono ?_);rintro e w20 ⟨rfl,hb⟩;replace HB:=cK HB hb))
         go_ret2
         exact ⟨dm,bv⟩
       obtain ⟨rfl,rfl⟩:=so2 H
       obtain ⟨ad127,rfl⟩:=iK HR0 x5_1 (by assumption) (by assumption)
       obtain ⟨A127_0,c127_0,hx127_0,_,_,_,_,_,_,_,HR127_0,HC127_0,_,_⟩:=fe HR0 HB x5_1 (by assumption) (by assumption)
       obtain ⟨A128_0,c128_0,hx128_0,_,_,_,_,_,_,_,HR128_0,HC128_0,_,_⟩:=fe HR0 HB x5_1 (by assumption) (by assumption)
       have ea_:=Option.some.inj (hx127_0.symm.trans hx128_0)
       injection ea_ with ea_ en_ ec_
       subst ea_
       subst ec_
       clear en_
       obtain ⟨A129_0,c129_0,hx129_0,_,_,_,_,_,_,_,HR129_0,HC129_0,_,_⟩:=fe HR0 HB x5_1 (by assumption) (by assumption)
       have ea_:=Option.some.inj (hx127_0.symm.trans hx129_0)
       injection ea_ with ea_ en_ ec_
       subst ea_
       subst ec_
       clear en_
       go_wp2_with (go_at_call 89;(with_reducible refine (bK.calls _ _ _ _ _ _ (sd1 HR129_0 HB) HC129_0.out A7.out).mono ?_);rintro e w21 ⟨rfl,hb⟩;replace HB:=cK HB hb)
       go_ret2
       exact ⟨dm,bv⟩
     exact absurd H (by simp)
   obtain ⟨rfl,rfl⟩:=so2 H
   go_wp2
   go_ret2
   exact ⟨dm,bv⟩
def dV.f (k:Nat) (l0:List (S47)):Option (Bool):=(bV.f k l0).bind fun bt135=>(some (bt135.2==0))
theorem dV.calls (k:Nat) (A0:Option Addr) (c0:Nat) (l0:List (S47)) (r:Bool) (w:World) (hr0:Kd.C k47 w A0 l0.length l0) (hc0:l0.length≤c0) (h:dV.f k l0=some r) :
 Calls Try.prog 28 #[.slice A0 l0.length c0] w fun e w'=>e = .returned (.bool r)∧Below w.heap.size w w':=by
 have HR0:=aa.mk hr0
 have HC0:=aa.mk hc0
 clear hr0 hc0
 have HB:=aa.mk (Below.refl w.heap.size w)
 have H:((bV.f k l0).bind fun bt135=>(some (bt135.2==0)))=some r:=h
 clear h
 replace H:=Option.bind_eq_some_iff.mp H
 obtain ⟨⟨t135,t136⟩,A20,H⟩:=H
 replace H:(some (t136==0))=some r:=H
 have A2:=aa.mk A20
 clear A20
 cases H
 go_enter Try.func28,Try.ntmps28
 go_wp2_with (go_at_call 54;(with_reducible refine (bV.calls _ _ _ _ _ _ _ ?side1 HC0.out A2.out).mono ?_);(case side1=>repeat (first | exact HR0.out | (with_reducible refine Kd.iT ?_ _) | (with_reducible refine Kd.oG ?_ _) | (with_reducible refine Kd.q8 ?_)));rintro e w3 ⟨rfl,hb⟩;replace HB:=cK HB hb)
 go_ret
 exact ⟨dm,bv⟩
def dX.f (l0:List (S45)):Option ((List (S45))):=(some (([]:List (S45)):List (S45))).bind fun y139=>(if y139.length+l0.length<17592186044416 then (some (y139++l0)) else (none))
theorem dX.calls (A0:Option Addr) (c0:Nat) (l0:List (S45)) (r:List (S45)) (w:World) (hr0:Kd.C k45 w A0 l0.length l0) (hc0:l0.length≤c0) (h:dX.f l0=some r) :
 Calls Try.prog 22 #[.slice A0 l0.length c0] w fun e w'=>∃ v0_:Value,e = .returned (v0_)∧Kd.R k45 45 w' w.heap.size (fun _=>True) v0_ r∧Below w.heap.size w w':=by
 have HR0:=aa.mk hr0
 have HC0:=aa.mk hc0
 clear hr0 hc0
 have HB:=aa.mk (Below.refl w.heap.size w)
 have H:((some (([]:List (S45)):List (S45))).bind fun y139=>(if y139.length+l0.length<17592186044416 then (some (y139++l0)) else (none)))=some r:=h
 clear h
 obtain ⟨y139,hy139⟩:∃ y_:List (S45),y_=(([]:List (S45))):=⟨_,rfl⟩
 replace H:(if y139.length+l0.length<17592186044416 then (some (y139++l0)) else (none))=some r:=by first | (rw [hy139];with_reducible exact H) | (have H2_:=(Option.bind_some _ _).symm.trans H;rw [hy139];with_reducible exact H2_) | (have H2_:=(Option.bind_some _ _).symm.trans H;with_reducible exact H2_) | with_reducible exact H | (rw [hy139];exact H) | exact H
 have Ny139:=aa.mk hy139
 clear hy139
 replace H:=mZ H
 obtain ⟨H,c2⟩ | ⟨H,c2⟩:=H
 · have LMc2:=aa.mk c2
   clear c2
   obtain ⟨y142,hy142⟩:∃ y_:List (S45),y_=(y139++l0):=⟨_,rfl⟩
   replace H:(some y142)=some r:=by first | (rw [hy142];with_reducible exact H) | (have H2_:=(Option.bind_some _ _).symm.trans H;rw [hy142];with_reducible exact H2_) | (have H2_:=(Option.bind_some _ _).symm.trans H;with_reducible exact H2_) | with_reducible exact H | (rw [hy142];exact H) | exact H
   have Ny142:=aa.mk hy142
   clear hy142
   obtain rfl:=Option.some.inj H
   go_enter Try.func22,Try.ntmps22
   go_wp2_with (first | ((with_reducible refine aW (N:=3) rfl ?_);refine Kd.vO k45 _ 45 ?hg (N:=3) ?hd (xs:=([]:List (S45))) (inner:=[]) (ok:=fun _=>True) (okp:=fun _=>True) ?hr ?hp (fun _ hk=>hk) trivial (Below.refl _ _) (Nat.le_refl _) (by simp) ?_;(case hd=>rfl);(case hg=>rfl);(case hr=>first | (go_simp;done) | (go_simp;rfl));(case hp=>exact (fZ.none _ _));intro v140 w3 ho4 hb hg_ hnew_;clear hg_ hnew_;(first | rw [←Ny139.out] at ho4 | (simp only [Int.reduceToNat] at ho4;rw [←Ny139.out] at ho4));have HO141:=aa.mk (Kd.jV ho4 (gF bv));replace HB:=cK HB hb;clear hb ho4) | ((with_reducible refine mH (b := .append) (xs:=#[.tmp 3,.tmp 4]) rfl ?_);at_builtin;refine Kd.lZ k45 (w0:=w) w.heap.size rfl (.tmp 3) (.tmp 4) 26 45 (.agg #[(.int .u16 0),(.int .u8 0),(.int .u8 0),(.int .u32 0)]) 8 rfl Try.underlying26 l9 rfl (by decide) (by omega) v140 y139 l0 _ _ _ (fun _=>True) (fun _=>False) rfl rfl ?aO ?aR (fun _ _ h=>h) (fun _ h=>h.elim) ?aF ?aB ?aS ?aL ?_;(case aR=>repeat (first | exact (Kd.dI HR0.out HB.out) | (with_reducible refine Kd.iT ?_ _) | (with_reducible refine Kd.oG ?_ _) | (with_reducible refine Kd.q8 ?_)));(case aB=>exact bv);(case aF=>exact (fun _ _=>trivial));(case aO=>exact (by (with_reducible repeat (first | apply Kd.fu | apply Kd.fw | apply Kd.gD));exact HO141.out));(case aS=>exact (gF bv));(case aL=>have:=LMc2.out;omega);intro v143 w5 ho hb hg hat;rw [←Ny142.out] at ho;have HO144:=aa.mk (ho);replace HB:=aa.mk hb;clear HO141;clear ho hb hg hat))
   go_ret
   exact ⟨_,dm,by (with_reducible repeat (first | apply Kd.fu | apply Kd.fw | apply Kd.gD));exact HO144.out,bv⟩
 exact absurd H (by simp)
def gU.f (l0_0:List (S45)) (a0_1:Int) (a0_2:Int) (a0_3:Int) (a0_4:Int) (a0_5:Int) (a0_6:Int) (a0_7:Int):Option (List Int):=if a0_1=2 then (some (([a0_6]:List Int))) else (if a0_1=3 then (some (([a0_6,a0_7]:List Int))) else (some ([]:List Int)))
theorem gU.calls (A0_0:Option Addr) (c0_0:Nat) (l0_0:List (S45)) (a0_1:Int) (a0_2:Int) (a0_3:Int) (a0_4:Int) (a0_5:Int) (a0_6:Int) (a0_7:Int) (r:List Int) (w:World) (hr0_0:Kd.C k45 w A0_0 l0_0.length l0_0) (hc0_0:l0_0.length≤c0_0) (h:gU.f l0_0 a0_1 a0_2 a0_3 a0_4 a0_5 a0_6 a0_7=some r) :
 Calls Try.prog 76 #[.agg #[.slice A0_0 l0_0.length c0_0,.int .i64 a0_1,.int .u16 a0_2,.int .u8 a0_3,.int .u8 a0_4,.int .u32 a0_5,.int .i64 a0_6,.int .i64 a0_7]] w fun e w'=>∃ v0_:Value,e = .returned (v0_)∧Kd.R (Kd.int .i64) 3 w' w.heap.size (fun _=>True) v0_ r∧Below w.heap.size w w':=by
 have hu47:=Try.underlying47
 have HR0_0:=aa.mk hr0_0
 have HC0_0:=aa.mk hc0_0
 clear hr0_0 hc0_0
 have HB:=aa.mk (Below.refl w.heap.size w)
 have H:(if a0_1=2 then (some (([a0_6]:List Int))) else (if a0_1=3 then (some (([a0_6,a0_7]:List Int))) else (some ([]:List Int))))=some r:=h
 clear h
 replace H:=bN H
 obtain ⟨H,-,_,_⟩ | ⟨H,c2,_,_⟩:=H
 · obtain ⟨y176,hy176⟩:∃ y_:List Int,y_=(([a0_6]:List Int)):=⟨_,rfl⟩
   replace H:(some y176)=some r:=by first | (rw [hy176];with_reducible exact H) | (have H2_:=(Option.bind_some _ _).symm.trans H;rw [hy176];with_reducible exact H2_) | (have H2_:=(Option.bind_some _ _).symm.trans H;with_reducible exact H2_) | with_reducible exact H | (rw [hy176];exact H) | exact H
   have Ny176:=aa.mk hy176
   clear hy176
   obtain rfl:=Option.some.inj H
   go_enter Try.func76,Try.ntmps76
   go_wp2_with (first | ((with_reducible refine aW (N:=1) rfl ?_);refine dS (N:=1) (cs:=#[.slice A0_0 l0_0.length c0_0,.int .i64 a0_1,.int .u16 a0_2,.int .u8 a0_3,.int .u8 a0_4,.int .u32 a0_5,.int .i64 a0_6,.int .i64 a0_7]) (t:=47) ?_;intro gb175 hg w3 hbox hb;have GE175:=geN HB hg;have BK175:=aa.mk hbox;replace HB:=cK HB hb;clear hb hbox hg;obtain ⟨_,_,_,_,_,_,_,_,_,_,_,_,_,_,_,_⟩:=cz8 BK175) | ((with_reducible refine aW (N:=9) rfl ?_);refine Kd.vO (Kd.int .i64) _ 3 ?hg (N:=9) ?hd (xs:=([a0_6]:List Int)) (inner:=[.int .i64 a0_6]) (ok:=fun _=>True) (okp:=fun _=>True) ?hr ?hp (fun _ hk=>hk) trivial (Below.refl _ _) (Nat.le_refl _) (by simp) ?_;(case hd=>rfl);(case hg=>rfl);(case hr=>first | (go_simp;done) | (go_simp;rfl));(case hp=>exact (fZ.one (show Kd.M (Kd.int .i64) _ _ _ a0_6 [.int .i64 a0_6] from rfl) (fZ.none _ _)));intro v177 w5 ho6 hb hg_ hnew_;clear hg_ hnew_;(first | rw [←Ny176.out] at ho6 | (simp only [Int.reduceToNat] at ho6;rw [←Ny176.out] at ho6));have HO178:=aa.mk (Kd.jV ho6 (gF bv));replace BK175:=lW BK175 hb;replace HB:=cK HB hb;clear hb ho6))
   go_ret
   exact ⟨_,dm,by (with_reducible repeat (first | apply Kd.fu | apply Kd.fw | apply Kd.gD));exact HO178.out,bv⟩
 replace H:=bN H
 obtain ⟨H,-,_,_⟩ | ⟨H,c7,_,_⟩:=H
 · obtain ⟨y179,hy179⟩:∃ y_:List Int,y_=(([a0_6,a0_7]:List Int)):=⟨_,rfl⟩
   replace H:(some y179)=some r:=by first | (rw [hy179];with_reducible exact H) | (have H2_:=(Option.bind_some _ _).symm.trans H;rw [hy179];with_reducible exact H2_) | (have H2_:=(Option.bind_some _ _).symm.trans H;with_reducible exact H2_) | with_reducible exact H | (rw [hy179];exact H) | exact H
   have Ny179:=aa.mk hy179
   clear hy179
   obtain rfl:=Option.some.inj H
   go_enter Try.func76,Try.ntmps76
   go_wp2_with (first | ((with_reducible refine aW (N:=1) rfl ?_);refine dS (N:=1) (cs:=#[.slice A0_0 l0_0.length c0_0,.int .i64 a0_1,.int .u16 a0_2,.int .u8 a0_3,.int .u8 a0_4,.int .u32 a0_5,.int .i64 a0_6,.int .i64 a0_7]) (t:=47) ?_;intro gb175 hg w8 hbox hb;have GE175:=geN HB hg;have BK175:=aa.mk hbox;replace HB:=cK HB hb;clear hb hbox hg;obtain ⟨_,_,_,_,_,_,_,_,_,_,_,_,_,_,_,_⟩:=cz8 BK175) | ((with_reducible refine aW (N:=16) rfl ?_);refine Kd.vO (Kd.int .i64) _ 3 ?hg (N:=16) ?hd (xs:=([a0_6,a0_7]:List Int)) (inner:=[.int .i64 a0_6,.int .i64 a0_7]) (ok:=fun _=>True) (okp:=fun _=>True) ?hr ?hp (fun _ hk=>hk) trivial (Below.refl _ _) (Nat.le_refl _) (by simp) ?_;(case hd=>rfl);(case hg=>rfl);(case hr=>first | (go_simp;done) | (go_simp;rfl));(case hp=>exact (fZ.one (show Kd.M (Kd.int .i64) _ _ _ a0_6 [.int .i64 a0_6] from rfl) (fZ.one (show Kd.M (Kd.int .i64) _ _ _ a0_7 [.int .i64 a0_7] from rfl) (fZ.none _ _))));intro v180 w10 ho11 hb hg_ hnew_;clear hg_ hnew_;(first | rw [←Ny179.out] at ho11 | (simp only [Int.reduceToNat] at ho11;rw [←Ny179.out] at ho11));have HO181:=aa.mk (Kd.jV ho11 (gF bv));replace BK175:=lW BK175 hb;replace HB:=cK HB hb;clear hb ho11))
   go_ret
   exact ⟨_,dm,by (with_reducible repeat (first | apply Kd.fu | apply Kd.fw | apply Kd.gD));exact HO181.out,bv⟩
 obtain rfl:=Option.some.inj H
 go_enter Try.func76,Try.ntmps76
 go_wp2_with ((with_reducible refine aW (N:=1) rfl ?_);refine dS (N:=1) (cs:=#[.slice A0_0 l0_0.length c0_0,.int .i64 a0_1,.int .u16 a0_2,.int .u8 a0_3,.int .u8 a0_4,.int .u32 a0_5,.int .i64 a0_6,.int .i64 a0_7]) (t:=47) ?_;intro gb175 hg w12 hbox hb;have GE175:=geN HB hg;have BK175:=aa.mk hbox;replace HB:=cK HB hb;clear hb hbox hg;obtain ⟨_,_,_,_,_,_,_,_,_,_,_,_,_,_,_,_⟩:=cz8 BK175)
 go_ret
 exact ⟨_,dm,by first | exact Kd.kK _ _ _ _ _ | exact Kd.N_nil _ _ _ _ _ | exact Kd.V_nil _ _ _ _ _ | exact Kd.Q_nil _ _ _ _ _ | exact Kd.S_nil _ _ _ _ _,bv⟩
attribute [local go_sem] dZ ek fF fG dQ dR d9 eu
def cz.j0:Nat→Int→Bool→Option (Bool)
 | 0,_,_=>none
 | k+1,x3,x4=>if x4=true then (some true) else (if x3=29 then (some true) else (if x3=45 then (some true) else (if x3=61 then (some true) else (if x3=77 then (some true) else (some false)))))
def cz.f (k:Nat) (a0:Int):Option (Bool):=if a0=21 then (cz.j0 k a0 (a0==21)) else (if a0=37 then (cz.j0 k a0 (a0==37)) else (if a0=53 then (cz.j0 k a0 (a0==53)) else (cz.j0 k a0 (a0==69))))
theorem cz.calls (k:Nat) (a0:Int) (r:Bool) (w:World) (h:cz.f k a0=some r) :
 Calls Try.prog 151 #[.int .u16 a0] w fun e w'=>e = .returned (.bool r)∧bZ w w':=by
 have H:(if a0=21 then (cz.j0 k a0 (a0==21)) else (if a0=37 then (cz.j0 k a0 (a0==37)) else (if a0=53 then (cz.j0 k a0 (a0==53)) else (cz.j0 k a0 (a0==69)))))=some r:=h
 clear h
 have HC2:=aa.mk H
 clear H
 go_enter Try.func151,Try.ntmps151
 go_upto_if 4 with (fail)
 go_cut [4] (fun v4 wc=>∃ (kq:Nat) (x4_1:Bool),v4 = .bool x4_1∧aa (cz.j0 kq a0 x4_1=some r)∧aa (kq≤k)∧bZ w wc)
 case first=>
  have H:=HC2.out
  clear HC2
  replace H:=bN H
  obtain ⟨H,-,c3b0,_⟩ | ⟨H,c3,c3b0,_⟩:=H
  · (first | rw [c3b0] | (simp only [dD,dE];rw [c3b0]) | skip)
    replace H:=aa.mk H
    go_wp2
    go_meet
    case rel=>exact ⟨_,_,aY,H,⟨le0⟩,bC⟩
  (first | rw [c3b0] | (simp only [dD,dE];rw [c3b0]) | skip)
  iterate 2
   replace H:=bN H
   obtain ⟨H,-,_,_⟩ | ⟨H,c4,_,_⟩:=H
   · replace H:=aa.mk H
     go_wp2
     go_meet
     case rel=>exact ⟨_,_,aY,H,⟨le0⟩,bC⟩
  replace H:=aa.mk H
  go_wp2
  go_meet
  case rel=>exact ⟨_,_,aY,H,⟨le0⟩,bC⟩
 case rest=>
  clear HC2
  obtain ⟨kq,x4_1,rfl,HA,HJ1,⟨mc1,rfl⟩⟩:=hcut
  cases kq with
  | zero=>exact absurd HA.out (by simp [cz.j0])
  | succ kj1=>
   have H:=HA.out
   clear HA
   simp only [cz.j0] at H
   by_cases c6:x4_1=true
   · subst c6
     have H1:(some true)=some r:=by rw [if_pos rfl] at H;exact H
     clear H
     have H:=H1
     clear H1
     cases H
     go_wp2
     go_ret
     exact ⟨aY,bC⟩
   replace c6:=Bool.eq_false_iff.mpr c6
   subst c6
   have H1:(if a0=29 then (some true) else (if a0=45 then (some true) else (if a0=61 then (some true) else (if a0=77 then (some true) else (some false)))))=some r:=by rw [if_neg (show ¬(false=true) by decide)] at H;exact H
   clear H
   have H:=H1
   clear H1
   iterate 2
    replace H:=bN H
    obtain ⟨H,-,_,_⟩ | ⟨H,c7,_,_⟩:=H
    · cases H
      go_wp2
      go_ret
      exact ⟨aY,bC⟩
   iterate 2
    replace H:=bN H
    obtain ⟨H,-,_,_⟩ | ⟨H,c9,_,_⟩:=H
    · cases H
      go_wp2
      go_ret
      exact ⟨aY,bC⟩
   cases H
   go_wp2
   go_ret
   exact ⟨aY,bC⟩
mutual
def bf.j0:Nat→Int→Bool→Option (Bool)
 | 0,_,_=>none
 | k+1,x3,x4=>if x4=true then (some true) else (if x3=12 then (bf.j1 k x3 (x3==12)) else (if x3=28 then (bf.j1 k x3 (x3==28)) else (if x3=44 then (bf.j1 k x3 (x3==44)) else (if x3=60 then (bf.j1 k x3 (x3==60)) else (if x3=76 then (bf.j1 k x3 (x3==76)) else (if x3=92 then (bf.j1 k x3 (x3==92)) else (if x3=108 then (bf.j1 k x3 (x3==108)) else (if x3=124 then (bf.j1 k x3 (x3==124)) else (if x3=156 then (bf.j1 k x3 (x3==156)) else (bf.j1 k x3 (x3==172)))))))))))
def bf.j1:Nat→Int→Bool→Option (Bool)
 | 0,_,_=>none
 | k+1,x3,x15=>if x15=true then (some true) else (if x3=132 then (some true) else (some false))
end
def bf.f (k:Nat) (a0:Int):Option (Bool):=if a0=4 then (bf.j0 k a0 (a0==4)) else (if a0=20 then (bf.j0 k a0 (a0==20)) else (if a0=36 then (bf.j0 k a0 (a0==36)) else (if a0=52 then (bf.j0 k a0 (a0==52)) else (if a0=68 then (bf.j0 k a0 (a0==68)) else (if a0=84 then (bf.j0 k a0 (a0==84)) else (if a0=100 then (bf.j0 k a0 (a0==100)) else (if a0=116 then (bf.j0 k a0 (a0==116)) else (if a0=148 then (bf.j0 k a0 (a0==148)) else (bf.j0 k a0 (a0==164))))))))))
theorem bf.calls (k:Nat) (a0:Int) (r:Bool) (w:World) (h:bf.f k a0=some r) :
 Calls Try.prog 163 #[.int .u16 a0] w fun e w'=>e = .returned (.bool r)∧bZ w w':=by
 have H:(if a0=4 then (bf.j0 k a0 (a0==4)) else (if a0=20 then (bf.j0 k a0 (a0==20)) else (if a0=36 then (bf.j0 k a0 (a0==36)) else (if a0=52 then (bf.j0 k a0 (a0==52)) else (if a0=68 then (bf.j0 k a0 (a0==68)) else (if a0=84 then (bf.j0 k a0 (a0==84)) else (if a0=100 then (bf.j0 k a0 (a0==100)) else (if a0=116 then (bf.j0 k a0 (a0==116)) else (if a0=148 then (bf.j0 k a0 (a0==148)) else (bf.j0 k a0 (a0==164)))))))))))=some r:=h
 clear h
 have HC2:=aa.mk H
 clear H
 go_enter Try.func163,Try.ntmps163
 go_upto_if 4 with (fail)
 go_cut [4] (fun v4 wc=>∃ (kq:Nat) (x4_1:Bool),v4 = .bool x4_1∧aa (bf.j0 kq a0 x4_1=some r)∧aa (kq≤k)∧bZ w wc)
 case first=>
  have H:=HC2.out
  clear HC2
  replace H:=bN H
  obtain ⟨H,-,c3b0,_⟩ | ⟨H,c3,c3b0,_⟩:=H
  · (first | rw [c3b0] | (simp only [dD,dE];rw [c3b0]) | skip)
    replace H:=aa.mk H
    go_wp2
    go_meet
    case rel=>exact ⟨_,_,aY,H,⟨le0⟩,bC⟩
  (first | rw [c3b0] | (simp only [dD,dE];rw [c3b0]) | skip)
  iterate 2
   replace H:=bN H
   obtain ⟨H,-,_,_⟩ | ⟨H,c4,_,_⟩:=H
   · replace H:=aa.mk H
     go_wp2
     go_meet
     case rel=>exact ⟨_,_,aY,H,⟨le0⟩,bC⟩
  iterate 2
   replace H:=bN H
   obtain ⟨H,-,_,_⟩ | ⟨H,c6,_,_⟩:=H
   · replace H:=aa.mk H
     go_wp2
     go_meet
     case rel=>exact ⟨_,_,aY,H,⟨le0⟩,bC⟩
  iterate 2
   replace H:=bN H
   obtain ⟨H,-,_,_⟩ | ⟨H,c8,_,_⟩:=H
   · replace H:=aa.mk H
     go_wp2
     go_meet
     case rel=>exact ⟨_,_,aY,H,⟨le0⟩,bC⟩
  iterate 2
   replace H:=bN H
   obtain ⟨H,-,_,_⟩ | ⟨H,c10,_,_⟩:=H
   · replace H:=aa.mk H
     go_wp2
     go_meet
     case rel=>exact ⟨_,_,aY,H,⟨le0⟩,bC⟩
  replace H:=aa.mk H
  go_wp2
  go_meet
  case rel=>exact ⟨_,_,aY,H,⟨le0⟩,bC⟩
 case rest=>
  clear HC2
  obtain ⟨kq,x4_1,rfl,HA,HJ1,⟨mc1,rfl⟩⟩:=hcut
  cases kq with
  | zero=>exact absurd HA.out (by simp [bf.j0])
  | succ kj1=>
   have H:=HA.out
   clear HA
   simp only [bf.j0] at H
   by_cases c12:x4_1=true
   · subst c12
     have H1:(some true)=some r:=by rw [if_pos rfl] at H;exact H
     clear H
     have H:=H1
     clear H1
     cases H
     go_wp2
     go_ret
     exact ⟨aY,bC⟩
   replace c12:=Bool.eq_false_iff.mpr c12
   subst c12
   have H1:(if a0=12 then (bf.j1 kj1 a0 (a0==12)) else (if a0=28 then (bf.j1 kj1 a0 (a0==28)) else (if a0=44 then (bf.j1 kj1 a0 (a0==44)) else (if a0=60 then (bf.j1 kj1 a0 (a0==60)) else (if a0=76 then (bf.j1 kj1 a0 (a0==76)) else (if a0=92 then (bf.j1 kj1 a0 (a0==92)) else (if a0=108 then (bf.j1 kj1 a0 (a0==108)) else (if a0=124 then (bf.j1 kj1 a0 (a0==124)) else (if a0=156 then (bf.j1 kj1 a0 (a0==156)) else (bf.j1 kj1 a0 (a0==172)))))))))))=some r:=by rw [if_neg (show ¬(false=true) by decide)] at H;exact H
   clear H
   have H:=H1
   clear H1
   have HC13:=aa.mk H
   clear H
   go_upto_if 15 with (fail)
   go_cut [15] (fun v15 wc=>∃ (kq:Nat) (x15_12:Bool),v15 = .bool x15_12∧aa (bf.j1 kq a0 x15_12=some r)∧aa (kq≤kj1)∧bZ w wc)
   case first=>
    have H:=HC13.out
    clear HC13
    replace H:=bN H
    obtain ⟨H,-,c14b0,_⟩ | ⟨H,c14,c14b0,_⟩:=H
    · (first | rw [c14b0] | (simp only [dD,dE];rw [c14b0]) | skip)
      replace H:=aa.mk H
      go_wp2
      go_meet
      case rel=>exact ⟨_,_,aY,H,⟨by have:=HJ1.out;first | omega | exact Nat.le_refl _⟩,bC⟩
    (first | rw [c14b0] | (simp only [dD,dE];rw [c14b0]) | skip)
    iterate 2
     replace H:=bN H
     obtain ⟨H,-,_,_⟩ | ⟨H,c15,_,_⟩:=H
     · replace H:=aa.mk H
       go_wp2
       go_meet
       case rel=>exact ⟨_,_,aY,H,⟨by have:=HJ1.out;first | omega | exact Nat.le_refl _⟩,bC⟩
    iterate 2
     replace H:=bN H
     obtain ⟨H,-,_,_⟩ | ⟨H,c17,_,_⟩:=H
     · replace H:=aa.mk H
       go_wp2
       go_meet
       case rel=>exact ⟨_,_,aY,H,⟨by have:=HJ1.out;first | omega | exact Nat.le_refl _⟩,bC⟩
    iterate 2
     replace H:=bN H
     obtain ⟨H,-,_,_⟩ | ⟨H,c19,_,_⟩:=H
     · replace H:=aa.mk H
       go_wp2
       go_meet
       case rel=>exact ⟨_,_,aY,H,⟨by have:=HJ1.out;first | omega | exact Nat.le_refl _⟩,bC⟩
    iterate 2
     replace H:=bN H
     obtain ⟨H,-,_,_⟩ | ⟨H,c21,_,_⟩:=H
     · replace H:=aa.mk H
       go_wp2
       go_meet
       case rel=>exact ⟨_,_,aY,H,⟨by have:=HJ1.out;first | omega | exact Nat.le_refl _⟩,bC⟩
    replace H:=aa.mk H
    go_wp2
    go_meet
    case rel=>exact ⟨_,_,aY,H,⟨by have:=HJ1.out;first | omega | exact Nat.le_refl _⟩,bC⟩
   case rest=>
    clear HC13
    obtain ⟨kq,x15_12,rfl,HA,HJ12,⟨mc12,rfl⟩⟩:=hcut
    cases kq with
    | zero=>exact absurd HA.out (by simp [bf.j1])
    | succ kj12=>
     have H:=HA.out
     clear HA
     simp only [bf.j1] at H
     by_cases c23:x15_12=true
     · subst c23
       have H1:(some true)=some r:=by rw [if_pos rfl] at H;exact H
       clear H
       have H:=H1
       clear H1
       cases H
       go_wp2
       go_ret
       exact ⟨aY,bC⟩
     replace c23:=Bool.eq_false_iff.mpr c23
     subst c23
     have H1:(if a0=132 then (some true) else (some false))=some r:=by rw [if_neg (show ¬(false=true) by decide)] at H;exact H
     clear H
     have H:=H1
     clear H1
     replace H:=bN H
     obtain ⟨H,-,_,_⟩ | ⟨H,c24,_,_⟩:=H
     · cases H
       go_wp2
       go_ret
       exact ⟨aY,bC⟩
     cases H
     go_wp2
     go_ret
     exact ⟨aY,bC⟩
attribute [local go_sem] dZ ek fF fG dQ dR d9 eu
mutual
def aJ.j0:Nat→Int→Int→Bool→Option (Bool)
 | 0,_,_,_=>none
 | k+1,x0,x3,x4=>if x4=true then (some true) else (if x3=1 then (aJ.j1 k x0 x3 (x3==1)) else (if x3=97 then (aJ.j1 k x0 x3 (x3==97)) else (if x3=129 then (aJ.j1 k x0 x3 (x3==129)) else (aJ.j1 k x0 x3 (x3==177)))))
def aJ.j1:Nat→Int→Int→Bool→Option (Bool)
 | 0,_,_,_=>none
 | k+1,x0,x3,x14=>if x14=true then (some true) else (if x3=2 then (aJ.j2 k x0 (x3==2)) else (if x3=3 then (aJ.j2 k x0 (x3==3)) else (if x3=6 then (aJ.j2 k x0 (x3==6)) else (if x3=22 then (aJ.j2 k x0 (x3==22)) else (if x3=7 then (aJ.j2 k x0 (x3==7)) else (if x3=135 then (aJ.j2 k x0 (x3==135)) else (aJ.j2 k x0 (x3==5))))))))
def aJ.j2:Nat→Int→Bool→Option (Bool)
 | 0,_,_=>none
 | k+1,x0,x19=>if x19=true then (some true) else ((bf.f k x0).bind fun t182=>(if t182=true then (some true) else ((cz.f k x0).bind fun t183=>(some t183))))
end
def aJ.f (k:Nat) (a0:Int):Option (Bool):=if a0=0 then (aJ.j0 k a0 a0 (a0==0)) else (if a0=32 then (aJ.j0 k a0 a0 (a0==32)) else (if a0=40 then (aJ.j0 k a0 a0 (a0==40)) else (if a0=48 then (aJ.j0 k a0 a0 (a0==48)) else (if a0=64 then (aJ.j0 k a0 a0 (a0==64)) else (if a0=72 then (aJ.j0 k a0 a0 (a0==72)) else (if a0=80 then (aJ.j0 k a0 a0 (a0==80)) else (if a0=96 then (aJ.j0 k a0 a0 (a0==96)) else (aJ.j0 k a0 a0 (a0==128)))))))))
theorem aJ.calls (k:Nat) (a0:Int) (r:Bool) (w:World) (h:aJ.f k a0=some r) :
 Calls Try.prog 143 #[.int .u16 a0] w fun e w'=>e = .returned (.bool r)∧bZ w w':=by
 have H:(if a0=0 then (aJ.j0 k a0 a0 (a0==0)) else (if a0=32 then (aJ.j0 k a0 a0 (a0==32)) else (if a0=40 then (aJ.j0 k a0 a0 (a0==40)) else (if a0=48 then (aJ.j0 k a0 a0 (a0==48)) else (if a0=64 then (aJ.j0 k a0 a0 (a0==64)) else (if a0=72 then (aJ.j0 k a0 a0 (a0==72)) else (if a0=80 then (aJ.j0 k a0 a0 (a0==80)) else (if a0=96 then (aJ.j0 k a0 a0 (a0==96)) else (aJ.j0 k a0 a0 (a0==128))))))))))=some r:=h
 clear h
 have HC2:=aa.mk H
 clear H
 go_enter Try.func143,Try.ntmps143
 go_upto_if 4 with (fail)
 go_cut [4] (fun v4 wc=>∃ (kq:Nat) (x4_1:Bool),v4 = .bool x4_1∧aa (aJ.j0 kq a0 a0 x4_1=some r)∧aa (kq≤k)∧bZ w wc)
 case first=>
  have H:=HC2.out
  clear HC2
  replace H:=bN H
  obtain ⟨H,-,c3b0,_⟩ | ⟨H,c3,c3b0,_⟩:=H
  · (first | rw [c3b0] | (simp only [dD,dE];rw [c3b0]) | skip)
    replace H:=aa.mk H
    go_wp2
    go_meet
    case rel=>exact ⟨_,_,aY,H,⟨le0⟩,bC⟩
  (first | rw [c3b0] | (simp only [dD,dE];rw [c3b0]) | skip)
  replace H:=bN H
  obtain ⟨H,-,_,_⟩ | ⟨H,c4,_,_⟩:=H
  · replace H:=aa.mk H
    go_wp2
    go_meet
    case rel=>exact ⟨_,_,aY,H,⟨le0⟩,bC⟩
  iterate 2
   replace H:=bN H
   obtain ⟨H,-,_,_⟩ | ⟨H,c5,_,_⟩:=H
   · replace H:=aa.mk H
     go_wp2
     go_meet
     case rel=>exact ⟨_,_,aY,H,⟨le0⟩,bC⟩
  iterate 2
   replace H:=bN H
   obtain ⟨H,-,_,_⟩ | ⟨H,c7,_,_⟩:=H
   · replace H:=aa.mk H
     go_wp2
     go_meet
     case rel=>exact ⟨_,_,aY,H,⟨le0⟩,bC⟩
  iterate 2
   replace H:=bN H
   obtain ⟨H,-,_,_⟩ | ⟨H,c9,_,_⟩:=H
   · replace H:=aa.mk H
     go_wp2
     go_meet
     case rel=>exact ⟨_,_,aY,H,⟨le0⟩,bC⟩
  replace H:=aa.mk H
  go_wp2
  go_meet
  case rel=>exact ⟨_,_,aY,H,⟨le0⟩,bC⟩
 case rest=>
  clear HC2
  obtain ⟨kq,x4_1,rfl,HA,HJ1,⟨mc1,rfl⟩⟩:=hcut
  cases kq with
  | zero=>exact absurd HA.out (by simp [aJ.j0])
  | succ kj1=>
   have H:=HA.out
   clear HA
   simp only [aJ.j0] at H
   by_cases c11:x4_1=true
   · subst c11
     have H1:(some true)=some r:=by rw [if_pos rfl] at H;exact H
     clear H
     have H:=H1
     clear H1
     cases H
     go_wp2
     go_ret
     exact ⟨aY,bC⟩
   replace c11:=Bool.eq_false_iff.mpr c11
   subst c11
   have H1:(if a0=1 then (aJ.j1 kj1 a0 a0 (a0==1)) else (if a0=97 then (aJ.j1 kj1 a0 a0 (a0==97)) else (if a0=129 then (aJ.j1 kj1 a0 a0 (a0==129)) else (aJ.j1 kj1 a0 a0 (a0==177)))))=some r:=by rw [if_neg (show ¬(false=true) by decide)] at H;exact H
   clear H
   have H:=H1
   clear H1
   have HC12:=aa.mk H
   clear H
   go_upto_if 14 with (fail)
   go_cut [14] (fun v14 wc=>∃ (kq:Nat) (x14_11:Bool),v14 = .bool x14_11∧aa (aJ.j1 kq a0 a0 x14_11=some r)∧aa (kq≤kj1)∧bZ w wc)
   case first=>
    have H:=HC12.out
    clear HC12
    replace H:=bN H
    obtain ⟨H,-,c13b0,_⟩ | ⟨H,c13,c13b0,_⟩:=H
    · (first | rw [c13b0] | (simp only [dD,dE];rw [c13b0]) | skip)
      replace H:=aa.mk H
      go_wp2
      go_meet
      case rel=>exact ⟨_,_,aY,H,⟨by have:=HJ1.out;first | omega | exact Nat.le_refl _⟩,bC⟩
    (first | rw [c13b0] | (simp only [dD,dE];rw [c13b0]) | skip)
    iterate 2
     replace H:=bN H
     obtain ⟨H,-,_,_⟩ | ⟨H,c14,_,_⟩:=H
     · replace H:=aa.mk H
       go_wp2
       go_meet
       case rel=>exact ⟨_,_,aY,H,⟨by have:=HJ1.out;first | omega | exact Nat.le_refl _⟩,bC⟩
    replace H:=aa.mk H
    go_wp2
    go_meet
    case rel=>exact ⟨_,_,aY,H,⟨by have:=HJ1.out;first | omega | exact Nat.le_refl _⟩,bC⟩
   case rest=>
    clear HC12
    obtain ⟨kq,x14_11,rfl,HA,HJ11,⟨mc11,rfl⟩⟩:=hcut
    cases kq with
    | zero=>exact absurd HA.out (by simp [aJ.j1])
    | succ kj11=>
     have H:=HA.out
     clear HA
     simp only [aJ.j1] at H
     by_cases c16:x14_11=true
     · subst c16
       have H1:(some true)=some r:=by rw [if_pos rfl] at H;exact H
       clear H
       have H:=H1
       clear H1
       cases H
       go_wp2
       go_ret
       exact ⟨aY,bC⟩
     replace c16:=Bool.eq_false_iff.mpr c16
     subst c16
     have H1:(if a0=2 then (aJ.j2 kj11 a0 (a0==2)) else (if a0=3 then (aJ.j2 kj11 a0 (a0==3)) else (if a0=6 then (aJ.j2 kj11 a0 (a0==6)) else (if a0=22 then (aJ.j2 kj11 a0 (a0==22)) else (if a0=7 then (aJ.j2 kj11 a0 (a0==7)) else (if a0=135 then (aJ.j2 kj11 a0 (a0==135)) else (aJ.j2 kj11 a0 (a0==5))))))))=some r:=by rw [if_neg (show ¬(false=true) by decide)] at H;exact H
     clear H
     have H:=H1
     clear H1
     have HC17:=aa.mk H
     clear H
     go_upto_if 19 with (fail)
     go_cut [19] (fun v19 wc=>∃ (kq:Nat) (x19_16:Bool),v19 = .bool x19_16∧aa (aJ.j2 kq a0 x19_16=some r)∧aa (kq≤kj11)∧bZ w wc)
     case first=>
      have H:=HC17.out
      clear HC17
      replace H:=bN H
      obtain ⟨H,-,c18b0,_⟩ | ⟨H,c18,c18b0,_⟩:=H
      · (first | rw [c18b0] | (simp only [dD,dE];rw [c18b0]) | skip)
        replace H:=aa.mk H
        go_wp2
        go_meet
        case rel=>exact ⟨_,_,aY,H,⟨by have:=HJ1.out;have:=HJ11.out;first | omega | exact Nat.le_refl _⟩,bC⟩
      (first | rw [c18b0] | (simp only [dD,dE];rw [c18b0]) | skip)
      replace H:=bN H
      obtain ⟨H,-,_,_⟩ | ⟨H,c19,_,_⟩:=H
      · replace H:=aa.mk H
        go_wp2
        go_meet
        case rel=>exact ⟨_,_,aY,H,⟨by have:=HJ1.out;have:=HJ11.out;first | omega | exact Nat.le_refl _⟩,bC⟩
      iterate 2
       replace H:=bN H
       obtain ⟨H,-,_,_⟩ | ⟨H,c20,_,_⟩:=H
       · replace H:=aa.mk H
         go_wp2
         go_meet
         case rel=>exact ⟨_,_,aY,H,⟨by have:=HJ1.out;have:=HJ11.out;first | omega | exact Nat.le_refl _⟩,bC⟩
      iterate 2
       replace H:=bN H
       obtain ⟨H,-,_,_⟩ | ⟨H,c22,_,_⟩:=H
       · replace H:=aa.mk H
         go_wp2
         go_meet
         case rel=>exact ⟨_,_,aY,H,⟨by have:=HJ1.out;have:=HJ11.out;first | omega | exact Nat.le_refl _⟩,bC⟩
      replace H:=aa.mk H
      go_wp2
      go_meet
      case rel=>exact ⟨_,_,aY,H,⟨by have:=HJ1.out;have:=HJ11.out;first | omega | exact Nat.le_refl _⟩,bC⟩
     case rest=>
      clear HC17
      obtain ⟨kq,x19_16,rfl,HA,HJ16,⟨mc16,rfl⟩⟩:=hcut
      cases kq with
      | zero=>exact absurd HA.out (by simp [aJ.j2])
      | succ kj16=>
       have H:=HA.out
       clear HA
       simp only [aJ.j2] at H
       by_cases c24:x19_16=true
       · subst c24
         have H1:(some true)=some r:=by rw [if_pos rfl] at H;exact H
         clear H
         have H:=H1
         clear H1
         cases H
         go_wp2
         go_ret
         exact ⟨aY,bC⟩
       replace c24:=Bool.eq_false_iff.mpr c24
       subst c24
       have H1:((bf.f kj16 a0).bind fun t182=>(if t182=true then (some true) else ((cz.f kj16 a0).bind fun t183=>(some t183))))=some r:=by rw [if_neg (show ¬(false=true) by decide)] at H;exact H
       clear H
       have H:=H1
       clear H1
       replace H:=bnd H
       obtain ⟨t182,A25,H⟩:=H
       replace H:=iY H
       obtain ⟨rfl,H⟩ | ⟨rfl,H⟩:=H
       · cases H
         go_wp2_with (go_at_call 163;(with_reducible refine (bf.calls _ _ _ _ A25.out).mono ?_);rintro e w' ⟨rfl,⟨nd,rfl⟩⟩)
         go_ret
         exact ⟨aY,bC⟩
       replace H:=bnd H
       obtain ⟨t183,A27,H⟩:=H
       cases H
       go_wp2_with (first | (go_at_call 163;(with_reducible refine (bf.calls _ _ _ _ A25.out).mono ?_);rintro e w' ⟨rfl,⟨nd,rfl⟩⟩) | (go_at_call 151;(with_reducible refine (cz.calls _ _ _ _ A27.out).mono ?_);rintro e w' ⟨rfl,⟨nd,rfl⟩⟩))
       go_ret
       exact ⟨aY,bC⟩
def aG.f (k:Nat) (a0:Int):Option (Int):=(aJ.f k a0).bind fun t184=>(if t184=true then (some (wrap64 (Go.bits .and .u16 a0 7))) else (some (-1)))
theorem aG.calls (k:Nat) (a0:Int) (r:Int) (w:World) (h:aG.f k a0=some r) :
 Calls Try.prog 99 #[.int .u16 a0] w fun e w'=>e = .returned (.int .i64 r)∧bZ w w':=by
 have H:((aJ.f k a0).bind fun t184=>(if t184=true then (some (wrap64 (Go.bits .and .u16 a0 7))) else (some (-1))))=some r:=h
 clear h
 replace H:=bnd H
 obtain ⟨t184,A2,H⟩:=H
 replace H:=iY H
 obtain ⟨rfl,H⟩ | ⟨rfl,H⟩:=H
 · cases H
   go_enter Try.func99,Try.ntmps99
   go_wp2_with (go_at_call 143;(with_reducible refine (aJ.calls _ _ _ _ A2.out).mono ?_);rintro e w' ⟨rfl,⟨nd,rfl⟩⟩)
   go_ret
   exact ⟨aY,bC⟩
 cases H
 go_enter Try.func99,Try.ntmps99
 go_wp2_with (go_at_call 143;(with_reducible refine (aJ.calls _ _ _ _ A2.out).mono ?_);rintro e w' ⟨rfl,⟨nd,rfl⟩⟩)
 go_ret
 exact ⟨aY,bC⟩
end Go.Proofs.Ytdkalnkplgfgoaa.PA
