/- Lemmas and walks for the statements of the texts ZTZ..: the declarations that they need, taken together by a program of this session. Conditions: as each says. -/
import Derived.Below
import Derived.Deep.Draws
import Derived.Deep.AppendLies
import Derived.Maps.AppendAt
import Derived.OwnWalk
import Derived.Laws.BytesArg
import Derived.Laws.MakeOwn
import Derived.Laws.OwnMore
import Derived.Deep.OwnRows
import Derived.Tactics
import Derived.Lib.ConvBytes
import Derived.Laws.Slices
import Derived.WalkKit
import Derived.KernelRfl
import Derived.RowKit3
import Derived.Deep.LoopGhost
import Derived.Deep.QuietTactic
import Derived.BigQuiet
import Derived.WideLaws
import Derived.Deep.DeepCutAuto
import Derived.Deep.CutBlock
import Derived.Deep.RegionHeld3
import Derived.Laws.Rows
import Derived.Lib.AppendStr
import Derived.ArgAppend
import Derived.Laws.IdiomCopy
import Derived.RowKit
import Derived.OrdersHeld
import Derived.Laws.BitsLemmas
import Derived.Laws.StructEq
import Derived.Test.YtdkalnkplgfgoaaProg
set_option linter.unusedVariables false
set_option linter.unusedSimpArgs false
namespace Go.Proofs.YtdkalnkplgfgoaaW.PrintWords
open Go.RowKit
structure aa (p:Prop):Prop where mk :: (out:p)
structure df (w w':World):Prop where mk :: (out:∃ n,w'=w.drewN n)
theorem df.refl (w:World):df w w:=⟨⟨0,rfl⟩⟩
theorem df.step {w w':World} (h:df w w') (n:Nat):df w (w'.drewN n):=by
 obtain ⟨m,rfl⟩:=h
 exact ⟨⟨m+n,World.drewN_drewN ..⟩⟩
theorem df.grown {w w':World} (h:df w w'):Grown w w':=by
 obtain ⟨n,rfl⟩:=h
 induction n with
 | zero=>exact Grown.refl _
 | succ n ih=>rw [←World.drew_drewN];exact Grown.drew ih
theorem df.below {w w':World} (h:df w w'):Below w.heap.size w w':=by
 obtain ⟨n,rfl⟩:=h
 induction n with
 | zero=>exact Below.refl _ _
 | succ n ih=>rw [←World.drew_drewN];exact ih.drew
def rd (xs:List Int) (i:Int):Int:=xs.getD i.toNat 0
def bt (s:ByteArray) (i:Int):Int:=if h:i.toNat<s.size then ((s[i.toNat]'h).toNat:Int) else 0
theorem ai {w W:World} (h:Below w.heap.size w W) (o:Obj):Below w.heap.size w (W.alloc o):=h.alloc h.size o
theorem ll {B:Nat} {w W:World} (h:Below B w W):Below B w W.drew:=⟨h.os,h.tape,h.output,h.size,h.block⟩
theorem aj {B:Nat} {w W:World} (h:Below B w W) (n:Nat):Below B w (W.drewN n):=⟨h.os,h.tape,h.output,h.size,h.block⟩
theorem sD {B:Nat} {w w1 w2:World} (h:Below B w w1) (hB:B≤w1.heap.size) (k:Below w1.heap.size w1 w2):Below B w w2:=
 h.trans ⟨k.os,k.tape,k.output,k.size,fun i hi=>k.block i (Nat.lt_of_lt_of_le hi hB)⟩
theorem nZ {w w1:World} (h:Below w.heap.size w w1) (row:Option Nat):w.grownBy w1 row:=⟨h.os,h.tape,h.output,h.size,fun i hi _=>h.block i hi⟩
theorem ax {w w1:World} (h:Below w.heap.size w w1) {a:Addr} {v:Value} (hc:w.cell? a=some v):w1.cell? a=some v:=(h.cell (World.block_lt_of_cell? w a hc)).trans hc
def dB (w:World) (k:IntKind) (A:Option Addr) (n:Nat) (xs:List Int):Prop:=
 xs.length=n∧n≤9223372036854775807∧(0<n→∃ ad,A=some ad∧∀ j,j<n→w.cell? (ad.add j)=some (.int k (xs.getD j 0)))
theorem dB.at_ {w:World} {k:IntKind} {A:Option Addr} {n:Nat} {xs:List Int} (h:dB w k A n xs) (i:Int) (h0:0≤i) (h1:i<n):∃ ad,A=some ad∧w.cell? (ad.add i.toNat)=some (.int k (rd xs i)):=by
 obtain ⟨ad,e,hc⟩:=h.2.2 (by omega)
 exact ⟨ad,e,hc _ (by omega)⟩
theorem dB.below {w w1:World} {k:IntKind} {A:Option Addr} {n:Nat} {xs:List Int} (h:dB w k A n xs) (hb:Below w.heap.size w w1):dB w1 k A n xs:=
 ⟨h.1,h.2.1,fun hn=>by
  obtain ⟨ad,e,hc⟩:=h.2.2 hn
  exact ⟨ad,e,fun j hj=>ax hb (hc j hj)⟩⟩
theorem own_nil (W:World) (base:Nat) (e:TypeId) (size:Nat):W.ownsRow base e size (.slice none 0 0) 0 []:=⟨by simp,.inl ⟨rfl,rfl⟩⟩
theorem iJ {w:World} {base:Nat} {e:TypeId} {size n:Nat} {v:Value} {xs:List Value} (h:w.ownsRow base e size v n xs) (k:Nat) (hk:v.ownBlock=some k):base≤k:=by
 rcases h.2 with ⟨rfl,_⟩ | ⟨g,cap,cur,rfl,hb,_⟩
 · simp [Value.ownBlock] at hk
 have:g=k:=by simpa [Value.ownBlock] using hk
 omega
theorem own_lt {w:World} {base:Nat} {e:TypeId} {size n:Nat} {v:Value} {xs:List Value} (h:w.ownsRow base e size v n xs) (k:Nat) (hk:v.ownBlock=some k):k<w.heap.size:=by
 rcases h.2 with ⟨rfl,_⟩ | ⟨g,cap,cur,rfl,hb,hh,_⟩
 · simp [Value.ownBlock] at hk
 have:g=k:=by simpa [Value.ownBlock] using hk
 subst this
 exact (Array.getElem?_eq_some_iff.1 hh).1
theorem qM {w w1:World} {base:Nat} {e:TypeId} {size n:Nat} {v:Value} {xs:List Value} (h:w.ownsRow base e size v n xs) (hb:Below w.heap.size w w1):w1.ownsRow base e size v n xs:=
 h.kept (nZ hb none) (by cases v.ownBlock<;>simp)
theorem dB.fI {w:World} {k:IntKind} {A:Option Addr} {n:Nat} {xs:List Int} (h:dB w k A n xs) (i:Nat) (hi:i≤n):dB w k A i (xs.take i):=by
 refine ⟨by rw [List.length_take,h.1];omega,by have:=h.2.1;omega,fun hp=>?_⟩
 obtain ⟨ad,e,hc⟩:=h.2.2 (by omega)
 refine ⟨ad,e,fun j hj=>?_⟩
 rw [hc j (by omega)]
 simp [List.getD_eq_getElem?_getD,hj]
theorem dB.drop_ {w:World} {k:IntKind} {A:Option Addr} {n c:Nat} {xs:List Int} (h:dB w k A n xs) (i:Nat) (hi:i≤n) (hc:n≤c):dB w k (if c=i then A else A.map (·.add i)) (n - i) (xs.drop i):=by
 refine ⟨by rw [List.length_drop,h.1],by have:=h.2.1;omega,fun hp=>?_⟩
 obtain ⟨ad,rfl,hcell⟩:=h.2.2 (by omega)
 rw [if_neg (by omega)]
 refine ⟨ad.add i,rfl,fun j hj=>?_⟩
 have ha:(ad.add i).add j=ad.add (i+j):=by
  unfold Addr.add
  by_cases h1:i=0<;>by_cases h2:j=0<;>simp [h1,h2,Nat.add_assoc]
 rw [ha,hcell (i+j) (by omega)]
 simp [List.getD_eq_getElem?_getD,List.getElem?_drop]
def LeO {α:Type} (a b:Option α):Prop:=∀ r,a=some r→b=some r
theorem LeO.refl {α:Type} (a:Option α):LeO a a:=fun _ h=>h
theorem LeO.trans {α:Type} {a b c:Option α} (h:LeO a b) (k:LeO b c):LeO a c:=fun r hr=>k r (h r hr)
theorem LeO.bind {α β:Type} {a a':Option α} {f f':α→Option β} (h:LeO a a') (k:∀ x,LeO (f x) (f' x)):LeO (a.bind f) (a'.bind f'):=by
 intro r hr
 obtain ⟨x,hx,hf⟩:=Option.bind_eq_some_iff.1 hr
 exact Option.bind_eq_some_iff.2 ⟨x,h x hx,k x r hf⟩
theorem LeO.map {α β:Type} {a a':Option α} (f:α→β) (h:LeO a a'):LeO (a.map f) (a'.map f):=by
 intro r hr
 obtain ⟨x,hx,hf⟩:=Option.map_eq_some_iff.1 hr
 exact Option.map_eq_some_iff.2 ⟨x,h x hx,hf⟩
def eu {α:Type} (R:α→List Value→Prop) (size:Nat) (ps:List α) (cs:List Value):Prop:=
 cs.length=ps.length*size∧∀ j p,ps[j]?=some p→R p ((cs.drop (j*size)).take size)
theorem eu.none {α:Type} (R:α→List Value→Prop) (size:Nat):eu R size [] []:=⟨by simp,fun j p h=>by simp at h⟩
theorem eu.snoc {α:Type} {R:α→List Value→Prop} {size:Nat} {ps:List α} {cs c:List Value} {p:α} (h:eu R size ps cs) (hp:R p c) (hc:c.length=size):eu R size (ps++[p]) (cs++c):=by
 refine ⟨by rw [List.length_append,h.1,hc,List.length_append,List.length_singleton,Nat.add_mul,Nat.one_mul],fun j q hq=>?_⟩
 rcases Nat.lt_or_ge j ps.length with hj | hj
 · rw [List.getElem?_append_left hj] at hq
   have h1:j*size+size≤cs.length:=by rw [h.1,←Nat.succ_mul];exact Nat.mul_le_mul_right _ hj
   have h2:=h.2 j q hq
   rw [List.drop_append_of_le_length (by omega),List.take_append_of_le_length (by rw [List.length_drop];omega)]
   exact h2
 have hj':j=ps.length:=by
  have:=(List.getElem?_eq_some_iff.1 hq).1
  rw [List.length_append,List.length_singleton] at this
  omega
 subst hj'
 have hq':p=q:=by simpa using hq
 subst hq'
 rw [←h.1,List.drop_left,←hc,List.take_length]
 exact hp
theorem eu.iO {α:Type} {R R':α→List Value→Prop} {size:Nat} {ps:List α} {cs:List Value} (h:eu R size ps cs) (hR:∀ p c,R p c→R' p c):eu R' size ps cs:=⟨h.1,fun j p hj=>hR _ _ (h.2 j p hj)⟩
def dH {α:Type} (R:α→List Value→Prop) (size:Nat) (w:World) (A:Option Addr) (n:Nat) (ps:List α):Prop:=
 ps.length=n∧n≤9223372036854775807∧(0<n→∃ ad,A=some ad∧∀ j p,ps[j]?=some p→∃ c,c.length=size∧R p c∧∀ i u,c[i]?=some u→w.cell? (ad.add (j*size+i))=some u)
theorem dH.get_ {α:Type} {R:α→List Value→Prop} {size:Nat} {w:World} {A:Option Addr} {n:Nat} {ps:List α} (h:dH R size w A n ps) (d:α) (i:Int) (h0:0≤i) (h1:i<n) :
 ∃ ad c,A=some ad∧c.length=size∧R (ps.getD i.toNat d) c∧∀ j u,c[j]?=some u→w.cell? (ad.add (i.toNat*size+j))=some u:=by
 obtain ⟨ad,e,hc⟩:=h.2.2 (by omega)
 have hl:i.toNat<ps.length:=by have:=h.1;omega
 obtain ⟨c,hs,hr,hcell⟩:=hc i.toNat _ (List.getElem?_eq_getElem hl)
 refine ⟨ad,c,e,hs,?_,hcell⟩
 rw [List.getD_eq_getElem?_getD,List.getElem?_eq_getElem hl]
 exact hr
theorem dH.iO {α:Type} {R R':α→List Value→Prop} {size:Nat} {w w1:World} {A:Option Addr} {n:Nat} {ps:List α} (h:dH R size w A n ps) (hb:Below w.heap.size w w1) (hR:∀ p c,R p c→R' p c):dH R' size w1 A n ps:=
 ⟨h.1,h.2.1,fun hn=>by
  obtain ⟨ad,e,hc⟩:=h.2.2 hn
  refine ⟨ad,e,fun j p hj=>?_⟩
  obtain ⟨c,hs,hr,hcell⟩:=hc j p hj
  exact ⟨c,hs,hR _ _ hr,fun i u hu=>ax hb (hcell i u hu)⟩⟩
theorem o9 {α:Type} {R:α→List Value→Prop} {w:World} {base n size:Nat} {e:TypeId} {v:Value} {ps:List α} {cs:List Value} (h:w.ownsRow base e size v n cs) (hR:eu R size ps cs) (hn:ps.length=n) :
 ∃ A c,v = .slice A n c∧dH R size w A n ps:=by
 rcases Nat.eq_zero_or_pos n with h0 | h0
 · rcases h.2 with ⟨rfl,rfl⟩ | ⟨g,cap,cur,rfl,_⟩
   · exact ⟨none,0,rfl,hn,by omega,fun hp=>absurd hp (by omega)⟩
   exact ⟨_,cap,rfl,hn,by omega,fun hp=>absurd hp (by omega)⟩
 obtain ⟨g,cap,rfl,_,_⟩:=h.form h0
 have hm:n≤9223372036854775807:=by
  rcases h.2 with ⟨_,h1⟩ | ⟨g',cap',cur,he,_,_,h1,h2,_⟩
  · omega
  simp only [maxLen] at h2
  omega
 refine ⟨_,cap,rfl,hn,hm,fun _=>⟨_,rfl,fun j p hj=>⟨(cs.drop (j*size)).take size,?_,hR.2 j p hj,fun i u hu=>?_⟩⟩⟩
 · have hjl:=(List.getElem?_eq_some_iff.1 hj).1
   have h1:j*size+size≤cs.length:=by rw [hR.1,←Nat.succ_mul];exact Nat.mul_le_mul_right _ hjl
   rw [List.length_take,List.length_drop]
   omega
 refine h.cells (g:=g) rfl _ u ?_
 rw [List.getElem?_take] at hu
 split at hu
 · rw [List.getElem?_drop] at hu
   exact hu
 cases hu
theorem fQ (ad:Addr) (m j:Nat) (hj:0<j):ad.add (m+j)=⟨(ad.add m).block,(ad.add m).off+j,none⟩:=by
 unfold Addr.add
 by_cases hm:m=0
 · subst hm
   simp [Nat.ne_of_gt hj]
 simp [hm,Nat.add_assoc]
section
variable {P:Program} {ops:Array Oper} {rest:List Oper} {o:Oper} {a:Act} {Q:Exit→Act→World→Prop}
theorem jd {w0 W:World} (base:Nat) (hgd:o.guard=none) (s x:Operand) (t e:TypeId) (z:Value) (size bytes:Nat)
 (ho:o.op = .call {callee := .builtin .append,args:=#[s,x],argTypes:=#[t,t]})
 (ht:P.underlying t=some (.slice e)) (hinfo:(P.info? e).map (fun i=>(i.zero,i.size,i.bytes))=some (some z,size,bytes)) (hz:z.cells.size=size) (hs0:0<size) (hb0:0<bytes)
 (v:Value) (n:Nat) (xs ys:List Value) (hs:a.eval s=v) (hx:a.eval x = .slice (some ⟨W.heap.size,0,none⟩) 1 1) (hys:ys.length=size) (h1:∀ u∈ys,u.oneCell'=true)
 (HO:W.ownsRow base e size v n xs) (HB:Below base w0 W) (hbase:base≤W.heap.size) (hl:(n+1)*bytes≤140737488355328)
 (h:∀ v1 w1,w1.ownsRow base e size v1 (n+1) (xs++ys)→Below base w0 w1→W.grownBy w1 v.ownBlock→(v1.ownBlock=v.ownBlock∨∃ b,v1.ownBlock=some b∧W.heap.size≤b)→wpList P ops Q rest (a.put o.dst v1) w1) :
 wpList P ops Q (o :: rest) a (W.alloc (.cells ys.toArray e)):=by
 obtain ⟨i0,hi,hzz⟩:=Option.map_eq_some_iff.1 hinfo
 simp only [Prod.mk.injEq] at hzz
 obtain ⟨hz0,hz1,hz2⟩:=hzz
 have hlen:n+1≤140737488355328:=Nat.le_trans (Nat.le_mul_of_pos_right _ hb0) hl
 refine wpList_append_own_at (W.alloc (.cells ys.toArray e)) hgd s x t ho base e i0 z size bytes ht hi hz0 hz1 hz2 hz hs0 v n xs hs (HO.alloc _) ⟨W.heap.size,0,none⟩ 1 1 ys hx (by rw [hys];simp)
  (by simpa using World.news_of_block (cs:=ys.toArray) (t:=e) (fr:=(0,0)) (heap_alloc_new W (.cells ys.toArray e))) h1 (by simp only [maxLen];omega) hl (by simp;omega) ?_
 intro v1 w1 hown hg _ hat
 refine h v1 w1 hown ((HB.alloc hbase _).grown hg (by simp;omega) (iJ HO)) (World.grownBy.trans (World.grownBy_alloc W _ _) hg) ?_
 rcases hat with hat | hat
 · exact .inl hat
 exact .inr ⟨_,hat,by simp⟩
end
theorem own_ne {w:World} {base:Nat} {e t:TypeId} {size n g:Nat} {v:Value} {xs:List Value} {cs:Array Value} (h:w.ownsRow base e size v n xs) (hg:w.heap[g]?=some (.cells cs t (0,0))) (hne:e≠t):some g≠v.ownBlock:=by
 rcases h.2 with ⟨rfl,_⟩ | ⟨g',cap,cur,rfl,_,hh,_⟩
 · simp [Value.ownBlock]
 intro he
 have:g=g':=by simpa [Value.ownBlock] using he
 subst this
 rw [hg] at hh
 injection hh with hh
 injection hh with _ ht
 exact hne ht.symm
theorem uC {w:World} {g:Nat} {t:TypeId} {cs:Array Value} (h:w.heap[g]?=some (.cells cs t (0,0))) (i:Nat) (u:Value):(w.setCell ⟨g,i,none⟩ u).heap[g]?=some (.cells (cs.setIfInBounds i u) t (0,0)):=by
 simp [World.setCell,Array.getElem?_modify,h]
theorem bN {w:World} {g:Nat} {t:TypeId} {cs:Array Value} (h:w.heap[g]?=some (.cells cs t (0,0))) {p:Addr} (hp:g≠p.block) (u:Value):(w.setCell p u).heap[g]?=some (.cells cs t (0,0)):=(Below.heap_setCell w p u g hp).trans h
theorem ay {w:World} {g:Nat} {o:Obj} (h:w.heap[g]?=some o):g<w.heap.size:=(Array.getElem?_eq_some_iff.1 h).1
theorem ae {w:World} {g:Nat} {t:TypeId} {cs:Array Value} (h:w.heap[g]?=some (.cells cs t (0,0))) (i:Nat):w.cell? ⟨g,i,none⟩=cs[i]?:=cell_of_row w g i cs t (0,0) h
theorem ah {w:World} {g:Nat} {t:TypeId} {cs:Array Value} (h:w.heap[g]?=some (.cells cs t (0,0))) (i:Nat):w.frozen? ⟨g,i,none⟩=false:=by simp [World.frozen?,h]
theorem pF {w w1:World} {g:Nat} {o:Obj} {row:Option Nat} (h:w.heap[g]?=some o) (hg:w.grownBy w1 row) (hne:some g≠row):w1.heap[g]?=some o:=(hg.block g (ay h) hne).trans h
theorem bF {w:World} {g g':Nat} {t t':TypeId} {cs cs':Array Value} (h:w.heap[g]?=some (.cells cs t (0,0))) (h':w.heap[g']?=some (.cells cs' t' (0,0))) (hne:t≠t'):g≠g':=by
 rintro rfl
 rw [h] at h'
 injection h' with h'
 injection h' with _ ht
 exact hne ht
def fC (w w':World) (g:Nat) (row:Option Nat):Prop:=w.heap.size≤w'.heap.size∧∀ i,i<w.heap.size→i≠g→some i≠row→w'.heap[i]?=w.heap[i]?
theorem fC.refl (w:World) (g:Nat) (row:Option Nat):fC w w g row:=⟨Nat.le_refl _,fun _ _ _ _=>rfl⟩
theorem fC.trans {w w1 w2:World} {g:Nat} {row row1:Option Nat} (h:fC w w1 g row) (k:fC w1 w2 g row1) (hr:row1=row∨∃ b,row1=some b∧w.heap.size≤b):fC w w2 g row:=
 ⟨Nat.le_trans h.1 k.1,fun i hi hg hn=>by
  refine (k.2 i (Nat.lt_of_lt_of_le hi h.1) hg ?_).trans (h.2 i hi hg hn)
  rcases hr with rfl | ⟨b,rfl,hb⟩
  · exact hn
  intro e
  injection e with e
  omega⟩
theorem fC.blk {w w1:World} {g g':Nat} {row:Option Nat} {o:Obj} (h:fC w w1 g row) (hb:w.heap[g']?=some o) (hg:g'≠g) (hr:some g'≠row):w1.heap[g']?=some o:=(h.2 g' (ay hb) hg hr).trans hb
theorem fC.own {w w1:World} {g:Nat} {row:Option Nat} {base:Nat} {e:TypeId} {size n:Nat} {v:Value} {xs:List Value} (h:fC w w1 g row) (ho:w.ownsRow base e size v n xs) (hg:v.ownBlock≠some g) (hr:v.ownBlock=none∨v.ownBlock≠row):w1.ownsRow base e size v n xs:=by
 obtain ⟨h1,h2⟩:=ho
 refine ⟨h1,?_⟩
 rcases h2 with h2 | ⟨b,cap,cur,rfl,hb,hh,r⟩
 · exact .inl h2
 refine .inr ⟨b,cap,cur,rfl,hb,h.blk hh ?_ ?_,r⟩
 · intro e
   exact hg (by rw [←e];rfl)
 rcases hr with hr | hr
 · simp [Value.ownBlock] at hr
 exact hr
def Ev {α:Type} (g:Nat→Option α) (r:α):Prop:=∃ K,∀ k,K≤k→g k=some r
theorem Ev.bind {α β:Type} {g:Nat→Option α} {f:Nat→α→Option β} {a:α} {r:β} (h:Ev g a) (k:Ev (fun n=>f n a) r):Ev (fun n=>(g n).bind (f n)) r:=by
 obtain ⟨K,h⟩:=h
 obtain ⟨K',k⟩:=k
 refine ⟨max K K',fun n hn=>?_⟩
 have h1:=h n (by omega)
 have h2:=k n (by omega)
 simp only [h1,Option.bind_some]
 exact h2
theorem Ev.step {α:Type} {g f:Nat→Option α} {r:α} (h:∀ k,g (k+1)=f k) (k:Ev f r):Ev g r:=by
 obtain ⟨K,k⟩:=k
 refine ⟨K+1,fun n hn=>?_⟩
 obtain ⟨m,rfl⟩:∃ m,n=m+1:=⟨n - 1,by omega⟩
 rw [h]
 exact k m (by omega)
section
variable {P:Program} {ops:Array Oper} {o:Oper} {a:Act} {Q:Exit→Act→World→Prop} {K:Act→World→Prop}
theorem lX {w0 W:World} (base:Nat) (hw:Region.wanted o (yielded ops a.tmps)=true) (s x:Operand) (t e:TypeId) (z:Value) (size bytes:Nat)
 (ho:o.op = .call {callee := .builtin .append,args:=#[s,x],argTypes:=#[t,t]})
 (ht:P.underlying t=some (.slice e)) (hinfo:(P.info? e).map (fun i=>(i.zero,i.size,i.bytes))=some (some z,size,bytes)) (hz:z.cells.size=size) (hs0:0<size) (hb0:0<bytes)
 (v:Value) (n:Nat) (xs ys:List Value) (hs:a.eval s=v) (hx:a.eval x = .slice (some ⟨W.heap.size,0,none⟩) 1 1) (hys:ys.length=size) (h1:∀ u∈ys,u.oneCell'=true)
 (HO:W.ownsRow base e size v n xs) (HB:Below base w0 W) (hbase:base≤W.heap.size) (hl:(n+1)*bytes≤140737488355328)
 (h:∀ v1 w1,w1.ownsRow base e size v1 (n+1) (xs++ys)→Below base w0 w1→W.grownBy w1 v.ownBlock→(v1.ownBlock=v.ownBlock∨∃ b,v1.ownBlock=some b∧W.heap.size≤b)→K (a.put o.dst v1) w1) :
 if Region.wanted o (yielded ops a.tmps)=true then Oper.wp P o a (W.alloc (.cells ys.toArray e)) K Q else K (a.put o.dst undef) (W.alloc (.cells ys.toArray e)):=by
 obtain ⟨i0,hi,hzz⟩:=Option.map_eq_some_iff.1 hinfo
 simp only [Prod.mk.injEq] at hzz
 obtain ⟨hz0,hz1,hz2⟩:=hzz
 have hlen:n+1≤140737488355328:=Nat.le_trans (Nat.le_mul_of_pos_right _ hb0) hl
 rw [if_pos hw]
 obtain ⟨v1,w1,hr,hown,hg,_,hat⟩:=run_append_own_at (P:=P) (W.alloc (.cells ys.toArray e)) base t o.type e i0 z size bytes ht hi hz0 hz1 hz2 hz hs0 v n xs (HO.alloc _) ⟨W.heap.size,0,none⟩ 1 1 ys (by rw [hys];simp)
  (by simpa using World.news_of_block (cs:=ys.toArray) (t:=e) (fr:=(0,0)) (heap_alloc_new W (.cells ys.toArray e))) h1 (by simp only [maxLen];omega) hl (by simp;omega)
 unfold Oper.wp execOp
 simp only [ho,resolve,invoke,builtin,Sem.run_bind,Sem.run_pure,Result.andThen_ok,List.map_toArray,List.map_cons,List.map_nil,hs,hx,hr]
 refine h v1 w1 hown ((HB.alloc hbase _).grown hg (by simp;omega) (iJ HO)) (World.grownBy.trans (World.grownBy_alloc W _ _) hg) ?_
 rcases hat with hat | hat
 · exact .inl hat
 exact .inr ⟨_,hat,by simp⟩
end
theorem tN {w:World} {base base':Nat} {e:TypeId} {size n:Nat} {v:Value} {xs:List Value} (h:w.ownsRow base e size v n xs) (hb:base'≤base):w.ownsRow base' e size v n xs:=by
 obtain ⟨h1,h2⟩:=h
 refine ⟨h1,?_⟩
 rcases h2 with h2 | ⟨g,cap,cur,rfl,hg,r⟩
 · exact .inl h2
 exact .inr ⟨g,cap,cur,rfl,Nat.le_trans hb hg,r⟩
section
variable {α:Type} {enc:α→Value} {d:α}
def rdOf (d:α) (xs:List α) (i:Int):α:=xs.getD i.toNat d
def dz (enc:α→Value) (d:α) (w:World) (A:Option Addr) (n:Nat) (xs:List α):Prop:=
 xs.length=n∧n≤9223372036854775807∧(0<n→∃ ad,A=some ad∧∀ j,j<n→w.cell? (ad.add j)=some (enc (xs.getD j d)))
theorem dz.at_ {w:World} {A:Option Addr} {n:Nat} {xs:List α} (h:dz enc d w A n xs) (i:Int) (h0:0≤i) (h1:i<n):∃ ad,A=some ad∧w.cell? (ad.add i.toNat)=some (enc (rdOf d xs i)):=by
 obtain ⟨ad,e,hc⟩:=h.2.2 (by omega)
 exact ⟨ad,e,hc _ (by omega)⟩
theorem dz.below {w w1:World} {A:Option Addr} {n:Nat} {xs:List α} (h:dz enc d w A n xs) (hb:Below w.heap.size w w1):dz enc d w1 A n xs:=
 ⟨h.1,h.2.1,fun hn=>by
  obtain ⟨ad,e,hc⟩:=h.2.2 hn
  exact ⟨ad,e,fun j hj=>ax hb (hc j hj)⟩⟩
theorem dz.fI {w:World} {A:Option Addr} {n:Nat} {xs:List α} (h:dz enc d w A n xs) (i:Nat) (hi:i≤n):dz enc d w A i (xs.take i):=by
 refine ⟨by rw [List.length_take,h.1];omega,by have:=h.2.1;omega,fun hp=>?_⟩
 obtain ⟨ad,e,hc⟩:=h.2.2 (by omega)
 refine ⟨ad,e,fun j hj=>?_⟩
 rw [hc j (by omega)]
 simp [List.getD_eq_getElem?_getD,hj]
theorem dz.drop_ {w:World} {A:Option Addr} {n c:Nat} {xs:List α} (h:dz enc d w A n xs) (i:Nat) (hi:i≤n) (hc:n≤c):dz enc d w (if c=i then A else A.map (·.add i)) (n - i) (xs.drop i):=by
 refine ⟨by rw [List.length_drop,h.1],by have:=h.2.1;omega,fun hp=>?_⟩
 obtain ⟨ad,rfl,hcell⟩:=h.2.2 (by omega)
 rw [if_neg (by omega)]
 refine ⟨ad.add i,rfl,fun j hj=>?_⟩
 have ha:(ad.add i).add j=ad.add (i+j):=by
  unfold Addr.add
  by_cases h1:i=0<;>by_cases h2:j=0<;>simp [h1,h2,Nat.add_assoc]
 rw [ha,hcell (i+j) (by omega)]
 simp [List.getD_eq_getElem?_getD,List.getElem?_drop]
end
theorem aH {w:World} {g:Nat} {o:Obj} (h:w.heap[g]?=some o) (o':Obj):(w.alloc o').heap[g]?=some o:=(Below.heap_alloc w o' g (ay h)).trans h
theorem aY {w:World} {g:Nat} {o:Obj} (h:w.heap[g]?=some o):w.drew.heap[g]?=some o:=h
theorem aV {w:World} {g:Nat} {o:Obj} (h:w.heap[g]?=some o) (n:Nat):(w.drewN n).heap[g]?=some o:=h
theorem ak {w w1:World} {g:Nat} {o:Obj} (h:w.heap[g]?=some o) (hb:Below w.heap.size w w1):w1.heap[g]?=some o:=(hb.block g (ay h)).trans h
theorem kQ (w:World) (o:Obj):(w.alloc o).heap[w.heap.size]?=some o:=heap_alloc_new w o
section
variable {P:Program}
theorem fK {fn:Func} {p u:Tmp} {ty:TypeId} (h:fn.results=#[.cell p ty,.tmp u]) (tmps:Array Value) (w:World) (g:Nat) (t:TypeId) (cs:Array Value) (fr:Nat × Nat) (d:TypeDesc)
 (hp:tmps.getD p undef = .pointer (some ⟨g,0,none⟩)) (hg:w.heap[g]?=some (.cells cs t fr))
 (hu:P.underlying ty=some d) (hd:(match d with | .struct _ | .array _ _=>true | _=>false)=true) (hi:(P.info? ty).map (·.size)=some cs.size) :
 (results fn tmps).run P w = .ok (.tuple #[.agg cs,tmps.getD u undef]) w:=by
 have hp':tmps[p]?.getD undef = .pointer (some ⟨g,0,none⟩):=by simpa using hp
 simp [results,h,hp',asAddr,run_loadVar_row w g t ty cs fr d hg hu hd hi]
end
theorem own_le {w:World} {base n m c size:Nat} {e:TypeId} {A:Option Addr} {xs:List Value} (h:w.ownsRow base e size (.slice A m c) n xs):m≤c:=by
 rcases h.2 with ⟨he,_⟩ | ⟨g,cap,cur,he,_,_,hnc,_⟩
 · injection he with _ h2 h3
   omega
 injection he with _ h2 h3
 omega
def eQ {α:Type} (R:α→List Value→Prop) (e:TypeId) (size:Nat) (w:World) (base:Nat) (v:Value) (ps:List α):Prop:=
 ∃ inner,w.ownsRow base e size v ps.length inner∧eu R size ps inner
section
variable {α:Type} {R R':α→List Value→Prop} {e:TypeId} {size:Nat} {w w1:World} {base:Nat} {v:Value} {ps:List α}
theorem eQ.none_ (R:α→List Value→Prop) (e:TypeId) (size:Nat) (w:World) (base:Nat):eQ R e size w base (.slice none 0 0) []:=⟨[],own_nil _ _ _ _,eu.none _ _⟩
theorem eQ.iO (h:eQ R e size w base v ps) (hR:∀ p c,R p c→R' p c):eQ R' e size w base v ps:=by
 obtain ⟨inner,ho,hr⟩:=h
 exact ⟨inner,ho,hr.iO hR⟩
theorem eQ.below (h:eQ R e size w base v ps) (hb:Below w.heap.size w w1):eQ R e size w1 base v ps:=by
 obtain ⟨inner,ho,hr⟩:=h
 exact ⟨inner,qM ho hb,hr⟩
theorem eQ.keep (h:eQ R e size w base v ps) {g:Nat} {t:TypeId} {cells:Array Value} (hb:w.heap[g]?=some (.cells cells t (0,0))) (ht:e≠t) (hk:fC w w1 g none):eQ R e size w1 base v ps:=by
 obtain ⟨inner,ho,hr⟩:=h
 exact ⟨inner,hk.own ho (Ne.symm (own_ne ho hb ht)) (by cases v.ownBlock<;>simp),hr⟩
theorem eQ.reads (h:eQ R e size w base v ps):∃ A c,v = .slice A ps.length c∧ps.length≤c∧dH R size w A ps.length ps:=by
 obtain ⟨inner,ho,hr⟩:=h
 obtain ⟨A,c,rfl,hrow⟩:=o9 ho hr rfl
 exact ⟨A,c,rfl,own_le ho,hrow⟩
theorem eQ.zB (h:eQ R e size w base v ps) {g:Nat} {t:TypeId} {cells:Array Value} (hb:w.heap[g]?=some (.cells cells t (0,0))) (ht:e≠t):some g≠v.ownBlock:=by
 obtain ⟨inner,ho,hr⟩:=h
 exact own_ne ho hb ht
end
section
variable {P:Program} {ops:Array Oper} {rest:List Oper} {o:Oper} {a:Act} {Q:Exit→Act→World→Prop} {α:Type} {R:α→List Value→Prop}
theorem eQ.append {w0 W:World} (base:Nat) (hgd:o.guard=none) (s x:Operand) (t e:TypeId) (z:Value) (size bytes:Nat)
 (ho:o.op = .call {callee := .builtin .append,args:=#[s,x],argTypes:=#[t,t]})
 (ht:P.underlying t=some (.slice e)) (hinfo:(P.info? e).map (fun i=>(i.zero,i.size,i.bytes))=some (some z,size,bytes)) (hz:z.cells.size=size) (hs0:0<size) (hb0:0<bytes)
 (v:Value) (ps:List α) (p:α) (cs:List Value) (hs:a.eval s=v) (hx:a.eval x = .slice (some ⟨W.heap.size,0,none⟩) 1 1) (hp:R p cs) (hcs:cs.length=size) (h1:∀ u∈cs,u.oneCell'=true)
 (HO:eQ R e size W base v ps) (HB:Below base w0 W) (hbase:base≤W.heap.size) (hl:(ps.length+1)*bytes≤140737488355328)
 (h:∀ v1 w1,eQ R e size w1 base v1 (ps++[p])→Below base w0 w1→W.grownBy w1 v.ownBlock→(v1.ownBlock=v.ownBlock∨∃ b,v1.ownBlock=some b∧W.heap.size≤b)→wpList P ops Q rest (a.put o.dst v1) w1) :
 wpList P ops Q (o :: rest) a (W.alloc (.cells cs.toArray e)):=by
 obtain ⟨inner,hown,hr⟩:=HO
 refine jd base hgd s x t e z size bytes ho ht hinfo hz hs0 hb0 v ps.length inner cs hs hx hcs h1 hown HB hbase hl ?_
 intro v1 w1 hown1 hb1 hg1 hat1
 exact h v1 w1 ⟨inner++cs,by rw [List.length_append,List.length_singleton];exact hown1,hr.snoc hp hcs⟩ hb1 hg1 hat1
end
theorem dH.yV {α:Type} {R:α→List Value→Prop} {size:Nat} {w:World} {ad:Addr} {n:Nat} {ps:List α} (h:dH R size w (some ad) n ps) :
 ∃ inner,eu R size ps inner∧∀ j u,inner[j]?=some u→w.cell? (ad.add j)=some u:=by
 have key:∀ m,m≤ps.length→∃ inner,eu R size (ps.take m) inner∧∀ j u,inner[j]?=some u→w.cell? (ad.add j)=some u:=by
  intro m
  induction m with
  | zero=>exact fun _=>⟨[],eu.none _ _,fun j u hu=>by simp at hu⟩
  | succ m ih=>
   intro hm
   obtain ⟨inner,hr,hc⟩:=ih (by omega)
   obtain ⟨ad',he,hcell⟩:=h.2.2 (by have:=h.1;omega)
   injection he with he
   subst he
   obtain ⟨c,hcl,hp,hcc⟩:=hcell m _ (List.getElem?_eq_getElem (show m<ps.length by omega))
   refine ⟨inner++c,?_,fun j u hu=>?_⟩
   · rw [List.take_succ_eq_append_getElem (show m<ps.length by omega)]
     exact hr.snoc hp hcl
   have hil:inner.length=m*size:=by rw [hr.1,List.length_take,Nat.min_eq_left (by omega)]
   rcases Nat.lt_or_ge j inner.length with hj | hj
   · rw [List.getElem?_append_left hj] at hu
     exact hc j u hu
   rw [List.getElem?_append_right hj] at hu
   have:=hcc (j - inner.length) u hu
   rwa [hil,Nat.add_sub_cancel' (by omega)] at this
 obtain ⟨inner,hr,hc⟩:=key ps.length (Nat.le_refl _)
 rw [List.take_length] at hr
 exact ⟨inner,hr,hc⟩
section
variable {α:Type} {P:Program}
theorem qL (enc:α→Value) (d:α) (t e:TypeId) (kl kh:IntKind) {i:TypeInfo} (ht:P.underlying t=some (.slice e)) (hi:P.info? e=some i) (hsz:i.size=1) (A:Option Addr) (c:Nat) (xs:List α) (a b:Int) (h0:0≤a) (h1:a≤b) (hm:b≤xs.length) (hc:xs.length≤c) :
 ∃ A':Option Addr,(∀ W:World,(Instr.slice t (.slice A xs.length c) (some (.int kl a)) (some (.int kh b)) none).run P W = .ok (.slice A' ((xs.take b.toNat).drop a.toNat).length (c - a.toNat)) W) ∧
  (∀ w:World,dz enc d w A xs.length xs→dz enc d w A' ((xs.take b.toNat).drop a.toNat).length ((xs.take b.toNat).drop a.toNat))∧((xs.take b.toNat).drop a.toNat).length≤c - a.toNat:=by
 have hlt:(xs.take b.toNat).length=b.toNat:=by rw [List.length_take];omega
 have hl:((xs.take b.toNat).drop a.toNat).length=b.toNat - a.toNat:=by rw [List.length_drop,hlt]
 refine ⟨if c=a.toNat then A else A.map (·.add a.toNat),fun W=>?_,fun w h=>?_,by rw [hl];omega⟩
 · have hel:P.elem t=e:=by simp [Program.elem,ht]
   have hu:P.underlying t=some (.slice (P.elem t)):=by rw [hel];exact ht
   rw [run_slice_lh W t A xs.length c hu kl kh a b h0 h1 (by omega),hel,hl]
   simp [sizeOf,typeInfo,hi,hsz,sliced,Result.andThen]
 have h2:=(h.fI b.toNat (by omega)).drop_ (c:=c) a.toNat (by omega) (by omega)
 rw [hl]
 exact h2
end
structure Kd (α:Type) where
 sz:Nat
 E:List Nat
 K:World→α→List Value→Prop
 M:World→Nat→(Nat→Prop)→α→List Value→Prop
 K_len:∀ {w x cs},K w x cs→cs.length=sz
 K_one:∀ {w x cs},K w x cs→∀ u∈cs,u.oneCell'=true
 K_below:∀ {w w1:World} {x cs},Below w.heap.size w w1→K w x cs→K w1 x cs
 K_of_M:∀ {w base ok x cs},M w base ok x cs→K w x cs
 M_mono:∀ {w base ok ok' x cs},(∀ k,ok k→ok' k)→M w base ok x cs→M w base ok' x cs
 M_bound:∀ {w:World} {base ok x cs},M w base ok x cs→M w base (fun k=>ok k∧base≤k∧k<w.heap.size∧∃ q,q∈E∧∃ cells,w.heap[k]?=some (.cells cells q (0,0))) x cs
 M_move:∀ {w w1:World} {base ok x cs},(∀ k,ok k→w1.heap[k]?=w.heap[k]?)→M w base ok x cs→M w1 base ok x cs
 M_lower:∀ {w base base' ok x cs},base'≤base→M w base ok x cs→M w base' ok x cs
theorem zL {w w1:World} {base:Nat} {e:TypeId} {size n:Nat} {v:Value} {xs:List Value} (h:w.ownsRow base e size v n xs) (hm:∀ k,v.ownBlock=some k→w1.heap[k]?=w.heap[k]?):w1.ownsRow base e size v n xs:=by
 obtain ⟨h1,h2⟩:=h
 refine ⟨h1,?_⟩
 rcases h2 with h2 | ⟨g,cap,cur,rfl,hg,hh,r⟩
 · exact .inl h2
 exact .inr ⟨g,cap,cur,rfl,hg,(hm g (by simp [Value.ownBlock])).trans hh,r⟩
theorem pU {w:World} {base:Nat} {e:TypeId} {size n:Nat} {v:Value} {xs:List Value} (h:w.ownsRow base e size v n xs) (k:Nat) (hk:v.ownBlock=some k):∃ cells,w.heap[k]?=some (.cells cells e (0,0)):=by
 rcases h.2 with ⟨rfl,_⟩ | ⟨g,cap,cur,rfl,hg,hh,r⟩
 · simp [Value.ownBlock] at hk
 have:g=k:=by simpa [Value.ownBlock] using hk
 subst this
 exact ⟨cur,hh⟩
namespace Kd
def C {α:Type} (d:Kd α) (w:World) (A:Option Addr) (n:Nat) (xs:List α):Prop:=dH (d.K w) d.sz w A n xs
def R {α:Type} (d:Kd α) (e:Nat) (w:World) (base:Nat) (ok:Nat→Prop) (v:Value) (xs:List α):Prop:=
 (∀ k,v.ownBlock=some k→ok k)∧eQ (d.M w base (fun k=>ok k∧some k≠v.ownBlock)) e d.sz w base v xs
section
variable {α:Type} {d:Kd α} {e:Nat} {w w1:World} {base:Nat} {ok ok':Nat→Prop} {v:Value} {xs:List α}
theorem bY {A:Option Addr} {n:Nat} (h:d.C w A n xs) (hb:Below w.heap.size w w1):d.C w1 A n xs:=dH.iO h hb (fun _ _ hp=>d.K_below hb hp)
theorem kX (d:Kd α) (e:Nat) (w:World) (base:Nat) (ok:Nat→Prop):d.R e w base ok (.slice none 0 0) []:=⟨fun k hk=>by simp [Value.ownBlock] at hk,eQ.none_ _ _ _ _ _⟩
theorem gK (h:d.R e w base ok v xs) (hok:∀ k,ok k→ok' k):d.R e w base ok' v xs:=⟨fun k hk=>hok k (h.1 k hk),h.2.iO (fun _ _ hp=>d.M_mono (fun k hk=>⟨hok k hk.1,hk.2⟩) hp)⟩
theorem jm (h:d.R e w base ok v xs):d.R e w base (fun k=>ok k∧base≤k∧k<w.heap.size∧∃ q,q∈e :: d.E∧∃ cells,w.heap[k]?=some (.cells cells q (0,0))) v xs:=by
 obtain ⟨h0,inner,ho,hr⟩:=h
 refine ⟨fun k hk=>?_,inner,ho,hr.iO (fun _ _ hp=>d.M_mono (fun k hk=>?_) (d.M_bound hp))⟩
 · obtain ⟨cells,hc⟩:=pU ho k hk
   exact ⟨h0 k hk,iJ ho k hk,own_lt ho k hk,e,List.mem_cons_self,cells,hc⟩
 obtain ⟨⟨h1,h2⟩,h3,h4,q,hq,hc⟩:=hk
 exact ⟨⟨h1,h3,h4,q,List.mem_cons_of_mem _ hq,hc⟩,h2⟩
theorem pY (h:d.R e w base ok v xs) (hm:∀ k,ok k→w1.heap[k]?=w.heap[k]?):d.R e w1 base ok v xs:=by
 obtain ⟨h0,inner,ho,hr⟩:=h
 exact ⟨h0,inner,zL ho (fun k hk=>hm k (h0 k hk)),hr.iO (fun _ _ hp=>d.M_move (fun k hk=>hm k hk.1) hp)⟩
theorem jT {base':Nat} (h:d.R e w base ok v xs) (hb:base'≤base):d.R e w base' ok v xs:=by
 obtain ⟨h0,inner,ho,hr⟩:=h
 exact ⟨h0,inner,tN ho hb,hr.iO (fun _ _ hp=>d.M_lower hb hp)⟩
theorem p8 (h:d.R e w base ok v xs) (hm:∀ k,ok k→k<w.heap.size→w1.heap[k]?=w.heap[k]?):d.R e w1 base ok v xs:=
 gK (pY (jm h) (fun k hk=>hm k hk.1 hk.2.2.1)) (fun _ hk=>hk.1)
theorem wL {x:α} {cs:List Value} (h:d.M w base ok x cs) (hm:∀ k,ok k→k<w.heap.size→w1.heap[k]?=w.heap[k]?):d.M w1 base ok x cs:=
 d.M_mono (fun _ hk=>hk.1) (d.M_move (fun k hk=>hm k hk.1 hk.2.2.1) (d.M_bound h))
theorem gT (h:d.R e w base ok v xs) (hb:Below w.heap.size w w1):d.R e w1 base ok v xs:=p8 h (fun k _ hk=>hb.block k hk)
theorem um {x:α} {cs:List Value} (h:d.M w base ok x cs) (hb:Below w.heap.size w w1):d.M w1 base ok x cs:=wL h (fun k _ hk=>hb.block k hk)
theorem R_far (h:d.R e w base ok v xs) {p:Addr} (hok:∀ k,ok k→k≠p.block) (u:Value):d.R e (w.setCell p u) base ok v xs:=p8 h (fun k ho _=>Below.heap_setCell w p u k (hok k ho))
theorem ng (h:d.R e w base ok v xs) {g t:Nat} {cells:Array Value} (hb:w.heap[g]?=some (.cells cells t (0,0))) (ht:∀ q,q∈e :: d.E→q≠t):d.R e w base (fun k=>ok k∧k≠g) v xs:=
 gK (jm h) (fun k hk=>⟨hk.1,by
  obtain ⟨_,_,_,q,hq,cells',hc⟩:=hk
  rintro rfl
  rw [hc] at hb
  injection hb with hb
  injection hb with _ hb
  exact ht q hq hb⟩)
theorem R_set (h:d.R e w base ok v xs) {g t:Nat} {cells:Array Value} (hb:w.heap[g]?=some (.cells cells t (0,0))) (ht:∀ q,q∈e :: d.E→q≠t) (j:Nat) (u:Value):d.R e (w.setCell ⟨g,j,none⟩ u) base ok v xs:=
 gK (R_far (p:=⟨g,j,none⟩) (ng h hb ht) (fun _ hk=>hk.2) u) (fun _ hk=>hk.1)
theorem mZ (h:d.R e w base ok v xs):∃ A c,v = .slice A xs.length c∧xs.length≤c∧d.C w A xs.length xs:=by
 obtain ⟨A,c,he,hl,hr⟩:=eQ.reads h.2
 exact ⟨A,c,he,hl,hr.iO (Below.refl _ _) (fun _ _ hp=>d.K_of_M hp)⟩
theorem iU (h:d.R e w base ok v xs):∃ A c,v = .slice A xs.length c:=by
 obtain ⟨A,c,he,_⟩:=mZ h
 exact ⟨A,c,he⟩
theorem uq (h:d.R e w base ok v xs):∃ inner,w.ownsRow base e d.sz v xs.length inner:=by
 obtain ⟨_,inner,ho,_⟩:=h
 exact ⟨inner,ho⟩
theorem wN (h:d.R e w base ok v xs) {g t:Nat} {cells:Array Value} (hb:w.heap[g]?=some (.cells cells t (0,0))) (ht:e≠t):some g≠v.ownBlock:=eQ.zB h.2 hb ht
end
def scalar {α:Type} (enc:α→Value) (h1:∀ x,(enc x).oneCell'=true):Kd α where
 sz:=1
 E:=[]
 K:=fun _ x cs=>cs=[enc x]
 M:=fun _ _ _ x cs=>cs=[enc x]
 K_len:=fun h=>by rw [h];rfl
 K_one:=fun h u hu=>by
  rw [h] at hu
  rw [List.mem_singleton.1 hu]
  exact h1 _
 K_below:=fun _ h=>h
 K_of_M:=fun h=>h
 M_mono:=fun _ h=>h
 M_bound:=fun h=>h
 M_move:=fun _ h=>h
 M_lower:=fun _ h=>h
def int (k:IntKind):Kd Int:=scalar (Value.int k) (fun _=>rfl)
def bool:Kd Bool:=scalar Value.bool (fun _=>rfl)
def slice {α:Type} (e:Nat) (d:Kd α):Kd (List α) where
 sz:=1
 E:=e :: d.E
 K:=fun w xs cs=>∃ A c,cs=[.slice A xs.length c]∧xs.length≤c∧d.C w A xs.length xs
 M:=fun w base ok xs cs=>∃ v,cs=[v]∧d.R e w base ok v xs
 K_len:=by
  rintro w x cs ⟨A,c,rfl,_⟩
  rfl
 K_one:=by
  rintro w x cs ⟨A,c,rfl,_⟩ u hu
  rw [List.mem_singleton.1 hu]
  rfl
 K_below:=by
  rintro w w1 x cs hb ⟨A,c,rfl,hl,hr⟩
  exact ⟨A,c,rfl,hl,bY hr hb⟩
 K_of_M:=by
  rintro w base ok x cs ⟨v,rfl,h⟩
  obtain ⟨A,c,rfl,hl,hr⟩:=mZ h
  exact ⟨A,c,rfl,hl,hr⟩
 M_mono:=by
  rintro w base ok ok' x cs hok ⟨v,rfl,h⟩
  exact ⟨v,rfl,gK h hok⟩
 M_bound:=by
  rintro w base ok x cs ⟨v,rfl,h⟩
  exact ⟨v,rfl,jm h⟩
 M_move:=by
  rintro w w1 base ok x cs hm ⟨v,rfl,h⟩
  exact ⟨v,rfl,pY h hm⟩
 M_lower:=by
  rintro w base base' ok x cs hb ⟨v,rfl,h⟩
  exact ⟨v,rfl,jT h hb⟩
def pair {α β:Type} (a:Kd α) (b:Kd β):Kd (α × β) where
 sz:=a.sz+b.sz
 E:=a.E++b.E
 K:=fun w x cs=>∃ c0 c1,cs=c0++c1∧a.K w x.1 c0∧b.K w x.2 c1
 M:=fun w base ok x cs=>∃ c0 c1,cs=c0++c1∧a.M w base ok x.1 c0∧b.M w base ok x.2 c1
 K_len:=by
  rintro w x cs ⟨c0,c1,rfl,h0,h1⟩
  rw [List.length_append,a.K_len h0,b.K_len h1]
 K_one:=by
  rintro w x cs ⟨c0,c1,rfl,h0,h1⟩ u hu
  rcases List.mem_append.1 hu with hu | hu
  · exact a.K_one h0 u hu
  exact b.K_one h1 u hu
 K_below:=by
  rintro w w1 x cs hb ⟨c0,c1,rfl,h0,h1⟩
  exact ⟨c0,c1,rfl,a.K_below hb h0,b.K_below hb h1⟩
 K_of_M:=by
  rintro w base ok x cs ⟨c0,c1,rfl,h0,h1⟩
  exact ⟨c0,c1,rfl,a.K_of_M h0,b.K_of_M h1⟩
 M_mono:=by
  rintro w base ok ok' x cs hok ⟨c0,c1,rfl,h0,h1⟩
  exact ⟨c0,c1,rfl,a.M_mono hok h0,b.M_mono hok h1⟩
 M_bound:=by
  rintro w base ok x cs ⟨c0,c1,rfl,h0,h1⟩
  refine ⟨c0,c1,rfl,a.M_mono ?_ (a.M_bound h0),b.M_mono ?_ (b.M_bound h1)⟩
  · rintro k ⟨h2,h3,h4,q,hq,hc⟩
    exact ⟨h2,h3,h4,q,List.mem_append_left _ hq,hc⟩
  rintro k ⟨h2,h3,h4,q,hq,hc⟩
  exact ⟨h2,h3,h4,q,List.mem_append_right _ hq,hc⟩
 M_move:=by
  rintro w w1 base ok x cs hm ⟨c0,c1,rfl,h0,h1⟩
  exact ⟨c0,c1,rfl,a.M_move hm h0,b.M_move hm h1⟩
 M_lower:=by
  rintro w base base' ok x cs hb ⟨c0,c1,rfl,h0,h1⟩
  exact ⟨c0,c1,rfl,a.M_lower hb h0,b.M_lower hb h1⟩
def iso {α β:Type} (d:Kd α) (f:β→α):Kd β where
 sz:=d.sz
 E:=d.E
 K:=fun w x cs=>d.K w (f x) cs
 M:=fun w base ok x cs=>d.M w base ok (f x) cs
 K_len:=d.K_len
 K_one:=d.K_one
 K_below:=d.K_below
 K_of_M:=d.K_of_M
 M_mono:=d.M_mono
 M_bound:=d.M_bound
 M_move:=d.M_move
 M_lower:=d.M_lower
theorem C_get {α:Type} {d:Kd α} {w:World} {A:Option Addr} {n:Nat} {xs:List α} (h:d.C w A n xs) (z:α) (i:Int) (h0:0≤i) (h1:i<n) :
 ∃ ad c,A=some ad∧c.length=d.sz∧d.K w (xs.getD i.toNat z) c∧∀ j u,c[j]?=some u→w.cell? (ad.add (i.toNat*d.sz+j))=some u:=dH.get_ h z i h0 h1
theorem nN {α:Type} {d:Kd α} {e base:Nat} {ok okp:Nat→Prop} {W w1:World} {v v1:Value} {xs:List α} {p:α} {inner cs:List Value} (h0:∀ k,v.ownBlock=some k→ok k) (hr:eu (d.M W base (fun k=>ok k∧some k≠v.ownBlock)) d.sz xs inner) (hp:d.M W base okp p cs) (hokp:∀ k,okp k→ok k∧some k≠v.ownBlock) (hfresh:∀ k,W.heap.size≤k→ok k)
 (hown:w1.ownsRow base e d.sz v1 (xs.length+1) (inner++cs)) (hg:W.grownBy w1 v.ownBlock) (hat:v1.ownBlock=v.ownBlock∨∃ b,v1.ownBlock=some b∧W.heap.size≤b):d.R e w1 base ok v1 (xs++[p]):=by
 have hne:∀ k,some k≠v.ownBlock→k<W.heap.size→some k≠v1.ownBlock:=by
  intro k hk hlt
  rcases hat with hat | ⟨b,hb,hle⟩
  · rw [hat];exact hk
  rw [hb]
  intro he
  injection he with he
  omega
 have step:∀ {q:α} {c:List Value} {o:Nat→Prop},d.M W base o q c→(∀ k,o k→ok k∧some k≠v.ownBlock)→d.M w1 base (fun k=>ok k∧some k≠v1.ownBlock) q c:=by
  intro q c o hq ho
  have h1:=d.M_move (w1:=w1) (fun k hk=>hg.block k hk.2.2.1 (ho k hk.1).2) (d.M_bound hq)
  exact d.M_mono (fun k hk=>⟨(ho k hk.1).1,hne k (ho k hk.1).2 hk.2.2.1⟩) h1
 refine ⟨fun k hk=>?_,inner++cs,by rw [List.length_append,List.length_singleton];exact hown,?_⟩
 · rcases hat with hat | ⟨b,hb,hle⟩
   · exact h0 k (hat ▸ hk)
   rw [hb] at hk
   injection hk with hk
   exact hfresh k (by omega)
 exact (hr.iO (fun _ _ hq=>step hq (fun _ hk=>hk))).snoc (step hp hokp) (d.K_len (d.K_of_M hp))
section
variable {P:Program} {ops:Array Oper} {rest:List Oper} {o:Oper} {a:Act} {Q:Exit→Act→World→Prop} {α:Type}
theorem jL (d:Kd α) {w0 W:World} (base:Nat) (hgd:o.guard=none) (s x:Operand) (t e:TypeId) (z:Value) (bytes:Nat)
 (ho:o.op = .call {callee := .builtin .append,args:=#[s,x],argTypes:=#[t,t]})
 (ht:P.underlying t=some (.slice e)) (hinfo:(P.info? e).map (fun i=>(i.zero,i.size,i.bytes))=some (some z,d.sz,bytes)) (hz:z.cells.size=d.sz) (hs0:0<d.sz) (hb0:0<bytes)
 (v:Value) (xs:List α) (p:α) (cs:List Value) (ok okp:Nat→Prop) (hs:a.eval s=v) (hx:a.eval x = .slice (some ⟨W.heap.size,0,none⟩) 1 1) (hp:d.M W base okp p cs) (hokp:∀ k,okp k→ok k∧some k≠v.ownBlock) (hfresh:∀ k,W.heap.size≤k→ok k)
 (HO:d.R e W base ok v xs) (HB:Below base w0 W) (hbase:base≤W.heap.size) (hl:(xs.length+1)*bytes≤140737488355328)
 (h:∀ v1 w1,d.R e w1 base ok v1 (xs++[p])→Below base w0 w1→W.grownBy w1 v.ownBlock→(v1.ownBlock=v.ownBlock∨∃ b,v1.ownBlock=some b∧W.heap.size≤b)→wpList P ops Q rest (a.put o.dst v1) w1) :
 wpList P ops Q (o :: rest) a (W.alloc (.cells cs.toArray e)):=by
 obtain ⟨h0,inner,hown,hr⟩:=HO
 refine jd base hgd s x t e z d.sz bytes ho ht hinfo hz hs0 hb0 v xs.length inner cs hs hx (d.K_len (d.K_of_M hp)) (d.K_one (d.K_of_M hp)) hown HB hbase hl ?_
 intro v1 w1 hown1 hb1 hg1 hat1
 exact h v1 w1 (nN h0 hr hp hokp hfresh hown1 hg1 hat1) hb1 hg1 hat1
end
section
variable {P:Program} {ops:Array Oper} {o:Oper} {a:Act} {Q:Exit→Act→World→Prop} {Kc:Act→World→Prop} {α:Type}
theorem o7 (d:Kd α) {w0 W:World} (base:Nat) (hw:Region.wanted o (yielded ops a.tmps)=true) (s x:Operand) (t e:TypeId) (z:Value) (bytes:Nat)
 (ho:o.op = .call {callee := .builtin .append,args:=#[s,x],argTypes:=#[t,t]})
 (ht:P.underlying t=some (.slice e)) (hinfo:(P.info? e).map (fun i=>(i.zero,i.size,i.bytes))=some (some z,d.sz,bytes)) (hz:z.cells.size=d.sz) (hs0:0<d.sz) (hb0:0<bytes)
 (v:Value) (xs:List α) (p:α) (cs:List Value) (ok okp:Nat→Prop) (hs:a.eval s=v) (hx:a.eval x = .slice (some ⟨W.heap.size,0,none⟩) 1 1) (hp:d.M W base okp p cs) (hokp:∀ k,okp k→ok k∧some k≠v.ownBlock) (hfresh:∀ k,W.heap.size≤k→ok k)
 (HO:d.R e W base ok v xs) (HB:Below base w0 W) (hbase:base≤W.heap.size) (hl:(xs.length+1)*bytes≤140737488355328)
 (h:∀ v1 w1,d.R e w1 base ok v1 (xs++[p])→Below base w0 w1→W.grownBy w1 v.ownBlock→(v1.ownBlock=v.ownBlock∨∃ b,v1.ownBlock=some b∧W.heap.size≤b)→Kc (a.put o.dst v1) w1) :
 if Region.wanted o (yielded ops a.tmps)=true then Oper.wp P o a (W.alloc (.cells cs.toArray e)) Kc Q else Kc (a.put o.dst undef) (W.alloc (.cells cs.toArray e)):=by
 obtain ⟨h0,inner,hown,hr⟩:=HO
 refine lX base hw s x t e z d.sz bytes ho ht hinfo hz hs0 hb0 v xs.length inner cs hs hx (d.K_len (d.K_of_M hp)) (d.K_one (d.K_of_M hp)) hown HB hbase hl ?_
 intro v1 w1 hown1 hb1 hg1 hat1
 exact h v1 w1 (nN h0 hr hp hokp hfresh hown1 hg1 hat1) hb1 hg1 hat1
end
theorem su {α:Type} {enc:α→Value} {d:α} {h1:∀ x,(enc x).oneCell'=true} {w:World} {A:Option Addr} {n:Nat} {xs:List α} (h:dz enc d w A n xs):(scalar enc h1).C w A n xs:=by
 refine ⟨h.1,h.2.1,fun hn=>?_⟩
 obtain ⟨ad,e,hc⟩:=h.2.2 hn
 refine ⟨ad,e,fun j p hj=>⟨[enc p],rfl,rfl,fun i u hu=>?_⟩⟩
 obtain ⟨hl,hp⟩:=List.getElem?_eq_some_iff.1 hj
 have h2:=hc j (by have:=h.1;omega)
 rw [List.getD_eq_getElem?_getD,hj] at h2
 cases i with
 | zero=>
  have:enc p=u:=by simpa using hu
  subst this
  simpa [scalar] using h2
 | succ i=>simp at hu
theorem oJ {α:Type} {enc:α→Value} {d:α} {h1:∀ x,(enc x).oneCell'=true} {w:World} {A:Option Addr} {n:Nat} {xs:List α} (h:(scalar enc h1).C w A n xs):dz enc d w A n xs:=by
 refine ⟨h.1,h.2.1,fun hn=>?_⟩
 obtain ⟨ad,e,hc⟩:=h.2.2 hn
 refine ⟨ad,e,fun j hj=>?_⟩
 have hl:j<xs.length:=by have:=h.1;omega
 obtain ⟨c,_,hK,hcell⟩:=hc j _ (List.getElem?_eq_getElem hl)
 have hK':c=[enc xs[j]]:=hK
 subst hK'
 have:=hcell 0 _ rfl
 simpa [scalar,List.getD_eq_getElem?_getD,List.getElem?_eq_getElem hl] using this
end Kd
namespace Kd
section
variable {α β:Type} {d:Kd α} {d':Kd β} {e e':Nat} {w w1 W:World} {base b b':Nat} {ok ok' okv oku:Nat→Prop} {v u:Value} {xs:List α} {ys:List β}
theorem iR (h:d.R e w base ok v xs) (o:Obj):d.R e (w.alloc o) base ok v xs:=gT h (ai (Below.refl _ _) o)
theorem jH (h:d.R e w base ok v xs):d.R e w.drew base ok v xs:=gT h (ll (Below.refl _ _))
theorem iT (h:d.R e w base ok v xs) (m:Nat):d.R e (w.drewN m) base ok v xs:=gT h (aj (Below.refl _ _) m)
theorem iE {A:Option Addr} {n:Nat} (h:d.C w A n xs) (o:Obj):d.C (w.alloc o) A n xs:=bY h (ai (Below.refl _ _) o)
theorem kv {A:Option Addr} {n:Nat} (h:d.C w A n xs):d.C w.drew A n xs:=bY h (ll (Below.refl _ _))
theorem jl {A:Option Addr} {n:Nat} (h:d.C w A n xs) (m:Nat):d.C (w.drewN m) A n xs:=bY h (aj (Below.refl _ _) m)
theorem wG (d:Kd α) (w:World):d.C w none ([]:List α).length []:=⟨rfl,by simp,fun h=>absurd h (Nat.lt_irrefl 0)⟩
theorem iW {A:Option Addr} {n c:Nat} (h:d.R e w base ok (.slice A n c) xs):n=xs.length∧n≤c∧d.C w A xs.length xs:=by
 obtain ⟨A',c',he,hl,hr⟩:=mZ h
 injection he with h1 h2 h3
 subst h1
 exact ⟨h2,by omega,hr⟩
theorem nO (h:d.R e w base ok v xs):∀ k,v.ownBlock=some k→base≤k:=by
 obtain ⟨inner,ho⟩:=uq h
 exact iJ ho
theorem R_away (h:d.R e w base ok v xs) {g:Nat} (hok:∀ k,ok k→k≠g):some g≠v.ownBlock:=fun e=>hok g (h.1 g e.symm) rfl
end
section
variable {w W:World} {A:Option Addr} {n:Nat}
theorem p9 {k:IntKind} {xs:List Int} (h:(Kd.int k).C w A n xs) (i:Int) (h0:0≤i) (h1:i<n):∃ ad,A=some ad∧w.cell? (ad.add i.toNat)=some (.int k (rd xs i)):=
 dz.at_ (oJ (enc:=Value.int k) (d:=(0:Int)) (h1:=fun _=>rfl) h) i h0 h1
variable {α:Type} {enc:α→Value} {h1:∀ x,(enc x).oneCell'=true} {e base g cap:Nat} {ok:Nat→Prop} {xs:List α}
end
section
variable {P:Program} {ops:Array Oper} {rest:List Oper} {o:Oper} {a:Act} {Q:Exit→Act→World→Prop}
theorem pJ {W w1:World} {v:Value} (hgd:o.guard=none) (hrun:(execOp a.eval o).run P W = .ok (.value v) w1) (h:wpList P ops Q rest (a.put o.dst v) w1):wpList P ops Q (o :: rest) a W:=by
 refine wpList_plain hgd fun K hK=>?_
 unfold Oper.wp
 rw [hrun]
 exact hK _ _ h
variable {α:Type}
theorem uo (d:Kd α) {w0 W:World} (base e:Nat) (hgd:o.guard=none) {N:Tmp} (_hd:o.dst=some N) {xs:List α} {inner:List Value} {ok okp:Nat→Prop}
 (hrun:(execOp a.eval o).run P W = .ok (.value (.slice (some ⟨W.heap.size,0,none⟩) xs.length xs.length)) (W.alloc (.cells inner.toArray e)))
 (hrep:eu (d.M W base okp) d.sz xs inner) (hok:∀ k,okp k→ok k) (hfresh:ok W.heap.size) (HB:Below base w0 W) (hbase:base≤W.heap.size) (hm:xs.length≤9223372036854775807)
 (h:∀ v1 w1,d.R e w1 base ok v1 xs→Below base w0 w1→W.grownBy w1 none→(∃ b,v1.ownBlock=some b∧W.heap.size≤b)→wpList P ops Q rest (a.put o.dst v1) w1):wpList P ops Q (o :: rest) a W:=by
 refine pJ hgd hrun (h _ _ ⟨fun k hk=>?_,inner,?_,?_⟩ (HB.alloc hbase _) (World.grownBy_alloc W _ none) ⟨W.heap.size,by simp [Value.ownBlock],Nat.le_refl _⟩)
 · have:W.heap.size=k:=by simpa [Value.ownBlock] using hk
   subst this
   exact hfresh
 · have h2:=World.ownsRow_lit (base:=base) (e:=e) (size:=d.sz) W inner.toArray xs.length hbase (by simpa [maxLen] using hm) (by simpa using hrep.1)
   simpa using h2
 refine hrep.iO (fun p c hp=>d.M_mono (fun k hk=>⟨hok k hk.1,fun he=>?_⟩) (um (d.M_bound hp) (ai (Below.refl _ _) _)))
 have h3:k=W.heap.size:=by simpa [Value.ownBlock] using he
 have:=hk.2.2.1
 omega
end
end Kd
def QRow (w:World) (base:Nat) (e:TypeId) (size:Nat) (v:Value) (n:Nat) (xs:List Value):Prop:=
 xs.length=n*size ∧
 ((n=0∧∃ A,v = .slice A 0 0∧∀ a,A=some a→base≤a.block∧∃ cur,w.heap[a.block]?=some (.cells cur e (0,0))) ∨
  ∃ g off cap cur,v = .slice (some ⟨g,off*size,none⟩) n cap∧base≤g∧w.heap[g]?=some (.cells cur e (0,0))∧n≤cap∧off+cap≤maxLen∧cur.size=(off+cap)*size∧(cur.toList.drop (off*size)).take (n*size)=xs)
section
variable {w w1:World} {base n size:Nat} {e:TypeId} {v:Value} {xs:List Value}
theorem zO (h:w.ownsRow base e size v n xs):QRow w base e size v n xs:=by
 obtain ⟨h1,h2⟩:=h
 refine ⟨h1,?_⟩
 rcases h2 with ⟨rfl,h0⟩ | ⟨g,cap,cur,rfl,hb,hh,hnc,hcm,hcs,ht⟩
 · exact .inl ⟨h0,none,rfl,fun a ha=>by cases ha⟩
 exact .inr ⟨g,0,cap,cur,by rw [Nat.zero_mul],hb,hh,hnc,by rw [Nat.zero_add];exact hcm,by rw [Nat.zero_add];exact hcs,by rw [Nat.zero_mul,List.drop_zero];exact ht⟩
theorem ik {g:Nat}:∀ (vs:List Value) (o:Nat) {w:World} (k:Nat),k≠g→(w.setCells g o vs).heap[k]?=w.heap[k]?
 | [],_,_,_,_=>rfl
 | v :: r,o,w,k,hk=>by
  rw [World.setCells,ik r (o+1) k hk]
  exact Below.heap_setCell w ⟨g,o,none⟩ v k hk
theorem iG (g:Nat):∀ (vs:List Value) (o:Nat) (w:World),(w.setCells g o vs).os=w.os∧(w.setCells g o vs).tape=w.tape∧(w.setCells g o vs).output=w.output∧(w.setCells g o vs).heap.size=w.heap.size
 | [],_,_=>⟨rfl,rfl,rfl,rfl⟩
 | v :: r,o,w=>by
  obtain ⟨h1,h2,h3,h4⟩:=iG g r (o+1) (w.setCell ⟨g,o,none⟩ v)
  rw [World.setCells]
  exact ⟨h1,h2,h3,by rw [h4];simp [World.setCell]⟩
theorem kg {g:Nat} {e:TypeId}:∀ (vs:List Value) (o:Nat) (w:World) (cur:Array Value),w.heap[g]?=some (.cells cur e (0,0))→o+vs.length≤cur.size →
 ∃ cur',(w.setCells g o vs).heap[g]?=some (.cells cur' e (0,0))∧cur'.size=cur.size∧cur'.toList=cur.toList.take o++vs++cur.toList.drop (o+vs.length)
 | [],o,w,cur,h,_=>⟨cur,h,rfl,by simp⟩
 | v :: r,o,w,cur,h,hl=>by
  have h2:=uC h o v
  simp only [List.length_cons] at hl
  obtain ⟨cur',h3,h4,h5⟩:=kg r (o+1) (w.setCell ⟨g,o,none⟩ v) _ h2 (by simp;omega)
  refine ⟨cur',h3,by rw [h4];simp,?_⟩
  rw [h5,Array.toList_setIfInBounds]
  have ho:o<cur.toList.length:=by rw [Array.length_toList];omega
  rw [List.take_set,List.drop_set_of_lt (by omega)]
  simp only [List.length_cons]
  rw [show o+1+r.length=o+(r.length+1) by omega]
  congr 1
  rw [List.take_succ_eq_append_getElem ho,List.set_append_right _ _ (by rw [List.length_take];omega)]
  have ho':o<cur.size:=by omega
  simp [Nat.min_eq_left (Nat.le_of_lt ho')]
end
namespace Kd
def Q {α:Type} (d:Kd α) (e:Nat) (w:World) (base:Nat) (ok:Nat→Prop) (v:Value) (xs:List α):Prop:=
 (∀ k,v.ownBlock=some k→ok k)∧∃ inner,QRow w base e d.sz v xs.length inner∧eu (d.M w base (fun k=>ok k∧some k≠v.ownBlock)) d.sz xs inner
section
variable {α:Type} {d:Kd α} {e:Nat} {w w1 W:World} {base:Nat} {ok ok':Nat→Prop} {v:Value} {xs:List α}
theorem Q_of_R (h:d.R e w base ok v xs):d.Q e w base ok v xs:=by
 obtain ⟨h0,inner,ho,hr⟩:=h
 exact ⟨h0,inner,zO ho,hr⟩
theorem Q_nil (d:Kd α) (e:Nat) (w:World) (base:Nat) (ok:Nat→Prop):d.Q e w base ok (.slice none 0 0) []:=Q_of_R (kX d e w base ok)
end
section
variable {α:Type} {d:Kd α} {e e':Nat} {w w1 W:World} {base:Nat} {ok:Nat→Prop} {u v:Value} {xs:List α}
theorem R_typed (h:d.R e w base ok v xs):∀ k,v.ownBlock=some k→∃ cells,w.heap[k]?=some (.cells cells e (0,0)):=by
 obtain ⟨inner,ho⟩:=uq h
 exact fun k hk=>pU ho k hk
theorem qZ (h:d.R e W base ok u xs) (hty:∀ k,v.ownBlock=some k→∃ cells,W.heap[k]?=some (.cells cells e' (0,0))) (ht:∀ q,q∈e :: d.E→q≠e'):d.R e W base (fun k=>ok k∧some k≠v.ownBlock) u xs:=by
 refine gK (jm h) (fun k hk=>⟨hk.1,fun he=>?_⟩)
 obtain ⟨_,_,_,q,hq,cells,hc⟩:=hk
 obtain ⟨cells',hc'⟩:=hty k he.symm
 rw [hc] at hc'
 injection hc' with hc'
 injection hc' with _ hc'
 exact ht q hq hc'
theorem wM (hu:d.R e W base ok u xs) (hbase:∀ k,v.ownBlock=some k→W.heap.size≤k) (hb:Below W.heap.size W w1):d.R e w1 base (fun k=>ok k∧some k≠v.ownBlock) u xs:=
 gK (pY (jm hu) (fun k hk=>hb.block k hk.2.2.1)) (fun k hk=>⟨hk.1,fun he=>by have:=hbase k he.symm;have:=hk.2.2.1;omega⟩)
end
end Kd
namespace Kd
theorem mO {α:Type} {R:α→List Value→Prop} {size:Nat} {ps qs:List α} {cs ds:List Value} (h:eu R size ps cs) (h':eu R size qs ds):eu R size (ps++qs) (cs++ds):=by
 refine ⟨by rw [List.length_append,List.length_append,h.1,h'.1,Nat.add_mul],fun j p hj=>?_⟩
 rcases Nat.lt_or_ge j ps.length with hlt | hge
 · rw [List.getElem?_append_left hlt] at hj
   have hle:j*size+size≤cs.length:=by rw [h.1,←Nat.succ_mul];exact Nat.mul_le_mul_right _ hlt
   rw [List.drop_append_of_le_length (by omega),List.take_append_of_le_length (by rw [List.length_drop];omega)]
   exact h.2 j p hj
 rw [List.getElem?_append_right hge] at hj
 have h2:=h'.2 (j - ps.length) p hj
 have hle:ps.length*size≤j*size:=Nat.mul_le_mul_right _ hge
 rw [List.drop_append,List.drop_eq_nil_of_le (by rw [h.1];exact hle),List.nil_append,h.1,←Nat.sub_mul]
 exact h2
section
variable {P:Program} {ops:Array Oper} {rest:List Oper} {o:Oper} {a:Act} {Q:Exit→Act→World→Prop} {α:Type}
theorem jG (d:Kd α) {Rr:α→List Value→Prop} {w0 W:World} (base:Nat) (hgd:o.guard=none) (s x:Operand) (t e:TypeId) (z:Value) (bytes:Nat)
 (ho:o.op = .call {callee := .builtin .append,args:=#[s,x],argTypes:=#[t,t]})
 (ht:P.underlying t=some (.slice e)) (hinfo:(P.info? e).map (fun i=>(i.zero,i.size,i.bytes))=some (some z,d.sz,bytes)) (hz:z.cells.size=d.sz) (hs0:0<d.sz) (hb0:0<bytes)
 (v:Value) (xs ys:List α) (A:Option Addr) (m c:Nat) (ok okp:Nat→Prop) (hs:a.eval s=v) (hx:a.eval x = .slice A m c)
 (HO:d.R e W base ok v xs) (HR:dH Rr d.sz W A m ys) (hKM:∀ x cs,Rr x cs→d.M W base okp x cs) (hokp:∀ k,okp k→ok k∧some k≠v.ownBlock) (hfresh:∀ k,W.heap.size≤k→ok k)
 (HB:Below base w0 W) (hbase:base≤W.heap.size) (hl:(xs.length+m)*bytes≤140737488355328)
 (h:∀ v1 w1,d.R e w1 base ok v1 (xs++ys)→Below base w0 w1→W.grownBy w1 v.ownBlock→(v1.ownBlock=v.ownBlock∨∃ b,v1.ownBlock=some b∧W.heap.size≤b)→wpList P ops Q rest (a.put o.dst v1) w1) :
 wpList P ops Q (o :: rest) a W:=by
 obtain ⟨i0,hi,hzz⟩:=Option.map_eq_some_iff.1 hinfo
 simp only [Prod.mk.injEq] at hzz
 obtain ⟨hz0,hz1,hz2⟩:=hzz
 have hm:ys.length=m:=HR.1
 have hlen:xs.length+m≤140737488355328:=Nat.le_trans (Nat.le_mul_of_pos_right _ hb0) hl
 obtain ⟨hok,inner,hown,hr⟩:=HO
 have hrun:∃ v1 w1,(Builtin.append_ #[t,t] o.type #[v,.slice A m c]).run P W = .ok v1 w1∧d.R e w1 base ok v1 (xs++ys)∧W.grownBy w1 v.ownBlock∧(v1.ownBlock=v.ownBlock∨∃ b,v1.ownBlock=some b∧W.heap.size≤b):=by
  rcases A with _ | ad
  · have h0:m=0:=by
     rcases Nat.eq_zero_or_pos m with h0 | h0
     · exact h0
     obtain ⟨ad,h,_⟩:=HR.2.2 h0
     cases h
    subst h0
    obtain rfl:ys=[]:=List.eq_nil_of_length_eq_zero hm
    refine ⟨v,W,?_,by rw [List.append_nil];exact ⟨hok,inner,hown,hr⟩,World.grownBy.refl W _,.inl rfl⟩
    rcases hown.2 with ⟨rfl,hn⟩ | ⟨g,cap,cur,rfl,_,_,hnc,_⟩
    · simp [Builtin.append_,run_underlying ht,sizeOf,typeInfo,hi,Builtin.lenOf,Builtin.firstCells]
    simp [Builtin.append_,run_underlying ht,sizeOf,typeInfo,hi,Builtin.lenOf,Builtin.firstCells,hnc,storeCells]
  obtain ⟨news,hnr,hnc⟩:=dH.yV HR
  have hnM:eu (d.M W base okp) d.sz ys news:=hnr.iO (fun p c hp=>hKM p c hp)
  have hone:∀ u∈news,u.oneCell'=true:=by
   intro u hu
   obtain ⟨q,hq,rfl⟩:=List.mem_iff_getElem.1 hu
   have hql:q / d.sz<ys.length:=by
    rw [Nat.div_lt_iff_lt_mul hs0]
    rw [←hnM.1]
    exact hq
   have hc:=hnM.2 (q / d.sz) _ (List.getElem?_eq_getElem hql)
   refine d.K_one (d.K_of_M hc) _ ?_
   rw [List.mem_iff_getElem?]
   refine ⟨q % d.sz,?_⟩
   rw [List.getElem?_take,if_pos (Nat.mod_lt _ hs0),List.getElem?_drop,Nat.mul_comm,Nat.div_add_mod,List.getElem?_eq_getElem hq]
  obtain ⟨v1,w1,hrun,h2,hg,_,hat⟩:=run_append_own_at (P:=P) W base t o.type e i0 z d.sz bytes ht hi hz0 hz1 hz2 hz hs0 v xs.length inner hown ad m c news (by rw [hnM.1,hm]) hnc hone (by simp only [maxLen];omega) hl hbase
  have hat':v1.ownBlock=v.ownBlock∨∃ b,v1.ownBlock=some b∧W.heap.size≤b:=by
   rcases hat with hat | hat
   · exact .inl hat
   exact .inr ⟨_,hat,Nat.le_refl _⟩
  have hne:∀ k,some k≠v.ownBlock→k<W.heap.size→some k≠v1.ownBlock:=by
   intro k hk hlt
   rcases hat' with hat | ⟨b,hb,hle⟩
   · rw [hat];exact hk
   rw [hb]
   intro he
   injection he with he
   omega
  have step:∀ {q:α} {c:List Value} {o:Nat→Prop},d.M W base o q c→(∀ k,o k→ok k∧some k≠v.ownBlock)→d.M w1 base (fun k=>ok k∧some k≠v1.ownBlock) q c:=by
   intro q c o hq ho
   have h1:=d.M_move (w1:=w1) (fun k hk=>hg.block k hk.2.2.1 (ho k hk.1).2) (d.M_bound hq)
   exact d.M_mono (fun k hk=>⟨(ho k hk.1).1,hne k (ho k hk.1).2 hk.2.2.1⟩) h1
  refine ⟨v1,w1,hrun,⟨fun k hk=>?_,inner++news,by rw [List.length_append,hm];exact h2,mO (hr.iO (fun _ _ hq=>step hq (fun _ hk=>hk))) (hnM.iO (fun _ _ hq=>step hq hokp))⟩,hg,hat'⟩
  rcases hat' with hat | ⟨b,hb,hle⟩
  · exact hok k (hat ▸ hk)
  rw [hb] at hk
  injection hk with hk
  exact hfresh k (by omega)
 obtain ⟨v1,w1,hr1,h1,hg,hat⟩:=hrun
 refine wpList_plain hgd fun K hK=>?_
 unfold Oper.wp execOp
 simp only [ho,resolve,invoke,builtin,Sem.run_bind,Sem.run_pure,Result.andThen_ok,List.map_toArray,List.map_cons,List.map_nil,hs,hx,hr1]
 exact hK _ _ (h v1 w1 h1 (HB.grown hg hbase (iJ hown)) hg hat)
end
end Kd
theorem pg {P:Program} {w:World} {g o:Nat} {e:TypeId} {cur:Array Value} (t:TypeId) (u:Value) (seg:List Value) (hh:w.heap[g]?=some (.cells cur e (0,0))) (hu:u.cells.toList=seg) (ht:(P.info? t).map (·.size)=some seg.length)
 (hfit:o+seg.length≤cur.size) (h1:∀ q∈seg,q.oneCell'=true):(Instr.storeAt t (.pointer (some ⟨g,o,none⟩)) u).run P w = .ok () (w.setCells g o seg):=by
 obtain ⟨i,hi,hsz⟩:=Option.map_eq_some_iff.1 ht
 have hc:u.cells.size=i.size:=by rw [hsz,←hu,Array.length_toList]
 have hst:=run_storeCells_cells (P:=P) g o seg 0 w (fun j hj=>by rw [cell_of_row w g _ cur e (0,0) hh];simp;omega) (fun j _=>ah hh _) h1
 simp only [Nat.add_zero] at hst
 simp [Instr.storeAt,Instr.sureAddr,storeVar,sizeOf,typeInfo,hi,hc,hu,hst]
namespace Kd
end Kd
theorem fA {w W:World} (h:Below w.heap.size w W):w.heap.size≤W.heap.size:=h.size
theorem au {w W w2:World} (h:Below w.heap.size w W) (k:Below W.heap.size W w2):Below w.heap.size w w2:=sD h h.size k
theorem dB.nil (W:World) (k:IntKind):dB W k none ([]:List Int).length []:=⟨rfl,by simp,fun h=>absurd h (Nat.lt_irrefl 0)⟩
theorem dB.drewN {W:World} {k:IntKind} {A:Option Addr} {n:Nat} {xs:List Int} (h:dB W k A n xs) (m:Nat):dB (W.drewN m) k A n xs:=h
theorem eY {w W:World} {g j:Nat} {v:Value} (h:Below w.heap.size w W) (hg:w.heap.size≤g):Below w.heap.size w (W.setCell ⟨g,j,none⟩ v):=h.setCell hg _
theorem pK {w W:World} {g:Nat} (h:fC w W g none) {a:Addr} {v:Value} (hc:w.cell? a=some v) (hne:a.block≠g):W.cell? a=some v:=by
 have:=h.2 a.block (World.block_lt_of_cell? w a hc) hne (by simp)
 simpa [World.cell?,this] using hc
theorem add_block (a:Addr) (i:Nat):(a.add i).block=a.block:=by unfold Addr.add;split<;>rfl
theorem qf {w0 w w1:World} {B:Nat} (h:Below w0.heap.size w0 w) (hB:w0.heap.size≤B) (k:Below B w w1):Below w0.heap.size w0 w1:=
 h.trans ⟨k.os,k.tape,k.output,k.size,fun i hi=>k.block i (Nat.lt_of_lt_of_le hi hB)⟩
theorem dz.nil {α:Type} (enc:α→Value) (d:α) (W:World):dz enc d W none ([]:List α).length []:=⟨rfl,by simp,fun h=>absurd h (Nat.lt_irrefl 0)⟩
theorem dz.drewN {α:Type} {enc:α→Value} {d:α} {W:World} {A:Option Addr} {n:Nat} {xs:List α} (h:dz enc d W A n xs) (m:Nat):dz enc d (W.drewN m) A n xs:=h
theorem dB.keep {w W:World} {k:IntKind} {A:Option Addr} {n g:Nat} {xs:List Int} (h:dB w k A n xs) (hk:fC w W g none) (hf:∀ ad,A=some ad→0<n→ad.block≠g):dB W k A n xs:=
 ⟨h.1,h.2.1,fun hn=>by
  obtain ⟨ad,e,hc⟩:=h.2.2 hn
  exact ⟨ad,e,fun j hj=>pK hk (hc j hj) (by rw [add_block];exact hf ad e hn)⟩⟩
theorem dz.keep {α:Type} {enc:α→Value} {d:α} {w W:World} {A:Option Addr} {n g:Nat} {xs:List α} (h:dz enc d w A n xs) (hk:fC w W g none) (hf:∀ ad,A=some ad→0<n→ad.block≠g):dz enc d W A n xs:=
 ⟨h.1,h.2.1,fun hn=>by
  obtain ⟨ad,e,hc⟩:=h.2.2 hn
  exact ⟨ad,e,fun j hj=>pK hk (hc j hj) (by rw [add_block];exact hf ad e hn)⟩⟩
theorem cell_far {W:World} {p a:Addr} (h:a.block≠p.block) (u:Value):(W.setCell p u).cell? a=W.cell? a:=by
 have:=Below.heap_setCell W p u a.block h
 simp [World.cell?,this]
theorem aI {w:World} {g:Nat} {t:TypeId} {cs cs':Array Value} (h:w.heap[g]?=some (.cells cs t (0,0))) (i:Nat) (u:Value) (e:cs.setIfInBounds i u=cs'):(w.setCell ⟨g,i,none⟩ u).heap[g]?=some (.cells cs' t (0,0)):=e ▸ uC h i u
theorem af {base:Nat} {w W:World} (h:Below base w W):Below base w W.drew:=h.drew
namespace Kd
section
variable {α:Type} {d:Kd α} {e base g:Nat} {ok:Nat→Prop} {w w1:World} {v:Value} {xs:List α} {o:Obj}
theorem freshB (hb:w.heap[g]?=some o):∀ k,w.heap.size≤k→k≠g:=fun k hk=>by have:=ay hb;omega
end
end Kd
section
variable {P:Program} {ops:Array Oper} {rest:List Oper} {o:Oper} {a:Act} {Q:Exit→Act→World→Prop}
theorem vB {W:World} (hgd:o.guard=none) {N:Tmp} (_hd:o.dst=some N) {cs:Array Value} {t:TypeId}
 (hrun:(execOp a.eval o).run P W = .ok (.value (.pointer (some ⟨W.heap.size,0,none⟩))) (W.alloc (.cells cs t (0,0))))
 (h:∀ g,g=W.heap.size→∀ w1,w1.heap[g]?=some (.cells cs t (0,0))→Below W.heap.size W w1→wpList P ops Q rest (a.put o.dst (.pointer (some ⟨g,0,none⟩))) w1):wpList P ops Q (o :: rest) a W:=
 Kd.pJ hgd hrun (h _ rfl _ (kQ W _) (ai (Below.refl _ _) _))
end
namespace Kd
end Kd
section
variable {P:Program} {ops:Array Oper} {rest:List Oper} {o:Oper} {a:Act} {Q:Exit→Act→World→Prop}
theorem r9 {W w1:World} (hgd:o.guard=none) {t:TypeId} {p:Tmp} {v:Operand} (_ho:o.op = .store t (.tmp p) v) (hN:o.dst=none)
 (hrun:(execOp a.eval o).run P W = .ok .skip w1) (h:∀ w',w'=w1→wpList P ops Q rest a w'):wpList P ops Q (o :: rest) a W:=by
 refine wpList_plain hgd fun K hK=>?_
 unfold Oper.wp
 rw [hrun]
 show K (a.put o.dst undef) w1
 rw [hN]
 exact hK _ _ (h _ rfl)
end
namespace Kd
end Kd
section
variable {P:Program} {ops:Array Oper} {rest:List Oper} {o:Oper} {a:Act} {Q:Exit→Act→World→Prop} {W:World}
theorem bA {N:Tmp} (_hN:o.dst=some N) (h:wpList P ops Q (o :: rest) a W):wpList P ops Q (o :: rest) a W:=h
theorem sM {t:TypeId} {p:Tmp} {v:Operand} (_ho:o.op = .store t (.tmp p) v) (h:wpList P ops Q (o :: rest) a W):wpList P ops Q (o :: rest) a W:=h
end
section
variable {P:Program} {ops:Array Oper} {o:Oper} {a:Act} {Q:Exit→Act→World→Prop} {Kc:Act→World→Prop}
namespace Kd
variable {α:Type}
end Kd
end
namespace Kd
end Kd
end Go.Proofs.YtdkalnkplgfgoaaW.PrintWords
namespace Go.Proofs.YtdkalnkplgfgoaaW.PrintLast
section
variable {P:Program} {ops:Array Oper} {Q:Exit→Act→World→Prop} {md:Region.Mode} {S:World→Prop} {ds:List Nat}
def Region.iP (md:Region.Mode) (ops:Array Oper) (i:Nat):Nat→Nat→Bool
 | 0,_=>false
 | fuel+1,d=>match ops[d]? with
  | some o=>o.after.any fun e=>Region.binds md e&&(e.on==i||Region.iP md ops i fuel e.on)
  | none=>false
def Region.qi (md:Region.Mode) (ops:Array Oper) (listed:Array Bool):Bool:=
 (List.range ops.size).all fun j=>!listed.getD j false||match ops[j]? with
   | some o=>o.after.all fun e=>!Region.binds md e||listed.getD e.on false
   | none=>true
def Region.lastB (md:Region.Mode) (ops:Array Oper) (listed:Array Bool) (ds:List Nat) (i:Nat):Bool:=
 ds.all fun d=>listed.getD d true||Region.iP md ops i ops.size d
def fJ (md:Region.Mode) (ops:Array Oper) (listed:Array Bool):Prop:=
 ∀ j oj,ops[j]?=some oj→listed.getD j false=true→∀ e∈oj.after,Region.binds md e=true→listed.getD e.on false=true
theorem Region.qj {listed:Array Bool} (h:Region.qi md ops listed=true):fJ md ops listed:=by
 intro j oj hj hl e he hb
 have hlt:j<ops.size:=(Array.getElem?_eq_some_iff.1 hj).1
 have h1:=List.all_eq_true.1 h j (List.mem_range.2 hlt)
 simp only [hl,hj,Bool.not_true,Bool.false_or] at h1
 have h2:=Array.all_eq_true_iff_forall_mem.1 h1 e he
 simpa [hb] using h2
theorem fJ.set {listed:Array Bool} {i:Nat} (h:fJ md ops listed) (hi:i∈Region.ready md ops listed):fJ md ops (listed.setIfInBounds i true):=by
 obtain ⟨_,oi,hoi,hall⟩:=mem_ready.1 hi
 intro j oj hj hl e he hb
 by_cases hij:i=j
 · subst hij
   have:oj=oi:=Option.some.inj (hj.symm.trans hoi)
   subst this
   exact getD_set_true (hall e he hb)
 rw [getD_set_ne false hij] at hl
 exact getD_set_true (h j oj hj hl e he hb)
theorem Region.lU {listed:Array Bool} {i:Nat} (hc:fJ md ops listed):∀ (fuel d:Nat),Region.iP md ops i fuel d=true→listed.getD d false=true→listed.getD i false=true
 | 0,_,h,_=>by simp [Region.iP] at h
 | fuel+1,d,h,hl=>by
  unfold Region.iP at h
  cases ho:ops[d]? with
  | none=>rw [ho] at h;simp at h
  | some o=>
   rw [ho] at h
   obtain ⟨e,he,h1⟩:=Array.any_eq_true'.1 h
   simp only [Bool.and_eq_true,Bool.or_eq_true,beq_iff_eq] at h1
   have hle:=hc d o ho hl e he h1.1
   rcases h1.2 with h2 | h2
   · rw [←h2];exact hle
   exact Region.lU hc fuel e.on h2 hle
theorem Region.mU {listed:Array Bool} {i d fuel:Nat} (hc:fJ md ops listed) (hr:Region.iP md ops i fuel d=true) (hun:listed.getD i true=false):d ∉ Region.ready md ops listed:=by
 intro hd
 obtain ⟨_,o,ho,hall⟩:=mem_ready.1 hd
 have hi:listed.getD i false=true:=by
  cases fuel with
  | zero=>simp [Region.iP] at hr
  | succ n=>
   unfold Region.iP at hr
   rw [ho] at hr
   obtain ⟨e,he,h1⟩:=Array.any_eq_true'.1 hr
   simp only [Bool.and_eq_true,Bool.or_eq_true,beq_iff_eq] at h1
   have hle:=hall e he h1.1
   rcases h1.2 with h2 | h2
   · rw [←h2];exact hle
   exact Region.lU hc n e.on h2 hle
 rcases Nat.lt_or_ge i listed.size with h' | h'
 · simp [h'] at hun hi
   rw [hun] at hi
   cases hi
 simp [Array.getElem?_eq_none h'] at hun
def bC (P:Program) (md:Region.Mode) (ops:Array Oper) (Q:Exit→Act→World→Prop) (S:World→Prop) (ds:List Nat):Nat→Array Bool→Act→World→Prop
 | 0,listed,a,w=>Region.ready md ops listed=[]∧Q .normal a w
 | fuel+1,listed,a,w=>
  (Region.ready md ops listed=[]→Q .normal a w) ∧
  ∀ i∈Region.ready md ops listed,wpOp P ops Q i (fun a' w'=>(i ∉ ds→S w→S w')∧bC P md ops Q S ds fuel (listed.setIfInBounds i true) a' w') a w
theorem kZ:∀ (fuel:Nat) (listed:Array Bool) (a:Act) (w:World),bC P md ops Q S ds fuel listed a w→wpAny P md ops Q fuel listed a w
 | 0,_,_,_,h=>h
 | fuel+1,_,_,_,h=>⟨h.1,fun i hi=>wpOp_mono (fun a' w' h'=>kZ fuel _ a' w' h'.2) (h.2 i hi)⟩
theorem mX {i:Nat} {oi:Oper} {v:Value} (hi:ops[i]?=some oi) (hsel:∀ (j:Nat) (o:Oper) cs b,ops[j]?=some o→o.op ≠ .select cs b)
 (hQ:∀ c a w,Q (.panic c) (a.put oi.dst v) w→Q (.panic c) a w) (n:Nat) :
 ∀ (fuel:Nat) (listed:Array Bool) (a:Act) (w:World),
  (∀ j oj,ops[j]?=some oj→j≠i→listed.getD j true=false→(∀ e∈oj.after,Region.binds md e=true→e.on≠i)→oi.apart ops oj=true) →
  fJ md ops listed→(∀ d∈ds,listed.getD d true=false→Region.iP md ops i n d=true) →
  i∈Region.ready md ops listed→YieldsIf P ops S oi v a→S w →
  bC P md ops Q S ds fuel (listed.setIfInBounds i true) (a.put oi.dst v) w→bC P md ops Q S ds (fuel+1) listed a w:=by
 intro fuel
 induction fuel with
 | zero=>
  intro listed a w _ _ _ hr hy hS H
  refine ⟨fun h=>(by rw [h] at hr;cases hr),fun j hj=>?_⟩
  by_cases hji:j=i
  · subst hji;exact hy.wpOp hi hS ⟨fun _ h=>h,H⟩
  have:=ready_mono hj hji
  rw [H.1] at this
  cases this
 | succ fuel ih=>
  intro listed a w hfree hc hd hr hy hS H
  refine ⟨fun h=>(by rw [h] at hr;cases hr),fun j hj=>?_⟩
  by_cases hji:j=i
  · subst hji;exact hy.wpOp hi hS ⟨fun _ h=>h,H⟩
  have h1:=H.2 j (ready_mono hj hji)
  obtain ⟨hjun,oj,hoj,hall⟩:=mem_ready.1 hj
  have hiun:=(mem_ready.1 hr).1
  have hnot:∀ e∈oj.after,Region.binds md e=true→e.on≠i:=fun e he hb heq=>by
   have h1:=hall e he hb
   rw [heq] at h1
   rcases Nat.lt_or_ge i listed.size with h' | h'
   · simp [h'] at hiun h1;rw [hiun] at h1;cases h1
   simp [Array.getElem?_eq_none h'] at h1
  have hjd:j ∉ ds:=fun hm=>Region.mU hc (hd j hm hjun) hiun hj
  have h2:=wpOp_putIf hoj (hfree j oj hoj hji hjun hnot) (fun cs b=>hsel i oi cs b hi) (fun cs b=>hsel j oj cs b hoj) hQ hy h1
  have hfree':∀ k ok,ops[k]?=some ok→k≠i→(listed.setIfInBounds j true).getD k true=false →
   (∀ e∈ok.after,Region.binds md e=true→e.on≠i)→oi.apart ops ok=true:=fun k ok hk hki hun hno=>by
   refine hfree k ok hk hki ?_ hno
   by_cases hjk:j=k
   · subst hjk;exact hjun
   rw [getD_set_ne true hjk] at hun;exact hun
  have hd':∀ d∈ds,(listed.setIfInBounds j true).getD d true=false→Region.iP md ops i n d=true:=fun d hm hun=>by
   refine hd d hm ?_
   by_cases hjk:j=d
   · subst hjk;exact hjun
   rw [getD_set_ne true hjk] at hun;exact hun
  refine wpOp_mono (fun a' w' h3=>⟨h3.2.1,ih (listed.setIfInBounds j true) a' w' hfree' (hc.set hj) hd' (ready_mono hr (Ne.symm hji)) h3.1 (h3.2.1 hjd hS) ?_⟩) h2
  rw [Array.setIfInBounds_comm _ _ hji]
  exact h3.2.2
theorem pE {i:Nat} {oi:Oper} {v:Value} (hi:ops[i]?=some oi) (hsel:∀ (j:Nat) (o:Oper) cs b,ops[j]?=some o→o.op ≠ .select cs b)
 (hQ:∀ c a w,Q (.panic c) (a.put oi.dst v) w→Q (.panic c) a w) :
 ∀ (fuel:Nat) (listed:Array Bool) (a:Act) (w:World),
  (∀ j oj,ops[j]?=some oj→j≠i→listed.getD j true=false→(∀ e∈oj.after,Region.binds md e=true→e.on≠i)→oi.apart ops oj=true) →
  i∈Region.ready md ops listed→Yields P ops oi v a →
  bC P md ops Q S ds fuel (listed.setIfInBounds i true) (a.put oi.dst v) w→bC P md ops Q S ds (fuel+1) listed a w:=by
 intro fuel
 induction fuel with
 | zero=>
  intro listed a w _ hr hy H
  refine ⟨fun h=>(by rw [h] at hr;cases hr),fun j hj=>?_⟩
  by_cases hji:j=i
  · subst hji;exact (hy.yieldsIf (S:=fun _=>True)).wpOp hi trivial ⟨fun _ h=>h,H⟩
  have:=ready_mono hj hji
  rw [H.1] at this
  cases this
 | succ fuel ih=>
  intro listed a w hfree hr hy H
  refine ⟨fun h=>(by rw [h] at hr;cases hr),fun j hj=>?_⟩
  by_cases hji:j=i
  · subst hji;exact (hy.yieldsIf (S:=fun _=>True)).wpOp hi trivial ⟨fun _ h=>h,H⟩
  have h1:=H.2 j (ready_mono hj hji)
  obtain ⟨hjun,oj,hoj,hall⟩:=mem_ready.1 hj
  have hiun:=(mem_ready.1 hr).1
  have hnot:∀ e∈oj.after,Region.binds md e=true→e.on≠i:=fun e he hb heq=>by
   have h1:=hall e he hb
   rw [heq] at h1
   rcases Nat.lt_or_ge i listed.size with h' | h'
   · simp [h'] at hiun h1;rw [hiun] at h1;cases h1
   simp [Array.getElem?_eq_none h'] at h1
  have h2:=wpOp_put hoj (hfree j oj hoj hji hjun hnot) (fun cs b=>hsel i oi cs b hi) (fun cs b=>hsel j oj cs b hoj) hQ hy h1
  have hfree':∀ k ok,ops[k]?=some ok→k≠i→(listed.setIfInBounds j true).getD k true=false →
   (∀ e∈ok.after,Region.binds md e=true→e.on≠i)→oi.apart ops ok=true:=fun k ok hk hki hun hno=>by
   refine hfree k ok hk hki ?_ hno
   by_cases hjk:j=k
   · subst hjk;exact hjun
   rw [getD_set_ne true hjk] at hun;exact hun
  refine wpOp_mono (fun a' w' h3=>⟨h3.2.1,ih (listed.setIfInBounds j true) a' w' hfree' (ready_mono hr (Ne.symm hji)) h3.1 ?_⟩) h2
  rw [Array.setIfInBounds_comm _ _ hji]
  exact h3.2.2
theorem oZ {i:Nat} {oi:Oper} {v:Value} {fuel:Nat} {listed:Array Bool} {a:Act} {w:World} (hi:ops[i]?=some oi)
 (hs:Region.noSelect ops=true) (hf:Region.free md ops listed i=true) (hr:(Region.ready md ops listed).contains i=true)
 (hc:Region.qi md ops listed=true) (hl:Region.lastB md ops listed ds i=true)
 (hQ:∀ c a w,Q (.panic c) (a.put oi.dst v) w→Q (.panic c) a w) (hy:YieldsIf P ops S oi v a) (hS:S w)
 (h:bC P md ops Q S ds fuel (listed.setIfInBounds i true) (a.put oi.dst v) w):bC P md ops Q S ds (fuel+1) listed a w:=
 mX hi (Region.noSelect_spec hs) hQ ops.size fuel listed a w (Region.free_spec hi hf) (Region.qj hc)
  (fun d hm hun=>by have:=List.all_eq_true.1 hl d hm;rw [hun] at this;simpa using this) (by simpa using hr) hy hS h
theorem pz {rs:List Nat} {fuel:Nat} {listed:Array Bool} {a:Act} {w:World} (hr:Region.ready md ops listed=rs) (hne:rs≠[])
 (h:∀ i∈rs,wpOp P ops Q i (fun a' w'=>(i ∉ ds→S w→S w')∧bC P md ops Q S ds fuel (listed.setIfInBounds i true) a' w') a w):bC P md ops Q S ds (fuel+1) listed a w:=
 ⟨fun h0=>absurd (hr ▸ h0) hne,hr ▸ h⟩
theorem oW {listed:Array Bool} {a:Act} {w:World} (hr:Region.ready md ops listed=[]) (h:Q .normal a w) :
 ∀ fuel,bC P md ops Q S ds fuel listed a w
 | 0=>⟨hr,h⟩
 | _+1=>⟨fun _=>h,by rw [hr];simp⟩
theorem o5 {id:Nat} {a:Act} {w:World} (hm:P.follows .mixedOrders=true)
 (h:bC P .any ops Q S ds ops.size (Array.replicate ops.size false) a {w with drawn:=w.drawn+1}):(Code.region id ops true).wp P Q a w:=
 wp_region_any hm (kZ _ _ _ _ h)
end
section
variable {P:Program} {ops:Array Oper} {Q:Exit→Act→World→Prop} {md:Region.Mode} {S:World→Prop} {ds:List Nat}
def dZ (P:Program) (md:Region.Mode) (ops:Array Oper) (Q:Exit→Act→World→Prop) (S:World→Prop) (ds:List Nat) (fuel:Nat) (listed:Array Bool) (a:Act) (w:World) (rs:List Nat):Prop:=
 ∀ i∈rs,wpOp P ops Q i (fun a' w'=>(i ∉ ds→S w→S w')∧bC P md ops Q S ds fuel (listed.setIfInBounds i true) a' w') a w
theorem dZ.nil {fuel:Nat} {listed:Array Bool} {a:Act} {w:World}:dZ P md ops Q S ds fuel listed a w []:=fun _ h=>by cases h
theorem dZ.cons {fuel:Nat} {listed:Array Bool} {a:Act} {w:World} {i:Nat} {o:Oper} {rs:List Nat} (ho:ops[i]?=some o) (hd:i ∉ ds)
 (h:∀ K':Act→World→Prop,Shut (∀ a w,S w→(S w→bC P md ops Q S ds fuel (listed.setIfInBounds i true) a w)→K' a w)→if Region.wanted o (yielded ops a.tmps)=true then Oper.wp P o a w K' Q else K' (a.put o.dst undef) w)
 (hs:dZ P md ops Q S ds fuel listed a w rs):dZ P md ops Q S ds fuel listed a w (i :: rs):=fun j hj=>by
 rcases List.mem_cons.1 hj with rfl | hj
 · exact wpOp_step ho (fun K' hK=>h K' (fun a w hS hW=>hK a w ⟨fun _ _=>hS,hW hS⟩))
 exact hs j hj
theorem dZ.vF {fuel:Nat} {listed:Array Bool} {a:Act} {w:World} {i:Nat} {o:Oper} {rs:List Nat} (ho:ops[i]?=some o) (hd:i∈ds)
 (h:∀ K':Act→World→Prop,Shut (∀ a w,bC P md ops Q S ds fuel (listed.setIfInBounds i true) a w→K' a w)→if Region.wanted o (yielded ops a.tmps)=true then Oper.wp P o a w K' Q else K' (a.put o.dst undef) w)
 (hs:dZ P md ops Q S ds fuel listed a w rs):dZ P md ops Q S ds fuel listed a w (i :: rs):=fun j hj=>by
 rcases List.mem_cons.1 hj with rfl | hj
 · exact wpOp_step ho (fun K' hK=>h K' (fun a w hW=>hK a w ⟨fun hn=>absurd hd hn,hW⟩))
 exact hs j hj
theorem ku {rs:List Nat} {fuel:Nat} {listed:Array Bool} {a:Act} {w:World} (hr:Region.ready md ops listed=rs) (hne:rs≠[])
 (h:dZ P md ops Q S ds fuel listed a w rs):bC P md ops Q S ds (fuel+1) listed a w:=pz hr hne h
theorem jK {id n:Nat} {a:Act} {w:World} (l:Array Bool) (hm:P.follows .mixedOrders=true) (hn:ops.size=n) (hl:Array.replicate n false=l) (hS:S w.drew)
 (h:S w.drew→bC P .any ops Q S ds n l a w.drew):(Code.region id ops true).wp P Q a w:=by
 subst hn
 subst hl
 exact o5 hm (h hS)
def takeB (md:Region.Mode) (ops:Array Oper) (ds:List Nat) (l l':Array Bool) (i:Nat):Bool:=
 Region.noSelect ops&&Region.free md ops l i&&(Region.ready md ops l).contains i&&Region.qi md ops l&&Region.lastB md ops l ds i&&(l.setIfInBounds i true==l')
theorem fI {i:Nat} {N:Option Tmp} {oi:Oper} {v:Value} {fuel:Nat} {l:Array Bool} {a:Act} {w:World} (l':Array Bool) (hi:ops[i]?=some oi) (hN:oi.dst=N) (hc:takeB md ops ds l l' i=true)
 (hQ:∀ c a w,Q (.panic c) (a.put oi.dst v) w→Q (.panic c) a w) (hy:YieldsIf P ops S oi v a) (hS:S w) {a':Act} (ha:a.put N v=a')
 (h:bC P md ops Q S ds fuel l' a' w):bC P md ops Q S ds (fuel+1) l a w:=by
 subst ha
 subst hN
 simp only [takeB,Bool.and_eq_true,beq_iff_eq] at hc
 obtain ⟨⟨⟨⟨⟨h1,h2⟩,h3⟩,h4⟩,h5⟩,h6⟩:=hc
 subst h6
 exact oZ hi h1 h2 h3 h4 h5 hQ hy hS h
def anyB (md:Region.Mode) (ops:Array Oper) (l l':Array Bool) (i:Nat):Bool:=
 Region.noSelect ops&&Region.free md ops l i&&(Region.ready md ops l).contains i&&(l.setIfInBounds i true==l')
theorem bG {i:Nat} {N:Option Tmp} {oi:Oper} {v:Value} {fuel:Nat} {l:Array Bool} {a:Act} {w:World} (l':Array Bool) (hi:ops[i]?=some oi) (hN:oi.dst=N) (hc:anyB md ops l l' i=true)
 (hQ:∀ c a w,Q (.panic c) (a.put oi.dst v) w→Q (.panic c) a w) (hy:Yields P ops oi v a) {a':Act} (ha:a.put N v=a')
 (h:bC P md ops Q S ds fuel l' a' w):bC P md ops Q S ds (fuel+1) l a w:=by
 subst ha
 subst hN
 simp only [anyB,Bool.and_eq_true,beq_iff_eq] at hc
 obtain ⟨⟨⟨h1,h2⟩,h3⟩,h6⟩:=hc
 subst h6
 exact pE hi (Region.noSelect_spec h1) hQ fuel l a w (Region.free_spec hi h2) (by simpa using h3) hy h
def mo (md:Region.Mode) (ops:Array Oper) (l l':Array Bool) (i:Nat):Bool:=(Region.ready md ops l==[i])&&(l.setIfInBounds i true==l')
theorem tJ {i:Nat} {N:Option Tmp} {oi:Oper} {fuel:Nat} {l:Array Bool} {a:Act} {w:World} (l':Array Bool) (hi:ops[i]?=some oi) (hN:oi.dst=N) (hc:mo md ops l l' i=true) (hd:i ∉ ds)
 (h:∀ K:Act→World→Prop,Shut (∀ a' w',S w'→(S w'→bC P md ops Q S ds fuel l' a' w')→K a' w')→if Region.wanted oi (yielded ops a.tmps)=true then Oper.wp P oi a w K Q else K (a.put N undef) w) :
 bC P md ops Q S ds (fuel+1) l a w:=by
 subst hN
 simp only [mo,Bool.and_eq_true,beq_iff_eq] at hc
 obtain ⟨h1,h2⟩:=hc
 subst h2
 exact ku h1 (by simp) (dZ.cons hi hd (fun K hK=>h K hK) dZ.nil)
theorem oq {i:Nat} {N:Option Tmp} {oi:Oper} {fuel:Nat} {l:Array Bool} {a:Act} {w:World} (l':Array Bool) (hi:ops[i]?=some oi) (hN:oi.dst=N) (hc:mo md ops l l' i=true) (hd:i∈ds)
 (h:∀ K:Act→World→Prop,Shut (∀ a' w',bC P md ops Q S ds fuel l' a' w'→K a' w')→if Region.wanted oi (yielded ops a.tmps)=true then Oper.wp P oi a w K Q else K (a.put N undef) w) :
 bC P md ops Q S ds (fuel+1) l a w:=by
 subst hN
 simp only [mo,Bool.and_eq_true,beq_iff_eq] at hc
 obtain ⟨h1,h2⟩:=hc
 subst h2
 exact ku h1 (by simp) (dZ.vF hi hd (fun K hK=>h K hK) dZ.nil)
theorem fO {l:Array Bool} {a:Act} {w:World} {n:Nat} (hr:(Region.ready md ops l==[])=true) (h:Q .normal a w):bC P md ops Q S ds n l a w:=oW (by simpa using hr) h n
theorem kI {fuel:Nat} {l:Array Bool} {a a':Act} {w:World} (ha:a=a') (h:bC P md ops Q S ds fuel l a' w):bC P md ops Q S ds fuel l a w:=by
 subst ha
 exact h
theorem call_ {oi:Oper} {N:Option Tmp} {a:Act} {w:World} {K:Act→World→Prop} (f:FuncId) (args:Array Value) (hw:Region.wanted oi (yielded ops a.tmps)=true) (hN:oi.dst=N) (hrun:(execOp a.eval oi).run P w = .ok (.enter f args) w)
 (h:Calls P f args w fun e w'=>∃ v,e = .returned v∧K (a.put N v) w'):if Region.wanted oi (yielded ops a.tmps)=true then Oper.wp P oi a w K Q else K (a.put N undef) w:=by
 rw [if_pos hw]
 subst hN
 unfold Oper.wp
 rw [hrun,Oper.upon_enter]
 refine h.mono fun e w'' hh=>?_
 obtain ⟨v,rfl,hk⟩:=hh
 exact hk
theorem uI {f:FuncId} {fn:Func} (hf:P.funcs[f]?=some fn) (hname:(fn.name == "runtime.NumGoroutine")=false) (hb:fn.body.isSome=true) (args:Array Value) (w:World):(callFunc f args).run P w = .ok (.enter f args) w:=by
 have h1:fn.name ≠ "runtime.NumGoroutine" := by simpa using hname
 obtain ⟨c,hc⟩:=Option.isSome_iff_exists.1 hb
 simp [callFunc,hf,h1,hc]
theorem kY {oi:Oper} {N:Option Tmp} {a:Act} {w:World} {K:Act→World→Prop} {f:FuncId} {fn:Func} {as_:Array Operand} {ts:Array TypeId} (hf:P.funcs[f]?=some fn) (hname:(fn.name == "runtime.NumGoroutine")=false) (hb:fn.body.isSome=true) (args:Array Value)
 (hw:Region.wanted oi (yielded ops a.tmps)=true) (hN:oi.dst=N) (hop:oi.op = .call {callee := .value (.func f),args:=as_,argTypes:=ts}) (hargs:as_.map a.eval=args)
 (h:Calls P f args w fun e w'=>∃ v,e = .returned v∧K (a.put N v) w'):if Region.wanted oi (yielded ops a.tmps)=true then Oper.wp P oi a w K Q else K (a.put N undef) w:=by
 refine call_ f args hw hN ?_ h
 have he:=uI hf hname hb args w
 unfold execOp
 simp [hop,resolve,Deferred.ofValue,invoke,Act.eval,hargs,he]
theorem AO {oi:Oper} {N:Option Tmp} {a:Act} {w w1:World} {v:Value} {K:Act→World→Prop} (hw:Region.wanted oi (yielded ops a.tmps)=true) (hN:oi.dst=N) (hrun:(execOp a.eval oi).run P w = .ok (.value v) w1)
 (h:K (a.put N v) w1):if Region.wanted oi (yielded ops a.tmps)=true then Oper.wp P oi a w K Q else K (a.put N undef) w:=by
 rw [if_pos hw]
 subst hN
 unfold Oper.wp
 rw [hrun]
 exact h
theorem uT {oi:Oper} {a:Act} {w w1:World} {K:Act→World→Prop} (hw:Region.wanted oi (yielded ops a.tmps)=true) (hN:oi.dst=none) (hrun:(execOp a.eval oi).run P w = .ok .skip w1)
 (h:K a w1):if Region.wanted oi (yielded ops a.tmps)=true then Oper.wp P oi a w K Q else K (a.put none undef) w:=by
 rw [if_pos hw]
 unfold Oper.wp
 rw [hrun]
 show K (a.put oi.dst undef) w1
 rw [hN]
 exact h
theorem aQ (n:Int):IntKind.i64.wrap n=Go.RowKit.wrap64 n:=by unfold Go.RowKit.wrap64;exact IntKind.wrap_i64 n
theorem aN (n:Int):IntKind.i32.wrap n=Go.RowKit.wrap32 n:=by unfold Go.RowKit.wrap32;exact IntKind.wrap_i32 n
end
open Go.Proofs.YtdkalnkplgfgoaaW.PrintWords (aa)
def nI (md:Region.Mode) (o:Oper):List Nat:=(o.after.toList.filter (fun e=>Region.binds md e)).map (fun e=>e.on)
def uE (md:Region.Mode) (ops:Array Oper) (i:Nat) (oi:Oper):List Nat:=(List.range ops.size).filter fun j=>!(j==i)&&match ops[j]? with
 | some oj=>!(oj.after.any (fun e=>Region.binds md e&&e.on==i)||oi.apart ops oj)
 | none=>false
def wm (md:Region.Mode) (ops:Array Oper):Bool × List (List Nat × List Nat):=(Region.noSelect ops,(List.range ops.size).map fun i=>match ops[i]? with
 | some o=>(nI md o,uE md ops i o)
 | none=>([],[]))
def tV (T:List (List Nat × List Nat)) (i:Nat):Nat→Nat→Bool
 | 0,_=>false
 | fuel+1,d=>match T[d]? with
  | some r=>r.1.any fun j=>j==i||tV T i fuel j
  | none=>false
section
variable {md:Region.Mode} {ops:Array Oper} {T:Bool × List (List Nat × List Nat)} {l l' li lj lk:Array Bool} {ds:List Nat} {i j k:Nat}
theorem gd (l:Array Bool) (j:Nat) (b:Bool):l.getD j b=l.toList.getD j b:=by simp [Array.getD_eq_getD_getElem?,List.getD_eq_getElem?_getD]
theorem vQ (o:Oper) (p:Nat→Bool):o.after.any (fun e=>Region.binds md e&&p e.on)=(nI md o).any p:=by
 unfold nI
 rw [←Array.any_toList]
 induction o.after.toList with
 | nil=>rfl
 | cons e r ih=>
  rw [List.any_cons,ih,List.filter_cons]
  cases h:Region.binds md e<;>simp
theorem rW:(wm md ops).2.length=ops.size:=by simp [wm]
theorem ww {o:Oper} (h:ops[i]?=some o):(wm md ops).2[i]?=some (nI md o,uE md ops i o):=by
 have hi:=(Array.getElem?_eq_some_iff.1 h).1
 unfold wm
 rw [List.getElem?_map,List.getElem?_range hi,Option.map_some,h]
theorem wu (h:ops[i]?=none):(wm md ops).2[i]?=none:=by
 have hi:ops.size≤i:=Array.getElem?_eq_none_iff.1 h
 exact List.getElem?_eq_none (by rw [rW];exact hi)
theorem jQ:∀ (fuel d:Nat),Region.iP md ops i fuel d=tV (wm md ops).2 i fuel d
 | 0,_=>rfl
 | fuel+1,d=>by
  unfold Region.iP tV
  cases h:ops[d]? with
  | none=>rw [wu h]
  | some o=>
   rw [ww h]
   simp only
   rw [←vQ]
   congr 1
   funext e
   rw [jQ fuel]
end
end Go.Proofs.YtdkalnkplgfgoaaW.PrintLast
namespace Go.Proofs.YtdkalnkplgfgoaaW.PrintWords
open Go.RowKit
namespace Kd
def tag {α:Type} (f:Nat→Nat) (d:Kd α):Kd (α × Nat) where
 sz:=d.sz
 E:=d.E
 K:=fun w x cs=>d.K w x.1 cs
 M:=fun w base ok x cs=>d.M w base (fun k=>ok k∧f k=x.2) x.1 cs
 K_len:=fun h=>d.K_len h
 K_one:=fun h=>d.K_one h
 K_below:=fun hb h=>d.K_below hb h
 K_of_M:=fun h=>d.K_of_M h
 M_mono:=fun hok h=>d.M_mono (fun k hk=>⟨hok k hk.1,hk.2⟩) h
 M_bound:=fun h=>d.M_mono (fun _ hk=>⟨⟨hk.1.1,hk.2⟩,hk.1.2⟩) (d.M_bound h)
 M_move:=fun hm h=>d.M_move (fun k hk=>hm k hk.1) h
 M_lower:=fun hb h=>d.M_lower hb h
def raw (sz:Nat):Kd (List Value) where
 sz:=sz
 E:=[]
 K:=fun _ x cs=>cs=x∧cs.length=sz∧∀ u∈cs,u.oneCell'=true
 M:=fun _ _ _ x cs=>cs=x∧cs.length=sz∧∀ u∈cs,u.oneCell'=true
 K_len:=fun h=>h.2.1
 K_one:=fun h=>h.2.2
 K_below:=fun _ h=>h
 K_of_M:=fun h=>h
 M_mono:=fun _ h=>h
 M_bound:=fun h=>h
 M_move:=fun _ h=>h
 M_lower:=fun _ h=>h
def S {α:Type} (d:Kd α) (e:Nat) (w:World) (base:Nat) (ok:Nat→Prop) (v:Value) (xs:List α):Prop:=∃ f,(tag f d).R e w base ok v xs.zipIdx
section
variable {α β:Type} {d:Kd α} {d':Kd β} {e e':Nat} {w w1 W:World} {base b:Nat} {ok ok' okv oku:Nat→Prop} {u v:Value} {xs:List α} {ys:List β}
theorem zip_at {xs:List α} {j:Nat} {p:α} (h:xs[j]?=some p):xs.zipIdx[j]?=some (p,j):=by rw [List.getElem?_zipIdx,h,Nat.zero_add];rfl
theorem S_R (h:S d e w base ok v xs):d.R e w base ok v xs:=by
 obtain ⟨f,h0,inner,ho,hr⟩:=h
 rw [List.length_zipIdx] at ho
 exact ⟨h0,inner,ho,by have:=hr.1;rw [List.length_zipIdx] at this;exact this,fun j p hj=>d.M_mono (fun _ hk=>hk.1) (hr.2 j (p,j) (zip_at hj))⟩
theorem ut (hE:d.E=[]) (h:d.R e w base ok v xs):d.R e w base (fun k=>some k=v.ownBlock) v xs:=by
 obtain ⟨h0,inner,ho,hr⟩:=h
 refine ⟨fun k hk=>hk.symm,inner,ho,hr.iO (fun p c hp=>d.M_mono (fun k hk=>?_) (d.M_bound hp))⟩
 obtain ⟨_,_,_,q,hq,_⟩:=hk
 rw [hE] at hq
 cases hq
theorem S_nil (d:Kd α) (e:Nat) (w:World) (base:Nat) (ok:Nat→Prop):S d e w base ok (.slice none 0 0) []:=⟨fun _=>0,kX _ _ _ _ _⟩
theorem kw (h:S d e w base ok v xs) (hok:∀ k,ok k→ok' k):S d e w base ok' v xs:=by
 obtain ⟨f,h⟩:=h
 exact ⟨f,gK h hok⟩
theorem uu (h:S d e w base ok v xs):S d e w base (fun k=>ok k∧base≤k∧k<w.heap.size∧∃ q,q∈e :: d.E∧∃ cells,w.heap[k]?=some (.cells cells q (0,0))) v xs:=by
 obtain ⟨f,h⟩:=h
 exact ⟨f,jm h⟩
theorem S_move (h:S d e w base ok v xs) (hm:∀ k,ok k→w1.heap[k]?=w.heap[k]?):S d e w1 base ok v xs:=by
 obtain ⟨f,h⟩:=h
 exact ⟨f,pY h hm⟩
theorem wR (h:S d e w base ok v xs) (hm:∀ k,ok k→k<w.heap.size→w1.heap[k]?=w.heap[k]?):S d e w1 base ok v xs:=
 kw (S_move (uu h) (fun k hk=>hm k hk.1 hk.2.2.1)) (fun _ hk=>hk.1)
theorem ni (h:S d e w base ok v xs) (hb:Below w.heap.size w w1):S d e w1 base ok v xs:=wR h (fun k _ hk=>hb.block k hk)
theorem kN (h:S d e w base ok v xs) (o:Obj):S d e (w.alloc o) base ok v xs:=ni h (ai (Below.refl _ _) o)
theorem lZ (h:S d e w base ok v xs):S d e w.drew base ok v xs:=ni h (ll (Below.refl _ _))
theorem kP (h:S d e w base ok v xs) (m:Nat):S d e (w.drewN m) base ok v xs:=ni h (aj (Below.refl _ _) m)
theorem lq (h:S d e w base ok v xs) {p:Addr} (hok:∀ k,ok k→k≠p.block) (u:Value):S d e (w.setCell p u) base ok v xs:=wR h (fun k ho _=>Below.heap_setCell w p u k (hok k ho))
theorem uw (h:S d e w base ok v xs):∀ k,v.ownBlock=some k→∃ cells,w.heap[k]?=some (.cells cells e (0,0)):=R_typed (S_R h)
theorem wP (h:S d e W base ok u xs) (hbase:∀ k,v.ownBlock=some k→W.heap.size≤k) (hb:Below W.heap.size W w1):S d e w1 base (fun k=>ok k∧some k≠v.ownBlock) u xs:=by
 obtain ⟨f,h⟩:=h
 exact ⟨f,wM h hbase hb⟩
theorem R_tag {f f':Nat→Nat} {zs:List (α × Nat)} (h:(tag f d).R e w base ok v zs) (hf:∀ k,ok k→k<w.heap.size→f' k=f k):(tag f' d).R e w base ok v zs:=by
 obtain ⟨h0,inner,ho,hr⟩:=jm h
 exact ⟨fun k hk=>(h0 k hk).1,inner,ho,hr.1,fun j p hj=>d.M_mono (fun k hk=>⟨⟨hk.1.1.1,hk.1.2⟩,(hf k hk.1.1.1 hk.1.1.2.2.1).trans hk.2⟩) (hr.2 j p hj)⟩
end
section
variable {α β:Type} {d:Kd α} {d':Kd β} {e e' g:Nat} {w w1 W:World} {base b:Nat} {ok ok' okv oku:Nat→Prop} {u v:Value} {xs:List α} {ys:List β}
theorem S_away (h:S d e w base ok v xs) (hok:∀ k,ok k→k≠g):some g≠v.ownBlock:=R_away (S_R h) hok
theorem wQ (h:S d e w base ok v xs) (a:Nat) (ha:w.heap.size≤a):S d e w base (fun k=>ok k∧k≠a) v xs:=kw (uu h) (fun k hk=>⟨hk.1,by have:=hk.2.2.1;omega⟩)
theorem AP (xs:List α) (p:α):(xs++[p]).zipIdx=xs.zipIdx++[(p,xs.length)]:=by rw [List.zipIdx_append];simp
end
section
open Classical in
theorem S_tag {α:Type} {d:Kd α} {e base:Nat} {okv:Nat→Prop} {w:World} {v:Value} {xs:List α} (h:S d e w base okv v xs) (m:Nat) (okp:Nat→Prop) (hap:∀ k,okp k→¬okv k):∃ f,(∀ k,okp k→f k=m)∧(tag f d).R e w base okv v xs.zipIdx:=by
 obtain ⟨f,h⟩:=h
 exact ⟨fun k=>if okp k then m else f k,fun k hk=>if_pos hk,R_tag h (fun k hk _=>if_neg (fun h2=>hap k h2 hk))⟩
variable {P:Program} {ops:Array Oper} {rest:List Oper} {o:Oper} {a:Act} {Q:Exit→Act→World→Prop} {Kc:Act→World→Prop} {α:Type}
theorem wO (d:Kd α) {w0 W:World} (base:Nat) (hgd:o.guard=none) (s x:Operand) (t e:TypeId) (z:Value) (bytes:Nat)
 (ho:o.op = .call {callee := .builtin .append,args:=#[s,x],argTypes:=#[t,t]})
 (ht:P.underlying t=some (.slice e)) (hinfo:(P.info? e).map (fun i=>(i.zero,i.size,i.bytes))=some (some z,d.sz,bytes)) (hz:z.cells.size=d.sz) (hs0:0<d.sz) (hb0:0<bytes)
 (v:Value) (xs:List α) (p:α) (cs:List Value) (ok okp:Nat→Prop) (hs:a.eval s=v) (hx:a.eval x = .slice (some ⟨W.heap.size,0,none⟩) 1 1) (hp:d.M W base okp p cs) (hokp:∀ k,okp k→ok k∧some k≠v.ownBlock) (hfresh:∀ k,W.heap.size≤k→ok k)
 (HO:S d e W base (fun k=>ok k∧¬okp k) v xs) (HB:Below base w0 W) (hbase:base≤W.heap.size) (hl:(xs.length+1)*bytes≤140737488355328)
 (h:∀ v1 w1,S d e w1 base ok v1 (xs++[p])→Below base w0 w1→W.grownBy w1 v.ownBlock→(v1.ownBlock=v.ownBlock∨∃ b,v1.ownBlock=some b∧W.heap.size≤b)→wpList P ops Q rest (a.put o.dst v1) w1) :
 wpList P ops Q (o :: rest) a (W.alloc (.cells cs.toArray e)):=by
 obtain ⟨f,hf,hR⟩:=S_tag HO xs.length okp (fun _ hk h2=>h2.2 hk)
 refine jL (tag f d) base hgd s x t e z bytes ho ht hinfo hz hs0 hb0 v xs.zipIdx (p,xs.length) cs ok okp hs hx (d.M_mono (fun k hk=>⟨hk,hf k hk⟩) hp) hokp hfresh (gK hR (fun _ hk=>hk.1)) HB hbase (by rw [List.length_zipIdx];exact hl) ?_
 intro v1 w1 hr
 rw [←AP] at hr
 exact h v1 w1 ⟨f,hr⟩
end
def gap {α:Type} (f:Nat→Nat) (d:Kd α) (i:Nat) (c:List Value):Kd (α × Nat) where
 sz:=d.sz
 E:=d.E
 K:=fun w x cs=>(x.2=i→cs=c∧cs.length=d.sz∧∀ u∈cs,u.oneCell'=true)∧(x.2≠i→d.K w x.1 cs)
 M:=fun w base ok x cs=>(x.2=i→cs=c∧cs.length=d.sz∧∀ u∈cs,u.oneCell'=true)∧(x.2≠i→d.M w base (fun k=>ok k∧f k=x.2) x.1 cs)
 K_len:=fun {w x cs} h=>by
  by_cases hx:x.2=i
  · exact (h.1 hx).2.1
  exact d.K_len (h.2 hx)
 K_one:=fun {w x cs} h=>by
  by_cases hx:x.2=i
  · exact (h.1 hx).2.2
  exact d.K_one (h.2 hx)
 K_below:=fun hb h=>⟨h.1,fun hx=>d.K_below hb (h.2 hx)⟩
 K_of_M:=fun h=>⟨h.1,fun hx=>d.K_of_M (h.2 hx)⟩
 M_mono:=fun hok h=>⟨h.1,fun hx=>d.M_mono (fun k hk=>⟨hok k hk.1,hk.2⟩) (h.2 hx)⟩
 M_bound:=fun h=>⟨h.1,fun hx=>d.M_mono (fun _ hk=>⟨⟨hk.1.1,hk.2⟩,hk.1.2⟩) (d.M_bound (h.2 hx))⟩
 M_move:=fun hm h=>⟨h.1,fun hx=>d.M_move (fun k hk=>hm k hk.1) (h.2 hx)⟩
 M_lower:=fun hb h=>⟨h.1,fun hx=>d.M_lower hb (h.2 hx)⟩
def H {α:Type} (d:Kd α) (e:Nat) (w:World) (base:Nat) (ok:Nat→Prop) (v:Value) (xs:List α) (i:Int) (oki:Nat→Prop) (c:List Value):Prop:=
 (∀ k,oki k→ok k)∧∃ f,(gap f d i.toNat c).R e w base (fun k=>ok k∧¬oki k) v xs.zipIdx
end Kd
open Go.RowKit
namespace Kd
theorem Ae {α:Type} {R:α→List Value→Prop} {size:Nat} {ps:List α} {cs:List Value} (h:eu R size ps cs) (hs0:0<size) (hR:∀ p c,R p c→∀ u∈c,u.oneCell'=true):∀ u∈cs,u.oneCell'=true:=by
 intro u hu
 obtain ⟨q,hq,rfl⟩:=List.mem_iff_getElem.1 hu
 have hql:q / size<ps.length:=by
  rw [Nat.div_lt_iff_lt_mul hs0,←h.1]
  exact hq
 refine hR _ _ (h.2 (q / size) _ (List.getElem?_eq_getElem hql)) _ ?_
 rw [List.mem_iff_getElem?]
 refine ⟨q % size,?_⟩
 rw [List.getElem?_take,if_pos (Nat.mod_lt _ hs0),List.getElem?_drop,Nat.mul_comm,Nat.div_add_mod,List.getElem?_eq_getElem hq]
def arr {α:Type} (n:Nat) (d:Kd α) (hs:0<d.sz):Kd (List α) where
 sz:=n*d.sz
 E:=d.E
 K:=fun w xs cs=>xs.length=n∧eu (d.K w) d.sz xs cs
 M:=fun w base ok xs cs=>xs.length=n∧eu (d.M w base ok) d.sz xs cs
 K_len:=fun h=>by rw [←h.1];exact h.2.1
 K_one:=fun h=>Ae h.2 hs (fun _ _ hk=>d.K_one hk)
 K_below:=fun hb h=>⟨h.1,h.2.iO (fun _ _ hk=>d.K_below hb hk)⟩
 K_of_M:=fun h=>⟨h.1,h.2.iO (fun _ _ hk=>d.K_of_M hk)⟩
 M_mono:=fun hok h=>⟨h.1,h.2.iO (fun _ _ hk=>d.M_mono hok hk)⟩
 M_bound:=fun h=>⟨h.1,h.2.iO (fun _ _ hk=>d.M_bound hk)⟩
 M_move:=fun hm h=>⟨h.1,h.2.iO (fun _ _ hk=>d.M_move hm hk)⟩
 M_lower:=fun hb h=>⟨h.1,h.2.iO (fun _ _ hk=>d.M_lower hb hk)⟩
end Kd
open Go.RowKit
namespace Kd
structure Heap {α:Type} (d:Kd α):Prop where
 K:∀ {w w1:World} {x:α} {cs:List Value},(∀ k,k<w.heap.size→w1.heap[k]?=w.heap[k]?)→d.K w x cs→d.K w1 x cs
theorem vC {w w1:World} (hb:∀ k,k<w.heap.size→w1.heap[k]?=w.heap[k]?) {a:Addr} {v:Value} (h:w.cell? a=some v):w1.cell? a=some v:=by
 have:=hb a.block (World.block_lt_of_cell? w a h)
 simpa [World.cell?,this] using h
theorem Heap.C {α:Type} {d:Kd α} (hd:Heap d) {w w1:World} {A:Option Addr} {n:Nat} {xs:List α} (hb:∀ k,k<w.heap.size→w1.heap[k]?=w.heap[k]?) (h:d.C w A n xs):d.C w1 A n xs:=
 ⟨h.1,h.2.1,fun hn=>by
  obtain ⟨ad,e,hc⟩:=h.2.2 hn
  refine ⟨ad,e,fun j p hj=>?_⟩
  obtain ⟨c,hs,hr,hcell⟩:=hc j p hj
  exact ⟨c,hs,hd.K hb hr,fun i u hu=>vC hb (hcell i u hu)⟩⟩
end Kd
open Go.RowKit
def Kept (w W:World) (S:Nat→Prop):Prop:=w.heap.size≤W.heap.size∧∀ i,i<w.heap.size→¬S i→W.heap[i]?=w.heap[i]?
section
variable {w W W2:World} {S S2 S':Nat→Prop}
theorem Kept.refl (w:World) (S:Nat→Prop):Kept w w S:=⟨Nat.le_refl _,fun _ _ _=>rfl⟩
theorem Kept.of_below (h:Below w.heap.size w W) (S:Nat→Prop):Kept w W S:=⟨h.size,fun i hi _=>h.block i hi⟩
theorem Kept.mono (h:Kept w W S) (hs:∀ k,S k→S' k):Kept w W S':=⟨h.1,fun i hi hn=>h.2 i hi (fun hk=>hn (hs i hk))⟩
theorem Kept.then_ (h:Kept w W S) (k:Kept W W2 S2) (hs:∀ k,S2 k→S k∨w.heap.size≤k):Kept w W2 S:=
 ⟨Nat.le_trans h.1 k.1,fun i hi hn=>(k.2 i (Nat.lt_of_lt_of_le hi h.1) (fun h2=>(hs i h2).elim hn (fun h3=>by omega))).trans (h.2 i hi hn)⟩
theorem Kept.below (h:Kept w W S) (hb:Below W.heap.size W W2):Kept w W2 S:=h.then_ (Kept.of_below hb (fun _=>False)) (fun _ hk=>hk.elim)
theorem Kept.alloc (h:Kept w W S) (o:Obj):Kept w (W.alloc o) S:=h.below (ai (Below.refl _ _) o)
theorem Kept.drew (h:Kept w W S):Kept w W.drew S:=h
theorem Kept.drewN (h:Kept w W S) (m:Nat):Kept w (W.drewN m) S:=h
theorem Kept.setCell (h:Kept w W S) {p:Addr} (hp:S p.block∨w.heap.size≤p.block) (u:Value):Kept w (W.setCell p u) S:=
 h.then_ (S2:=fun k=>k=p.block) ⟨by simp [World.setCell],fun i _ hn=>Below.heap_setCell W p u i hn⟩ (fun k hk=>by rw [hk];exact hp)
theorem Kept.keep {g:Nat} (h:fC w W g none) (k:Kept W W2 S2) (hs:∀ k,S2 k→w.heap.size≤k):fC w W2 g none:=
 ⟨Nat.le_trans h.1 k.1,fun i hi hg hr=>(k.2 i (Nat.lt_of_lt_of_le hi h.1) (fun h2=>by have:=hs i h2;omega)).trans (h.2 i hi hg hr)⟩
end
namespace Kd
end Kd
open Go.RowKit
def qX (P:World→Prop) (W:World) (ok:Nat→Prop):Prop:=∀ W':World,(∀ k,ok k→k<W.heap.size→W'.heap[k]?=W.heap[k]?)→P W'
theorem heap_lt {W W1:World} {k:Nat} (h:W1.heap[k]?=W.heap[k]?) (hlt:k<W.heap.size):k<W1.heap.size:=by
 rw [Array.getElem?_eq_getElem hlt] at h
 exact (Array.getElem?_eq_some_iff.1 h).1
namespace qX
variable {P Q:World→Prop} {W W1:World} {ok ok':Nat→Prop}
theorem mono (h:qX P W ok) (hok:∀ k,ok k→ok' k):qX P W ok':=fun W' hW=>h W' (fun k hk hlt=>hW k (hok k hk) hlt)
theorem step (h:qX P W ok) (hm:∀ k,ok k→k<W.heap.size→W1.heap[k]?=W.heap[k]?):qX P W1 ok:=fun W' hW=>h W' (fun k hk hlt=>(hW k hk (heap_lt (hm k hk hlt) hlt)).trans (hm k hk hlt))
end qX
namespace Kd
def F {α:Type} (d:Kd α) (W:World) (ok:Nat→Prop) (A:Option Addr) (n:Nat) (xs:List α):Prop:=qX (fun W=>d.C W A n xs) W ok
def FK {α:Type} (d:Kd α) (W:World) (ok:Nat→Prop) (x:α) (c:List Value):Prop:=qX (fun W=>d.K W x c) W ok
section
variable {α β:Type} {d:Kd α} {e base n n' cc g N:Nat} {ok ok' okp S:Nat→Prop} {w w0 w1 W W1:World} {A A':Option Addr} {u v v1:Value} {xs:List α} {xs':List β} {d':Kd β} {x:α} {c:List Value}
theorem F_nil (d:Kd α) (W:World) (ok:Nat→Prop):F d W ok none ([]:List α).length []:=fun W' _=>wG d W'
theorem FK_of_M (h:d.M W base ok x c):FK d W ok x c:=fun _ hW=>d.K_of_M (wL h hW)
end
end Kd
open Go.RowKit
namespace Kd
def chunks (sz:Nat) (n:Nat) (inner:List Value):List (List Value):=(List.range n).map fun j=>(inner.drop (j*sz)).take sz
theorem gM (sz n:Nat) (inner:List Value):(chunks sz n inner).length=n:=by simp [chunks]
theorem vD {sz n:Nat} {inner:List Value} {j:Nat} (hj:j<n):(chunks sz n inner)[j]?=some ((inner.drop (j*sz)).take sz):=by simp [chunks,hj]
theorem nT {sz n:Nat} {inner:List Value} {j:Nat} {c:List Value} (h:(chunks sz n inner)[j]?=some c):c=(inner.drop (j*sz)).take sz:=by
 have hj:j<n:=by have:=(List.getElem?_eq_some_iff.1 h).1;rwa [gM] at this
 rw [vD hj] at h
 injection h with h
 exact h.symm
theorem Af {α:Type} {Rr:α→List Value→Prop} {sz:Nat} {xs:List α} {inner:List Value} (h:eu Rr sz xs inner) (hR:∀ x c,Rr x c→c.length=sz∧∀ u∈c,u.oneCell'=true):eu (fun x cs=>cs=x∧cs.length=sz∧∀ u∈cs,u.oneCell'=true) sz (chunks sz xs.length inner) inner:=by
 refine ⟨by rw [gM];exact h.1,fun j p hj=>?_⟩
 have hjl:j<xs.length:=by have:=(List.getElem?_eq_some_iff.1 hj).1;rwa [gM] at this
 have hp:=nT hj
 exact ⟨hp.symm,hR _ _ (h.2 j _ (List.getElem?_eq_getElem hjl))⟩
section
variable {α:Type} {d:Kd α} {e base n cc g:Nat} {ok ok' okp S:Nat→Prop} {w w1 W W1:World} {A:Option Addr} {u v v1:Value} {xs:List α} {x:α} {c:List Value}
def N {α:Type} (d:Kd α) (e:Nat) (w:World) (base:Nat) (ok:Nat→Prop) (v:Value) (xs:List α):Prop:=
 (∀ k,v.ownBlock=some k→ok k)∧∃ rows:List (List Value),rows.length=xs.length∧(raw d.sz).R e w base (fun k=>some k=v.ownBlock) v rows∧∀ (j:Nat) (x:α) (c:List Value),xs[j]?=some x→rows[j]?=some c→FK d w (fun k=>ok k∧some k≠v.ownBlock) x c
theorem R_N (h:d.R e w base ok v xs):N d e w base ok v xs:=by
 obtain ⟨h0,inner,ho,hr⟩:=h
 refine ⟨h0,chunks d.sz xs.length inner,gM _ _ _,⟨fun k hk=>hk.symm,inner,by rw [gM];exact ho,Af hr (fun x c hp=>⟨d.K_len (d.K_of_M hp),d.K_one (d.K_of_M hp)⟩)⟩,fun j x c hx hc=>?_⟩
 rw [nT hc]
 exact FK_of_M (hr.2 j x hx)
theorem N_nil (d:Kd α) (e:Nat) (w:World) (base:Nat) (ok:Nat→Prop):N d e w base ok (.slice none 0 0) []:=R_N (kX _ _ _ _ _)
end
end Kd
open Go.RowKit
section
variable {P:Program} {d:Nat} {xs ys:Array Value} {f:Field} {fs:List Field} {a b:Value} {r s:Bool} {w:World}
theorem xQ (hn:(f.name == "_")=false) (ha:(part f.type xs f.offset).run P w = .ok a w) (hb:(part f.type ys f.offset).run P w = .ok b w) (he:(Op.equalIn d f.type a b).run P w = .ok r w):(Op.eqFields d xs ys [f]).run P w = .ok r w:=by
 have hn':f.name ≠ "_" := by simpa using hn
 simp only [Op.eqFields,if_pos hn',Sem.run_bind,ha,hb,he,Result.andThen_ok]
 cases r<;>simp
theorem nV (hn:(f.name == "_")=false) (ha:(part f.type xs f.offset).run P w = .ok a w) (hb:(part f.type ys f.offset).run P w = .ok b w) (he:(Op.equalIn d f.type a b).run P w = .ok r w) (hr:(Op.eqFields d xs ys fs).run P w = .ok s w):(Op.eqFields d xs ys (f :: fs)).run P w = .ok (r&&s) w:=by
 have hn':f.name ≠ "_" := by simpa using hn
 rw [Op.eqFields]
 simp only [if_pos hn',Sem.run_bind,ha,hb,he,Result.andThen_ok]
 cases r
 · simp
 simpa using hr
theorem eqA_of {t:TypeId} {fs:Array Field} (hu:P.underlying t=some (.struct fs)) (hp:P.stoodInHeld t=false) (h:(Op.eqFields d xs ys fs.toList).run P w = .ok r w):(Op.equalIn (d+1) t (.agg xs) (.agg ys)).run P w = .ok r w:=by
 have hf:P.fieldsOf t=fs:=by simp [Program.fieldsOf,hu]
 rw [run_equalIn_struct (P:=P) w d t xs ys (by rw [hf];exact hu) hp,hf]
 exact h
end
theorem eu.one {α:Type} {R:α→List Value→Prop} {ps:List α} {cs:List Value} {p:α} {v:Value} (hp:R p [v]) (h:eu R 1 ps cs):eu R 1 (p :: ps) (v :: cs):=by
 refine ⟨by simp [h.1],fun j q hq=>?_⟩
 cases j with
 | zero=>
  simp only [List.getElem?_cons_zero,Option.some.injEq] at hq
  subst hq
  simpa using hp
 | succ j=>
  simp only [List.getElem?_cons_succ] at hq
  have h1:=h.2 j q hq
  simpa [Nat.mul_one] using h1
end Go.Proofs.YtdkalnkplgfgoaaW.PrintWords
namespace Go.Proofs.YtdkalnkplgfgoaaW.PrintMore
open Go.RowKit Go.Proofs.YtdkalnkplgfgoaaW.PrintWords
namespace Kd
open Go.Proofs.YtdkalnkplgfgoaaW.PrintWords.Kd
end Kd
theorem dR (k k':IntKind) (x y:Int):Builtin.max2 (.int k x) (.int k' y)=pure (.int k (if x<y then y else x)):=by simp only [Builtin.max2,gt_iff_lt]
theorem dU (k k':IntKind) (x y:Int):Builtin.min2 (.int k x) (.int k' y)=pure (.int k (if y<x then y else x)):=by simp only [Builtin.min2]
theorem fD (ats:Array TypeId) (ty:TypeId) (a b:Value):Builtin.max_ ats ty #[a,b]=(Builtin.max2 a b >>= fun s=>pure s):=by simp only [Builtin.max_,List.foldlM_cons,List.foldlM_nil]
theorem fE (ats:Array TypeId) (ty:TypeId) (a b:Value):Builtin.min_ ats ty #[a,b]=(Builtin.min2 a b >>= fun s=>pure s):=by simp only [Builtin.min_,List.foldlM_cons,List.foldlM_nil]
theorem dC (ats:Array TypeId) (ty:TypeId) (a b c:Value):Builtin.max_ ats ty #[a,b,c]=(Builtin.max2 a b >>= fun s=>Builtin.max2 s c >>= fun s=>pure s):=by simp only [Builtin.max_,List.foldlM_cons,List.foldlM_nil]
theorem dD (ats:Array TypeId) (ty:TypeId) (a b c:Value):Builtin.min_ ats ty #[a,b,c]=(Builtin.min2 a b >>= fun s=>Builtin.min2 s c >>= fun s=>pure s):=by simp only [Builtin.min_,List.foldlM_cons,List.foldlM_nil]
theorem dS (ats:Array TypeId) (ty:TypeId) (a b c d:Value):Builtin.max_ ats ty #[a,b,c,d]=(Builtin.max2 a b >>= fun s=>Builtin.max2 s c >>= fun s=>Builtin.max2 s d >>= fun s=>pure s):=by simp only [Builtin.max_,List.foldlM_cons,List.foldlM_nil]
theorem dV (ats:Array TypeId) (ty:TypeId) (a b c d:Value):Builtin.min_ ats ty #[a,b,c,d]=(Builtin.min2 a b >>= fun s=>Builtin.min2 s c >>= fun s=>Builtin.min2 s d >>= fun s=>pure s):=by simp only [Builtin.min_,List.foldlM_cons,List.foldlM_nil]
end Go.Proofs.YtdkalnkplgfgoaaW.PrintMore
namespace Go.Proofs.YtdkalnkplgfgoaaW.PrintWords
open Go.RowKit
section
variable {P:Program} {ops:Array Oper} {rest:List Oper} {o:Oper} {a:Act} {Q:Exit→Act→World→Prop} {W:World}
theorem jW {b:Builtin} {xs:Array Operand} {ts:Array TypeId} (_ho:o.op = .call {callee := .builtin b,args:=xs,argTypes:=ts}) (h:wpList P ops Q (o :: rest) a W):wpList P ops Q (o :: rest) a W:=h
end
def mn (a b:Int):Int:=if b<a then b else a
def shl (k:IntKind) (x y:Int):Int:=k.wrap (x*2 ^ min y.toNat k.bits)
def shr (k:IntKind) (x y:Int):Int:=x / 2 ^ min y.toNat k.bits
theorem wy {k:IntKind} {x y j:Int} (h:shl k x y=j) (hy:y≤k.bits):k.wrap (x*2 ^ y.toNat)=j:=by rw [←h];unfold shl;rw [Nat.min_eq_left (by omega)]
theorem wz {k:IntKind} {x y j:Int} (h:shr k x y=j) (hy:y≤k.bits):x / 2 ^ y.toNat=j:=by rw [←h];unfold shr;rw [Nat.min_eq_left (by omega)]
namespace Kd
end Kd
open Go.RowKit
namespace Kd
def V {α:Type} (d:Kd α) (_e:Nat) (W:World) (_base:Nat) (ok:Nat→Prop) (v:Value) (xs:List α):Prop:=∃ A c,v = .slice A xs.length c∧xs.length≤c∧F d W ok A xs.length xs
section
variable {α β:Type} {d:Kd α} {e base base' n m c g N' lo hi:Nat} {ok ok' S:Nat→Prop} {w W w1:World} {A:Option Addr} {ad:Addr} {u v v1:Value} {xs:List α}
theorem V_nil (d:Kd α) (e:Nat) (W:World) (base:Nat) (ok:Nat→Prop):V d e W base ok (.slice none 0 0) []:=⟨none,0,rfl,Nat.le_refl _,F_nil d W ok⟩
end
end Kd
end Go.Proofs.YtdkalnkplgfgoaaW.PrintWords
namespace Go.Proofs.Ytdkalnkplgfgoaa.PA
open Go.RowKit Go.Proofs.YtdkalnkplgfgoaaW.PrintWords Go.Proofs.YtdkalnkplgfgoaaW.PrintLast Go.Proofs.YtdkalnkplgfgoaaW.PrintMore
attribute [local go_sem] dR dU fD fE dC dD dS dV
def xR:Option Int→Value
 | none => .nilIface
 | some c => .iface 0 (.int .i64 c)
theorem l9:xR none = .nilIface:=rfl
theorem ma (c:Int):xR (some c) = .iface 0 (.int .i64 c):=rfl
theorem info5:(Try.prog.info? 5).map (fun i=>(i.zero,i.size,i.bytes))=some (some (.int .u8 0),1,1):=by kernel_rfl
theorem mh:(Try.prog.info? 45).map (fun i=>(i.zero,i.size,i.bytes))=some (some (.agg #[(.int .u16 0),(.int .u8 0),(.int .u8 0),(.int .u32 0)]),4,8):=by kernel_rfl
theorem oo:(Try.prog.info? 47).map (fun i=>(i.zero,i.size,i.bytes))=some (some (.agg #[(.slice none 0 0),(.int .i64 0),(.int .u16 0),(.int .u8 0),(.int .u8 0),(.int .u32 0),(.int .i64 0),(.int .i64 0)]),8,56):=by kernel_rfl
structure S45 where
 f0:Int
 f1:Int
 f2:Int
 f3:Int
def z45:S45:=⟨(0:Int),(0:Int),(0:Int),(0:Int)⟩
def k45:Kd S45:=Kd.iso (Kd.pair (Kd.int .u16) (Kd.pair (Kd.int .u8) (Kd.pair (Kd.int .u8) (Kd.int .u32)))) (fun x:S45=>(x.f0,x.f1,x.f2,x.f3))
theorem jP {w:World} {x:S45} {cs:List Value} (h:k45.K w x cs):cs=[.int .u16 x.f0,.int .u8 x.f1,.int .u8 x.f2,.int .u32 x.f3]:=by
 obtain ⟨_,_,rfl,rfl,⟨_,_,rfl,rfl,⟨_,_,rfl,rfl,rfl⟩⟩⟩:=h
 exact rfl
theorem y9 (w:World) (x:S45):k45.K w x [.int .u16 x.f0,.int .u8 x.f1,.int .u8 x.f2,.int .u32 x.f3]:=⟨[.int .u16 x.f0],[.int .u8 x.f1,.int .u8 x.f2,.int .u32 x.f3],rfl,rfl,⟨[.int .u8 x.f1],[.int .u8 x.f2,.int .u32 x.f3],rfl,rfl,⟨[.int .u8 x.f2],[.int .u32 x.f3],rfl,rfl,rfl⟩⟩⟩
theorem kR (w:World) (base:Nat) (ok:Nat→Prop) (x:S45):k45.M w base ok x [.int .u16 x.f0,.int .u8 x.f1,.int .u8 x.f2,.int .u32 x.f3]:=⟨[.int .u16 x.f0],[.int .u8 x.f1,.int .u8 x.f2,.int .u32 x.f3],rfl,rfl,⟨[.int .u8 x.f1],[.int .u8 x.f2,.int .u32 x.f3],rfl,rfl,⟨[.int .u8 x.f2],[.int .u32 x.f3],rfl,rfl,rfl⟩⟩⟩
def bX (xs:List S45) (i:Int):S45:=xs.getD i.toNat z45
theorem xz {w:World} {A:Option Addr} {n:Nat} {xs:List S45} (h:Kd.C k45 w A n xs) (i:Int) (h0:0≤i) (h1:i<n):∃ ad,A=some ad∧w.cell? (ad.add (i.toNat*4))=some (.int .u16 (bX xs i).f0)∧w.cell? ⟨(ad.add (i.toNat*4)).block,(ad.add (i.toNat*4)).off+1,none⟩=some (.int .u8 (bX xs i).f1)∧w.cell? ⟨(ad.add (i.toNat*4)).block,(ad.add (i.toNat*4)).off+2,none⟩=some (.int .u8 (bX xs i).f2)∧w.cell? ⟨(ad.add (i.toNat*4)).block,(ad.add (i.toNat*4)).off+3,none⟩=some (.int .u32 (bX xs i).f3):=by
 obtain ⟨ad,c,e,_,hK,hc0⟩:=Kd.C_get h z45 i h0 h1
 have hc:∀ j u,c[j]?=some u→w.cell? (ad.add (i.toNat*4+j))=some u:=hc0
 obtain rfl:=jP hK
 exact ⟨ad,e,hc 0 _ rfl,by rw [←fQ _ _ 1 (by omega)];exact hc 1 _ rfl,by rw [←fQ _ _ 2 (by omega)];exact hc 2 _ rfl,by rw [←fQ _ _ 3 (by omega)];exact hc 3 _ rfl⟩
structure S47 where
 f0:(List S45)
 f1:Int
 f2:S45
 f3:Int
 f4:Int
def z47:S47:=⟨([]:List S45),(0:Int),z45,(0:Int),(0:Int)⟩
def k47:Kd S47:=Kd.iso (Kd.pair (Kd.slice 45 k45) (Kd.pair (Kd.int .i64) (Kd.pair k45 (Kd.pair (Kd.int .i64) (Kd.int .i64))))) (fun x:S47=>(x.f0,x.f1,x.f2,x.f3,x.f4))
theorem za {w:World} {x:S47} {cs:List Value} (h:k47.K w x cs):∃ A0 c0,cs=[.slice A0 x.f0.length c0,.int .i64 x.f1,.int .u16 x.f2.f0,.int .u8 x.f2.f1,.int .u8 x.f2.f2,.int .u32 x.f2.f3,.int .i64 x.f3,.int .i64 x.f4]∧x.f0.length≤c0∧k45.C w A0 x.f0.length x.f0:=by
 obtain ⟨_,_,rfl,⟨A0,c0,rfl,l0,g0⟩,⟨_,_,rfl,rfl,⟨_,_,rfl,s2,⟨_,_,rfl,rfl,rfl⟩⟩⟩⟩:=h
 obtain rfl:=jP s2
 exact ⟨A0,c0,rfl,l0,g0⟩
theorem k47_mk (w:World) (x:S47) {A0:Option Addr} {c0:Nat} (l0:x.f0.length≤c0) (g0:k45.C w A0 x.f0.length x.f0):k47.K w x [.slice A0 x.f0.length c0,.int .i64 x.f1,.int .u16 x.f2.f0,.int .u8 x.f2.f1,.int .u8 x.f2.f2,.int .u32 x.f2.f3,.int .i64 x.f3,.int .i64 x.f4]:=⟨[.slice A0 x.f0.length c0],[.int .i64 x.f1,.int .u16 x.f2.f0,.int .u8 x.f2.f1,.int .u8 x.f2.f2,.int .u32 x.f2.f3,.int .i64 x.f3,.int .i64 x.f4],rfl,⟨A0,c0,rfl,l0,g0⟩,⟨[.int .i64 x.f1],[.int .u16 x.f2.f0,.int .u8 x.f2.f1,.int .u8 x.f2.f2,.int .u32 x.f2.f3,.int .i64 x.f3,.int .i64 x.f4],rfl,rfl,⟨[.int .u16 x.f2.f0,.int .u8 x.f2.f1,.int .u8 x.f2.f2,.int .u32 x.f2.f3],[.int .i64 x.f3,.int .i64 x.f4],rfl,(y9 w x.f2),⟨[.int .i64 x.f3],[.int .i64 x.f4],rfl,rfl,rfl⟩⟩⟩⟩
theorem nH (w:World) (base:Nat) (ok:Nat→Prop) (x:S47) {v0:Value} (g0:k45.R 45 w base ok v0 x.f0):k47.M w base ok x [v0,.int .i64 x.f1,.int .u16 x.f2.f0,.int .u8 x.f2.f1,.int .u8 x.f2.f2,.int .u32 x.f2.f3,.int .i64 x.f3,.int .i64 x.f4]:=⟨[v0],[.int .i64 x.f1,.int .u16 x.f2.f0,.int .u8 x.f2.f1,.int .u8 x.f2.f2,.int .u32 x.f2.f3,.int .i64 x.f3,.int .i64 x.f4],rfl,⟨v0,rfl,g0⟩,⟨[.int .i64 x.f1],[.int .u16 x.f2.f0,.int .u8 x.f2.f1,.int .u8 x.f2.f2,.int .u32 x.f2.f3,.int .i64 x.f3,.int .i64 x.f4],rfl,rfl,⟨[.int .u16 x.f2.f0,.int .u8 x.f2.f1,.int .u8 x.f2.f2,.int .u32 x.f2.f3],[.int .i64 x.f3,.int .i64 x.f4],rfl,(kR w base ok x.f2),⟨[.int .i64 x.f3],[.int .i64 x.f4],rfl,rfl,rfl⟩⟩⟩⟩
def av (xs:List S47) (i:Int):S47:=xs.getD i.toNat z47
theorem nQ {w:World} {A:Option Addr} {n:Nat} {xs:List S47} (h:Kd.C k47 w A n xs) (i:Int) (h0:0≤i) (h1:i<n):∃ ad A0 c0,A=some ad∧w.cell? (ad.add (i.toNat*8))=some (.slice A0 (av xs i).f0.length c0)∧w.cell? ⟨(ad.add (i.toNat*8)).block,(ad.add (i.toNat*8)).off+1,none⟩=some (.int .i64 (av xs i).f1)∧w.cell? ⟨(ad.add (i.toNat*8)).block,(ad.add (i.toNat*8)).off+2,none⟩=some (.int .u16 (av xs i).f2.f0)∧w.cell? ⟨(ad.add (i.toNat*8)).block,(ad.add (i.toNat*8)).off+3,none⟩=some (.int .u8 (av xs i).f2.f1)∧w.cell? ⟨(ad.add (i.toNat*8)).block,(ad.add (i.toNat*8)).off+4,none⟩=some (.int .u8 (av xs i).f2.f2)∧w.cell? ⟨(ad.add (i.toNat*8)).block,(ad.add (i.toNat*8)).off+5,none⟩=some (.int .u32 (av xs i).f2.f3)∧w.cell? ⟨(ad.add (i.toNat*8)).block,(ad.add (i.toNat*8)).off+6,none⟩=some (.int .i64 (av xs i).f3)∧w.cell? ⟨(ad.add (i.toNat*8)).block,(ad.add (i.toNat*8)).off+7,none⟩=some (.int .i64 (av xs i).f4)∧(av xs i).f0.length≤c0∧k45.C w A0 (av xs i).f0.length (av xs i).f0:=by
 obtain ⟨ad,c,e,_,hK,hc0⟩:=Kd.C_get h z47 i h0 h1
 have hc:∀ j u,c[j]?=some u→w.cell? (ad.add (i.toNat*8+j))=some u:=hc0
 obtain ⟨A0,c0,rfl,l0,g0⟩:=za hK
 exact ⟨ad,A0,c0,e,hc 0 _ rfl,by rw [←fQ _ _ 1 (by omega)];exact hc 1 _ rfl,by rw [←fQ _ _ 2 (by omega)];exact hc 2 _ rfl,by rw [←fQ _ _ 3 (by omega)];exact hc 3 _ rfl,by rw [←fQ _ _ 4 (by omega)];exact hc 4 _ rfl,by rw [←fQ _ _ 5 (by omega)];exact hc 5 _ rfl,by rw [←fQ _ _ 6 (by omega)];exact hc 6 _ rfl,by rw [←fQ _ _ 7 (by omega)];exact hc 7 _ rfl,l0,g0⟩
end Go.Proofs.Ytdkalnkplgfgoaa.PA
