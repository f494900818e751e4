/- Lemmas and walks for the statements of the texts ZEZ..: the declarations that they need, taken together by a program of this session. Conditions: as each says. -/
import Derived.Deep.DeepCutAuto
import Derived.Test.YtdkalnkplgfgoaaZEb
import Derived.Test.YtdkalnkplgfgoaaZEh
set_option maxHeartbeats 4000000
set_option maxRecDepth 100000
set_option linter.unusedVariables false
set_option linter.unusedSimpArgs false
namespace Go.Proofs.Ytdkalnkplgfgoaa.Ln
open Go.RowKit Go.Maps Go.Proofs.YtdkalnkplgfgoaaW.PrintWords Go.Proofs.YtdkalnkplgfgoaaW.PrintLast Go.Proofs.YtdkalnkplgfgoaaW.PrintMore Go.Proofs.Ytdkalnkplgfgoaa.PA
theorem jL {α:Type} (f:α→List Value) (z:α) (K:Nat) (hf:(f z).length=K) (n:Nat):madeCells (f z).toArray (n*K)=((List.replicate n z).flatMap f).toArray:=by
 apply Array.ext'
 have hl:((List.replicate n z).flatMap f).length=n*K:=by
  induction n with
  | zero=>simp
  | succ n ih=>rw [List.replicate_succ,List.flatMap_cons,List.length_append,ih,hf,Nat.add_mul,Nat.one_mul,Nat.add_comm]
 apply List.ext_getElem
 · rw [Array.length_toList,size_madeCells];exact hl.symm
 intro i h1 h2
 have hi:i<n*K:=by rw [Array.length_toList,size_madeCells] at h1;exact h1
 have hK:0<K:=by
  rcases Nat.eq_zero_or_pos K with h | h
  · rw [h] at hi;omega
  exact h
 have e:∀ (m j:Nat),j<m*K→((List.replicate m z).flatMap f)[j]?=(f z)[j % K]?:=by
  intro m
  induction m with
  | zero=>intro j hj;omega
  | succ m ih=>
   intro j hj
   rw [List.replicate_succ,List.flatMap_cons]
   by_cases hjk:j<K
   · rw [List.getElem?_append_left (by omega),Nat.mod_eq_of_lt hjk]
   rw [List.getElem?_append_right (by omega),hf,ih (j - K) (by rw [Nat.add_mul,Nat.one_mul] at hj;omega),Nat.mod_eq_sub_mod (show j≥K by omega)]
 have e2:=e n i hi
 have hm:i % K<(f z).length:=by rw [hf];exact Nat.mod_lt _ hK
 rw [List.getElem?_eq_getElem (by rw [hl];exact hi),List.getElem?_eq_getElem hm] at e2
 injection e2 with e2
 have e3:((List.replicate n z).flatMap f).toArray.toList[i]=((List.replicate n z).flatMap f)[i]'(by rw [hl];exact hi):=rfl
 rw [e3,e2]
 unfold madeCells
 simp only [Array.toList_map,List.getElem_map,Array.toList_range,List.getElem_range,List.size_toArray,hf]
 rw [getElem!_pos (f z).toArray (i % K) (by rw [List.size_toArray];exact hm)]
 rfl
def xE:St:=List.replicate 18 none
def boC (l:List Bool):Array Value:=(l.map Value.bool).toArray
theorem info_st:(Try.prog.info? 151).map (fun i=>(i.zero,i.size,i.bytes))=some (some (.agg (f36 (List.replicate 18 none)).toArray),36,144):=by kernel_rfl
theorem wz:(Try.prog.info? 4).map (fun i=>(i.zero,i.size,i.bytes))=some (some (.bool false),1,1):=by kernel_rfl
theorem tT (L:Nat) (hL:L≤4096) (W:World):(Instr.makeSlice 147 (.int .i64 (L:Int)) (.int .i64 (L:Int))).run Try.prog W = .ok (.slice (some ⟨W.heap.size,0,none⟩) L L) (W.alloc (.cells ((List.replicate L xE).flatMap f36).toArray 151)):=by
 obtain ⟨i,hi,hzz⟩:=Option.map_eq_some_iff.1 info_st
 simp only [Prod.mk.injEq] at hzz
 obtain ⟨hz,hs,hb⟩:=hzz
 have h:=run_make (P:=Try.prog) W 147 151 i _ Try.underlying147 hi hz .i64 .i64 L L (by omega) (Int.le_refl _) (by rw [hb];omega) (by omega)
 rw [Int.toNat_natCast,hs] at h
 have e:=jL f36 (List.replicate 18 none) 36 (gB _) L
 refine h.trans ?_
 show Result.ok _ (World.alloc W (.cells (madeCells (f36 (List.replicate 18 none)).toArray (L*36)) 151))=_
 rw [e];rfl
theorem pM (L:Nat) (hL:L≤4096) (W:World):(Instr.makeSlice 73 (.int .i64 (L:Int)) (.int .i64 (L:Int))).run Try.prog W = .ok (.slice (some ⟨W.heap.size,0,none⟩) L L) (W.alloc (.cells (boC (List.replicate L false)) 4)):=by
 obtain ⟨i,hi,hzz⟩:=Option.map_eq_some_iff.1 wz
 simp only [Prod.mk.injEq] at hzz
 obtain ⟨hz,hs,hb⟩:=hzz
 have h:=run_make (P:=Try.prog) W 73 4 i _ Try.underlying73 hi hz .i64 .i64 L L (by omega) (Int.le_refl _) (by rw [hb];omega) (by omega)
 rw [Int.toNat_natCast,hs] at h
 have e:=jL (fun b:Bool=>[Value.bool b]) false 1 rfl L
 refine h.trans ?_
 show Result.ok _ (World.alloc W (.cells (madeCells [Value.bool false].toArray (L*1)) 4))=_
 rw [e]
 unfold boC
 rw [List.map_eq_flatMap]
def atP (k:Nat):St:=List.replicate k (some 0)++List.replicate (18 - k) none
theorem oJ {k:Nat} (h:k≤18):(atP k).length=18:=by unfold atP;rw [List.length_append,List.length_replicate,List.length_replicate];omega
theorem yK {k:Nat} (h:k<18):(atP k).set k (some 0)=atP (k+1):=by
 unfold atP
 rw [List.set_append_right _ _ (by rw [List.length_replicate];exact Nat.le_refl _),List.length_replicate,Nat.sub_self,show 18 - k=(18 - (k+1))+1 by omega,List.replicate_succ,List.set_cons_zero,List.replicate_succ',List.append_assoc]
 rfl
def atA (L k:Nat):AC:=((List.replicate L xE).set 0 (atP k),List.replicate L false)
theorem new4 (w:World) (o1 o2 o3 o4:Obj):((((w.alloc o1).alloc o2).alloc o3).alloc o4).heap[w.heap.size]?=some o1∧((((w.alloc o1).alloc o2).alloc o3).alloc o4).heap[w.heap.size+1]?=some o2∧((((w.alloc o1).alloc o2).alloc o3).alloc o4).heap[w.heap.size+1+1]?=some o3∧((((w.alloc o1).alloc o2).alloc o3).alloc o4).heap[w.heap.size+1+1+1]?=some o4∧Below w.heap.size w ((((w.alloc o1).alloc o2).alloc o3).alloc o4):=by
 obtain ⟨h1,h2,h3,h4⟩:=new3 w o1 o2 o3
 have h5:=heap_alloc_new (((w.alloc o1).alloc o2).alloc o3) o4
 rw [World.size_alloc,World.size_alloc,World.size_alloc] at h5
 exact ⟨aT h1 _,aT h2 _,aT h3 _,h5,ai h4 _⟩
theorem atA_0 {L:Nat} (h:0<L):atA L 0=(List.replicate L xE,List.replicate L false):=by
 unfold atA
 rw [show atP 0=xE from rfl]
 congr 1
 apply List.ext_getElem?
 intro i
 rw [List.getElem?_set]
 split
 · rename_i e;subst e;rw [List.length_replicate,if_pos h,List.getElem?_replicate,if_pos h]
 rfl
theorem ou {w:World} {b o n j:Nat} (h:w.there b o n) (hj:j<n):w.cell? ⟨b,o+j,none⟩=some (cellV w ⟨b,o+j,none⟩):=by
 have h1:=(h j hj).1
 cases e:w.cell? ⟨b,o+j,none⟩ with
 | none=>rw [e] at h1;cases h1
 | some v=>exact kS e |>.symm.trans e |>.symm
theorem tq {L k:Nat} (h:0<L):(atA L k).1=atP k :: List.replicate (L - 1) xE:=by
 unfold atA
 obtain ⟨m,rfl⟩:∃ m,L=m+1:=⟨L - 1,by omega⟩
 rfl
theorem atA_put {w:World} {gcv gav gcm g L k:Nat} (h:Gv w gcv gav gcm g L (atA L k)) (hL:0<L) (hk:k<18) :
 Gv ((w.setCell ⟨g,k*2,none⟩ (.bool true)).setCell ⟨g,k*2+1,none⟩ (.int .u32 0)) gcv gav gcm g L (atA L (k+1)):=by
 have hn:=h.ne
 refine ⟨df (df h.v1 (fun e=>hn.2.1 e.symm) _) (fun e=>hn.2.1 e.symm) _,df (df h.v2 (fun e=>hn.2.2.1 e.symm) _) (fun e=>hn.2.2.1 e.symm) _,?_,df (df h.come (fun e=>hn.1 e.symm) _) (fun e=>hn.1 e.symm) _,by unfold atA;rw [List.length_set,List.length_replicate],h.l2⟩
 have h1:=h.at_
 rw [tq hL,List.flatMap_cons] at h1
 rw [tq hL,List.flatMap_cons]
 have e1:f36 (atP k)=(atP k).flatMap jg:=by have:=jN (oJ (k:=k) (by omega));exact (congrArg Array.toList this).symm
 have e2:f36 (atP (k+1))=(atP (k+1)).flatMap jg:=by have:=jN (oJ (k:=k+1) (by omega));exact (congrArg Array.toList this).symm
 have hl:((atP k).flatMap jg).length=36:=by rw [qc (K:=2) (fun _=>rfl),oJ (by omega)]
 have hs:=zu (some 0) (atP k) k (by rw [oJ (by omega)];exact hk)
 rw [yK hk] at hs
 rw [e1] at h1
 rw [e2,←hs]
 refine aM (aM h1 (k*2) _ rfl) (k*2+1) _ ?_
 rw [List.setIfInBounds_toArray,List.setIfInBounds_toArray,List.set_append_left _ _ (by rw [hl];omega),List.set_append_left _ _ (by rw [List.length_set,hl];omega),Nat.mul_comm k 2]
 rfl
structure FI (w wr:World) (B:Bs) (gw gb cap:Nat) (tl:List Value) (g L:Nat) (G:List S47) (n:Nat) (f:Bool) (A:AC) (bs:List (Value × S47)):Prop where
 wk:Wk wr B gw gb cap bs tl
 gv:Gv wr (g+1+1+1) (g+1) (g+1+1) g L A
 low:Below B.n w wr
 ok:AOk A L
 len:bs.length=L
 rest:(bs.map (·.2)).drop n=G.drop n
 res:jq G=((bs.map (·.2)).take n++(fdL (G.drop n) n A).1,f||(fdL (G.drop n) n A).2)
section
variable {w wr w2:World} {B:Bs} {gw gb cap g L n:Nat} {tl:List Value} {G:List S47} {f:Bool} {A:AC} {bs:List (Value × S47)}
theorem FI.at_ (h:FI w wr B gw gb cap tl g L G n f A bs) (hn:n<L):∃ v b,bs[n]?=some (v,b)∧G[n]?=some b∧G.drop n=b :: G.drop (n+1):=by
 have h1:n<bs.length:=by rw [h.len];exact hn
 have h2:((bs.map (·.2)).drop n)[0]?=(G.drop n)[0]?:=by rw [h.rest]
 rw [List.getElem?_drop,List.getElem?_drop,Nat.add_zero,List.getElem?_map,List.getElem?_eq_getElem h1,Option.map_some] at h2
 have h3:=(List.getElem?_eq_some_iff.1 h2.symm)
 obtain ⟨h4,h5⟩:=h3
 exact ⟨bs[n].1,bs[n].2,List.getElem?_eq_getElem h1,h2.symm,by rw [List.drop_eq_getElem_cons h4,h5]⟩
theorem FI.below (h:FI w wr B gw gb cap tl g L G n f A bs) (hb:Below wr.heap.size wr w2) (hB:B.n≤wr.heap.size):FI w w2 B gw gb cap tl g L G n f A bs:=
 ⟨h.wk.below hb,h.gv.below hb,h.low.trans ⟨hb.os,hb.tape,hb.output,hb.size,fun i hi=>hb.block i (by omega)⟩,h.ok,h.len,h.rest,h.res⟩
theorem FI.skip (h:FI w wr B gw gb cap tl g L G n f A bs) {v:Value} {b:S47} (hb:bs[n]?=some (v,b)) (hG:G.drop n=b :: G.drop (n+1)) (hc:A.2.getD n false=false):FI w wr B gw gb cap tl g L G (n+1) f A bs:=by
 refine ⟨h.wk,h.gv,h.low,h.ok,h.len,?_,?_⟩
 · have:=congrArg List.tail h.rest
   rw [List.tail_drop,hG] at this
   exact this
 have hr:=h.res
 rw [hG,fdL,if_neg (by rw [hc];decide)] at hr
 have hl:n<(bs.map (·.2)).length:=by rw [List.length_map];exact mR hb
 rw [hr,List.take_succ_eq_append_getElem hl,List.append_assoc]
 congr 2
 have:(bs.map (·.2))[n]=b:=by
  have:=List.getElem?_eq_getElem hl
  rw [List.getElem?_map,hb] at this
  exact (Option.some.inj this).symm
 rw [this];rfl
theorem FI.next (h:FI w wr B gw gb cap tl g L G n f A bs) {v v':Value} {b b':S47} {s':St} {f2:Bool} (hb:bs[n]?=some (v,b)) (hG:G.drop n=b :: G.drop (n+1)) (hc:A.2.getD n false=true) (hr1:b'=(dH (A.1.getD n []) b).1) (hr2:s'=(dH (A.1.getD n []) b).2.1)
 (hf2:f2=((dH (A.1.getD n []) b).2.2||f)) (hwk:Wk w2 B gw gb cap (bs.set n (v',b')) tl) (hgv:Gv w2 (g+1+1+1) (g+1) (g+1+1) g L (nxF b' s' A)) (hlow:Below B.n w w2) (hok:AOk (nxF b' s' A) L) :
 FI w w2 B gw gb cap tl g L G (n+1) f2 (nxF b' s' A) (bs.set n (v',b')):=by
 have hn:=mR hb
 refine ⟨hwk,hgv,hlow,hok,by rw [List.length_set];exact h.len,?_,?_⟩
 · have:=congrArg List.tail h.rest
   rw [List.tail_drop,hG] at this
   rw [List.map_set,List.drop_set_of_lt (by omega)]
   exact this
 have hr:=h.res
 rw [hG,fdL,if_pos hc,←hr1,←hr2] at hr
 have hl:n<((bs.set n (v',b')).map (·.2)).length:=by rw [List.length_map,List.length_set];exact hn
 rw [hr,List.take_succ_eq_append_getElem hl,List.append_assoc,hf2]
 have e1:((bs.set n (v',b')).map (·.2))[n]=b':=by
  have:=List.getElem?_eq_getElem hl
  rw [List.getElem?_map,aN hb] at this
  exact (Option.some.inj this).symm
 have e2:((bs.set n (v',b')).map (·.2)).take n=(bs.map (·.2)).take n:=by rw [List.map_set,List.take_set_of_le (Nat.le_refl _)]
 rw [e1,e2]
 congr 1
 cases f<;>simp
end
theorem BJ {bs:List (Value × S47)} {n:Nat} (tl:List Value) (v:Value) (b:S47) (c:List S45):bA (bs.set n (v,b)) tl=bA (bs.set n (v,⟨c,b.f1,b.f2,b.f3,b.f4⟩)) tl:=by
 have h:∀ l:List (Value × S47),∀ n,(l.set n (v,b)).flatMap b8=(l.set n (v,⟨c,b.f1,b.f2,b.f3,b.f4⟩)).flatMap b8:=by
  intro l
  induction l with
  | nil=>intro n;rfl
  | cons a r ih=>
   intro n
   cases n with
   | zero=>rfl
   | succ n=>rw [List.set_cons_succ,List.set_cons_succ,List.flatMap_cons,List.flatMap_cons,ih]
 unfold bA
 rw [h]
structure FM (w X:World) (B:Bs) (gw gb cap:Nat) (tl:List Value) (g gs L:Nat) (A:AC) (bs:List (Value × S47)) (s:St):Prop where
 wk:Wk X B gw gb cap bs tl
 gv:Gv X (g+1+1+1) (g+1) (g+1+1) g L A
 low:Below B.n w X
 st:X.heap[gs]?=some (.cells (aC s) 151 (0,0))
 ne:gs≠g∧B.n≤gs
section
variable {w wr X Y:World} {B:Bs} {gw gb cap g gs L n:Nat} {tl:List Value} {A:AC} {bs:List (Value × S47)} {s:St}
theorem FM.below (h:FM w X B gw gb cap tl g gs L A bs s) (hb:Below X.heap.size X Y):FM w Y B gw gb cap tl g gs L A bs s:=
 ⟨h.wk.below hb,h.gv.below hb,h.low.trans ⟨hb.os,hb.tape,hb.output,hb.size,fun i hi=>hb.block i (by have:=ax h.wk.me;have:=h.wk.lo;omega)⟩,aj h.st hb,h.ne⟩
theorem FM.goes {A':AC} (h:FM w X B gw gb cap tl g gs L A bs s) (hB:B.n≤g) (hg:Gv Y (g+1+1+1) (g+1) (g+1+1) g L A') (hk:Kp (fun x=>x=g∨x=g+1+1) X Y):FM w Y B gw gb cap tl g gs L A' bs s:=by
 refine ⟨h.wk.kp hk ?_,hg,Kp.iO h.low hk (by have:=ax h.wk.me;have:=h.wk.lo;omega) (by rintro x (rfl | rfl)<;>omega),(hk.block gs (ax h.st) ?_).trans h.st,h.ne⟩
 · rintro x (rfl | rfl)
   · exact ⟨_,_,_,h.gv.at_,by decide,by decide,by decide⟩
   exact ⟨_,_,_,h.gv.come,by decide,by decide,by decide⟩
 rintro (e | e)
 · exact h.ne.1 e
 exact bT h.st h.gv.come (by decide) e
theorem FI.mid {V X1 X2:World} {G:List S47} {f:Bool} {v v':Value} {b:S47} {sn:St} (h:FI w wr B gw gb cap tl g L G n f A bs) (hBg:B.n≤g) (hb:bs[n]?=some (v,b)) (hV:Below wr.heap.size wr V) (hgs:gs=wr.heap.size) (hS:V.heap[gs]?=some (.cells (aC sn) 151 (0,0)))
 (h1:X1.heap[gs]?=some (.cells (aC (cu sn b.f0).2.1) 151 (0,0))) (hv:v'.ownBlock=v.ownBlock) (h2:X1.heap[gb]?=some (.cells (bA (bs.set n (v',b)) tl) 47 (0,0))) (h3:Cd X1 v' (cu sn b.f0).1) (h4:Kp (fun x=>x=gs∨x=gb∨some x=v.ownBlock) V X1)
 (h5:X2.heap[gb]?=some (.cells (bA ((bs.set n (v',⟨(cu sn b.f0).1,b.f1,b.f2,b.f3,b.f4⟩)).set n (v',(dH sn b).1)) tl) 47 (0,0))) (h6:Kp (fun x=>x=gb) X1 X2) :
 FM w X2 B gw gb cap tl g gs L A (bs.set n (v',(dH sn b).1)) (dH sn b).2.1:=by
 have hFV:=h.below hV (by have:=h.gv.lt;omega)
 have hk:Kp (fun x=>x=gs∨x=gb∨some x=v.ownBlock) V X2:=h4.trans (Kp.mono h6 (fun x e => .inr (.inl e)))
 have hgg:gs≠g:=by have:=h.gv.lt;omega
 have hbs:B.n≤gs:=by have:=h.gv.lt;omega
 have hcd:=hFV.wk.row.code n _ hb
 have hnS:∀ x cs T,V.heap[x]?=some (.cells cs T (0,0))→x≠gs→T≠47→T≠45→¬(x=gs∨x=gb∨some x=v.ownBlock):=by
  intro x cs T hx e1 e2 e3
  rintro (e | e | e)
  · exact e1 e
  · subst e;exact bT hx hFV.wk.row.row e2 rfl
  obtain ⟨cs',hc⟩:=hcd.lt e.symm
  exact bT hx hc e3 rfl
 have hl:=h.gv.lt
 rw [set_set] at h5
 refine ⟨hFV.wk.step hb hk ?_ h5 ?_ ?_,⟨?_,?_,?_,?_,hFV.gv.l1,hFV.gv.l2⟩,Kp.iO hFV.low hk (by have:=ax hFV.wk.me;have:=hFV.wk.lo;omega) ?_,?_,hgg,hbs⟩
 · rintro x (e | e | e)
   · subst e;exact .inr (.inr ⟨_,_,_,hS,by decide,by decide,by decide⟩)
   · exact .inl e
   exact .inr (.inl e)
 · have:(dH sn b).1.f0=(cu sn b.f0).1:=by unfold dH;exact mG _ _
   show Cd X2 v' (dH sn b).1.f0
   rw [this]
   refine h3.kp h6 (fun y hy e=>?_)
   subst e
   obtain ⟨cs',hc⟩:=h3.lt hy
   exact bT h2 hc (by decide) rfl
 · intro y hy;exact .inl (by rw [←hv];exact hy)
 · exact (hk.block _ (ax hFV.gv.v1) (hnS _ _ _ hFV.gv.v1 (by omega) (by decide) (by decide))).trans hFV.gv.v1
 · exact (hk.block _ (ax hFV.gv.v2) (hnS _ _ _ hFV.gv.v2 (by omega) (by decide) (by decide))).trans hFV.gv.v2
 · exact (hk.block _ (ax hFV.gv.at_) (hnS _ _ _ hFV.gv.at_ (by omega) (by decide) (by decide))).trans hFV.gv.at_
 · exact (hk.block _ (ax hFV.gv.come) (hnS _ _ _ hFV.gv.come (by omega) (by decide) (by decide))).trans hFV.gv.come
 · rintro x (e | e | e)
   · omega
   · rw [e];exact hFV.wk.row.lo.1
   exact hFV.wk.row.lo.2 _ (List.mem_of_getElem? hb) _ e.symm
 have e1:(dH sn b).2.1=(cu sn b.f0).2.1:=rfl
 rw [e1]
 exact (h6.block gs (ax h1) (fun e=>bT h1 h2 (by decide) e)).trans h1
theorem FM.cell (h:FM w X B gw gb cap tl g gs L A bs s) {p:Value × S47} (hp:bs[n]?=some p) {j:Nat} (hj:j<8):X.cell? ⟨gb,n*8+j,none⟩=(b8 p)[j]?:=(ae h.wk.row.row _).trans (di hp hj)
theorem nC {w:World} {b:Nat} {cs:List Value} {T:TypeId} {fr:Nat × Nat} (h:w.heap[b]?=some (.cells cs.toArray T fr)):w.rangeAt b 0 cs:=by
 have h6:=World.rangeAt_of_block h 0 cs.length
 rw [Array.toList_extract,List.extract_eq_take_drop,List.drop_zero,List.take_of_length_le (by show cs.length≤_;omega)] at h6
 exact h6
theorem FM.range (h:FM w X B gw gb cap tl g gs L A bs s) (hs:s.length=18):X.rangeAt gs 0 (f36 s):=nC (by rw [←jN hs];exact h.st)
theorem FM.call (h:FM w X B gw gb cap tl g gs L A bs s) (hB:B.n≤g) (hA:AOk A L) (hL:L≤4096) {k:Nat} (hk:k<L) {t:St} (ht:t.length=18) :
 Calls Try.prog 126 #[.int .i64 k,.agg (f36 t).toArray,.pointer (some ⟨g+1+1+1,0,none⟩),.pointer (some ⟨g+1,0,none⟩)] X fun e w'=>e = .returned (.tuple #[])∧FM w w' B gw gb cap tl g gs L (kU A k t) bs s∧Kp (fun x=>x=g∨x=g+1+1) X w':=by
 have hc:=uA X (g+1+1+1) (g+1) (g+1+1) g L k A t ht hA h.gv hk (by omega)
 rw [jN ht] at hc
 refine hc.mono ?_
 rintro e w' ⟨h1,h2,h3⟩
 exact ⟨h1,h.goes hB h2 h3,h3⟩
theorem FM.put2 {gt:Nat} {cs:Array Value} {v0 v1:Value} (h:FM w X B gw gb cap tl g gs L A bs s) (hB:B.n≤gt) (hs:gs≠gt) (hg:gt≠g) (ht:X.heap[gt]?=some (.cells cs 151 (0,0))) :
 FM w ((X.setCell ⟨gt,0,none⟩ v0).setCell ⟨gt,1,none⟩ v1) B gw gb cap tl g gs L A bs s:=by
 have hk:Kp (fun x=>x=gt) X ((X.setCell ⟨gt,0,none⟩ v0).setCell ⟨gt,1,none⟩ v1):=((Kp.refl (fun x=>x=gt) X).set (.inl rfl) _ _).set (.inl rfl) _ _
 have hb:∀ (x:Nat) (cs':Array Value) (T:TypeId),X.heap[x]?=some (.cells cs' T (0,0))→T≠151→((X.setCell ⟨gt,0,none⟩ v0).setCell ⟨gt,1,none⟩ v1).heap[x]?=some (.cells cs' T (0,0)):=fun x cs' T hx hT=>(hk.block x (ax hx) (fun e=>by subst e;exact bT hx ht hT rfl)).trans hx
 refine ⟨h.wk.kp hk ?_,⟨hb _ _ _ h.gv.v1 (by decide),hb _ _ _ h.gv.v2 (by decide),(hk.block g (ax h.gv.at_) (fun e=>hg e.symm)).trans h.gv.at_,hb _ _ _ h.gv.come (by decide),h.gv.l1,h.gv.l2⟩,Kp.iO h.low hk (by have:=ax h.wk.me;have:=h.wk.lo;omega) (by rintro x rfl;exact hB),(hk.block gs (ax h.st) hs).trans h.st,h.ne⟩
 rintro x rfl
 exact ⟨_,_,_,ht,by decide,by decide,by decide⟩
end
theorem _root_.Go.RowKit.Below.weaken' {B B':Nat} {w w1:World} (h:Below B w w1) (hb:B'≤B):Below B' w w1:=⟨h.os,h.tape,h.output,h.size,fun i hi=>h.block i (by omega)⟩
theorem uy (w:World) (B:Bs) (gw gb cap:Nat) (bs:List (Value × S47)) (tl:List Value) (hW:Wk w B gw gb cap bs tl) (hG:GOk (bs.map (·.2))) :
 Calls Try.prog 83 #[.pointer (some ⟨gw,0,none⟩)] w fun e w'=>e = .returned (.bool (jq (bs.map (·.2))).2)∧(∃ bs',bs'.map (·.2)=(jq (bs.map (·.2))).1∧Wk w' B gw gb cap bs' tl)∧Below B.n w w':=by
 obtain ⟨L,eL⟩:∃ L,L=bs.length:=⟨_,rfl⟩
 have hL:L≤4096:=by have:=hG.few;rw [List.length_map] at this;omega
 have hL0:0<L:=by have:=hG.some_;rw [List.length_map] at this;omega
 have c0:w.cell? ⟨gw,0,none⟩=some (.slice (some ⟨gb,0,none⟩) L cap):=by rw [eL];exact (ae hW.me 0).trans rfl
 have hmk1:=tT L hL
 have hmk2:=pM L hL
 have hlt:=ax hW.me
 have HW:=aa.mk hW
 have HG:=aa.mk hG
 have EL:=aa.mk eL
 clear hW hG eL
 go_enter Try.func83,Try.ntmps83
 go_upto_region 3 with (fail)
 refine forget (fun W=>∃ g,g=w.heap.size∧Below w.heap.size w W∧Gv W (g+1+1+1) (g+1) (g+1+1) g L (atA L 0)) ⟨_,rfl,?_,?_⟩ ?_
 · exact (new4 w _ _ _ _).2.2.2.2
 · obtain ⟨h1,h2,h3,h4,_⟩:=new4 w (.cells ((List.replicate L xE).flatMap f36).toArray 151 (0,0)) (.cells #[.slice (some ⟨w.heap.size,0,none⟩) L L] 147 (0,0)) (.cells (boC (List.replicate L false)) 4 (0,0)) (.cells #[.slice (some ⟨w.heap.size+1+1,0,none⟩) L L] 73 (0,0))
   rw [atA_0 hL0]
   exact ⟨h4,h2,h1,h3,List.length_replicate,List.length_replicate⟩
 clear hmk1 hmk2 hlt c0
 rintro W ⟨g,eg,hb,hgv⟩
 rw [←eg]
 have HB:=aa.mk hb
 have HV:=aa.mk hgv
 have EGG:=aa.mk eg
 clear hb hgv eg
 go_wp2
 go_loopw [24] (fun v24 wr=>∃ k:Nat,k≤18∧v24 = .int .i64 k∧aa (Below W.heap.size W wr∨True)∧aa (Kp (fun x=>x=g∨x=g+1+1) W wr∧Gv wr (g+1+1+1) (g+1) (g+1+1) g L (atA L k))) (fun v24 _=>18 - (intOf v24).toNat)
 case atStart=>exact ⟨0,by omega,rfl,⟨.inr trivial⟩,⟨Kp.refl _ _,HV.out⟩⟩
 case round=>
  obtain ⟨k,hk,rfl,_,HR⟩:=hrel
  by_cases hlt:k<18
  · have i0:(0:Int)≤(k:Int):=by omega
    have i1:(k:Int)<18:=by omega
    have i2:(0:Int)<(L:Int):=by omega
    have hgl:=HR.out.2.lt
    go_upto_region 6 with (fail)
    have e1:wr.cell? ⟨g+1,0,none⟩=some (.slice (some ⟨g,0,none⟩) L L):=(ae HR.out.2.v2 0).trans rfl
    have HS3:aa (∀ w' A',Gv w' (g+1+1+1) (g+1) (g+1+1) g L A'→w'.cell? ⟨g+1,0,none⟩=some (.slice (some ⟨g,0,none⟩) L L)∧w'.cell? ⟨g,k*2,none⟩=some (cellV w' ⟨g,k*2,none⟩)∧w'.cell? ⟨g,k*2+1,none⟩=some (cellV w' ⟨g,k*2+1,none⟩)∧w'.frozen? ⟨g,k*2,none⟩=false∧w'.frozen? ⟨g,k*2+1,none⟩=false):=⟨by
     intro w' A' h
     have ht:=mY gB h.at_ (n:=0) (by rw [h.l1];exact hL0)
     have t0:=ou ht (j:=k*2) (by omega)
     have t1:=ou ht (j:=k*2+1) (by omega)
     rw [Nat.zero_mul,Nat.zero_add] at t0 t1
     exact ⟨(ae h.v2 0).trans rfl,t0,t1,af h.at_ _,af h.at_ _⟩⟩
    obtain ⟨e1,e2,e3,e4,e5⟩:=HS3.out wr _ HR.out.2
    have HPT:aa (∀ w3,Below wr.drew.heap.size wr.drew w3→Gv ((w3.setCell ⟨g,k*2,none⟩ (.bool true)).setCell ⟨g,k*2+1,none⟩ (.int .u32 0)) (g+1+1+1) (g+1) (g+1+1) g L (atA L (k+1))∧Kp (fun x=>x=g∨x=g+1+1) W ((w3.setCell ⟨g,k*2,none⟩ (.bool true)).setCell ⟨g,k*2+1,none⟩ (.int .u32 0))):=⟨by
     intro w3 h3
     have hb3:Below wr.heap.size wr w3:=av (ak (Below.refl _ _)) h3
     exact ⟨atA_put (HR.out.2.below hb3) hL0 hlt,((HR.out.1.below hb3).set (.inl (.inl rfl)) _ _).set (.inl (.inl rfl)) _ _⟩⟩
    go_region_held3 (fun w'=>w'.cell? ⟨g+1,0,none⟩=some (.slice (some ⟨g,0,none⟩) L L)∧w'.cell? ⟨g,k*2,none⟩=some (cellV w' ⟨g,k*2,none⟩)∧w'.cell? ⟨g,k*2+1,none⟩=some (cellV w' ⟨g,k*2+1,none⟩)∧w'.frozen? ⟨g,k*2,none⟩=false∧w'.frozen? ⟨g,k*2+1,none⟩=false)
     (first
       | exact HS3.out _ _ (HR.out.2.below (ak (Below.refl _ _)))
       | exact HS3.out _ _ (HR.out.2.below (av (ak (Below.refl _ _)) hk3))
       | exact HS3.out _ _ (HPT.out _ hk3).1) ((go_at_call 125;refine (PA.gY.calls 0 true 0 wr.drew rfl).mono ?_;rintro e w3 ⟨rfl,hk3⟩))
    go_wp2
    have HR2:=aa.mk (And.intro (HPT.out _ hk3).2 (HPT.out _ hk3).1)
    clear HPT HS3 hk3 e1 e2 e3 e4 e5 HR
    go_roundw
    case rel=>exact ⟨k+1,by omega,by go_num,⟨.inr trivial⟩,HR2⟩
    case measure=>simp [intOf];omega
  have hkl:k=18:=by omega
  subst hkl
  have f1:wr.cell? ⟨g+1+1+1,0,none⟩=some (.slice (some ⟨g+1+1,0,none⟩) L L):=(ae HR.out.2.v1 0).trans rfl
  have f2:wr.cell? ⟨g+1+1,0,none⟩=some (.bool ((atA L 18).2.getD 0 false)):=HR.out.2.cm hL0
  have f3:=af HR.out.2.come 0
  have i2:(0:Int)<(L:Int):=by omega
  go_upto_region 9 with (fail)
  refine forget (fun V=>FI w V B gw gb cap tl g L (bs.map (·.2)) 0 false ((List.replicate L (List.replicate 18 none)).set 0 (List.replicate 18 (some 0)),(List.replicate L false).set 0 true) bs) ?_ ?_
  · have hk1:=HR.out.1.set (g:=g+1+1) (.inl (.inr rfl)) 0 (.bool true)
    have hlo:=HW.out.lo
    have hgw:=ax HW.out.me
    have hlow:Below B.n w (wr.setCell ⟨g+1+1,0,none⟩ (.bool true)):=by
     have hb:=HB.out
     have:=EGG.out
     exact Kp.iO (hb.weaken' (by omega)) hk1 (by have:=hb.size;omega) (by rintro x (rfl | rfl)<;>omega)
    have hac:=vS (g:=bs.map (·.2)) HG.out.some_
    rw [List.length_map,←EL.out] at hac
    refine ⟨(HW.out.below HB.out).kp hk1 ?_,?_,hlow,hac.1,EL.out.symm,rfl,by rw [List.take_zero,List.nil_append,List.drop_zero,Bool.false_or];unfold jq;rw [List.length_map,←EL.out]⟩
    · rintro x (rfl | rfl)
      · exact ⟨_,_,_,HV.out.at_,by decide,by decide,by decide⟩
      exact ⟨_,_,_,HV.out.come,by decide,by decide,by decide⟩
    exact (Gk.uW (Gk.mk HR.out.2 (Kp.refl _ wr)) hL0 true).g
  clear f1 f2 f3 HR HV HB
  rintro V HF0
  have HF:=aa.mk HF0
  have c0:V.cell? ⟨gw,0,none⟩=some (.slice (some ⟨gb,0,none⟩) L cap):=by rw [EL.out];exact (ae HF0.wk.me 0).trans rfl
  clear HF0 hk hlt
  go_wp2
  rw [show ((18:Nat):Int)=(18:Int) from rfl]
  go_loopw [7,41] (fun v7 v41 wq=>∃ (n:Nat) (f:Bool) (A:AC) (bsn:List (Value × S47)),n≤L∧v41 = .int .i64 n∧v7 = .bool f∧aa (FI w wq B gw gb cap tl g L (bs.map (·.2)) n f A bsn)) (fun _ v41 _=>L - (intOf v41).toNat)
  case atStart=>exact ⟨0,false,_,_,Nat.zero_le _,rfl,rfl,HF⟩
  case round=>
   clear HF c0
   obtain ⟨n,f,A,bsn,hn,rfl,rfl,HF⟩:=hrel
   by_cases hlt:n<L
   · obtain ⟨v,b,hb,hGn,hGd⟩:=HF.out.at_ hlt
     have i0:(0:Int)≤(n:Int):=by omega
     have i1:(n:Int)<(L:Int):=by omega
     have c0:wr.cell? ⟨gw,0,none⟩=some (.slice (some ⟨gb,0,none⟩) L cap):=by have h:=(ae HF.out.wk.me 0).trans rfl;rw [HF.out.len] at h;exact h
     have d1:wr.cell? ⟨g+1,0,none⟩=some (.slice (some ⟨g,0,none⟩) L L):=(ae HF.out.gv.v2 0).trans rfl
     have d3:wr.cell? ⟨g+1+1+1,0,none⟩=some (.slice (some ⟨g+1+1,0,none⟩) L L):=(ae HF.out.gv.v1 0).trans rfl
     have ck:=HF.out.gv.cm hlt
     have hgl:=HF.out.gv.lt
     have HB0:=aa.mk (And.intro hb (And.intro hGn hGd))
     clear hb hGn hGd
     cases hc:A.2.getD n false
     · rw [hc] at ck
       have HC:=aa.mk hc
       clear hc
       go_wp2
       go_roundw
       case rel=>exact ⟨n+1,f,A,bsn,by omega,by go_num,rfl,⟨HF.out.skip HB0.out.1 HB0.out.2.2 HC.out⟩⟩
       case measure=>simp [intOf];omega
     rw [hc] at ck
     have HC:=aa.mk hc
     have hws:=HF.out.ok.wst n hc
     have HWS:=aa.mk hws
     obtain ⟨sn,esn⟩:∃ sn,sn=A.1.getD n []:=⟨_,rfl⟩
     have HAN:aa (A.1[n]?=some sn):=⟨by rw [esn,List.getD_eq_getElem?_getD,List.getElem?_eq_getElem (by rw [HF.out.ok.at_];exact hlt)];rfl⟩
     rw [←esn] at HWS
     have ESN:=aa.mk esn
     have HFL:=aa.mk (And.intro (show (f36 sn).toArray.size=36 by rw [List.size_toArray,gB]) (show ∀ u∈(f36 sn).toArray.toList,u.oneCell'=true by intro u hu;exact oM sn u (by simpa using hu)))
     clear hc hws esn
     go_upto_region 17 with (first
      | (refine jE rfl 151 (.tmp 57) rfl gB g n A.1 sn 151 rfl HF.out.gv.at_ HAN.out _ Try.underlying151 rfl dP ?_)
      | (refine jy rfl rfl rfl rfl (heap_alloc_new _ _) rfl rfl HFL.out.1 (by exact dP) HFL.out.2 ?_;intro w5 hr5 hk5 hb5;have HR5:=aa.mk hr5;have HB5:=aa.mk hb5;clear hr5 hk5 hb5))
     refine forget (fun V=>∃ gs,gs=wr.heap.size∧Below wr.heap.size wr V∧V.heap[gs]?=some (.cells (aC sn) 151 (0,0))) ⟨_,rfl,(ai (Below.refl _ _) _).trans HB5.out,by rw [jN HWS.out.len];exact HR5.out⟩ ?_
     clear HR5 HB5 HFL c0 d1 d3 ck
     rintro V ⟨gs,egs,hb,hs⟩
     rw [←egs]
     have HV:=aa.mk (And.intro egs (And.intro hb hs))
     have HFV:=aa.mk (HF.out.below hb (by have:=HF.out.gv.lt;have:=EGG.out;have:=HW.out.lo;have:=ax HW.out.me;omega))
     have HBOK:=aa.mk (HG.out.all n b HB0.out.2.1)
     clear egs hb hs
     go_cut [7] (fun s7 X1=>∃ v',s7 = .bool ((cu sn b.f0).2.2||f)∧aa (X1.heap[gs]?=some (.cells (aC (cu sn b.f0).2.1) 151 (0,0))∧v'.ownBlock=v.ownBlock∧X1.heap[gb]?=some (.cells (bA (bsn.set n (v',b)) tl) 47 (0,0))∧Cd X1 v' (cu sn b.f0).1∧Kp (fun x=>x=gs∨x=gb∨some x=v.ownBlock) V X1))
     case first=>
      go_wp2_with ((go_at_call 128;refine (qh V gs gb n sn bsn tl v b.f0 b HV.out.2.2 HFV.out.wk.row.row HB0.out.1 (HFV.out.wk.row.code n _ HB0.out.1) HWS.out HBOK.out.code HBOK.out.rg).mono ?_;rintro e X1 ⟨rfl,hs1,⟨v',hv',hr1,hc1⟩,hk1⟩;have HX1:=aa.mk (And.intro hs1 (And.intro hv' (And.intro hr1 (And.intro hc1 hk1))));clear hs1 hv' hr1 hc1 hk1;obtain ⟨fa,efa⟩:∃ fa,fa=(cu sn b.f0).2.2:=⟨_,rfl⟩;rw [←efa];have EFA:=aa.mk efa;clear efa;cases fa))
      all_goals (go_meet;exact ⟨v',by rw [←EFA.out];rfl,HX1⟩)
     case rest=>
      obtain ⟨v',rfl,HX1⟩:=hcut
      have HSO:=aa.mk (lU b.f0 sn HWS.out HBOK.out.code HBOK.out.rg)
      have HFX2:aa (((enF (cu sn b.f0).2.1 ⟨(cu sn b.f0).1,b.f1,b.f2,b.f3,b.f4⟩).2||((cu sn b.f0).2.2||f))=((dH sn b).2.2||f)):=⟨by
       show _=(((cu sn b.f0).2.2||(enF (cu sn b.f0).2.1 ⟨(cu sn b.f0).1,b.f1,b.f2,b.f3,b.f4⟩).2)||f)
       cases (cu sn b.f0).2.2<;>cases (enF (cu sn b.f0).2.1 ⟨(cu sn b.f0).1,b.f1,b.f2,b.f3,b.f4⟩).2<;>rfl⟩
      obtain ⟨fq,efq⟩:∃ fq,fq=((cu sn b.f0).2.2||f):=⟨_,rfl⟩
      rw [←efq] at HFX2
      rw [←efq]
      clear efq
      go_upto_region 18 with (fail)
      go_cut [7] (fun s7 X2=>s7 = .bool ((dH sn b).2.2||f)∧aa (X2.heap[gb]?=some (.cells (bA ((bsn.set n (v',⟨(cu sn b.f0).1,b.f1,b.f2,b.f3,b.f4⟩)).set n (v',(enF (cu sn b.f0).2.1 ⟨(cu sn b.f0).1,b.f1,b.f2,b.f3,b.f4⟩).1)) tl) 47 (0,0))∧Kp (fun x=>x=gb) wc X2))
      case first=>
       go_wp2_with ((go_at_call 129;refine (xm wc gs gb n (cu sn b.f0).2.1 (bsn.set n (v',⟨(cu sn b.f0).1,b.f1,b.f2,b.f3,b.f4⟩)) tl v' ⟨(cu sn b.f0).1,b.f1,b.f2,b.f3,b.f4⟩ HX1.out.1 (by rw [←BJ];exact HX1.out.2.2.1) HSO.out.2.2.1 (aN HB0.out.1) HBOK.out.ends HBOK.out.rl).mono ?_;rintro e X2 ⟨rfl,hr2,hk2⟩;have HX2:=aa.mk (And.intro hr2 hk2);clear hr2 hk2;obtain ⟨fb,efb⟩:∃ fb,fb=(enF (cu sn b.f0).2.1 ⟨(cu sn b.f0).1,b.f1,b.f2,b.f3,b.f4⟩).2:=⟨_,rfl⟩;rw [←efb] at HFX2;rw [←efb];clear efb;cases fb))
       all_goals (go_meet;exact ⟨by rw [←HFX2.out];rfl,HX2⟩)
      case rest=>
       obtain ⟨rfl,HX2⟩:=hcut
       obtain ⟨X1,rfl⟩:∃ X1:World,X1=wc:=⟨_,rfl⟩
       obtain ⟨f2,ef2⟩:∃ f2,f2=((dH sn b).2.2||f):=⟨_,rfl⟩
       rw [←ef2]
       have EF2:=aa.mk ef2
       clear ef2 HFX2 HSO
       go_upto_region 19 with (fail)
       have HBG:aa (B.n≤g):=⟨by have:=EGG.out;have:=HW.out.lo;have:=ax HW.out.me;omega⟩
       refine forget (fun X=>FM w X B gw gb cap tl g gs L A (bsn.set n (v',(dH sn b).1)) (dH sn b).2.1) (FI.mid HF.out HBG.out HB0.out.1 HV.out.2.1 HV.out.1 HV.out.2.2 HX1.out.1 HX1.out.2.1 HX1.out.2.2.1 HX1.out.2.2.2.1 HX1.out.2.2.2.2 HX2.out.1 HX2.out.2) ?_
       clear HX1 HX2 HV HFV
       rintro X HFM0
       have hbk:=jO HBOK.out HWS.out
       obtain ⟨b',eb'⟩:∃ b',b'=(dH sn b).1:=⟨_,rfl⟩
       obtain ⟨s',es'⟩:∃ s',s'=(dH sn b).2.1:=⟨_,rfl⟩
       rw [←eb',←es'] at HFM0 hbk
       have hLL:((List.map (fun x:Value × S47=>x.2) bs).length:Int)=(L:Int):=by rw [List.length_map,EL.out]
       rw [hLL] at hbk
       have HNEXT:aa (∀ Y,FM w Y B gw gb cap tl g gs L (nxF b' s' A) (bsn.set n (v',b')) s'→FI w Y B gw gb cap tl g L (bs.map (·.2)) (n+1) f2 (nxF b' s' A) (bsn.set n (v',b'))):=⟨fun Y h=>by
        exact FI.next HF.out HB0.out.1 HB0.out.2.2 HC.out (by rw [←ESN.out];exact eb') (by rw [←ESN.out];exact es') (by rw [←ESN.out];exact EF2.out) h.wk h.gv h.low (qP HF.out.ok hbk.1 hbk.2.1)⟩
       have hec:=eO hbk.1.ends
       have gy:=bB hbk.1.goal
       have gn:=dM hbk.1.goal
       have hrl:=hbk.1.rl
       have HCC:aa (∀ Y A',FM w Y B gw gb cap tl g gs L A' (bsn.set n (v',b')) s'→Y.cell? ⟨gb,n*8+6,none⟩=some (.int .i64 b'.f3)∧Y.cell? ⟨gb,n*8+7,none⟩=some (.int .i64 b'.f4)∧Y.cell? ⟨gb,n*8+2,none⟩=some (.int .u16 b'.f2.f0)∧Y.cell? ⟨gb,n*8+5,none⟩=some (.int .u32 b'.f2.f3)∧Y.cell? ⟨gb,n*8+1,none⟩=some (.int .i64 b'.f1)):=⟨fun Y A' h=>⟨h.cell (aN HB0.out.1) (j:=6) (by omega),h.cell (aN HB0.out.1) (j:=7) (by omega),h.cell (aN HB0.out.1) (j:=2) (by omega),h.cell (aN HB0.out.1) (j:=5) (by omega),h.cell (aN HB0.out.1) (j:=1) (by omega)⟩⟩
       have HSW:=aa.mk hbk.2.1
       have HFM:=aa.mk HFM0
       have HAK:=aa.mk HF.out.ok
       clear eb' es' HFM0 hbk hLL HF HC HWS HAN ESN EF2 HBOK HB0
       generalize bsn.set n (v',b')=bs2 at HNEXT HCC HFM
       obtain ⟨c',f1',⟨l0,l1,l2,l3⟩,y',m'⟩:=b'
       dsimp only at hec gy gn HCC hrl
       rcases hec with ⟨rfl,hec⟩ | ⟨rfl,hec⟩ | ⟨rfl,hec⟩
       · clear hec gy gn hrl
         obtain ⟨b6,b7,b2,b5,b1⟩:=HCC.out X _ HFM.out
         clear b6 b7 b2 b5 HCC
         go_wp2
         go_roundw
         case rel=>exact ⟨n+1,f2,_,_,by omega,by go_num,rfl,⟨HNEXT.out X HFM.out⟩⟩
         case measure=>simp [intOf];omega
       · have gy2:=gy (by decide)
         clear hec gy gn hrl
         obtain ⟨yk,rfl⟩:∃ k:Nat,y'=(k:Int):=⟨y'.toNat,by omega⟩
         have hyk:yk<L:=by omega
         obtain ⟨b6,b7,b2,b5,b1⟩:=HCC.out X _ HFM.out
         have HYK:=aa.mk hyk
         clear b7 b2 b5 gy2 hyk
         go_upto_region 21 with (fail)
         clear b1
         obtain ⟨cs,ecs⟩:∃ cs,cs=f36 s':=⟨_,rfl⟩
         have hlen:cs.length=36:=by rw [ecs];exact gB _
         have HS6:aa (∀ Y A',FM w Y B gw gb cap tl g gs L A' bs2 s'→Y.cell? ⟨gb,n*8+6,none⟩=some (.int .i64 yk)∧Y.rangeAt gs 0 cs):=⟨fun Y A' h=>⟨(HCC.out Y A' h).1,by rw [ecs];exact h.range HSW.out.len⟩⟩
         have HGO:aa (∀ Y A',FM w Y B gw gb cap tl g gs L A' bs2 s'→AOk A' L→Calls Try.prog 126 #[.int .i64 yk,.agg cs.toArray,.pointer (some ⟨g+1+1+1,0,none⟩),.pointer (some ⟨g+1,0,none⟩)] Y fun e w'=>e = .returned (.tuple #[])∧FM w w' B gw gb cap tl g gs L (kU A' yk s') bs2 s'∧Kp (fun x=>x=g∨x=g+1+1) Y w'):=⟨fun Y A' h ha=>by rw [ecs];exact h.call HBG.out ha hL HYK.out HSW.out.len⟩
         clear ecs
         obtain ⟨e1,e2⟩:=HS6.out X _ HFM.out
         have hu:=Try.underlying151
         have hi:(Try.prog.info? 151).map (·.size)=some cs.length:=by rw [hlen];exact dP
         clear b6
         go_region_held3 (fun Z=>Z.cell? ⟨gb,n*8+6,none⟩=some (.int .i64 yk)∧Z.rangeAt gs 0 cs)
          (first | exact HS6.out _ _ (HFM.out.below (ak (Below.refl _ _))) | exact HS6.out _ _ h5)
          ((go_at_call 126;refine (HGO.out _ _ (HFM.out.below (ak (Below.refl _ _))) HAK.out).mono ?_;rintro e w5 ⟨rfl,h5,_⟩))
         have H5:=aa.mk h5
         clear h5 e1 e2 hu hi HS6 HGO HCC
         go_wp2
         go_roundw
         case rel=>exact ⟨n+1,f2,_,_,by omega,by go_num,rfl,⟨HNEXT.out _ H5.out⟩⟩
         case measure=>simp [intOf];omega
       have gy2:=gy (by decide)
       have gn2:=gn rfl
       clear hec gy gn
       obtain ⟨yk,rfl⟩:∃ k:Nat,y'=(k:Int):=⟨y'.toNat,by omega⟩
       obtain ⟨mk,rfl⟩:∃ k:Nat,m'=(k:Int):=⟨m'.toNat,by omega⟩
       have hyk:yk<L∧mk<L:=by omega
       obtain ⟨b6,b7,b2,b5,b1⟩:=HCC.out X _ HFM.out
       have HYK:=aa.mk hyk
       have HSS:=aa.mk (And.intro (sJ HSW.out.len) (BP s'))
       clear b6 b7 b2 b5 gy2 gn2 hyk
       go_upto_region 24 with (first
        | (refine wpList_load_row rfl 151 (.tmp 10) rfl gs rfl 151 (aC s') (0,0) _ HFM.out.st Try.underlying151 rfl (by rw [HSS.out.1];exact dP) ?_)
        | (refine jy rfl rfl rfl rfl (heap_alloc_new _ _) rfl rfl HSS.out.1 (by exact dP) HSS.out.2 ?_;intro w5 hr5 hk5 hb5;have HR5:=aa.mk hr5;have HB5:=aa.mk hb5;clear hr5 hk5 hb5))
       refine forget (fun Y=>∃ gt,gt=X.heap.size∧FM w Y B gw gb cap tl g gs L A bs2 s'∧Y.heap[gt]?=some (.cells (aC s') 151 (0,0))) ⟨_,rfl,HFM.out.below ((ai (Below.refl _ _) _).trans HB5.out),HR5.out⟩ ?_
       have HXX:=aa.mk (And.intro HFM.out.gv.lt (And.intro (ax HFM.out.st) (And.intro (ax HFM.out.wk.me) HFM.out.wk.lo)))
       clear HR5 HB5 b1 HFM
       rintro Y ⟨gt,egt,hfm,ht⟩
       rw [←egt]
       have HFM:=aa.mk hfm
       have HT:=aa.mk ht
       have HNT:aa (gt≠g∧gt≠g+1+1):=⟨by have:=HXX.out;omega⟩
       have HTG:aa (B.n≤gt∧gs≠gt∧gt≠gw):=⟨by have:=HXX.out;omega⟩
       clear hfm ht egt
       have HYW:=aa.mk (oZ (b:=⟨c',3,⟨l0,l1,l2,l3⟩,yk,mk⟩) HSW.out hrl)
       obtain ⟨b6,b7,b2,b5,b1⟩:=HCC.out Y _ HFM.out
       clear b6 b7 b1
       have h21:l0=21∨¬l0=21:=Classical.em _
       rcases h21 with rfl | h21
       · go_upto_region 26 with (go_at_call 125;refine (PA.gY.calls l3 true l3 _ rfl).mono ?_;rintro e w3 ⟨rfl,hk3⟩;have HT3:=aa.mk (aj HT.out hk3);have z0:w3.cell? ⟨gt,0,none⟩=some (.bool (gS s' 0).isSome):=(ae HT3.out 0).trans (dw (s:=s') (i:=0) (by rw [HSW.out.len];omega));have z1:w3.cell? ⟨gt,1,none⟩=some (.int .u32 ((gS s' 0).getD 0)):=(ae HT3.out 1).trans (dO (s:=s') (i:=0) (by rw [HSW.out.len];omega));have z2:=af HT3.out 0;have z3:=af HT3.out 1;have HF3:=aa.mk (HFM.out.below hk3);clear hk3)
         refine forget (fun Z=>FM w Z B gw gb cap tl g gs L A bs2 s'∧Z.heap[gt]?=some (.cells (aC (sQ ⟨c',3,⟨21,l1,l2,l3⟩,yk,mk⟩ s')) 151 (0,0))) ⟨?_,aM (aM HT3.out (0*2) _ rfl) (0*2+1) _ (ji (i:=0) (some l3) (by rw [HSW.out.len];omega))⟩ ?_
         · exact HF3.out.put2 HTG.out.1 HTG.out.2.1 HNT.out.1 HT3.out
         clear HF3 HT3 z0 z1 z2 z3 b2 b5 HT HFM
         rintro Z ⟨hfm,ht⟩
         obtain ⟨ys,eys⟩:∃ ys,ys=sQ ⟨c',3,⟨21,l1,l2,l3⟩,yk,mk⟩ s':=⟨_,rfl⟩
         rw [←eys] at ht HYW
         have HEY:=aa.mk eys
         have HFM:=aa.mk hfm
         have HT:=aa.mk ht
         obtain ⟨cy,ecy⟩:∃ cy,cy=f36 ys:=⟨_,rfl⟩
         obtain ⟨cs,ecs⟩:∃ cs,cs=f36 s':=⟨_,rfl⟩
         have hly:cy.length=36:=by rw [ecy];exact gB _
         have hlc:cs.length=36:=by rw [ecs];exact gB _
         have HRY:aa (∀ Y:World,Y.heap[gt]?=some (.cells (aC ys) 151 (0,0))→Y.rangeAt gt 0 cy):=⟨fun Y h=>by rw [ecy];exact nC (by rw [←jN HYW.out.len];exact h)⟩
         have HS6:aa (∀ Y A',FM w Y B gw gb cap tl g gs L A' bs2 s'→Y.cell? ⟨gb,n*8+6,none⟩=some (.int .i64 yk)∧Y.cell? ⟨gb,n*8+7,none⟩=some (.int .i64 mk)∧Y.rangeAt gs 0 cs):=⟨fun Y A' h=>⟨(HCC.out Y A' h).1,(HCC.out Y A' h).2.1,by rw [ecs];exact h.range HSW.out.len⟩⟩
         have HGO:aa (∀ Y A',FM w Y B gw gb cap tl g gs L A' bs2 s'→AOk A' L→Calls Try.prog 126 #[.int .i64 yk,.agg cy.toArray,.pointer (some ⟨g+1+1+1,0,none⟩),.pointer (some ⟨g+1,0,none⟩)] Y fun e w'=>e = .returned (.tuple #[])∧FM w w' B gw gb cap tl g gs L (kU A' yk ys) bs2 s'∧Kp (fun x=>x=g∨x=g+1+1) Y w'):=⟨fun Y A' h ha=>by rw [ecy];exact h.call HBG.out ha hL HYK.out.1 HYW.out.len⟩
         have HGN:aa (∀ Y A',FM w Y B gw gb cap tl g gs L A' bs2 s'→AOk A' L→Calls Try.prog 126 #[.int .i64 mk,.agg cs.toArray,.pointer (some ⟨g+1+1+1,0,none⟩),.pointer (some ⟨g+1,0,none⟩)] Y fun e w'=>e = .returned (.tuple #[])∧FM w w' B gw gb cap tl g gs L (kU A' mk s') bs2 s'∧Kp (fun x=>x=g∨x=g+1+1) Y w'):=⟨fun Y A' h ha=>by rw [ecs];exact h.call HBG.out ha hL HYK.out.2 HSW.out.len⟩
         have HAK2:=aa.mk (kV HAK.out HYK.out.1 HYW.out)
         have HDR:=aa.mk (aj ht (ak (Below.refl _ _)))
         clear ecy ecs eys hfm ht HCC
         obtain ⟨e1,_,_⟩:=HS6.out Z _ HFM.out
         have e2:=HRY.out Z HT.out
         have hu:=Try.underlying151
         have hi:(Try.prog.info? 151).map (·.size)=some cy.length:=by rw [hly];exact dP
         go_region_held3 (fun Z=>Z.cell? ⟨gb,n*8+6,none⟩=some (.int .i64 yk)∧Z.rangeAt gt 0 cy)
          (first | exact ⟨(HS6.out _ _ (HFM.out.below (ak (Below.refl _ _)))).1,HRY.out _ HDR.out⟩ | exact ⟨(HS6.out _ _ h5).1,HRY.out _ ((h6.block gt (ax HDR.out) (by rintro (e | e);exact HNT.out.1 e;exact HNT.out.2 e)).trans HDR.out)⟩)
          ((go_at_call 126;refine (HGO.out _ _ (HFM.out.below (ak (Below.refl _ _))) HAK.out).mono ?_;rintro e w5 ⟨rfl,h5,h6⟩))
         have H5:=aa.mk h5
         clear h5 h6 e1 e2 hi HGO HRY HFM HT HDR
         go_upto_region 27 with (fail)
         obtain ⟨_,e1,e2⟩:=HS6.out w5 _ H5.out
         have hi:(Try.prog.info? 151).map (·.size)=some cs.length:=by rw [hlc];exact dP
         go_region_held3 (fun Z=>Z.cell? ⟨gb,n*8+7,none⟩=some (.int .i64 mk)∧Z.rangeAt gs 0 cs)
          (first | exact (HS6.out _ _ (H5.out.below (ak (Below.refl _ _)))).2 | exact (HS6.out _ _ h7).2)
          ((go_at_call 126;refine (HGN.out _ _ (H5.out.below (ak (Below.refl _ _))) HAK2.out).mono ?_;rintro e w7 ⟨rfl,h7,_⟩))
         have H7:=aa.mk h7
         clear h7 e1 e2 hu hi HS6 HGN H5
         go_wp2
         have H8:aa (FM w w7 B gw gb cap tl g gs L (nxF ⟨c',3,⟨21,l1,l2,l3⟩,yk,mk⟩ s' A) bs2 s'):=⟨by have h:=H7.out;rw [HEY.out] at h;exact h⟩
         go_roundw
         case rel=>exact ⟨n+1,f2,_,_,by omega,by go_num,rfl,⟨HNEXT.out _ H8.out⟩⟩
         case measure=>simp [intOf];omega
       have h21':(l0==21)=false:=bn h21
       have HYS:aa (sQ ⟨c',3,⟨l0,l1,l2,l3⟩,yk,mk⟩ s'=s'):=⟨if_neg h21⟩
       clear h21
       go_upto_region 26 with (fail)
       refine forget (fun Z=>FM w Z B gw gb cap tl g gs L A bs2 s'∧Z.heap[gt]?=some (.cells (aC (sQ ⟨c',3,⟨l0,l1,l2,l3⟩,yk,mk⟩ s')) 151 (0,0))) ⟨HFM.out,by rw [HYS.out];exact HT.out⟩ ?_
       clear b2 b5 HT HFM h21'
       rintro Z ⟨hfm,ht⟩
       obtain ⟨ys,eys⟩:∃ ys,ys=sQ ⟨c',3,⟨l0,l1,l2,l3⟩,yk,mk⟩ s':=⟨_,rfl⟩
       rw [←eys] at ht HYW
       have HEY:=aa.mk eys
       have HFM:=aa.mk hfm
       have HT:=aa.mk ht
       obtain ⟨cy,ecy⟩:∃ cy,cy=f36 ys:=⟨_,rfl⟩
       obtain ⟨cs,ecs⟩:∃ cs,cs=f36 s':=⟨_,rfl⟩
       have hly:cy.length=36:=by rw [ecy];exact gB _
       have hlc:cs.length=36:=by rw [ecs];exact gB _
       have HRY:aa (∀ Y:World,Y.heap[gt]?=some (.cells (aC ys) 151 (0,0))→Y.rangeAt gt 0 cy):=⟨fun Y h=>by rw [ecy];exact nC (by rw [←jN HYW.out.len];exact h)⟩
       have HS6:aa (∀ Y A',FM w Y B gw gb cap tl g gs L A' bs2 s'→Y.cell? ⟨gb,n*8+6,none⟩=some (.int .i64 yk)∧Y.cell? ⟨gb,n*8+7,none⟩=some (.int .i64 mk)∧Y.rangeAt gs 0 cs):=⟨fun Y A' h=>⟨(HCC.out Y A' h).1,(HCC.out Y A' h).2.1,by rw [ecs];exact h.range HSW.out.len⟩⟩
       have HGO:aa (∀ Y A',FM w Y B gw gb cap tl g gs L A' bs2 s'→AOk A' L→Calls Try.prog 126 #[.int .i64 yk,.agg cy.toArray,.pointer (some ⟨g+1+1+1,0,none⟩),.pointer (some ⟨g+1,0,none⟩)] Y fun e w'=>e = .returned (.tuple #[])∧FM w w' B gw gb cap tl g gs L (kU A' yk ys) bs2 s'∧Kp (fun x=>x=g∨x=g+1+1) Y w'):=⟨fun Y A' h ha=>by rw [ecy];exact h.call HBG.out ha hL HYK.out.1 HYW.out.len⟩
       have HGN:aa (∀ Y A',FM w Y B gw gb cap tl g gs L A' bs2 s'→AOk A' L→Calls Try.prog 126 #[.int .i64 mk,.agg cs.toArray,.pointer (some ⟨g+1+1+1,0,none⟩),.pointer (some ⟨g+1,0,none⟩)] Y fun e w'=>e = .returned (.tuple #[])∧FM w w' B gw gb cap tl g gs L (kU A' mk s') bs2 s'∧Kp (fun x=>x=g∨x=g+1+1) Y w'):=⟨fun Y A' h ha=>by rw [ecs];exact h.call HBG.out ha hL HYK.out.2 HSW.out.len⟩
       have HAK2:=aa.mk (kV HAK.out HYK.out.1 HYW.out)
       have HDR:=aa.mk (aj ht (ak (Below.refl _ _)))
       clear ecy ecs eys hfm ht HCC
       obtain ⟨e1,_,_⟩:=HS6.out Z _ HFM.out
       have e2:=HRY.out Z HT.out
       have hu:=Try.underlying151
       have hi:(Try.prog.info? 151).map (·.size)=some cy.length:=by rw [hly];exact dP
       go_region_held3 (fun Z=>Z.cell? ⟨gb,n*8+6,none⟩=some (.int .i64 yk)∧Z.rangeAt gt 0 cy)
        (first | exact ⟨(HS6.out _ _ (HFM.out.below (ak (Below.refl _ _)))).1,HRY.out _ HDR.out⟩ | exact ⟨(HS6.out _ _ h5).1,HRY.out _ ((h6.block gt (ax HDR.out) (by rintro (e | e);exact HNT.out.1 e;exact HNT.out.2 e)).trans HDR.out)⟩)
        ((go_at_call 126;refine (HGO.out _ _ (HFM.out.below (ak (Below.refl _ _))) HAK.out).mono ?_;rintro e w5 ⟨rfl,h5,h6⟩))
       have H5:=aa.mk h5
       clear h5 h6 e1 e2 hi HGO HRY HFM HT HDR
       go_upto_region 27 with (fail)
       obtain ⟨_,e1,e2⟩:=HS6.out w5 _ H5.out
       have hi:(Try.prog.info? 151).map (·.size)=some cs.length:=by rw [hlc];exact dP
       go_region_held3 (fun Z=>Z.cell? ⟨gb,n*8+7,none⟩=some (.int .i64 mk)∧Z.rangeAt gs 0 cs)
        (first | exact (HS6.out _ _ (H5.out.below (ak (Below.refl _ _)))).2 | exact (HS6.out _ _ h7).2)
        ((go_at_call 126;refine (HGN.out _ _ (H5.out.below (ak (Below.refl _ _))) HAK2.out).mono ?_;rintro e w7 ⟨rfl,h7,_⟩))
       have H7:=aa.mk h7
       clear h7 e1 e2 hu hi HS6 HGN H5
       go_wp2
       have H8:aa (FM w w7 B gw gb cap tl g gs L (nxF ⟨c',3,⟨l0,l1,l2,l3⟩,yk,mk⟩ s' A) bs2 s'):=⟨by have h:=H7.out;rw [HEY.out] at h;exact h⟩
       go_roundw
       case rel=>exact ⟨n+1,f2,_,_,by omega,by go_num,rfl,⟨HNEXT.out _ H8.out⟩⟩
       case measure=>simp [intOf];omega
   have hnl:n=L:=by omega
   subst hnl
   have hr:=HF.out.res
   have hgl:(bs.map (·.2)).length=n:=by rw [List.length_map,EL.out]
   rw [List.drop_eq_nil_of_le (by rw [hgl];exact Nat.le_refl _)] at hr
   have e1:(jq (bs.map (·.2))).1=bsn.map (·.2):=by rw [hr];show _++[]=_;rw [List.append_nil,List.take_of_length_le (by rw [List.length_map,HF.out.len];exact Nat.le_refl _)]
   have e2:(jq (bs.map (·.2))).2=f:=by rw [hr];show (f||false)=f;simp
   have HE:=aa.mk (And.intro e1 e2)
   clear hr hgl e1 e2
   go_wp2
   go_ret
   exact ⟨congrArg (fun x=>Ending.returned (Value.bool x)) HE.out.2.symm,⟨bsn,HE.out.1.symm,HF.out.wk⟩,HF.out.low⟩
structure PI (w wr:World) (B:Bs) (gw gb cap:Nat) (tl:List Value) (L:Nat) (G:List S47) (T R:List S47 × Bool) (n:Nat) (f:Bool) (bs:List (Value × S47)):Prop where
 wk:Wk wr B gw gb cap bs tl
 low:Below B.n w wr
 len:bs.length=L
 rest:(bs.map (·.2)).drop n=G.drop n
 res:T=((bs.map (·.2)).take n++R.1,f||R.2)
section
variable {w wr w2:World} {B:Bs} {gw gb cap L n:Nat} {tl:List Value} {G:List S47} {T R R':List S47 × Bool} {f:Bool} {bs:List (Value × S47)}
theorem PI.at_ (h:PI w wr B gw gb cap tl L G T R n f bs) (hn:n<L):∃ v b,bs[n]?=some (v,b)∧G[n]?=some b∧G.drop n=b :: G.drop (n+1):=by
 have h1:n<bs.length:=by rw [h.len];exact hn
 have h2:((bs.map (·.2)).drop n)[0]?=(G.drop n)[0]?:=by rw [h.rest]
 rw [List.getElem?_drop,List.getElem?_drop,Nat.add_zero,List.getElem?_map,List.getElem?_eq_getElem h1,Option.map_some] at h2
 have h3:=(List.getElem?_eq_some_iff.1 h2.symm)
 obtain ⟨h4,h5⟩:=h3
 exact ⟨bs[n].1,bs[n].2,List.getElem?_eq_getElem h1,h2.symm,by rw [List.drop_eq_getElem_cons h4,h5]⟩
theorem PI.below (h:PI w wr B gw gb cap tl L G T R n f bs) (hb:Below wr.heap.size wr w2):PI w w2 B gw gb cap tl L G T R n f bs:=
 ⟨h.wk.below hb,h.low.trans ⟨hb.os,hb.tape,hb.output,hb.size,fun i hi=>hb.block i (by have:=ax h.wk.me;have:=h.wk.lo;omega)⟩,h.len,h.rest,h.res⟩
theorem PI.next (h:PI w wr B gw gb cap tl L G T R n f bs) {v v':Value} {b b':S47} {f2:Bool} (hb:bs[n]?=some (v,b)) (hG:G.drop n=b :: G.drop (n+1)) (hR:R.1=b' :: R'.1) (hf:(f||R.2)=(f2||R'.2)) (hwk:Wk w2 B gw gb cap (bs.set n (v',b')) tl) (hlow:Below B.n w w2) :
 PI w w2 B gw gb cap tl L G T R' (n+1) f2 (bs.set n (v',b')):=by
 have hn:=mR hb
 refine ⟨hwk,hlow,by rw [List.length_set];exact h.len,?_,?_⟩
 · have:=congrArg List.tail h.rest
   rw [List.tail_drop,hG] at this
   rw [List.map_set,List.drop_set_of_lt (by omega)]
   exact this
 have hr:=h.res
 rw [hR,hf] at hr
 have hl:n<((bs.set n (v',b')).map (·.2)).length:=by rw [List.length_map,List.length_set];exact hn
 rw [hr,List.take_succ_eq_append_getElem hl,List.append_assoc]
 have e1:((bs.set n (v',b')).map (·.2))[n]=b':=by
  have:=List.getElem?_eq_getElem hl
  rw [List.getElem?_map,aN hb] at this
  exact (Option.some.inj this).symm
 have e2:((bs.set n (v',b')).map (·.2)).take n=(bs.map (·.2)).take n:=by rw [List.map_set,List.take_set_of_le (Nat.le_refl _)]
 rw [e1,e2]
 rfl
theorem PI.done (h:PI w wr B gw gb cap tl L G T R L f bs) (hR1:R.1=[]) (hR2:R.2=false):bs.map (·.2)=T.1∧T.2=f:=by
 rw [h.res,hR1,hR2]
 refine ⟨?_,by simp⟩
 show _=_++[]
 rw [List.append_nil,List.take_of_length_le (by rw [List.length_map,h.len];exact Nat.le_refl _)]
end
def ofP (k:Nat):List Int:=(List.range k).map (fun i:Nat=>((i:Int)+1))++List.replicate (18 - k) 0
theorem ofP_len {k:Nat} (h:k≤18):(ofP k).length=18:=by unfold ofP;rw [List.length_append,List.length_map,List.length_range,List.length_replicate];omega
theorem AZ {k:Nat} (h:k<18):(ofP k).set k ((k:Int)+1)=ofP (k+1):=by
 unfold ofP
 rw [List.set_append_right _ _ (by rw [List.length_map,List.length_range];exact Nat.le_refl _),List.length_map,List.length_range,Nat.sub_self,show 18 - k=(18 - (k+1))+1 by omega,List.replicate_succ,List.set_cons_zero,List.range_succ,List.map_append,List.append_assoc]
 rfl
theorem ofP_18:ofP 18=iJ:=by decide +kernel
theorem xh {b:S47} (h:b.f0=[]):gz b=(b,false):=by
 obtain ⟨c,_,_,_,_⟩:=b
 dsimp only at h
 subst h
 rfl
structure CN (w wr:World) (g k:Nat):Prop where
 b:Below w.heap.size w wr
 eg:w.heap.size≤g
 m:wr.heap[g]?=some (.cells (gq (ofP k) k) 160 (0,0))
structure CL (V wr:World) (gm gc cap:Nat) (c:List S45) (k:Nat) (of:List Int) (nx:Int) (o:List S45) (f0 fnd:Bool):Prop where
 kp:Kp (fun x=>x=gm∨x=gc) V wr
 m:wr.heap[gm]?=some (.cells (gq of nx) 160 (0,0))
 fil:Fil wr gc cap k o (c.drop k)
 ol:of.length=18
 nb:0≤nx∧nx≤18+(k:Int)
 res:((cpF iJ 18 c).1,(f0||(cpF iJ 18 c).2))=(o++(cpF of nx (c.drop k)).1,(fnd||(cpF of nx (c.drop k)).2))
section
variable {V wr w2:World} {gm gc cap k:Nat} {c:List S45} {of:List Int} {nx:Int} {o:List S45} {f0 fnd:Bool} {i:S45}
theorem CL.skip {a t:Nat} (h:CL V wr gm gc cap c k of nx o f0 fnd) (hd:c.drop k=i :: c.drop (k+1)) (hm:mvF i=some (a,t)) (e:of.getD t 0=of.getD a 0) (hk:Kp (fun x=>x=gm∨x=gc) wr w2) (hM:w2.heap[gm]?=some (.cells (gq (of.set t (of.getD a 0)) nx) 160 (0,0))) (hF:Fil w2 gc cap k o (c.drop k)) (ht:t<18) :
 CL V w2 gm gc cap c (k+1) of nx o f0 true:=by
 have hr:=h.res
 rw [hd] at hF
 have es:of.set t (of.getD a 0)=of:=mX (by rw [h.ol];exact ht) e
 rw [es] at hM
 refine ⟨h.kp.trans hk,hM,hF.skip,h.ol,⟨h.nb.1,by have:=h.nb.2;omega⟩,?_⟩
 rw [hr,hd,cpF,hm]
 dsimp only
 rw [if_neg (fun q=>q e),Bool.or_true,Bool.true_or]
theorem CL.keep {a t:Nat} (h:CL V wr gm gc cap c k of nx o f0 fnd) (hd:c.drop k=i :: c.drop (k+1)) (hm:mvF i=some (a,t)) (e:of.getD t 0≠of.getD a 0) (hk:Kp (fun x=>x=gm∨x=gc) wr w2) (hM:w2.heap[gm]?=some (.cells (gq (of.set t (of.getD a 0)) nx) 160 (0,0))) (hF:Fil w2 gc cap (k+1) (o++[i]) (c.drop (k+1))) :
 CL V w2 gm gc cap c (k+1) (of.set t (of.getD a 0)) nx (o++[i]) f0 fnd:=by
 refine ⟨h.kp.trans hk,hM,hF,by rw [List.length_set];exact h.ol,⟨h.nb.1,by have:=h.nb.2;omega⟩,?_⟩
 rw [h.res,hd,cpF,hm]
 dsimp only
 rw [if_pos e,List.append_assoc,List.singleton_append]
theorem CL.fresh (h:CL V wr gm gc cap c k of nx o f0 fnd) (hd:c.drop k=i :: c.drop (k+1)) (hm:mvF i=none) (hk:Kp (fun x=>x=gm∨x=gc) wr w2) (hM:w2.heap[gm]?=some (.cells (gq (of.set (wrF i) (nx+1)) (nx+1)) 160 (0,0))) (hF:Fil w2 gc cap (k+1) (o++[i]) (c.drop (k+1))) :
 CL V w2 gm gc cap c (k+1) (of.set (wrF i) (nx+1)) (nx+1) (o++[i]) f0 fnd:=by
 refine ⟨h.kp.trans hk,hM,hF,by rw [List.length_set];exact h.ol,⟨by have:=h.nb.1;omega,by have:=h.nb.2;omega⟩,?_⟩
 rw [h.res,hd,cpF,hm]
 dsimp only
 rw [List.append_assoc,List.singleton_append]
end
theorem rP (w:World) (B:Bs) (gw gb cap:Nat) (bs:List (Value × S47)) (tl:List Value) (hW:Wk w B gw gb cap bs tl) (hG:GOk (bs.map (·.2))) :
 Calls Try.prog 84 #[.pointer (some ⟨gw,0,none⟩)] w fun e w'=>e = .returned (.bool (jb (bs.map (·.2))).2)∧(∃ bs',bs'.map (·.2)=(jb (bs.map (·.2))).1∧Wk w' B gw gb cap bs' tl)∧Below B.n w w':=by
 obtain ⟨L,eL⟩:∃ L,L=bs.length:=⟨_,rfl⟩
 have hL:L≤4096:=by have:=hG.few;rw [List.length_map] at this;omega
 have c0:w.cell? ⟨gw,0,none⟩=some (.slice (some ⟨gb,0,none⟩) L cap):=by rw [eL];exact (ae hW.me 0).trans rfl
 have HP:aa (PI w w B gw gb cap tl L (bs.map (·.2)) (jb (bs.map (·.2))) (((bs.map (·.2)).drop 0).map (fun b=>(gz b).1),((bs.map (·.2)).drop 0).any (fun b=>(gz b).2)) 0 false bs):=⟨⟨hW,Below.refl _ _,eL.symm,rfl,by simp [jb]⟩⟩
 have HW:=aa.mk hW
 have HG:=aa.mk hG
 have EL:=aa.mk eL
 clear hW hG eL
 go_enter Try.func84,Try.ntmps84
 go_wp2
 go_loopw [3,19] (fun v3 v19 wr=>∃ (n:Nat) (f:Bool) (bsn:List (Value × S47)),n≤L∧v19 = .int .i64 n∧v3 = .bool f∧aa (PI w wr B gw gb cap tl L (bs.map (·.2)) (jb (bs.map (·.2))) (((bs.map (·.2)).drop n).map (fun b=>(gz b).1),((bs.map (·.2)).drop n).any (fun b=>(gz b).2)) n f bsn)) (fun _ v19 _=>L - (intOf v19).toNat)
 case atStart=>exact ⟨0,false,_,Nat.zero_le _,rfl,rfl,HP⟩
 case round=>
  clear HP c0
  obtain ⟨n,f,bsn,hn,rfl,rfl,HP⟩:=hrel
  by_cases hlt:n<L
  · obtain ⟨v,b,hb,hGn,hGd⟩:=HP.out.at_ hlt
    have i0:(0:Int)≤(n:Int):=by omega
    have i1:(n:Int)<(L:Int):=by omega
    have c0:wr.cell? ⟨gw,0,none⟩=some (.slice (some ⟨gb,0,none⟩) L cap):=by have h:=(ae HP.out.wk.me 0).trans rfl;rw [HP.out.len] at h;exact h
    have HB0:=aa.mk (And.intro hb (And.intro hGn hGd))
    clear hb hGn hGd
    go_upto_region 7 with (fail)
    refine forget (fun V=>∃ gm,gm=wr.heap.size∧Below wr.heap.size wr V∧V.heap[gm]?=some (.cells (gq (ofP 0) 0) 160 (0,0))) ⟨_,rfl,ai (Below.refl _ _) _,heap_alloc_new _ _⟩ ?_
    clear c0
    rintro V ⟨gm,egm,hbV,hm⟩
    rw [←egm]
    have HCN:aa (CN wr V gm 0):=⟨⟨hbV,by omega,hm⟩⟩
    have HGM:=aa.mk egm
    clear egm hbV hm
    obtain ⟨wo,rfl⟩:∃ wo:World,wo=wr:=⟨_,rfl⟩
    go_wp2
    go_loopw [30] (fun v30 wr=>∃ k:Nat,k≤18∧v30 = .int .i64 k∧aa (CN wo wr gm k)) (fun v30 _=>18 - (intOf v30).toNat)
    case atStart=>exact ⟨0,by omega,rfl,HCN⟩
    case round=>
     clear HCN
     obtain ⟨k,hk,rfl,HCN⟩:=hrel
     by_cases hk18:k<18
     · go_wp2_with (go_at_call 130;refine (nY wr gm (ofP k) k k HCN.out.m (ofP_len (by omega)) hk18 (by omega)).mono ?_;rintro e w2 ⟨rfl,hm2,hk2⟩;have HM2:=aa.mk (And.intro hm2 hk2);clear hm2 hk2)
       have HC2:aa (CN wo w2 gm (k+1)):=⟨⟨Kp.iO HCN.out.b HM2.out.2 HCN.out.b.size (by rintro x rfl;exact HCN.out.eg),HCN.out.eg,by have h:=HM2.out.1;rw [AZ hk18] at h;exact h⟩⟩
       clear HM2 HCN
       go_roundw
       case rel=>exact ⟨k+1,by omega,by go_num,HC2⟩
       case measure=>simp [intOf];omega
     have hk8:k=18:=by omega
     subst hk8
     rw [show ((18:Nat):Int)=(18:Int) from rfl]
     have hM18:wr.heap[gm]?=some (.cells (gq iJ 18) 160 (0,0)):=by have h:=HCN.out.m;rw [ofP_18] at h;exact h
     have HPV:=aa.mk (HP.out.below HCN.out.b)
     have hcd:Cd wr v b.f0:=HPV.out.wk.row.code n _ HB0.out.1
     have b0:wr.cell? ⟨gb,n*8,none⟩=some v:=(ae HPV.out.wk.row.row (n*8+0)).trans (di HB0.out.1 (by omega))
     have HM18:=aa.mk hM18
     have HBW:=aa.mk HCN.out.b
     have HBOK:=aa.mk (HG.out.all n b HB0.out.2.1)
     have HLN:=aa.mk (HG.out.len HB0.out.2.1)
     have hgm:gm≠gb:=by have:=ax HP.out.wk.row.row;have:=HGM.out;omega
     have HNG:=aa.mk hgm
     clear hM18 HCN hk hk18 hgm
     obtain ⟨wp,rfl⟩:∃ wp:World,wp=wr:=⟨_,rfl⟩
     rcases hcd with ⟨rfl,hnil⟩ | ⟨gc,cap2,tlc,rfl,hcd⟩
     · have HN:=aa.mk hnil
       have z0:wp.frozen? ⟨gb,n*8,none⟩=false:=af HPV.out.wk.row.row (n*8+0)
       clear hnil
       go_wp2
       go_loopw [3,8,47] (fun v3 v8 v47 wr=>v3 = .bool f∧v8 = .slice none 0 0∧v47 = .int .i64 0∧wr=wp) (fun _ _ _ _=>0)
       case atStart=>exact ⟨rfl,rfl,rfl,rfl⟩
       case round=>
        obtain ⟨rfl,rfl,rfl,rfl⟩:=hrel
        go_wp2
        have HK5:=aa.mk ((Kp.refl (fun x=>x=gb) wr).set (.inl rfl) (n*8) (.slice none 0 0))
        have HR5:=aa.mk (bJ (j:=0) HPV.out.wk.row.row HB0.out.1 (.slice none 0 0,b) (by omega) (.slice none 0 0) rfl)
        have HPI:aa (PI w (wr.setCell ⟨gb,n*8,none⟩ (.slice none 0 0)) B gw gb cap tl L (bs.map (·.2)) (jb (bs.map (·.2))) (((bs.map (·.2)).drop (n+1)).map (fun b=>(gz b).1),((bs.map (·.2)).drop (n+1)).any (fun b=>(gz b).2)) (n+1) f (bsn.set n (.slice none 0 0,b))):=⟨by
         have hcb:(gz b).1=b∧(gz b).2=false:=by rw [xh HN.out];exact ⟨rfl,rfl⟩
         refine HPV.out.next HB0.out.1 HB0.out.2.2 (by rw [HB0.out.2.2,List.map_cons,hcb.1]) (by rw [HB0.out.2.2,List.any_cons,hcb.2,Bool.false_or]) (HPV.out.wk.step HB0.out.1 HK5.out (fun x e => .inl e) HR5.out (.inl ⟨rfl,HN.out⟩) (fun g hg=>by cases hg)) (Kp.iO HPV.out.low HK5.out (by have:=ax HPV.out.wk.me;have:=HPV.out.wk.lo;omega) (by rintro x rfl;exact HPV.out.wk.row.lo.1))⟩
        go_roundw
        case rel=>exact ⟨n+1,f,_,by omega,by go_num,rfl,HPI⟩
        case measure=>simp [intOf];omega
     have hmax:b.f0.length≤9223372036854775807:=by have:=hcd.len;have:=hcd.max;unfold maxLen at *;omega
     have hcap:cap2≤9223372036854775807:=by have:=hcd.max;unfold maxLen at *;omega
     have HMX:=aa.mk hcd.max
     have HNE:aa (gc≠gm∧gc≠gb):=⟨⟨bT hcd.blk HM18.out (by decide),fun e=>by subst e;exact bT hcd.blk HPV.out.wk.row.row (by decide) rfl⟩⟩
     have HCL:aa (CL wp wp gm gc cap2 b.f0 0 iJ 18 [] f f):=⟨⟨Kp.refl _ _,HM18.out,by simpa using Fil.of hcd,rfl,by omega,by simp⟩⟩
     clear hcd
     go_wp2
     go_loopw [3,8,47] (fun v3 v8 v47 wr=>∃ (k:Nat) (of:List Int) (nx:Int) (o:List S45) (fnd:Bool),k≤b.f0.length∧v47 = .int .i64 k∧v3 = .bool fnd∧v8 = .slice (some ⟨gc,0,none⟩) o.length cap2∧aa (CL wp wr gm gc cap2 b.f0 k of nx o f fnd)) (fun _ _ v47 _=>b.f0.length - (intOf v47).toNat)
     case atStart=>exact ⟨0,iJ,18,[],f,Nat.zero_le _,rfl,rfl,rfl,HCL⟩
     case round=>
      clear HCL b0
      obtain ⟨k,of,nx,o,fnd,hk,rfl,rfl,rfl,HCL⟩:=hrel
      by_cases hlk:k<b.f0.length
      · have hd:b.f0.drop k=b.f0[k] :: b.f0.drop (k+1):=List.drop_eq_getElem_cons hlk
        have hmem:b.f0[k]∈b.f0:=List.getElem_mem hlk
        have hst:=List.all_eq_true.1 HBOK.out.code _ hmem
        have hrg:=HBOK.out.rg _ hmem
        generalize b.f0[k]=i at hd hmem hst hrg
        have hF:=HCL.out.fil
        rw [hd] at hF
        have x0:wr.cell? ⟨gc,k*4,none⟩=some (.int .u16 i.f0):=(hF.get (q:=0) (by omega)).trans rfl
        have x1:wr.cell? ⟨gc,k*4+1,none⟩=some (.int .u8 i.f1):=(hF.get (q:=1) (by omega)).trans rfl
        have x2:wr.cell? ⟨gc,k*4+2,none⟩=some (.int .u8 i.f2):=(hF.get (q:=2) (by omega)).trans rfl
        have x3:wr.cell? ⟨gc,k*4+3,none⟩=some (.int .u32 i.f3):=(hF.get (q:=3) (by omega)).trans rfl
        have i2:(0:Int)≤(k:Int):=by omega
        have i3:(k:Int)<(b.f0.length:Int):=by omega
        have HD:=aa.mk hd
        have HST:=aa.mk (And.intro hst hrg)
        clear hd hmem hst hrg hF
        go_upto_region 16 with (fail)
        refine forget (fun W=>∃ gi,gi=wr.heap.size∧Below wr.heap.size wr W∧W.heap[gi]?=some (.cells #[.int .u16 i.f0,.int .u8 i.f1,.int .u8 i.f2,.int .u32 i.f3] 45 (0,0))) ⟨_,rfl,ai (Below.refl _ _) _,heap_alloc_new _ _⟩ ?_
        clear x0 x1 x2 x3
        rintro W ⟨gi,egi,hb,hi⟩
        rw [←egi]
        obtain ⟨y0,y1,y2,y3,-,-,-,-⟩:=cz4 ⟨hi⟩
        have HB:=aa.mk hb
        have HIN:=aa.mk hi
        have HGI:aa (gi≠gm∧gi≠gc):=⟨by have:=ax HCL.out.m;have:=HCL.out.fil.lt;omega⟩
        have HCELL:aa (∀ Y:World,Kp (fun x=>x=gm∨x=gc) W Y→Y.cell? ⟨gi,0,none⟩=some (.int .u16 i.f0)∧Y.cell? ⟨gi,1,none⟩=some (.int .u8 i.f1)∧Y.cell? ⟨gi,2,none⟩=some (.int .u8 i.f2)∧Y.cell? ⟨gi,3,none⟩=some (.int .u32 i.f3)):=⟨fun Y hY=>by
         have h:=(hY.block gi (ax hi) (by rintro (e | e);exact HGI.out.1 e;exact HGI.out.2 e)).trans hi
         exact ⟨(ae h 0).trans rfl,(ae h 1).trans rfl,(ae h 2).trans rfl,(ae h 3).trans rfl⟩⟩
        have HKW:aa (∀ Y:World,Kp (fun x=>x=gm∨x=gc) W Y→Kp (fun x=>x=gm∨x=gc) wr Y):=⟨fun Y hY=>((Kp.refl _ wr).below hb).trans hY⟩
        have HMV:=aa.mk (moves_f (i:=i) HST.out.2)
        have HFW:aa (Fil W gc cap2 k o (b.f0.drop k)):=⟨HCL.out.fil.below hb⟩
        have HMW:aa (W.heap[gm]?=some (.cells (gq of nx) 160 (0,0))):=⟨aj HCL.out.m hb⟩
        have HNEW:aa (∀ Y:World,∀ q u,(i4 i)[q]?=some u→(Y.alloc (.cells #[.int .u16 i.f0,.int .u8 i.f1,.int .u8 i.f2,.int .u32 i.f3] 45)).cell? ((⟨Y.heap.size,0,none⟩:Addr).add q)=some u):=⟨by
         intro Y q u hu
         rw [Go.WideShapes.add_plain,Nat.zero_add]
         have:=ae (iM Y (.cells #[.int .u16 i.f0,.int .u8 i.f1,.int .u8 i.f2,.int .u32 i.f3] 45)) q
         rw [this,List.getElem?_toArray];exact hu⟩
        clear hb hi egi
        obtain ⟨mv,emv⟩:∃ mv,mv=mvF i:=⟨_,rfl⟩
        rw [←emv] at HMV
        have EMV:=aa.mk emv.symm
        clear emv
        cases mv with
        | none=>
         have HWF:=aa.mk (uk HST.out.1 HST.out.2 10)
         have HWL:=aa.mk (wS HST.out.1 HST.out.2)
         go_wp2_with (first
          | (go_at_call 131;refine (PA.jh.calls i.f0 i.f1 i.f2 i.f3 _ _ _ _ HMV.out).mono ?_;rintro e w2 ⟨rfl,hb2⟩;have HK2:=aa.mk ((Kp.refl (fun x=>x=gm∨x=gc) W).below hb2);obtain ⟨q0,q1,q2,q3⟩:=HCELL.out w2 HK2.out;have HF2:=aa.mk (HFW.out.below hb2);have HM2:=aa.mk (aj HMW.out hb2);clear hb2)
          | (go_at_call 133;refine (PA.dG.calls 18 i.f0 i.f1 i.f2 i.f3 _ _ HWF.out).mono ?_;rintro e w3 ⟨rfl,hb3⟩;have HK3:=aa.mk (HK2.out.below hb3);have HF3:=aa.mk (HF2.out.below hb3);have HM3:=aa.mk (aj HM2.out hb3);clear hb3)
          | (go_at_call 130;refine (nY w3 gm of nx (wrF i) HM3.out HCL.out.ol HWL.out (by have:=HCL.out.nb;have:=HLN.out;omega)).mono ?_;rintro e w4 ⟨rfl,hm4,hk4⟩;have HK4:=aa.mk (HK3.out.trans (Kp.mono hk4 (fun x e => .inl e)));obtain ⟨r0,r1,r2,r3⟩:=HCELL.out w4 HK4.out;have HF4:=aa.mk (by have h:=(HF3.out.kp hk4 HNE.out.1).below (ai (Below.refl _ _) (.cells #[.int .u16 i.f0,.int .u8 i.f1,.int .u8 i.f2,.int .u32 i.f3] 45));rw [HD.out] at h;exact h);have HM4:=aa.mk (aT hm4 (.cells #[.int .u16 i.f0,.int .u8 i.f1,.int .u8 i.f2,.int .u32 i.f3] 45));clear hm4 hk4)
          | (at_builtin;refine iZ _ rfl (.tmp 71) (.tmp 73) rfl HF4.out rfl i ⟨w4.heap.size,0,none⟩ rfl (HNEW.out w4) ?_;intro w7 hF7 hk7;have HF7:=aa.mk hF7;have HK7:=aa.mk ((HK4.out.below (ai (Below.refl _ _) _)).trans (Kp.mono hk7 (fun x e => .inr e)));have HM7:=aa.mk ((hk7.block gm (ax HM4.out) (fun e=>HNE.out.1 e.symm)).trans HM4.out);clear hF7 hk7))
         go_roundw
         case rel=>exact ⟨k+1,_,_,_,fnd,by omega,by go_num,rfl,by rw [List.length_append];rfl,⟨HCL.out.fresh HD.out EMV.out (HKW.out _ HK7.out) HM7.out HF7.out⟩⟩
         case measure=>simp [intOf];omega
        | some p=>
         obtain ⟨a,t⟩:=p
         obtain ⟨m1,m2,m3⟩:a<18∧t<18∧True:=⟨(jQ [] z16 rfl HST.out.1 HST.out.2 EMV.out).2.1,(jQ [] z16 rfl HST.out.1 HST.out.2 EMV.out).2.2.1,trivial⟩
         have HAT:=aa.mk (And.intro m1 m2)
         clear m1 m2 m3
         dsimp only at HMV
         have hcc:(of.getD t 0=of.getD a 0∧(of.getD t 0 != of.getD a 0)=false)∨(of.getD t 0≠of.getD a 0∧(of.getD t 0 != of.getD a 0)=true):=by
          by_cases e:of.getD t 0=of.getD a 0
          · exact .inl ⟨e,bne_eq_false_iff_eq.mpr e⟩
          exact .inr ⟨e,bne_iff_ne.mpr e⟩
         rcases hcc with ⟨e,e2⟩ | ⟨e,e2⟩
         · have HE:=aa.mk (And.intro e e2)
           clear e e2
           go_wp2_with (first
            | (go_at_call 131;refine (PA.jh.calls i.f0 i.f1 i.f2 i.f3 _ _ _ _ HMV.out).mono ?_;rintro e w2 ⟨rfl,hb2⟩;have HK2:=aa.mk ((Kp.refl (fun x=>x=gm∨x=gc) W).below hb2);have HF2:=aa.mk (HFW.out.below hb2);have HM2:=aa.mk (aj HMW.out hb2);clear hb2)
            | (go_at_call 132;refine (mE w2 gm of nx t a HM2.out HCL.out.ol HAT.out.2 HAT.out.1).mono ?_;rintro e w3 ⟨rfl,hm3,hk3⟩;rw [HE.out.2];have HK3:=aa.mk (HK2.out.trans (Kp.mono hk3 (fun x e => .inl e)));have HM3:=aa.mk hm3;have HF3:=aa.mk (HF2.out.kp hk3 HNE.out.1);clear hm3 hk3))
           go_roundw
           case rel=>exact ⟨k+1,_,_,_,true,by omega,by go_num,rfl,rfl,⟨HCL.out.skip HD.out EMV.out HE.out.1 (HKW.out _ HK3.out) HM3.out HF3.out HAT.out.2⟩⟩
           case measure=>simp [intOf];omega
         have HE:=aa.mk (And.intro e e2)
         clear e e2
         go_wp2_with (first
          | (go_at_call 131;refine (PA.jh.calls i.f0 i.f1 i.f2 i.f3 _ _ _ _ HMV.out).mono ?_;rintro e w2 ⟨rfl,hb2⟩;have HK2:=aa.mk ((Kp.refl (fun x=>x=gm∨x=gc) W).below hb2);have HF2:=aa.mk (HFW.out.below hb2);have HM2:=aa.mk (aj HMW.out hb2);clear hb2)
          | (go_at_call 132;refine (mE w2 gm of nx t a HM2.out HCL.out.ol HAT.out.2 HAT.out.1).mono ?_;rintro e w4 ⟨rfl,hm4,hk4⟩;rw [HE.out.2];have HK4:=aa.mk (HK2.out.trans (Kp.mono hk4 (fun x e => .inl e)));obtain ⟨r0,r1,r2,r3⟩:=HCELL.out w4 HK4.out;have HF4:=aa.mk (by have h:=(HF2.out.kp hk4 HNE.out.1).below (ai (Below.refl _ _) (.cells #[.int .u16 i.f0,.int .u8 i.f1,.int .u8 i.f2,.int .u32 i.f3] 45));rw [HD.out] at h;exact h);have HM4:=aa.mk (aT hm4 (.cells #[.int .u16 i.f0,.int .u8 i.f1,.int .u8 i.f2,.int .u32 i.f3] 45));clear hm4 hk4)
          | (at_builtin;refine iZ _ rfl (.tmp 71) (.tmp 73) rfl HF4.out rfl i ⟨w4.heap.size,0,none⟩ rfl (HNEW.out w4) ?_;intro w7 hF7 hk7;have HF7:=aa.mk hF7;have HK7:=aa.mk ((HK4.out.below (ai (Below.refl _ _) _)).trans (Kp.mono hk7 (fun x e => .inr e)));have HM7:=aa.mk ((hk7.block gm (ax HM4.out) (fun e=>HNE.out.1 e.symm)).trans HM4.out);clear hF7 hk7))
         go_roundw
         case rel=>exact ⟨k+1,_,_,_,fnd,by omega,by go_num,rfl,by rw [List.length_append];rfl,⟨HCL.out.keep HD.out EMV.out HE.out.1 (HKW.out _ HK7.out) HM7.out HF7.out⟩⟩
         case measure=>simp [intOf];omega
      have hkl:k=b.f0.length:=by omega
      subst hkl
      have hr:=HCL.out.res
      rw [List.drop_length] at hr
      have e1:(cpF iJ 18 b.f0).1=o:=by have:=congrArg Prod.fst hr;rw [this];show o++[]=o;simp
      have e2:(f||(cpF iJ 18 b.f0).2)=fnd:=by have h2:(f||(cpF iJ 18 b.f0).2)=(fnd||false):=congrArg Prod.snd hr;simpa using h2
      have hrow:=(HCL.out.kp.block gb (ax HPV.out.wk.row.row) (by rintro (e | e);exact HNG.out e.symm;exact HNE.out.2 e.symm)).trans HPV.out.wk.row.row
      have z0:wr.frozen? ⟨gb,n*8,none⟩=false:=af hrow (n*8+0)
      have b0:wr.cell? ⟨gb,n*8,none⟩=some (.slice (some ⟨gc,0,none⟩) b.f0.length cap2):=(ae hrow (n*8+0)).trans (di HB0.out.1 (by omega))
      have HE:=aa.mk (And.intro e1 e2)
      have HRW:=aa.mk hrow
      clear hr e1 e2 hrow
      go_wp2
      have HK5:aa (Kp (fun x=>(x=gm∨x=gc)∨x=gb) wp (wr.setCell ⟨gb,n*8,none⟩ (.slice (some ⟨gc,0,none⟩) o.length cap2))):=⟨(Kp.mono HCL.out.kp (fun x e => .inl e)).set (.inl (.inr rfl)) _ _⟩
      have HR5:=aa.mk (bJ (j:=0) HRW.out HB0.out.1 (.slice (some ⟨gc,0,none⟩) o.length cap2,⟨o,b.f1,b.f2,b.f3,b.f4⟩) (by omega) (.slice (some ⟨gc,0,none⟩) o.length cap2) rfl)
      have HPI:aa (PI w (wr.setCell ⟨gb,n*8,none⟩ (.slice (some ⟨gc,0,none⟩) o.length cap2)) B gw gb cap tl L (bs.map (·.2)) (jb (bs.map (·.2))) (((bs.map (·.2)).drop (n+1)).map (fun b=>(gz b).1),((bs.map (·.2)).drop (n+1)).any (fun b=>(gz b).2)) (n+1) fnd (bsn.set n (.slice (some ⟨gc,0,none⟩) o.length cap2,⟨o,b.f1,b.f2,b.f3,b.f4⟩))):=⟨by
       have hcb:(gz b).1=⟨o,b.f1,b.f2,b.f3,b.f4⟩:=by unfold gz;rw [HE.out.1]
       have hcb2:(f||(gz b).2)=fnd:=HE.out.2
       refine HPV.out.next HB0.out.1 HB0.out.2.2 (by rw [HB0.out.2.2,List.map_cons,hcb]) (by rw [HB0.out.2.2,List.any_cons,←Bool.or_assoc,hcb2]) (HPV.out.wk.step HB0.out.1 HK5.out ?_ HR5.out ?_ (fun g hg => .inl hg)) (Kp.iO HPV.out.low HK5.out (by have:=ax HPV.out.wk.me;have:=HPV.out.wk.lo;omega) ?_)
       · rintro x ((rfl | rfl) | rfl)
         · exact .inr (.inr ⟨_,_,_,HM18.out,by decide,by decide,by decide⟩)
         · exact .inr (.inl rfl)
         exact .inl rfl
       · exact (HCL.out.fil.done HMX.out).kp ((Kp.refl (fun x=>x=gb) wr).set (.inl rfl) _ _) (by intro g hg e;injection hg with hg;exact HNE.out.2 (hg.trans e))
       rintro x ((rfl | rfl) | rfl)
       · have:=HGM.out;have:=ax HP.out.wk.me;have:=HP.out.wk.lo;omega
       · exact HPV.out.wk.row.lo.2 _ (List.mem_of_getElem? HB0.out.1) _ rfl
       exact HPV.out.wk.row.lo.1⟩
      go_roundw
      case rel=>exact ⟨n+1,fnd,_,by omega,by go_num,rfl,HPI⟩
      case measure=>simp [intOf];omega
  have hnl:n=L:=by omega
  subst hnl
  have hgl:(bs.map (·.2)).length=n:=by rw [List.length_map,EL.out]
  obtain ⟨e1,e2⟩:=HP.out.done (by rw [List.drop_eq_nil_of_le (by rw [hgl];exact Nat.le_refl _)];rfl) (by rw [List.drop_eq_nil_of_le (by rw [hgl];exact Nat.le_refl _)];rfl)
  have HE:=aa.mk (And.intro e1 e2)
  clear e1 e2 hgl
  go_wp2
  go_ret
  exact ⟨congrArg (fun x=>Ending.returned (Value.bool x)) HE.out.2.symm,⟨bsn,HE.out.1,HP.out.wk⟩,HP.out.low⟩
def bE (l:Lw):Array Value:=(l.map Value.bool).toArray
theorem lu {l:Lw} {j:Nat} (h:j<l.length):(bE l)[j]?=some (.bool (inW l j)):=by
 unfold bE inW
 rw [List.getElem?_toArray,List.getElem?_map,List.getD_eq_getElem?_getD,List.getElem?_eq_getElem h];rfl
theorem qi {l:Lw} {j:Nat} (b:Bool):(bE l).setIfInBounds j (.bool b)=bE (l.set j b):=by
 unfold bE
 rw [List.setIfInBounds_toArray,←List.map_set]
structure RI (w V:World) (gl gi:Nat) (l:Lw) (c i1 i2 k:Int):Prop where
 kp:Kp (fun x=>x=gl) w V
 l:V.heap[gl]?=some (.cells (bE l) 167 (0,0))
 i:V.heap[gi]?=some (.cells #[.int .u16 c,.int .u8 i1,.int .u8 i2,.int .u32 k] 45 (0,0))
 ne:gi≠gl
theorem RI.x {w V:World} {gl gi:Nat} {l:Lw} {c i1 i2 k:Int} (h:RI w V gl gi l c i1 i2 k) (j:Nat) (hj:j<l.length:=by (try simp only [List.length_set]);omega):V.cell? ⟨gl,j,none⟩=some (.bool (inW l j)):=(ae h.l j).trans (lu hj)
theorem RI.y {w V:World} {gl gi:Nat} {l:Lw} {c i1 i2 k:Int} (h:RI w V gl gi l c i1 i2 k):V.cell? ⟨gi,0,none⟩=some (.int .u16 c):=(ae h.i 0).trans rfl
theorem RI.new {w:World} {gl:Nat} {l:Lw} {c i1 i2 k:Int} (h:w.heap[gl]?=some (.cells (bE l) 167 (0,0))):∃ gi,gi=w.heap.size∧RI w (w.alloc (.cells #[.int .u16 c,.int .u8 i1,.int .u8 i2,.int .u32 k] 45)) gl gi l c i1 i2 k:=⟨_,rfl,(Kp.refl _ w).below (ai (Below.refl _ _) _),aT h _,heap_alloc_new _ _,by have:=ax h;omega⟩
theorem RI.below {w V V2:World} {gl gi:Nat} {l:Lw} {c i1 i2 k:Int} (h:RI w V gl gi l c i1 i2 k) (hb:Below V.heap.size V V2):RI w V2 gl gi l c i1 i2 k:=⟨h.kp.below hb,aj h.l hb,aj h.i hb,h.ne⟩
theorem RI.put {w V:World} {gl gi:Nat} {l:Lw} {c i1 i2 k:Int} (h:RI w V gl gi l c i1 i2 k) (j:Nat) (b:Bool):RI w (V.setCell ⟨gl,j,none⟩ (.bool b)) gl gi (l.set j b) c i1 i2 k:=
 ⟨h.kp.set (.inl rfl) _ _,aM h.l j _ (qi b),df h.i h.ne _,h.ne⟩
theorem RI.drew {w V:World} {gl gi:Nat} {l:Lw} {c i1 i2 k:Int} (h:RI w V gl gi l c i1 i2 k):RI w V.drew gl gi l c i1 i2 k:=h.below (ak (Below.refl _ _))
theorem Bv (w:World) (gl:Nat) (l:Lw) (c i1 i2:Int) (k:Int) (hL:w.heap[gl]?=some (.cells (bE l) 167 (0,0))) (hl:l.length=18) (hcl:∃ n,aG.f n c=some (aU c)) (n0:(aU c==0)=true) (a1:inW l 1=true) (h96:(c==96)=false) (h97:(c==97)=false) :
 Calls Try.prog 134 #[.pointer (some ⟨gl,0,none⟩),.agg #[.int .u16 c,.int .u8 i1,.int .u8 i2,.int .u32 k]] w fun e w'=>e = .returned (.tuple #[])∧w'.heap[gl]?=some (.cells (bE ((l).set 1 (true))) 167 (0,0))∧Kp (fun x=>x=gl) w w':=by
 obtain ⟨nc,hcl⟩:=hcl
 have HC:=aa.mk (fun W=>aG.calls nc c (aU c) W hcl)
 have HL:=aa.mk hL
 clear hL hcl
 go_enter Try.func134,Try.ntmps134
 go_upto_region 1 with (fail)
 refine forget (fun W=>∃ gi,gi=w.heap.size∧RI w W gl gi l c i1 i2 k) (RI.new HL.out) ?_
 rintro W ⟨gi,egi,hri⟩
 rw [←egi]
 have EG:=aa.mk egi
 have HR:=aa.mk hri
 have y0:=hri.y
 clear egi hri
 go_upto_region 3 with (go_at_call 99;refine (HC.out _).mono ?_;rintro e w' ⟨rfl,⟨nd,rfl⟩⟩;have HR2:=aa.mk (HR.out.below (aA (Below.refl W.heap.size W) nd)))
 refine forget (fun V=>RI w V gl gi l c i1 i2 k) HR2.out ?_
 clear HR HR2 y0
 rintro V0 hri
 have x0:=hri.x 1
 rw [a1] at x0
 have x1:=af hri.l 1
 have y0:=hri.y
 have HR:=aa.mk hri
 clear hri
 go_region
 go_upto_region 17 with (fail)
 refine forget (fun V=>RI w V gl gi ((l).set 1 (true)) c i1 i2 k) (HR.out.drew.put 1 _) ?_
 clear HR x0 x1 y0
 rintro V1 hri
 have y0:=hri.y
 have HR:=aa.mk hri
 clear hri
 go_wp2
 go_end0
 exact ⟨rfl,HR.out.l,HR.out.kp⟩
theorem vz (w:World) (gl:Nat) (l:Lw) (i1 i2:Int) (k:Int) (hL:w.heap[gl]?=some (.cells (bE l) 167 (0,0))) (hl:l.length=18) (hcl:∃ n,aG.f n 64=some (aU 64)) (n0:(aU 64==0)=true) (a1:inW l 1=false) :
 Calls Try.prog 134 #[.pointer (some ⟨gl,0,none⟩),.agg #[.int .u16 64,.int .u8 i1,.int .u8 i2,.int .u32 k]] w fun e w'=>e = .returned (.tuple #[])∧w'.heap[gl]?=some (.cells (bE ((l).set 1 (true))) 167 (0,0))∧Kp (fun x=>x=gl) w w':=by
 obtain ⟨nc,hcl⟩:=hcl
 have HC:=aa.mk (fun W=>aG.calls nc 64 (aU 64) W hcl)
 have HL:=aa.mk hL
 clear hL hcl
 go_enter Try.func134,Try.ntmps134
 go_upto_region 1 with (fail)
 refine forget (fun W=>∃ gi,gi=w.heap.size∧RI w W gl gi l 64 i1 i2 k) ⟨_,rfl,(Kp.refl _ w).below (ai (Below.refl _ _) _),aT HL.out _,heap_alloc_new _ _,by have:=ax HL.out;omega⟩ ?_
 rintro W ⟨gi,egi,hri⟩
 rw [←egi]
 have EG:=aa.mk egi
 have HR:=aa.mk hri
 have y0:=hri.y
 clear egi hri
 go_upto_region 3 with (go_at_call 99;refine (HC.out _).mono ?_;rintro e w' ⟨rfl,⟨nd,rfl⟩⟩;have HR2:=aa.mk (HR.out.below (aA (Below.refl W.heap.size W) nd)))
 refine forget (fun V=>RI w V gl gi l 64 i1 i2 k) HR2.out ?_
 clear HR HR2 y0
 rintro V0 hri
 have x0:=hri.x 1
 rw [a1] at x0
 have x1:=af hri.l 1
 have y0:=hri.y
 have HR:=aa.mk hri
 clear hri
 go_region
 go_upto_region 17 with (fail)
 refine forget (fun V=>RI w V gl gi ((l).set 1 (true)) 64 i1 i2 k) (HR.out.drew.put 1 _) ?_
 clear HR x0 x1 y0
 rintro V1 hri
 have y0:=hri.y
 have HR:=aa.mk hri
 clear hri
 go_wp2
 go_end0
 exact ⟨rfl,HR.out.l,HR.out.kp⟩
theorem vB (w:World) (gl:Nat) (l:Lw) (i1 i2:Int) (k:Int) (hL:w.heap[gl]?=some (.cells (bE l) 167 (0,0))) (hl:l.length=18) (hcl:∃ n,aG.f n 72=some (aU 72)) (n0:(aU 72==0)=true) (a1:inW l 1=false) :
 Calls Try.prog 134 #[.pointer (some ⟨gl,0,none⟩),.agg #[.int .u16 72,.int .u8 i1,.int .u8 i2,.int .u32 k]] w fun e w'=>e = .returned (.tuple #[])∧w'.heap[gl]?=some (.cells (bE ((l).set 1 (true))) 167 (0,0))∧Kp (fun x=>x=gl) w w':=by
 obtain ⟨nc,hcl⟩:=hcl
 have HC:=aa.mk (fun W=>aG.calls nc 72 (aU 72) W hcl)
 have HL:=aa.mk hL
 clear hL hcl
 go_enter Try.func134,Try.ntmps134
 go_upto_region 1 with (fail)
 refine forget (fun W=>∃ gi,gi=w.heap.size∧RI w W gl gi l 72 i1 i2 k) ⟨_,rfl,(Kp.refl _ w).below (ai (Below.refl _ _) _),aT HL.out _,heap_alloc_new _ _,by have:=ax HL.out;omega⟩ ?_
 rintro W ⟨gi,egi,hri⟩
 rw [←egi]
 have EG:=aa.mk egi
 have HR:=aa.mk hri
 have y0:=hri.y
 clear egi hri
 go_upto_region 3 with (go_at_call 99;refine (HC.out _).mono ?_;rintro e w' ⟨rfl,⟨nd,rfl⟩⟩;have HR2:=aa.mk (HR.out.below (aA (Below.refl W.heap.size W) nd)))
 refine forget (fun V=>RI w V gl gi l 72 i1 i2 k) HR2.out ?_
 clear HR HR2 y0
 rintro V0 hri
 have x0:=hri.x 1
 rw [a1] at x0
 have x1:=af hri.l 1
 have y0:=hri.y
 have HR:=aa.mk hri
 clear hri
 go_region
 go_upto_region 17 with (fail)
 refine forget (fun V=>RI w V gl gi ((l).set 1 (true)) 72 i1 i2 k) (HR.out.drew.put 1 _) ?_
 clear HR x0 x1 y0
 rintro V1 hri
 have y0:=hri.y
 have HR:=aa.mk hri
 clear hri
 go_wp2
 go_end0
 exact ⟨rfl,HR.out.l,HR.out.kp⟩
theorem vC (w:World) (gl:Nat) (l:Lw) (i1 i2:Int) (k:Int) (hL:w.heap[gl]?=some (.cells (bE l) 167 (0,0))) (hl:l.length=18) (hcl:∃ n,aG.f n 80=some (aU 80)) (n0:(aU 80==0)=true) (a1:inW l 1=false) :
 Calls Try.prog 134 #[.pointer (some ⟨gl,0,none⟩),.agg #[.int .u16 80,.int .u8 i1,.int .u8 i2,.int .u32 k]] w fun e w'=>e = .returned (.tuple #[])∧w'.heap[gl]?=some (.cells (bE ((l).set 1 (true))) 167 (0,0))∧Kp (fun x=>x=gl) w w':=by
 obtain ⟨nc,hcl⟩:=hcl
 have HC:=aa.mk (fun W=>aG.calls nc 80 (aU 80) W hcl)
 have HL:=aa.mk hL
 clear hL hcl
 go_enter Try.func134,Try.ntmps134
 go_upto_region 1 with (fail)
 refine forget (fun W=>∃ gi,gi=w.heap.size∧RI w W gl gi l 80 i1 i2 k) ⟨_,rfl,(Kp.refl _ w).below (ai (Below.refl _ _) _),aT HL.out _,heap_alloc_new _ _,by have:=ax HL.out;omega⟩ ?_
 rintro W ⟨gi,egi,hri⟩
 rw [←egi]
 have EG:=aa.mk egi
 have HR:=aa.mk hri
 have y0:=hri.y
 clear egi hri
 go_upto_region 3 with (go_at_call 99;refine (HC.out _).mono ?_;rintro e w' ⟨rfl,⟨nd,rfl⟩⟩;have HR2:=aa.mk (HR.out.below (aA (Below.refl W.heap.size W) nd)))
 refine forget (fun V=>RI w V gl gi l 80 i1 i2 k) HR2.out ?_
 clear HR HR2 y0
 rintro V0 hri
 have x0:=hri.x 1
 rw [a1] at x0
 have x1:=af hri.l 1
 have y0:=hri.y
 have HR:=aa.mk hri
 clear hri
 go_region
 go_upto_region 17 with (fail)
 refine forget (fun V=>RI w V gl gi ((l).set 1 (true)) 80 i1 i2 k) (HR.out.drew.put 1 _) ?_
 clear HR x0 x1 y0
 rintro V1 hri
 have y0:=hri.y
 have HR:=aa.mk hri
 clear hri
 go_wp2
 go_end0
 exact ⟨rfl,HR.out.l,HR.out.kp⟩
theorem Bu (w:World) (gl:Nat) (l:Lw) (c i1 i2:Int) (k:Int) (hL:w.heap[gl]?=some (.cells (bE l) 167 (0,0))) (hl:l.length=18) (hcl:∃ n,aG.f n c=some (aU c)) (n0:(aU c==0)=true) (a1:inW l 1=false) (h96:(c==96)=false) (h97:(c==97)=false) (h64:(c==64)=false) (h72:(c==72)=false) (h80:(c==80)=false) :
 Calls Try.prog 134 #[.pointer (some ⟨gl,0,none⟩),.agg #[.int .u16 c,.int .u8 i1,.int .u8 i2,.int .u32 k]] w fun e w'=>e = .returned (.tuple #[])∧w'.heap[gl]?=some (.cells (bE ((l).set 1 (false))) 167 (0,0))∧Kp (fun x=>x=gl) w w':=by
 obtain ⟨nc,hcl⟩:=hcl
 have HC:=aa.mk (fun W=>aG.calls nc c (aU c) W hcl)
 have HL:=aa.mk hL
 clear hL hcl
 go_enter Try.func134,Try.ntmps134
 go_upto_region 1 with (fail)
 refine forget (fun W=>∃ gi,gi=w.heap.size∧RI w W gl gi l c i1 i2 k) (RI.new HL.out) ?_
 rintro W ⟨gi,egi,hri⟩
 rw [←egi]
 have EG:=aa.mk egi
 have HR:=aa.mk hri
 have y0:=hri.y
 clear egi hri
 go_upto_region 3 with (go_at_call 99;refine (HC.out _).mono ?_;rintro e w' ⟨rfl,⟨nd,rfl⟩⟩;have HR2:=aa.mk (HR.out.below (aA (Below.refl W.heap.size W) nd)))
 refine forget (fun V=>RI w V gl gi l c i1 i2 k) HR2.out ?_
 clear HR HR2 y0
 rintro V0 hri
 have x0:=hri.x 1
 rw [a1] at x0
 have x1:=af hri.l 1
 have y0:=hri.y
 have HR:=aa.mk hri
 clear hri
 go_region
 go_upto_region 17 with (fail)
 refine forget (fun V=>RI w V gl gi ((l).set 1 (false)) c i1 i2 k) (HR.out.drew.put 1 _) ?_
 clear HR x0 x1 y0
 rintro V1 hri
 have y0:=hri.y
 have HR:=aa.mk hri
 clear hri
 go_wp2
 go_end0
 exact ⟨rfl,HR.out.l,HR.out.kp⟩
theorem xN (w:World) (gl:Nat) (l:Lw) (i1 i2:Int) (k:Nat) (hL:w.heap[gl]?=some (.cells (bE l) 167 (0,0))) (hl:l.length=18) (hcl:∃ n,aG.f n 96=some (aU 96)) (n0:(aU 96==0)=true) (a1:inW l 1=true) (hk:k<16) :
 Calls Try.prog 134 #[.pointer (some ⟨gl,0,none⟩),.agg #[.int .u16 96,.int .u8 i1,.int .u8 i2,.int .u32 (k:Int)]] w fun e w'=>e = .returned (.tuple #[])∧w'.heap[gl]?=some (.cells (bE (((l).set 1 (true)).set (2+k) true)) 167 (0,0))∧Kp (fun x=>x=gl) w w':=by
 obtain ⟨nc,hcl⟩:=hcl
 have HC:=aa.mk (fun W=>aG.calls nc 96 (aU 96) W hcl)
 have HL:=aa.mk hL
 clear hL hcl
 go_enter Try.func134,Try.ntmps134
 go_upto_region 1 with (fail)
 refine forget (fun W=>∃ gi,gi=w.heap.size∧RI w W gl gi l 96 i1 i2 (k:Int)) ⟨_,rfl,(Kp.refl _ w).below (ai (Below.refl _ _) _),aT HL.out _,heap_alloc_new _ _,by have:=ax HL.out;omega⟩ ?_
 rintro W ⟨gi,egi,hri⟩
 rw [←egi]
 have EG:=aa.mk egi
 have HR:=aa.mk hri
 have y0:=hri.y
 clear egi hri
 go_upto_region 3 with (go_at_call 99;refine (HC.out _).mono ?_;rintro e w' ⟨rfl,⟨nd,rfl⟩⟩;have HR2:=aa.mk (HR.out.below (aA (Below.refl W.heap.size W) nd)))
 refine forget (fun V=>RI w V gl gi l 96 i1 i2 (k:Int)) HR2.out ?_
 clear HR HR2 y0
 rintro V0 hri
 have x0:=hri.x 1
 rw [a1] at x0
 have x1:=af hri.l 1
 have y0:=hri.y
 have HR:=aa.mk hri
 clear hri
 go_region
 go_upto_region 17 with (fail)
 refine forget (fun V=>RI w V gl gi ((l).set 1 (true)) 96 i1 i2 (k:Int)) (HR.out.drew.put 1 _) ?_
 clear HR x0 x1 y0
 rintro V1 hri
 have y0:=hri.y
 have y3:=dA hri.i 3
 have x0:V1.cell? ⟨gl,2+k,none⟩=some (.bool (inW ((l).set 1 (true)) (2+k))):=(ae hri.l (2+k)).trans (lu (by (try simp only [List.length_set]);omega))
 have x1:=af hri.l (2+k)
 have HR:=aa.mk hri
 clear hri
 go_wp2
 go_region
 go_wp2
 go_end0
 exact ⟨rfl,(HR.out.drew.put (2+k) true).l,(HR.out.drew.put (2+k) true).kp⟩
theorem xM (w:World) (gl:Nat) (l:Lw) (i1 i2:Int) (k:Nat) (hL:w.heap[gl]?=some (.cells (bE l) 167 (0,0))) (hl:l.length=18) (hcl:∃ n,aG.f n 96=some (aU 96)) (n0:(aU 96==0)=true) (a1:inW l 1=false) (hk:k<16) :
 Calls Try.prog 134 #[.pointer (some ⟨gl,0,none⟩),.agg #[.int .u16 96,.int .u8 i1,.int .u8 i2,.int .u32 (k:Int)]] w fun e w'=>e = .returned (.tuple #[])∧w'.heap[gl]?=some (.cells (bE (((l).set 1 (false)).set (2+k) true)) 167 (0,0))∧Kp (fun x=>x=gl) w w':=by
 obtain ⟨nc,hcl⟩:=hcl
 have HC:=aa.mk (fun W=>aG.calls nc 96 (aU 96) W hcl)
 have HL:=aa.mk hL
 clear hL hcl
 go_enter Try.func134,Try.ntmps134
 go_upto_region 1 with (fail)
 refine forget (fun W=>∃ gi,gi=w.heap.size∧RI w W gl gi l 96 i1 i2 (k:Int)) ⟨_,rfl,(Kp.refl _ w).below (ai (Below.refl _ _) _),aT HL.out _,heap_alloc_new _ _,by have:=ax HL.out;omega⟩ ?_
 rintro W ⟨gi,egi,hri⟩
 rw [←egi]
 have EG:=aa.mk egi
 have HR:=aa.mk hri
 have y0:=hri.y
 clear egi hri
 go_upto_region 3 with (go_at_call 99;refine (HC.out _).mono ?_;rintro e w' ⟨rfl,⟨nd,rfl⟩⟩;have HR2:=aa.mk (HR.out.below (aA (Below.refl W.heap.size W) nd)))
 refine forget (fun V=>RI w V gl gi l 96 i1 i2 (k:Int)) HR2.out ?_
 clear HR HR2 y0
 rintro V0 hri
 have x0:=hri.x 1
 rw [a1] at x0
 have x1:=af hri.l 1
 have y0:=hri.y
 have HR:=aa.mk hri
 clear hri
 go_region
 go_upto_region 17 with (fail)
 refine forget (fun V=>RI w V gl gi ((l).set 1 (false)) 96 i1 i2 (k:Int)) (HR.out.drew.put 1 _) ?_
 clear HR x0 x1 y0
 rintro V1 hri
 have y0:=hri.y
 have y3:=dA hri.i 3
 have x0:V1.cell? ⟨gl,2+k,none⟩=some (.bool (inW ((l).set 1 (false)) (2+k))):=(ae hri.l (2+k)).trans (lu (by (try simp only [List.length_set]);omega))
 have x1:=af hri.l (2+k)
 have HR:=aa.mk hri
 clear hri
 go_wp2
 go_region
 go_wp2
 go_end0
 exact ⟨rfl,(HR.out.drew.put (2+k) true).l,(HR.out.drew.put (2+k) true).kp⟩
theorem reads_1 (w:World) (gl:Nat) (l:Lw) (c i1 i2:Int) (k:Int) (hL:w.heap[gl]?=some (.cells (bE l) 167 (0,0))) (hl:l.length=18) (hcl:∃ n,aG.f n c=some (aU c)) (n0:(aU c==0)=false) (n2:(aU c==2)=false) (n3:(aU c==3)=false) (n4:(aU c==4)=false) (n5:(aU c==5)=false) (n6:(aU c==6)=false) (n7:(aU c==7)=false) (h96:(c==96)=false) (h97:(c==97)=false) :
 Calls Try.prog 134 #[.pointer (some ⟨gl,0,none⟩),.agg #[.int .u16 c,.int .u8 i1,.int .u8 i2,.int .u32 k]] w fun e w'=>e = .returned (.tuple #[])∧w'.heap[gl]?=some (.cells (bE (l)) 167 (0,0))∧Kp (fun x=>x=gl) w w':=by
 obtain ⟨nc,hcl⟩:=hcl
 have HC:=aa.mk (fun W=>aG.calls nc c (aU c) W hcl)
 have HL:=aa.mk hL
 clear hL hcl
 go_enter Try.func134,Try.ntmps134
 go_upto_region 1 with (fail)
 refine forget (fun W=>∃ gi,gi=w.heap.size∧RI w W gl gi l c i1 i2 k) (RI.new HL.out) ?_
 rintro W ⟨gi,egi,hri⟩
 rw [←egi]
 have EG:=aa.mk egi
 have HR:=aa.mk hri
 have y0:=hri.y
 clear egi hri
 go_upto_region 17 with (go_at_call 99;refine (HC.out _).mono ?_;rintro e w' ⟨rfl,⟨nd,rfl⟩⟩;have HR2:=aa.mk (HR.out.below (aA (Below.refl W.heap.size W) nd)))
 refine forget (fun V=>RI w V gl gi l c i1 i2 k) HR2.out ?_
 clear HR HR2 y0
 rintro V0 hri
 have y0:=hri.y
 have HR:=aa.mk hri
 clear hri
 go_wp2
 go_end0
 exact ⟨rfl,HR.out.l,HR.out.kp⟩
theorem BF (w:World) (gl:Nat) (l:Lw) (i1 i2:Int) (k:Nat) (hL:w.heap[gl]?=some (.cells (bE l) 167 (0,0))) (hl:l.length=18) (hcl:∃ n,aG.f n 97=some (aU 97)) (n0:(aU 97==0)=false) (n2:(aU 97==2)=false) (n3:(aU 97==3)=false) (n4:(aU 97==4)=false) (n5:(aU 97==5)=false) (n6:(aU 97==6)=false) (n7:(aU 97==7)=false) (hk:k<16) :
 Calls Try.prog 134 #[.pointer (some ⟨gl,0,none⟩),.agg #[.int .u16 97,.int .u8 i1,.int .u8 i2,.int .u32 (k:Int)]] w fun e w'=>e = .returned (.tuple #[])∧w'.heap[gl]?=some (.cells (bE ((l).set (2+k) true)) 167 (0,0))∧Kp (fun x=>x=gl) w w':=by
 obtain ⟨nc,hcl⟩:=hcl
 have HC:=aa.mk (fun W=>aG.calls nc 97 (aU 97) W hcl)
 have HL:=aa.mk hL
 clear hL hcl
 go_enter Try.func134,Try.ntmps134
 go_upto_region 1 with (fail)
 refine forget (fun W=>∃ gi,gi=w.heap.size∧RI w W gl gi l 97 i1 i2 (k:Int)) ⟨_,rfl,(Kp.refl _ w).below (ai (Below.refl _ _) _),aT HL.out _,heap_alloc_new _ _,by have:=ax HL.out;omega⟩ ?_
 rintro W ⟨gi,egi,hri⟩
 rw [←egi]
 have EG:=aa.mk egi
 have HR:=aa.mk hri
 have y0:=hri.y
 clear egi hri
 go_upto_region 17 with (go_at_call 99;refine (HC.out _).mono ?_;rintro e w' ⟨rfl,⟨nd,rfl⟩⟩;have HR2:=aa.mk (HR.out.below (aA (Below.refl W.heap.size W) nd)))
 refine forget (fun V=>RI w V gl gi l 97 i1 i2 (k:Int)) HR2.out ?_
 clear HR HR2 y0
 rintro V0 hri
 have y0:=hri.y
 have y3:=dA hri.i 3
 have x0:V0.cell? ⟨gl,2+k,none⟩=some (.bool (inW (l) (2+k))):=(ae hri.l (2+k)).trans (lu (by (try simp only [List.length_set]);omega))
 have x1:=af hri.l (2+k)
 have HR:=aa.mk hri
 clear hri
 go_wp2
 go_region
 go_wp2
 go_end0
 exact ⟨rfl,(HR.out.drew.put (2+k) true).l,(HR.out.drew.put (2+k) true).kp⟩
theorem reads_2 (w:World) (gl:Nat) (l:Lw) (c i1 i2:Int) (k:Int) (hL:w.heap[gl]?=some (.cells (bE l) 167 (0,0))) (hl:l.length=18) (hcl:∃ n,aG.f n c=some (aU c)) (n0:(aU c==0)=false) (n2:(aU c==2)=true) (h96:(c==96)=false) (h97:(c==97)=false) :
 Calls Try.prog 134 #[.pointer (some ⟨gl,0,none⟩),.agg #[.int .u16 c,.int .u8 i1,.int .u8 i2,.int .u32 k]] w fun e w'=>e = .returned (.tuple #[])∧w'.heap[gl]?=some (.cells (bE ((l).set 0 (true))) 167 (0,0))∧Kp (fun x=>x=gl) w w':=by
 obtain ⟨nc,hcl⟩:=hcl
 have HC:=aa.mk (fun W=>aG.calls nc c (aU c) W hcl)
 have HL:=aa.mk hL
 clear hL hcl
 go_enter Try.func134,Try.ntmps134
 go_upto_region 1 with (fail)
 refine forget (fun W=>∃ gi,gi=w.heap.size∧RI w W gl gi l c i1 i2 k) (RI.new HL.out) ?_
 rintro W ⟨gi,egi,hri⟩
 rw [←egi]
 have EG:=aa.mk egi
 have HR:=aa.mk hri
 have y0:=hri.y
 clear egi hri
 go_upto_region 5 with (go_at_call 99;refine (HC.out _).mono ?_;rintro e w' ⟨rfl,⟨nd,rfl⟩⟩;have HR2:=aa.mk (HR.out.below (aA (Below.refl W.heap.size W) nd)))
 refine forget (fun V=>RI w V gl gi l c i1 i2 k) HR2.out ?_
 clear HR HR2 y0
 rintro V0 hri
 have x0:=hri.x 0
 have x1:=af hri.l 0
 have y0:=hri.y
 have HR:=aa.mk hri
 clear hri
 go_upto_region 17 with (fail)
 refine forget (fun V=>RI w V gl gi ((l).set 0 (true)) c i1 i2 k) (HR.out.put 0 _) ?_
 clear HR x0 x1 y0
 rintro V1 hri
 have y0:=hri.y
 have HR:=aa.mk hri
 clear hri
 go_wp2
 go_end0
 exact ⟨rfl,HR.out.l,HR.out.kp⟩
theorem reads_3 (w:World) (gl:Nat) (l:Lw) (c i1 i2:Int) (k:Int) (hL:w.heap[gl]?=some (.cells (bE l) 167 (0,0))) (hl:l.length=18) (hcl:∃ n,aG.f n c=some (aU c)) (n0:(aU c==0)=false) (n2:(aU c==2)=false) (n3:(aU c==3)=true) (h96:(c==96)=false) (h97:(c==97)=false) :
 Calls Try.prog 134 #[.pointer (some ⟨gl,0,none⟩),.agg #[.int .u16 c,.int .u8 i1,.int .u8 i2,.int .u32 k]] w fun e w'=>e = .returned (.tuple #[])∧w'.heap[gl]?=some (.cells (bE ((l).set 1 (true))) 167 (0,0))∧Kp (fun x=>x=gl) w w':=by
 obtain ⟨nc,hcl⟩:=hcl
 have HC:=aa.mk (fun W=>aG.calls nc c (aU c) W hcl)
 have HL:=aa.mk hL
 clear hL hcl
 go_enter Try.func134,Try.ntmps134
 go_upto_region 1 with (fail)
 refine forget (fun W=>∃ gi,gi=w.heap.size∧RI w W gl gi l c i1 i2 k) (RI.new HL.out) ?_
 rintro W ⟨gi,egi,hri⟩
 rw [←egi]
 have EG:=aa.mk egi
 have HR:=aa.mk hri
 have y0:=hri.y
 clear egi hri
 go_upto_region 7 with (go_at_call 99;refine (HC.out _).mono ?_;rintro e w' ⟨rfl,⟨nd,rfl⟩⟩;have HR2:=aa.mk (HR.out.below (aA (Below.refl W.heap.size W) nd)))
 refine forget (fun V=>RI w V gl gi l c i1 i2 k) HR2.out ?_
 clear HR HR2 y0
 rintro V0 hri
 have x0:=hri.x 1
 have x1:=af hri.l 1
 have y0:=hri.y
 have HR:=aa.mk hri
 clear hri
 go_upto_region 17 with (fail)
 refine forget (fun V=>RI w V gl gi ((l).set 1 (true)) c i1 i2 k) (HR.out.put 1 _) ?_
 clear HR x0 x1 y0
 rintro V1 hri
 have y0:=hri.y
 have HR:=aa.mk hri
 clear hri
 go_wp2
 go_end0
 exact ⟨rfl,HR.out.l,HR.out.kp⟩
theorem Bz (w:World) (gl:Nat) (l:Lw) (c i1 i2:Int) (k:Int) (hL:w.heap[gl]?=some (.cells (bE l) 167 (0,0))) (hl:l.length=18) (hcl:∃ n,aG.f n c=some (aU c)) (n0:(aU c==0)=false) (n2:(aU c==2)=false) (n3:(aU c==3)=false) (n4:(aU c==4)=true) (a1:inW ((l).set 0 (true)) 1=true) (h96:(c==96)=false) (h97:(c==97)=false) :
 Calls Try.prog 134 #[.pointer (some ⟨gl,0,none⟩),.agg #[.int .u16 c,.int .u8 i1,.int .u8 i2,.int .u32 k]] w fun e w'=>e = .returned (.tuple #[])∧w'.heap[gl]?=some (.cells (bE (((l).set 0 (true)).set 1 (true))) 167 (0,0))∧Kp (fun x=>x=gl) w w':=by
 obtain ⟨nc,hcl⟩:=hcl
 have HC:=aa.mk (fun W=>aG.calls nc c (aU c) W hcl)
 have HL:=aa.mk hL
 clear hL hcl
 go_enter Try.func134,Try.ntmps134
 go_upto_region 1 with (fail)
 refine forget (fun W=>∃ gi,gi=w.heap.size∧RI w W gl gi l c i1 i2 k) (RI.new HL.out) ?_
 rintro W ⟨gi,egi,hri⟩
 rw [←egi]
 have EG:=aa.mk egi
 have HR:=aa.mk hri
 have y0:=hri.y
 clear egi hri
 go_upto_region 10 with (go_at_call 99;refine (HC.out _).mono ?_;rintro e w' ⟨rfl,⟨nd,rfl⟩⟩;have HR2:=aa.mk (HR.out.below (aA (Below.refl W.heap.size W) nd)))
 refine forget (fun V=>RI w V gl gi l c i1 i2 k) HR2.out ?_
 clear HR HR2 y0
 rintro V0 hri
 have x0:=hri.x 0
 have x1:=af hri.l 0
 have y0:=hri.y
 have HR:=aa.mk hri
 clear hri
 go_upto_region 11 with (fail)
 refine forget (fun V=>RI w V gl gi ((l).set 0 (true)) c i1 i2 k) (HR.out.put 0 _) ?_
 clear HR x0 x1 y0
 rintro V1 hri
 have x0:=hri.x 1
 rw [a1] at x0
 have x1:=af hri.l 1
 have y0:=hri.y
 have HR:=aa.mk hri
 clear hri
 go_region
 go_upto_region 17 with (fail)
 refine forget (fun V=>RI w V gl gi (((l).set 0 (true)).set 1 (true)) c i1 i2 k) (HR.out.drew.put 1 _) ?_
 clear HR x0 x1 y0
 rintro V2 hri
 have y0:=hri.y
 have HR:=aa.mk hri
 clear hri
 go_wp2
 go_end0
 exact ⟨rfl,HR.out.l,HR.out.kp⟩
theorem Bw (w:World) (gl:Nat) (l:Lw) (c i1 i2:Int) (k:Int) (hL:w.heap[gl]?=some (.cells (bE l) 167 (0,0))) (hl:l.length=18) (hcl:∃ n,aG.f n c=some (aU c)) (n0:(aU c==0)=false) (n2:(aU c==2)=false) (n3:(aU c==3)=false) (n4:(aU c==4)=true) (a1:inW ((l).set 0 (true)) 1=false) (h96:(c==96)=false) (h97:(c==97)=false) :
 Calls Try.prog 134 #[.pointer (some ⟨gl,0,none⟩),.agg #[.int .u16 c,.int .u8 i1,.int .u8 i2,.int .u32 k]] w fun e w'=>e = .returned (.tuple #[])∧w'.heap[gl]?=some (.cells (bE (((l).set 0 (true)).set 1 (Go.bits .and .u16 c 8 != 0))) 167 (0,0))∧Kp (fun x=>x=gl) w w':=by
 obtain ⟨nc,hcl⟩:=hcl
 have HC:=aa.mk (fun W=>aG.calls nc c (aU c) W hcl)
 have HL:=aa.mk hL
 clear hL hcl
 go_enter Try.func134,Try.ntmps134
 go_upto_region 1 with (fail)
 refine forget (fun W=>∃ gi,gi=w.heap.size∧RI w W gl gi l c i1 i2 k) (RI.new HL.out) ?_
 rintro W ⟨gi,egi,hri⟩
 rw [←egi]
 have EG:=aa.mk egi
 have HR:=aa.mk hri
 have y0:=hri.y
 clear egi hri
 go_upto_region 10 with (go_at_call 99;refine (HC.out _).mono ?_;rintro e w' ⟨rfl,⟨nd,rfl⟩⟩;have HR2:=aa.mk (HR.out.below (aA (Below.refl W.heap.size W) nd)))
 refine forget (fun V=>RI w V gl gi l c i1 i2 k) HR2.out ?_
 clear HR HR2 y0
 rintro V0 hri
 have x0:=hri.x 0
 have x1:=af hri.l 0
 have y0:=hri.y
 have HR:=aa.mk hri
 clear hri
 go_upto_region 11 with (fail)
 refine forget (fun V=>RI w V gl gi ((l).set 0 (true)) c i1 i2 k) (HR.out.put 0 _) ?_
 clear HR x0 x1 y0
 rintro V1 hri
 have x0:=hri.x 1
 rw [a1] at x0
 have x1:=af hri.l 1
 have y0:=hri.y
 have HR:=aa.mk hri
 clear hri
 go_region
 go_upto_region 17 with (fail)
 refine forget (fun V=>RI w V gl gi (((l).set 0 (true)).set 1 (Go.bits .and .u16 c 8 != 0)) c i1 i2 k) (HR.out.drew.put 1 _) ?_
 clear HR x0 x1 y0
 rintro V2 hri
 have y0:=hri.y
 have HR:=aa.mk hri
 clear hri
 go_wp2
 go_end0
 exact ⟨rfl,HR.out.l,HR.out.kp⟩
theorem BB (w:World) (gl:Nat) (l:Lw) (c i1 i2:Int) (k:Int) (hL:w.heap[gl]?=some (.cells (bE l) 167 (0,0))) (hl:l.length=18) (hcl:∃ n,aG.f n c=some (aU c)) (n0:(aU c==0)=false) (n2:(aU c==2)=false) (n3:(aU c==3)=false) (n4:(aU c==4)=false) (n5:(aU c==5)=true) (a1:inW ((l).set 0 (true)) 1=true) (h96:(c==96)=false) (h97:(c==97)=false) :
 Calls Try.prog 134 #[.pointer (some ⟨gl,0,none⟩),.agg #[.int .u16 c,.int .u8 i1,.int .u8 i2,.int .u32 k]] w fun e w'=>e = .returned (.tuple #[])∧w'.heap[gl]?=some (.cells (bE (((l).set 0 (true)).set 1 (true))) 167 (0,0))∧Kp (fun x=>x=gl) w w':=by
 obtain ⟨nc,hcl⟩:=hcl
 have HC:=aa.mk (fun W=>aG.calls nc c (aU c) W hcl)
 have HL:=aa.mk hL
 clear hL hcl
 go_enter Try.func134,Try.ntmps134
 go_upto_region 1 with (fail)
 refine forget (fun W=>∃ gi,gi=w.heap.size∧RI w W gl gi l c i1 i2 k) (RI.new HL.out) ?_
 rintro W ⟨gi,egi,hri⟩
 rw [←egi]
 have EG:=aa.mk egi
 have HR:=aa.mk hri
 have y0:=hri.y
 clear egi hri
 go_upto_region 10 with (go_at_call 99;refine (HC.out _).mono ?_;rintro e w' ⟨rfl,⟨nd,rfl⟩⟩;have HR2:=aa.mk (HR.out.below (aA (Below.refl W.heap.size W) nd)))
 refine forget (fun V=>RI w V gl gi l c i1 i2 k) HR2.out ?_
 clear HR HR2 y0
 rintro V0 hri
 have x0:=hri.x 0
 have x1:=af hri.l 0
 have y0:=hri.y
 have HR:=aa.mk hri
 clear hri
 go_upto_region 11 with (fail)
 refine forget (fun V=>RI w V gl gi ((l).set 0 (true)) c i1 i2 k) (HR.out.put 0 _) ?_
 clear HR x0 x1 y0
 rintro V1 hri
 have x0:=hri.x 1
 rw [a1] at x0
 have x1:=af hri.l 1
 have y0:=hri.y
 have HR:=aa.mk hri
 clear hri
 go_region
 go_upto_region 17 with (fail)
 refine forget (fun V=>RI w V gl gi (((l).set 0 (true)).set 1 (true)) c i1 i2 k) (HR.out.drew.put 1 _) ?_
 clear HR x0 x1 y0
 rintro V2 hri
 have y0:=hri.y
 have HR:=aa.mk hri
 clear hri
 go_wp2
 go_end0
 exact ⟨rfl,HR.out.l,HR.out.kp⟩
theorem BA (w:World) (gl:Nat) (l:Lw) (c i1 i2:Int) (k:Int) (hL:w.heap[gl]?=some (.cells (bE l) 167 (0,0))) (hl:l.length=18) (hcl:∃ n,aG.f n c=some (aU c)) (n0:(aU c==0)=false) (n2:(aU c==2)=false) (n3:(aU c==3)=false) (n4:(aU c==4)=false) (n5:(aU c==5)=true) (a1:inW ((l).set 0 (true)) 1=false) (h96:(c==96)=false) (h97:(c==97)=false) :
 Calls Try.prog 134 #[.pointer (some ⟨gl,0,none⟩),.agg #[.int .u16 c,.int .u8 i1,.int .u8 i2,.int .u32 k]] w fun e w'=>e = .returned (.tuple #[])∧w'.heap[gl]?=some (.cells (bE (((l).set 0 (true)).set 1 (Go.bits .and .u16 c 8 != 0))) 167 (0,0))∧Kp (fun x=>x=gl) w w':=by
 obtain ⟨nc,hcl⟩:=hcl
 have HC:=aa.mk (fun W=>aG.calls nc c (aU c) W hcl)
 have HL:=aa.mk hL
 clear hL hcl
 go_enter Try.func134,Try.ntmps134
 go_upto_region 1 with (fail)
 refine forget (fun W=>∃ gi,gi=w.heap.size∧RI w W gl gi l c i1 i2 k) (RI.new HL.out) ?_
 rintro W ⟨gi,egi,hri⟩
 rw [←egi]
 have EG:=aa.mk egi
 have HR:=aa.mk hri
 have y0:=hri.y
 clear egi hri
 go_upto_region 10 with (go_at_call 99;refine (HC.out _).mono ?_;rintro e w' ⟨rfl,⟨nd,rfl⟩⟩;have HR2:=aa.mk (HR.out.below (aA (Below.refl W.heap.size W) nd)))
 refine forget (fun V=>RI w V gl gi l c i1 i2 k) HR2.out ?_
 clear HR HR2 y0
 rintro V0 hri
 have x0:=hri.x 0
 have x1:=af hri.l 0
 have y0:=hri.y
 have HR:=aa.mk hri
 clear hri
 go_upto_region 11 with (fail)
 refine forget (fun V=>RI w V gl gi ((l).set 0 (true)) c i1 i2 k) (HR.out.put 0 _) ?_
 clear HR x0 x1 y0
 rintro V1 hri
 have x0:=hri.x 1
 rw [a1] at x0
 have x1:=af hri.l 1
 have y0:=hri.y
 have HR:=aa.mk hri
 clear hri
 go_region
 go_upto_region 17 with (fail)
 refine forget (fun V=>RI w V gl gi (((l).set 0 (true)).set 1 (Go.bits .and .u16 c 8 != 0)) c i1 i2 k) (HR.out.drew.put 1 _) ?_
 clear HR x0 x1 y0
 rintro V2 hri
 have y0:=hri.y
 have HR:=aa.mk hri
 clear hri
 go_wp2
 go_end0
 exact ⟨rfl,HR.out.l,HR.out.kp⟩
theorem BD (w:World) (gl:Nat) (l:Lw) (c i1 i2:Int) (k:Int) (hL:w.heap[gl]?=some (.cells (bE l) 167 (0,0))) (hl:l.length=18) (hcl:∃ n,aG.f n c=some (aU c)) (n0:(aU c==0)=false) (n2:(aU c==2)=false) (n3:(aU c==3)=false) (n4:(aU c==4)=false) (n5:(aU c==5)=false) (n6:(aU c==6)=true) (a0:inW l 0=true) (h96:(c==96)=false) (h97:(c==97)=false) :
 Calls Try.prog 134 #[.pointer (some ⟨gl,0,none⟩),.agg #[.int .u16 c,.int .u8 i1,.int .u8 i2,.int .u32 k]] w fun e w'=>e = .returned (.tuple #[])∧w'.heap[gl]?=some (.cells (bE ((l).set 0 (true))) 167 (0,0))∧Kp (fun x=>x=gl) w w':=by
 obtain ⟨nc,hcl⟩:=hcl
 have HC:=aa.mk (fun W=>aG.calls nc c (aU c) W hcl)
 have HL:=aa.mk hL
 clear hL hcl
 go_enter Try.func134,Try.ntmps134
 go_upto_region 1 with (fail)
 refine forget (fun W=>∃ gi,gi=w.heap.size∧RI w W gl gi l c i1 i2 k) (RI.new HL.out) ?_
 rintro W ⟨gi,egi,hri⟩
 rw [←egi]
 have EG:=aa.mk egi
 have HR:=aa.mk hri
 have y0:=hri.y
 clear egi hri
 go_upto_region 13 with (go_at_call 99;refine (HC.out _).mono ?_;rintro e w' ⟨rfl,⟨nd,rfl⟩⟩;have HR2:=aa.mk (HR.out.below (aA (Below.refl W.heap.size W) nd)))
 refine forget (fun V=>RI w V gl gi l c i1 i2 k) HR2.out ?_
 clear HR HR2 y0
 rintro V0 hri
 have x0:=hri.x 0
 rw [a0] at x0
 have x1:=af hri.l 0
 have y0:=hri.y
 have HR:=aa.mk hri
 clear hri
 go_region
 go_upto_region 17 with (fail)
 refine forget (fun V=>RI w V gl gi ((l).set 0 (true)) c i1 i2 k) (HR.out.drew.put 0 _) ?_
 clear HR x0 x1 y0
 rintro V1 hri
 have y0:=hri.y
 have HR:=aa.mk hri
 clear hri
 go_wp2
 go_end0
 exact ⟨rfl,HR.out.l,HR.out.kp⟩
theorem BC (w:World) (gl:Nat) (l:Lw) (c i1 i2:Int) (k:Int) (hL:w.heap[gl]?=some (.cells (bE l) 167 (0,0))) (hl:l.length=18) (hcl:∃ n,aG.f n c=some (aU c)) (n0:(aU c==0)=false) (n2:(aU c==2)=false) (n3:(aU c==3)=false) (n4:(aU c==4)=false) (n5:(aU c==5)=false) (n6:(aU c==6)=true) (a0:inW l 0=false) (h96:(c==96)=false) (h97:(c==97)=false) :
 Calls Try.prog 134 #[.pointer (some ⟨gl,0,none⟩),.agg #[.int .u16 c,.int .u8 i1,.int .u8 i2,.int .u32 k]] w fun e w'=>e = .returned (.tuple #[])∧w'.heap[gl]?=some (.cells (bE ((l).set 0 (c==22))) 167 (0,0))∧Kp (fun x=>x=gl) w w':=by
 obtain ⟨nc,hcl⟩:=hcl
 have HC:=aa.mk (fun W=>aG.calls nc c (aU c) W hcl)
 have HL:=aa.mk hL
 clear hL hcl
 go_enter Try.func134,Try.ntmps134
 go_upto_region 1 with (fail)
 refine forget (fun W=>∃ gi,gi=w.heap.size∧RI w W gl gi l c i1 i2 k) (RI.new HL.out) ?_
 rintro W ⟨gi,egi,hri⟩
 rw [←egi]
 have EG:=aa.mk egi
 have HR:=aa.mk hri
 have y0:=hri.y
 clear egi hri
 go_upto_region 13 with (go_at_call 99;refine (HC.out _).mono ?_;rintro e w' ⟨rfl,⟨nd,rfl⟩⟩;have HR2:=aa.mk (HR.out.below (aA (Below.refl W.heap.size W) nd)))
 refine forget (fun V=>RI w V gl gi l c i1 i2 k) HR2.out ?_
 clear HR HR2 y0
 rintro V0 hri
 have x0:=hri.x 0
 rw [a0] at x0
 have x1:=af hri.l 0
 have y0:=hri.y
 have HR:=aa.mk hri
 clear hri
 go_region
 go_upto_region 17 with (fail)
 refine forget (fun V=>RI w V gl gi ((l).set 0 (c==22)) c i1 i2 k) (HR.out.drew.put 0 _) ?_
 clear HR x0 x1 y0
 rintro V1 hri
 have y0:=hri.y
 have HR:=aa.mk hri
 clear hri
 go_wp2
 go_end0
 exact ⟨rfl,HR.out.l,HR.out.kp⟩
theorem xL (w:World) (gl:Nat) (l:Lw) (c i1 i2:Int) (k:Int) (hL:w.heap[gl]?=some (.cells (bE l) 167 (0,0))) (hl:l.length=18) (hcl:∃ n,aG.f n c=some (aU c)) (n0:(aU c==0)=false) (n2:(aU c==2)=false) (n3:(aU c==3)=false) (n4:(aU c==4)=false) (n5:(aU c==5)=false) (n6:(aU c==6)=false) (n7:(aU c==7)=true) (a0:inW l 0=true) (a1:inW ((l).set 0 (true)) 1=true) (h96:(c==96)=false) (h97:(c==97)=false) :
 Calls Try.prog 134 #[.pointer (some ⟨gl,0,none⟩),.agg #[.int .u16 c,.int .u8 i1,.int .u8 i2,.int .u32 k]] w fun e w'=>e = .returned (.tuple #[])∧w'.heap[gl]?=some (.cells (bE (((l).set 0 (true)).set 1 (true))) 167 (0,0))∧Kp (fun x=>x=gl) w w':=by
 obtain ⟨nc,hcl⟩:=hcl
 have HC:=aa.mk (fun W=>aG.calls nc c (aU c) W hcl)
 have HL:=aa.mk hL
 clear hL hcl
 go_enter Try.func134,Try.ntmps134
 go_upto_region 1 with (fail)
 refine forget (fun W=>∃ gi,gi=w.heap.size∧RI w W gl gi l c i1 i2 k) (RI.new HL.out) ?_
 rintro W ⟨gi,egi,hri⟩
 rw [←egi]
 have EG:=aa.mk egi
 have HR:=aa.mk hri
 have y0:=hri.y
 clear egi hri
 go_upto_region 15 with (go_at_call 99;refine (HC.out _).mono ?_;rintro e w' ⟨rfl,⟨nd,rfl⟩⟩;have HR2:=aa.mk (HR.out.below (aA (Below.refl W.heap.size W) nd)))
 refine forget (fun V=>RI w V gl gi l c i1 i2 k) HR2.out ?_
 clear HR HR2 y0
 rintro V0 hri
 have x0:=hri.x 0
 rw [a0] at x0
 have x1:=af hri.l 0
 have y0:=hri.y
 have HR:=aa.mk hri
 clear hri
 go_region
 go_upto_region 16 with (fail)
 refine forget (fun V=>RI w V gl gi ((l).set 0 (true)) c i1 i2 k) (HR.out.drew.put 0 _) ?_
 clear HR x0 x1 y0
 rintro V1 hri
 have x0:=hri.x 1
 rw [a1] at x0
 have x1:=af hri.l 1
 have y0:=hri.y
 have HR:=aa.mk hri
 clear hri
 go_region
 go_upto_region 17 with (fail)
 refine forget (fun V=>RI w V gl gi (((l).set 0 (true)).set 1 (true)) c i1 i2 k) (HR.out.drew.put 1 _) ?_
 clear HR x0 x1 y0
 rintro V2 hri
 have y0:=hri.y
 have HR:=aa.mk hri
 clear hri
 go_wp2
 go_end0
 exact ⟨rfl,HR.out.l,HR.out.kp⟩
theorem xK (w:World) (gl:Nat) (l:Lw) (c i1 i2:Int) (k:Int) (hL:w.heap[gl]?=some (.cells (bE l) 167 (0,0))) (hl:l.length=18) (hcl:∃ n,aG.f n c=some (aU c)) (n0:(aU c==0)=false) (n2:(aU c==2)=false) (n3:(aU c==3)=false) (n4:(aU c==4)=false) (n5:(aU c==5)=false) (n6:(aU c==6)=false) (n7:(aU c==7)=true) (a0:inW l 0=true) (a1:inW ((l).set 0 (true)) 1=false) (h96:(c==96)=false) (h97:(c==97)=false) :
 Calls Try.prog 134 #[.pointer (some ⟨gl,0,none⟩),.agg #[.int .u16 c,.int .u8 i1,.int .u8 i2,.int .u32 k]] w fun e w'=>e = .returned (.tuple #[])∧w'.heap[gl]?=some (.cells (bE (((l).set 0 (true)).set 1 (c==135))) 167 (0,0))∧Kp (fun x=>x=gl) w w':=by
 obtain ⟨nc,hcl⟩:=hcl
 have HC:=aa.mk (fun W=>aG.calls nc c (aU c) W hcl)
 have HL:=aa.mk hL
 clear hL hcl
 go_enter Try.func134,Try.ntmps134
 go_upto_region 1 with (fail)
 refine forget (fun W=>∃ gi,gi=w.heap.size∧RI w W gl gi l c i1 i2 k) (RI.new HL.out) ?_
 rintro W ⟨gi,egi,hri⟩
 rw [←egi]
 have EG:=aa.mk egi
 have HR:=aa.mk hri
 have y0:=hri.y
 clear egi hri
 go_upto_region 15 with (go_at_call 99;refine (HC.out _).mono ?_;rintro e w' ⟨rfl,⟨nd,rfl⟩⟩;have HR2:=aa.mk (HR.out.below (aA (Below.refl W.heap.size W) nd)))
 refine forget (fun V=>RI w V gl gi l c i1 i2 k) HR2.out ?_
 clear HR HR2 y0
 rintro V0 hri
 have x0:=hri.x 0
 rw [a0] at x0
 have x1:=af hri.l 0
 have y0:=hri.y
 have HR:=aa.mk hri
 clear hri
 go_region
 go_upto_region 16 with (fail)
 refine forget (fun V=>RI w V gl gi ((l).set 0 (true)) c i1 i2 k) (HR.out.drew.put 0 _) ?_
 clear HR x0 x1 y0
 rintro V1 hri
 have x0:=hri.x 1
 rw [a1] at x0
 have x1:=af hri.l 1
 have y0:=hri.y
 have HR:=aa.mk hri
 clear hri
 go_region
 go_upto_region 17 with (fail)
 refine forget (fun V=>RI w V gl gi (((l).set 0 (true)).set 1 (c==135)) c i1 i2 k) (HR.out.drew.put 1 _) ?_
 clear HR x0 x1 y0
 rintro V2 hri
 have y0:=hri.y
 have HR:=aa.mk hri
 clear hri
 go_wp2
 go_end0
 exact ⟨rfl,HR.out.l,HR.out.kp⟩
theorem xJ (w:World) (gl:Nat) (l:Lw) (c i1 i2:Int) (k:Int) (hL:w.heap[gl]?=some (.cells (bE l) 167 (0,0))) (hl:l.length=18) (hcl:∃ n,aG.f n c=some (aU c)) (n0:(aU c==0)=false) (n2:(aU c==2)=false) (n3:(aU c==3)=false) (n4:(aU c==4)=false) (n5:(aU c==5)=false) (n6:(aU c==6)=false) (n7:(aU c==7)=true) (a0:inW l 0=false) (a1:inW ((l).set 0 (c==7)) 1=true) (h96:(c==96)=false) (h97:(c==97)=false) :
 Calls Try.prog 134 #[.pointer (some ⟨gl,0,none⟩),.agg #[.int .u16 c,.int .u8 i1,.int .u8 i2,.int .u32 k]] w fun e w'=>e = .returned (.tuple #[])∧w'.heap[gl]?=some (.cells (bE (((l).set 0 (c==7)).set 1 (true))) 167 (0,0))∧Kp (fun x=>x=gl) w w':=by
 obtain ⟨nc,hcl⟩:=hcl
 have HC:=aa.mk (fun W=>aG.calls nc c (aU c) W hcl)
 have HL:=aa.mk hL
 clear hL hcl
 go_enter Try.func134,Try.ntmps134
 go_upto_region 1 with (fail)
 refine forget (fun W=>∃ gi,gi=w.heap.size∧RI w W gl gi l c i1 i2 k) (RI.new HL.out) ?_
 rintro W ⟨gi,egi,hri⟩
 rw [←egi]
 have EG:=aa.mk egi
 have HR:=aa.mk hri
 have y0:=hri.y
 clear egi hri
 go_upto_region 15 with (go_at_call 99;refine (HC.out _).mono ?_;rintro e w' ⟨rfl,⟨nd,rfl⟩⟩;have HR2:=aa.mk (HR.out.below (aA (Below.refl W.heap.size W) nd)))
 refine forget (fun V=>RI w V gl gi l c i1 i2 k) HR2.out ?_
 clear HR HR2 y0
 rintro V0 hri
 have x0:=hri.x 0
 rw [a0] at x0
 have x1:=af hri.l 0
 have y0:=hri.y
 have HR:=aa.mk hri
 clear hri
 go_region
 go_upto_region 16 with (fail)
 refine forget (fun V=>RI w V gl gi ((l).set 0 (c==7)) c i1 i2 k) (HR.out.drew.put 0 _) ?_
 clear HR x0 x1 y0
 rintro V1 hri
 have x0:=hri.x 1
 rw [a1] at x0
 have x1:=af hri.l 1
 have y0:=hri.y
 have HR:=aa.mk hri
 clear hri
 go_region
 go_upto_region 17 with (fail)
 refine forget (fun V=>RI w V gl gi (((l).set 0 (c==7)).set 1 (true)) c i1 i2 k) (HR.out.drew.put 1 _) ?_
 clear HR x0 x1 y0
 rintro V2 hri
 have y0:=hri.y
 have HR:=aa.mk hri
 clear hri
 go_wp2
 go_end0
 exact ⟨rfl,HR.out.l,HR.out.kp⟩
theorem xI (w:World) (gl:Nat) (l:Lw) (c i1 i2:Int) (k:Int) (hL:w.heap[gl]?=some (.cells (bE l) 167 (0,0))) (hl:l.length=18) (hcl:∃ n,aG.f n c=some (aU c)) (n0:(aU c==0)=false) (n2:(aU c==2)=false) (n3:(aU c==3)=false) (n4:(aU c==4)=false) (n5:(aU c==5)=false) (n6:(aU c==6)=false) (n7:(aU c==7)=true) (a0:inW l 0=false) (a1:inW ((l).set 0 (c==7)) 1=false) (h96:(c==96)=false) (h97:(c==97)=false) :
 Calls Try.prog 134 #[.pointer (some ⟨gl,0,none⟩),.agg #[.int .u16 c,.int .u8 i1,.int .u8 i2,.int .u32 k]] w fun e w'=>e = .returned (.tuple #[])∧w'.heap[gl]?=some (.cells (bE (((l).set 0 (c==7)).set 1 (c==135))) 167 (0,0))∧Kp (fun x=>x=gl) w w':=by
 obtain ⟨nc,hcl⟩:=hcl
 have HC:=aa.mk (fun W=>aG.calls nc c (aU c) W hcl)
 have HL:=aa.mk hL
 clear hL hcl
 go_enter Try.func134,Try.ntmps134
 go_upto_region 1 with (fail)
 refine forget (fun W=>∃ gi,gi=w.heap.size∧RI w W gl gi l c i1 i2 k) (RI.new HL.out) ?_
 rintro W ⟨gi,egi,hri⟩
 rw [←egi]
 have EG:=aa.mk egi
 have HR:=aa.mk hri
 have y0:=hri.y
 clear egi hri
 go_upto_region 15 with (go_at_call 99;refine (HC.out _).mono ?_;rintro e w' ⟨rfl,⟨nd,rfl⟩⟩;have HR2:=aa.mk (HR.out.below (aA (Below.refl W.heap.size W) nd)))
 refine forget (fun V=>RI w V gl gi l c i1 i2 k) HR2.out ?_
 clear HR HR2 y0
 rintro V0 hri
 have x0:=hri.x 0
 rw [a0] at x0
 have x1:=af hri.l 0
 have y0:=hri.y
 have HR:=aa.mk hri
 clear hri
 go_region
 go_upto_region 16 with (fail)
 refine forget (fun V=>RI w V gl gi ((l).set 0 (c==7)) c i1 i2 k) (HR.out.drew.put 0 _) ?_
 clear HR x0 x1 y0
 rintro V1 hri
 have x0:=hri.x 1
 rw [a1] at x0
 have x1:=af hri.l 1
 have y0:=hri.y
 have HR:=aa.mk hri
 clear hri
 go_region
 go_upto_region 17 with (fail)
 refine forget (fun V=>RI w V gl gi (((l).set 0 (c==7)).set 1 (c==135)) c i1 i2 k) (HR.out.drew.put 1 _) ?_
 clear HR x0 x1 y0
 rintro V2 hri
 have y0:=hri.y
 have HR:=aa.mk hri
 clear hri
 go_wp2
 go_end0
 exact ⟨rfl,HR.out.l,HR.out.kp⟩
def p0B (c:Int):Bool:=decide (c=2∨c=132∨c∈eQ∨c∈gH∨c=7∨jmB c=true∨c=22)
def p1B (c:Int):Bool:=decide (c=64∨c=72∨c=80∨c=3∨c∈gH∨c=135∨c∈tX)
def p2B (c:Int):Bool:=decide (c=96∨c=97)
theorem rdB_p (i:S45) (j:Nat):rdB i j=((decide (j=0)&&p0B i.f0)||(decide (j=1)&&p1B i.f0)||(decide (j=2+i.f3.toNat)&&p2B i.f0)):=rfl
theorem iE {l:Lw} {a:Nat} {b:Bool} (h:a<l.length) (j:Nat):inW (l.set a b) j=if a=j then b else inW l j:=dL h
theorem jT {l l':Lw} {i:S45} (hl:l'.length=18) (h0:inW l' 0=(inW l 0||p0B i.f0)) (h1:inW l' 1=(inW l 1||p1B i.f0)) (h2:∀ j,2≤j→inW l' j=(inW l j||(decide (j=2+i.f3.toNat)&&p2B i.f0))):l'=rdF l i:=by
 have hr:(rdF l i).length=18:=by unfold rdF;rw [List.length_map,List.length_range]
 apply List.ext_getElem
 · rw [hl,hr]
 intro j a b
 have e1:l'[j]=inW l' j:=by unfold inW;rw [List.getD_eq_getElem?_getD,List.getElem?_eq_getElem a];rfl
 have e2:(rdF l i)[j]=(inW l j||rdB i j):=by
  have e3:(rdF l i)[j]=inW (rdF l i) j:=by unfold inW;rw [List.getD_eq_getElem?_getD,List.getElem?_eq_getElem b];rfl
  rw [e3]
  unfold rdF
  rw [iw,decide_eq_true (show j<18 by omega),Bool.true_and]
 rw [e1,e2,rdB_p]
 match j with
 | 0=>rw [h0];rw [show decide (0=2+i.f3.toNat)=false by rw [decide_eq_false];omega];simp
 | 1=>rw [h1];rw [show decide (1=2+i.f3.toNat)=false by rw [decide_eq_false];omega];simp
 | j+2=>rw [h2 (j+2) (by omega)];simp
theorem rd_ta:∀ c∈stL,(aU c=0→p0B c=false∧p1B c=(c==64||c==72||c==80)∧p2B c=(c==96)∧(c==97)=false)∧(aU c=1→p0B c=false∧p1B c=false∧p2B c=(c==97)∧(c==96)=false):=by decide +kernel
theorem rd_tb:∀ c∈stL,(aU c=2→p0B c=true∧p1B c=false∧p2B c=false∧(c==96)=false∧(c==97)=false)∧(aU c=3→p0B c=false∧p1B c=true∧p2B c=false∧(c==96)=false∧(c==97)=false):=by decide +kernel
theorem rd_tc:∀ c∈stL,(aU c=4→p0B c=true∧p1B c=(Go.bits .and .u16 c 8 != 0)∧p2B c=false∧(c==96)=false∧(c==97)=false):=by decide +kernel
theorem rd_td:∀ c∈stL,(aU c=7→p0B c=(c==7)∧p1B c=(c==135)∧p2B c=false∧(c==96)=false∧(c==97)=false)∧(aU c=0∨aU c=1∨aU c=2∨aU c=3∨aU c=4∨aU c=7):=by decide +kernel
theorem rd_tabj:∀ c∈([21,29,37,45,53,61,69,77]:List Int),aU c=5∧p0B c=true∧p1B c=(Go.bits .and .u16 c 8 != 0)∧p2B c=false∧(c==96)=false∧(c==97)=false:=by decide +kernel
theorem rd_tabr:∀ c∈([6,22]:List Int),aU c=6∧p0B c=(c==22)∧p1B c=false∧p2B c=false∧(c==96)=false∧(c==97)=false:=by decide +kernel
theorem eU {w w':World} {gl:Nat} {e:Ending} {l l1 l2:Lw} (h:l1=l2) (q:e = .returned (.tuple #[])∧w'.heap[gl]?=some (.cells (bE l1) 167 (0,0))∧Kp (fun x=>x=gl) w w') :
 e = .returned (.tuple #[])∧w'.heap[gl]?=some (.cells (bE l2) 167 (0,0))∧Kp (fun x=>x=gl) w w':=h ▸ q
theorem kr (w:World) (gl:Nat) (l:Lw) (i:S45) (hL:w.heap[gl]?=some (.cells (bE l) 167 (0,0))) (hl:l.length=18) (hk:Rg i.f3) (hc:stB i.f0 i.f3=true∨jmB i.f0=true∨reB i.f0=true) :
 Calls Try.prog 134 #[.pointer (some ⟨gl,0,none⟩),fD i] w fun e w'=>e = .returned (.tuple #[])∧w'.heap[gl]?=some (.cells (bE (rdF l i)) 167 (0,0))∧Kp (fun x=>x=gl) w w':=by
 have hcl:∃ n,aG.f n i.f0=some (aU i.f0):=⟨0+8,(gu i.f0 0).1⟩
 obtain ⟨c,i1,i2,k⟩:=i
 dsimp only at hk hc hcl
 have hk0:=hk.1
 have E0:∀ (b:Bool) (j:Nat),inW (l.set 0 b) j=if 0=j then b else inW l j:=fun b j=>iE (by omega) j
 have E1:∀ (b:Bool) (j:Nat),inW (l.set 1 b) j=if 1=j then b else inW l j:=fun b j=>iE (by omega) j
 have E01:∀ (a b:Bool) (j:Nat),inW ((l.set 0 a).set 1 b) j=if 1=j then b else if 0=j then a else inW l j:=fun a b j=>by rw [iE (by rw [List.length_set];omega),E0]
 have L1:∀ (a:Nat) (b:Bool),(l.set a b).length=18:=fun a b=>by rw [List.length_set];exact hl
 have L2:∀ (a:Nat) (b:Bool) (a':Nat) (b':Bool),((l.set a b).set a' b').length=18:=fun a b a' b'=>by rw [List.length_set,List.length_set];exact hl
 have N2:∀ (j:Nat),2≤j→(1=j)=False∧(0=j)=False:=fun j h=>⟨by simp;omega,by simp;omega⟩
 rcases hc with hc | hc | hc
 · obtain ⟨hm,h16,_⟩:=gQ hc
   obtain ⟨t0,t1⟩:=rd_ta c hm
   obtain ⟨t2,t3⟩:=rd_tb c hm
   have t4:=rd_tc c hm
   obtain ⟨t7,tt⟩:=rd_td c hm
   rcases tt with h | h | h | h | h | h
   · obtain ⟨a,b,d,e⟩:=t0 h
     have n0:(aU c==0)=true:=iH h
     cases v:inW l 1 with
     | true=>
      by_cases q:c=96
      · subst q
        have hk6:=h16 (by omega)
        obtain ⟨n,rfl⟩:∃ n:Nat,k=(n:Int):=⟨k.toNat,by omega⟩
        refine (xN w gl l i1 i2 n hL hl hcl n0 v (by omega)).mono fun e w'=>eU (l:=l) (jT (L2 _ _ _ _) ?_ ?_ ?_)
        · rw [iE (a:=2+n) (by rw [L1];omega),if_neg (by omega),E1,if_neg (by omega),a,Bool.or_false]
        · rw [iE (a:=2+n) (by rw [L1];omega),if_neg (by omega),E1,if_pos rfl,v];rfl
        intro j hj
        rw [iE (a:=2+n) (by rw [L1];omega),d];simp only [Int.toNat_natCast]
        by_cases q:2+n=j
        · rw [if_pos q,decide_eq_true q.symm];simp
        rw [if_neg q,decide_eq_false (fun h=>q h.symm),E1,if_neg (by omega)];simp
      refine (Bv w gl l c i1 i2 k hL hl hcl n0 v (bn q) e).mono fun e w'=>eU (l:=l) (jT (L1 _ _) ?_ ?_ ?_)
      · rw [E1,if_neg (by omega),a,Bool.or_false]
      · rw [E1,if_pos rfl,v];rfl
      intro j hj;rw [E1,if_neg (by omega),d,bn q];simp
     | false=>
      by_cases q:c=96
      · subst q
        have hk6:=h16 (by omega)
        obtain ⟨n,rfl⟩:∃ n:Nat,k=(n:Int):=⟨k.toNat,by omega⟩
        refine (xM w gl l i1 i2 n hL hl hcl n0 v (by omega)).mono fun e w'=>eU (l:=l) (jT (L2 _ _ _ _) ?_ ?_ ?_)
        · rw [iE (a:=2+n) (by rw [L1];omega),if_neg (by omega),E1,if_neg (by omega),a,Bool.or_false]
        · rw [iE (a:=2+n) (by rw [L1];omega),if_neg (by omega),E1,if_pos rfl,v,b];rfl
        intro j hj
        rw [iE (a:=2+n) (by rw [L1];omega),d];simp only [Int.toNat_natCast]
        by_cases q:2+n=j
        · rw [if_pos q,decide_eq_true q.symm];simp
        rw [if_neg q,decide_eq_false (fun h=>q h.symm),E1,if_neg (by omega)];simp
      have F:∀ (r:Bool),p1B c=r→l.set 1 r=rdF l ⟨c,i1,i2,k⟩:=fun r hr=>jT (L1 _ _) (by rw [E1,if_neg (by omega),a,Bool.or_false]) (by rw [E1,if_pos rfl,v,hr];rfl) (by intro j hj;rw [E1,if_neg (by omega),d,bn q];simp)
      by_cases q1:c=64
      · subst q1;exact (vz w gl l i1 i2 k hL hl hcl n0 v).mono fun e w'=>eU (l:=l) (F _ (by rw [b];rfl))
      by_cases q2:c=72
      · subst q2;exact (vB w gl l i1 i2 k hL hl hcl n0 v).mono fun e w'=>eU (l:=l) (F _ (by rw [b];rfl))
      by_cases q3:c=80
      · subst q3;exact (vC w gl l i1 i2 k hL hl hcl n0 v).mono fun e w'=>eU (l:=l) (F _ (by rw [b];rfl))
      exact (Bu w gl l c i1 i2 k hL hl hcl n0 v (bn q) e (bn q1) (bn q2) (bn q3)).mono fun e w'=>eU (l:=l) (F _ (by rw [b,bn q1,bn q2,bn q3];rfl))
   · obtain ⟨a,b,d,e⟩:=t1 h
     have n:=fun x (hx:(1:Int)≠x)=>show (aU c==x)=false from bn (by rw [h];exact hx)
     by_cases q:c=97
     · subst q
       have hk6:=h16 (by omega)
       obtain ⟨m,rfl⟩:∃ n:Nat,k=(n:Int):=⟨k.toNat,by omega⟩
       refine (BF w gl l i1 i2 m hL hl hcl (n _ (by decide)) (n _ (by decide)) (n _ (by decide)) (n _ (by decide)) (n _ (by decide)) (n _ (by decide)) (n _ (by decide)) (by omega)).mono fun e w'=>eU (l:=l) (jT (L1 _ _) ?_ ?_ ?_)
       · rw [iE (by omega),if_neg (by omega),a,Bool.or_false]
       · rw [iE (by omega),if_neg (by omega),b,Bool.or_false]
       intro j hj;rw [iE (by omega),d];simp only [Int.toNat_natCast]
       by_cases q:2+m=j
       · rw [if_pos q,decide_eq_true q.symm];simp
       rw [if_neg q,decide_eq_false (fun h=>q h.symm)];simp
     refine (reads_1 w gl l c i1 i2 k hL hl hcl (n _ (by decide)) (n _ (by decide)) (n _ (by decide)) (n _ (by decide)) (n _ (by decide)) (n _ (by decide)) (n _ (by decide)) e (bn q)).mono fun e w'=>eU (l:=l) (jT hl ?_ ?_ ?_)
     · rw [a,Bool.or_false]
     · rw [b,Bool.or_false]
     intro j hj;rw [d,bn q];simp
   · obtain ⟨a,b,d,e,f⟩:=t2 h
     refine (reads_2 w gl l c i1 i2 k hL hl hcl (bn (by omega)) (iH h) e f).mono fun e w'=>eU (l:=l) (jT (L1 _ _) ?_ ?_ ?_)
     · rw [E0,if_pos rfl,a,Bool.or_true]
     · rw [E0,if_neg (by omega),b,Bool.or_false]
     intro j hj;rw [E0,if_neg (by omega),d];simp
   · obtain ⟨a,b,d,e,f⟩:=t3 h
     refine (reads_3 w gl l c i1 i2 k hL hl hcl (bn (by omega)) (bn (by omega)) (iH h) e f).mono fun e w'=>eU (l:=l) (jT (L1 _ _) ?_ ?_ ?_)
     · rw [E1,if_neg (by omega),a,Bool.or_false]
     · rw [E1,if_pos rfl,b,Bool.or_true]
     intro j hj;rw [E1,if_neg (by omega),d];simp
   · obtain ⟨a,b,d,e,f⟩:=t4 h
     cases v:inW (l.set 0 true) 1 with
     | true=>
      have v':=v;rw [E0,if_neg (by omega)] at v'
      refine (Bz w gl l c i1 i2 k hL hl hcl (bn (by omega)) (bn (by omega)) (bn (by omega)) (iH h) v e f).mono fun e w'=>eU (l:=l) (jT (L2 _ _ _ _) ?_ ?_ ?_)
      · rw [E01,if_neg (by omega),if_pos rfl,a,Bool.or_true]
      · rw [E01,if_pos rfl,v'];rfl
      intro j hj;rw [E01,if_neg (by omega),if_neg (by omega),d];simp
     | false=>
      have v':=v;rw [E0,if_neg (by omega)] at v'
      refine (Bw w gl l c i1 i2 k hL hl hcl (bn (by omega)) (bn (by omega)) (bn (by omega)) (iH h) v e f).mono fun e w'=>eU (l:=l) (jT (L2 _ _ _ _) ?_ ?_ ?_)
      · rw [E01,if_neg (by omega),if_pos rfl,a,Bool.or_true]
      · rw [E01,if_pos rfl,v',b];rfl
      intro j hj;rw [E01,if_neg (by omega),if_neg (by omega),d];simp
   obtain ⟨a,b,d,e,f⟩:=t7 h
   have F:∀ (x0 x1:Bool),x0=(inW l 0||(c==7))→x1=(inW l 1||(c==135))→(l.set 0 x0).set 1 x1=rdF l ⟨c,i1,i2,k⟩:=fun x0 x1 h0 h1=>jT (L2 _ _ _ _) (by rw [E01,if_neg (by omega),if_pos rfl,a];exact h0) (by rw [E01,if_pos rfl,b];exact h1) (by intro j hj;rw [E01,if_neg (by omega),if_neg (by omega),d];simp)
   cases u:inW l 0<;>cases v:inW l 1
   · exact (xI w gl l c i1 i2 k hL hl hcl (bn (by omega)) (bn (by omega)) (bn (by omega)) (bn (by omega)) (bn (by omega)) (bn (by omega)) (iH h) u (by rw [E0,if_neg (by omega)];exact v) e f).mono fun e w'=>eU (l:=l) (F _ _ (by rw [u];rfl) (by rw [v];rfl))
   · exact (xJ w gl l c i1 i2 k hL hl hcl (bn (by omega)) (bn (by omega)) (bn (by omega)) (bn (by omega)) (bn (by omega)) (bn (by omega)) (iH h) u (by rw [E0,if_neg (by omega)];exact v) e f).mono fun e w'=>eU (l:=l) (F _ _ (by rw [u];rfl) (by rw [v];rfl))
   · exact (xK w gl l c i1 i2 k hL hl hcl (bn (by omega)) (bn (by omega)) (bn (by omega)) (bn (by omega)) (bn (by omega)) (bn (by omega)) (iH h) u (by rw [E0,if_neg (by omega)];exact v) e f).mono fun e w'=>eU (l:=l) (F _ _ (by rw [u];rfl) (by rw [v];rfl))
   exact (xL w gl l c i1 i2 k hL hl hcl (bn (by omega)) (bn (by omega)) (bn (by omega)) (bn (by omega)) (bn (by omega)) (bn (by omega)) (iH h) u (by rw [E0,if_neg (by omega)];exact v) e f).mono fun e w'=>eU (l:=l) (F _ _ (by rw [u];rfl) (by rw [v];rfl))
 · obtain ⟨h,a,b,d,e,f⟩:=rd_tabj c (of_decide_eq_true hc)
   cases v:inW (l.set 0 true) 1 with
   | true=>
    have v':=v;rw [E0,if_neg (by omega)] at v'
    refine (BB w gl l c i1 i2 k hL hl hcl (bn (by omega)) (bn (by omega)) (bn (by omega)) (bn (by omega)) (iH h) v e f).mono fun e w'=>eU (l:=l) (jT (L2 _ _ _ _) ?_ ?_ ?_)
    · rw [E01,if_neg (by omega),if_pos rfl,a,Bool.or_true]
    · rw [E01,if_pos rfl,v'];rfl
    intro j hj;rw [E01,if_neg (by omega),if_neg (by omega),d];simp
   | false=>
    have v':=v;rw [E0,if_neg (by omega)] at v'
    refine (BA w gl l c i1 i2 k hL hl hcl (bn (by omega)) (bn (by omega)) (bn (by omega)) (bn (by omega)) (iH h) v e f).mono fun e w'=>eU (l:=l) (jT (L2 _ _ _ _) ?_ ?_ ?_)
    · rw [E01,if_neg (by omega),if_pos rfl,a,Bool.or_true]
    · rw [E01,if_pos rfl,v',b];rfl
    intro j hj;rw [E01,if_neg (by omega),if_neg (by omega),d];simp
 obtain ⟨h,a,b,d,e,f⟩:=rd_tabr c (by have:=of_decide_eq_true hc;simpa using this)
 cases u:inW l 0 with
 | true=>
  refine (BD w gl l c i1 i2 k hL hl hcl (bn (by omega)) (bn (by omega)) (bn (by omega)) (bn (by omega)) (bn (by omega)) (iH h) u e f).mono fun e w'=>eU (l:=l) (jT (L1 _ _) ?_ ?_ ?_)
  · rw [E0,if_pos rfl,u];rfl
  · rw [E0,if_neg (by omega),b,Bool.or_false]
  intro j hj;rw [E0,if_neg (by omega),d];simp
 | false=>
  refine (BC w gl l c i1 i2 k hL hl hcl (bn (by omega)) (bn (by omega)) (bn (by omega)) (bn (by omega)) (bn (by omega)) (iH h) u e f).mono fun e w'=>eU (l:=l) (jT (L1 _ _) ?_ ?_ ?_)
  · rw [E0,if_pos rfl,u,a];rfl
  · rw [E0,if_neg (by omega),b,Bool.or_false]
  intro j hj;rw [E0,if_neg (by omega),d];simp
end Go.Proofs.Ytdkalnkplgfgoaa.Ln
