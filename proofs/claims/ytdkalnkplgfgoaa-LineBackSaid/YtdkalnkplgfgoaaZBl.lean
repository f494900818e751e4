/- Lemmas and walks for the statements of the texts ZBZ..: the declarations that they need, taken together by a program of this session. Conditions: as each says. -/
import Derived.Deep.DeepCutAuto
import Derived.Test.YtdkalnkplgfgoaaZBb
import Derived.Test.YtdkalnkplgfgoaaZBc
import Derived.Test.YtdkalnkplgfgoaaZBh
import Derived.Test.YtdkalnkplgfgoaaZBi
import Derived.Test.YtdkalnkplgfgoaaZBj
import Derived.Test.YtdkalnkplgfgoaaZBk
set_option maxHeartbeats 8000000
set_option maxRecDepth 100000
set_option linter.unusedVariables false
set_option linter.unusedSimpArgs false
namespace Go.Proofs.Ytdkalnkplgfgoaa.Ln
open Go.RowKit Go.Maps Go.Proofs.YtdkalnkplgfgoaaW.PrintWords Go.Proofs.YtdkalnkplgfgoaaW.PrintLast Go.Proofs.YtdkalnkplgfgoaaW.PrintMore Go.Proofs.Ytdkalnkplgfgoaa.PA
def dK (s:Int→Int):List Int→Int
 | []=>0
 | i :: r=>s i+dK s r
theorem lw {s:Int→Int}:∀ {l:List Int},(∀ i∈l,0≤s i)→0≤dK s l
 | [],_=>Int.le_refl _
 | i :: r,h=>by
  have:=lw (s:=s) (l:=r) (fun x hx=>h x (List.mem_cons_of_mem _ hx))
  have:=h i List.mem_cons_self
  unfold dK;omega
theorem gB {s:Int→Int}:∀ (l r:List Int),dK s (l++r)=dK s l+dK s r
 | [],r=>by simp [dK]
 | i :: l,r=>by rw [List.cons_append,dK,dK,gB l r];omega
theorem jr {s:Int→Int} {l:List Int} {m:Nat} (h:m<l.length):dK s (l.take (m+1))=dK s (l.take m)+s l[m]:=by
 rw [List.take_succ_eq_append_getElem h,gB];simp [dK]
theorem qB {s:Int→Int} (l:List Int) (m:Nat):dK s l=dK s (l.take m)+dK s (l.drop m):=by
 rw [←gB,List.take_append_drop]
theorem gY {s:Int→Int} {l:List Int} (h:∀ i∈l,0≤s i) {a b:Nat} (hab:a≤b):dK s (l.take a)≤dK s (l.take b):=by
 have e:l.take a=(l.take b).take a:=by rw [List.take_take,Nat.min_eq_left hab]
 have:=qB (s:=s) (l.take b) a
 rw [←e] at this
 have h2:0≤dK s ((l.take b).drop a):=lw (fun i hi=>h i (List.mem_of_mem_take (List.mem_of_mem_drop hi)))
 omega
def szF (g:List S47) (after:Int→Int) (f:Int→Bool × Bool) (i:Int):Int:=((ah g i).f0.length:Int)+eD (ah g i) (after i) (f i)
theorem lC (b:S47) (a:Int) (f:Bool × Bool):0≤eD b a f∧eD b a f≤1+(if b.f1=3 then 2 else 0):=by
 unfold eD
 obtain ⟨y,n⟩:=f
 cases y<;>cases n<;>repeat' split
 all_goals simp_all
theorem qC (g:List S47) (after:Int→Int) (f:Int→Bool × Bool) (i:Int):0≤szF g after f i:=by
 have:=(lC (ah g i) (after i) (f i)).1
 unfold szF;omega
theorem oP (g:List S47) (after:Int→Int) (f:Int→Bool × Bool) (x:Int):∀ (O:List Int) (n:Int) (p:Int→Int),x ∉ O→iF g after f O n p x=p x
 | [],n,p,h=>rfl
 | i :: r,n,p,h=>by
  unfold iF
  rw [oP g after f x r _ _ (fun hx=>h (List.mem_cons_of_mem _ hx))]
  have hne:x≠i:=fun e=>h (by rw [e];exact List.mem_cons_self)
  unfold upd
  rw [if_neg hne]
theorem rq (g:List S47) (after:Int→Int) (f:Int→Bool × Bool):∀ (O:List Int) (n:Int) (p:Int→Int),O.Pairwise (·<·)→0≤n→n+dK (szF g after f) O≤1000000000 →
 ∀ (m:Nat) (h:m<O.length),iF g after f O n p O[m]=n+dK (szF g after f) (O.take m)
 | [],n,p,hp,h0,hs,m,h=>absurd h (Nat.not_lt_zero _)
 | i :: r,n,p,hp,h0,hs,m,h=>by
  have hr:0≤dK (szF g after f) r:=lw (fun x _=>qC g after f x)
  have hz:=qC g after f i
  have ht:=lC (ah g i) (after i) (f i)
  unfold dK at hs
  have hw:wrap64 (n+wrap64 (((ah g i).f0.length:Int)+eD (ah g i) (after i) (f i)))=n+szF g after f i:=by
   have hd:szF g after f i=((ah g i).f0.length:Int)+eD (ah g i) (after i) (f i):=rfl
   rw [hd] at hz hs ⊢
   rw [w64 (n:=((ah g i).f0.length:Int)+eD (ah g i) (after i) (f i)) (by omega) (by omega),w64 (by omega) (by omega)]
  have hp1:=List.pairwise_cons.1 hp
  unfold iF
  rw [hw]
  cases m with
  | zero=>
   rw [List.getElem_cons_zero,oP g after f i r _ _ (fun hx=>by have:=hp1.1 i hx;omega)]
   unfold upd
   rw [if_pos rfl]
   simp [dK]
  | succ m=>
   rw [List.getElem_cons_succ,rq g after f r (n+szF g after f i) _ hp1.2 (by omega) (by omega) m (by simpa using h)]
   rw [List.take_succ_cons,dK]
   omega
def bcF (b:S47) (a:Int) (PL:Int→Int) (f:Bool × Bool) (pos:Int):List S45:=
 b.f0++(if b.f1=1 then [b.f2] else if b.f1=2 then (if b.f3=a then [] else [jaI (PL b.f3) (pos+b.f0.length)])
  else dV b PL f (pos+b.f0.length+1) :: ((if f.1 then [jaI (PL b.f3) (pos+b.f0.length+1)] else [])++(if f.2 then [jaI (PL b.f4) (pos+b.f0.length+1+(if f.1 then 1 else 0))] else [])))
theorem kH (b:S47) (a:Int) (PL:Int→Int) (f:Bool × Bool) (c:List S45):fE b a PL f c=c++bcF b a PL f (c.length:Int):=by
 unfold fE bcF
 by_cases e1:b.f1=1
 · rw [if_pos e1,if_pos e1,List.append_assoc]
 rw [if_neg e1,if_neg e1]
 by_cases e2:b.f1=2
 · rw [if_pos e2,if_pos e2]
   by_cases e3:b.f3=a
   · rw [if_pos e3,if_pos e3,List.append_nil]
   rw [if_neg e3,if_neg e3,List.append_assoc,List.length_append,Int.natCast_add]
 rw [if_neg e2,if_neg e2]
 unfold mZ jas
 obtain ⟨y,n⟩:=f
 cases y<;>cases n<;>simp only [if_true,if_false,Bool.false_eq_true,List.length_append,List.length_singleton,List.append_assoc,List.nil_append,List.append_nil,List.cons_append,Int.natCast_add,Int.add_zero]<;>rfl
theorem nD (b:S47) (a:Int) (PL:Int→Int) (f:Bool × Bool) (pos:Int) (h:b.f1=1∨b.f1=2∨b.f1=3):((bcF b a PL f pos).length:Int)=(b.f0.length:Int)+eD b a f:=by
 unfold bcF eD
 by_cases e1:b.f1=1
 · rw [if_pos e1,if_neg (by omega),if_neg (by omega),List.length_append,List.length_singleton];omega
 rw [if_neg e1]
 by_cases e2:b.f1=2
 · rw [if_pos e2]
   by_cases e3:b.f3=a
   · rw [if_pos e3,if_pos ⟨e2,e3⟩,List.append_nil];omega
   rw [if_neg e3,if_neg (fun q=>e3 q.2),if_neg (by omega),List.length_append,List.length_singleton];omega
 rw [if_neg e2,if_neg (show ¬(b.f1=2∧b.f3=a) from fun q=>e2 q.1),if_pos (show b.f1=3 by omega)]
 obtain ⟨y,n⟩:=f
 cases y<;>cases n<;>simp<;>omega
theorem rG (g:List S47) (after PL:Int→Int) (f:Int→Bool × Bool):∀ (O:List Int) (c:List S45),(∀ i∈O,(ah g i).f1=1∨(ah g i).f1=2∨(ah g i).f1=3) →
 (∃ B,kF g after PL f O c=c++B)∧((kF g after PL f O c).length:Int)=c.length+dK (szF g after f) O ∧
 ∀ (m:Nat) (h:m<O.length),∃ A B,kF g after PL f O c=A++bcF (ah g O[m]) (after O[m]) PL (f O[m]) (A.length:Int)++B∧(A.length:Int)=c.length+dK (szF g after f) (O.take m)
 | [],c,hk=>⟨⟨[],by simp [kF]⟩,by simp [kF,dK],fun m h=>absurd h (Nat.not_lt_zero _)⟩
 | i :: r,c,hk=>by
  obtain ⟨⟨B,h1⟩,h2,h3⟩:=rG g after PL f r (fE (ah g i) (after i) PL (f i) c) (fun x hx=>hk x (List.mem_cons_of_mem _ hx))
  have hl:((fE (ah g i) (after i) PL (f i) c).length:Int)=c.length+szF g after f i:=by
   rw [kH,List.length_append,Int.natCast_add,nD _ _ _ _ _ (hk i List.mem_cons_self)]
   unfold szF;omega
  unfold kF
  refine ⟨⟨bcF (ah g i) (after i) PL (f i) (c.length:Int)++B,?_⟩,?_,?_⟩
  · rw [h1,kH,List.append_assoc]
  · rw [h2,hl,dK];omega
  intro m h
  cases m with
  | zero=>
   refine ⟨c,B,?_,by simp [dK]⟩
   rw [List.getElem_cons_zero,h1,kH]
  | succ m=>
   obtain ⟨A,B,e,l⟩:=h3 m (by simpa using h)
   refine ⟨A,B,?_,?_⟩
   · rw [List.getElem_cons_succ];exact e
   rw [l,hl,List.take_succ_cons,dK];omega
theorem kE (R:List Bool):∀ k:Nat,(bC R k).1.Pairwise (·<·)∧(∀ i:Int,i∈(bC R k).1↔0≤i∧i<(k:Int)∧dI false R i=true)∧(∀ x:Int,(k:Int)≤x→(bC R k).2 x=0) ∧
 (∀ (m:Nat) (h:m<(bC R k).1.length),(bC R k).2 (bC R k).1[m]=if h2:m+1<(bC R k).1.length then (bC R k).1[m+1] else 0)
 | 0=>⟨List.Pairwise.nil,fun i=>⟨fun h=>by simp [bC] at h,fun h=>by omega⟩,fun _ _=>rfl,fun m h=>absurd h (Nat.not_lt_zero _)⟩
 | k+1=>by
  obtain ⟨h1,h2,h3,h4⟩:=kE R k
  have hu:bC R (k+1)=if dI false R (k:Int) then ((bC R k).1++[(k:Int)],if (bC R k).1.length=0 then (bC R k).2 else upd (bC R k).2 (rd (bC R k).1 ((bC R k).1.length - 1)) (k:Int)) else bC R k:=rfl
  rw [hu]
  by_cases hb:dI false R (k:Int)=true
  · rw [if_pos hb]
    generalize hO:(bC R k).1=O at *
    generalize ha:(bC R k).2=a at *
    clear hu hO ha
    refine ⟨?_,?_,?_,?_⟩
    · refine List.pairwise_append.2 ⟨h1,List.pairwise_singleton _ _,?_⟩
      intro x hx y hy
      rw [List.mem_singleton.1 hy]
      exact ((h2 x).1 hx).2.1
    · intro i
      rw [List.mem_append,List.mem_singleton,h2]
      constructor
      · rintro (h | h)
        · exact ⟨h.1,by omega,h.2.2⟩
        rw [h];exact ⟨by omega,by omega,hb⟩
      rintro ⟨p,q,r⟩
      by_cases e:i=(k:Int)
      · exact .inr e
      exact .inl ⟨p,by omega,r⟩
    · intro x hx
      show (if O.length=0 then a else upd a (rd O (O.length - 1)) (k:Int)) x=0
      by_cases e:O.length=0
      · rw [if_pos e];exact h3 x (by omega)
      rw [if_neg e]
      have:=jb e
      have:=((h2 _).1 this).2.1
      unfold upd
      rw [if_neg (by omega)]
      exact h3 x (by omega)
    intro m h
    show (if O.length=0 then a else upd a (rd O (O.length - 1)) (k:Int)) (O++[(k:Int)])[m]=if h2:m+1<(O++[(k:Int)]).length then (O++[(k:Int)])[m+1] else 0
    have hl:(O++[(k:Int)]).length=O.length+1:=by simp
    have h':m<O.length+1:=by have:=h;simp at this;omega
    by_cases hm:m<O.length
    · have hz:O.length≠0:=by omega
      have hlast:rd O ((O.length:Int) - 1)=O[O.length - 1]'(by omega):=by
       unfold rd
       rw [List.getD_eq_getElem?_getD,show ((O.length:Int) - 1).toNat=O.length - 1 by omega,List.getElem?_eq_getElem (by omega)]
       rfl
      rw [if_neg hz,List.getElem_append_left hm,dif_pos (by omega),hlast]
      unfold upd
      by_cases e:m=O.length - 1
      · subst e
        rw [if_pos rfl,List.getElem_append_right (by omega)]
        simp
      have hne:O[m]≠O[O.length - 1]'(by omega):=by
       have:=List.pairwise_iff_getElem.1 h1 m (O.length - 1) hm (by omega) (by omega)
       omega
      rw [if_neg hne,h4 m hm,dif_pos (by omega),List.getElem_append_left (by omega)]
    have e:m=O.length:=by omega
    subst e
    rw [dif_neg (by omega),List.getElem_append_right (by omega)]
    simp only [Nat.sub_self,List.getElem_cons_zero]
    by_cases e:O.length=0
    · rw [if_pos e];exact h3 _ (Int.le_refl _)
    rw [if_neg e]
    have:=((h2 _).1 (jb e)).2.1
    unfold upd
    rw [if_neg (by omega)]
    exact h3 _ (Int.le_refl _)
  rw [if_neg hb]
  refine ⟨h1,?_,fun x hx=>h3 x (by omega),h4⟩
  intro i
  rw [h2]
  constructor
  · rintro ⟨p,q,r⟩;exact ⟨p,by omega,r⟩
  rintro ⟨p,q,r⟩
  have:i≠(k:Int):=fun e=>hb (e ▸ r)
  exact ⟨p,by omega,r⟩
def wtB (p:Bool × Bool):Nat:=(if p.1 then 0 else 1)+(if p.2 then 0 else 1)
def mq (f:Int→Bool × Bool):List Int→Nat
 | []=>0
 | i :: r=>wtB (f i)+mq f r
theorem frOf_w (b:S47) (pl:Int→Int) (i:Int) (f:Bool × Bool):wtB (gU b pl i f)≤wtB f∧(gU b pl i f≠f→wtB (gU b pl i f)<wtB f):=by
 unfold gU
 generalize decide (wrap64 (wrap64 (pl b.f3 - wrap64 (pl i+(b.f0.length:Int))) - 1)>255)=u
 generalize decide (wrap64 (wrap64 (pl b.f4 - wrap64 (pl i+(b.f0.length:Int))) - 1)>255)=v
 obtain ⟨y,n⟩:=f
 cases y<;>cases n<;>cases u<;>cases v<;>decide
theorem nJ (g:List S47) (pl:Int→Int):∀ (O:List Int) (f:Int→Bool × Bool) (b:Bool),(∀ x,wtB ((fJ g pl O f b).1 x)≤wtB (f x))∧((fJ g pl O f b).2=true→b=true∨∃ i∈O,wtB ((fJ g pl O f b).1 i)<wtB (f i))
 | [],f,b=>⟨fun _=>Nat.le_refl _,fun h => .inl h⟩
 | i :: r,f,b=>by
  unfold fJ
  by_cases e3:(ah g i).f1=3
  · rw [if_pos e3]
    by_cases e:gU (ah g i) pl i (f i)=f i
    · rw [if_pos e]
      obtain ⟨h1,h2⟩:=nJ g pl r f b
      exact ⟨h1,fun h=>(h2 h).imp id (fun ⟨j,hj,w⟩=>⟨j,List.mem_cons_of_mem _ hj,w⟩)⟩
    rw [if_neg e]
    obtain ⟨h1,h2⟩:=nJ g pl r (upd f i (gU (ah g i) pl i (f i))) true
    have hw:=frOf_w (ah g i) pl i (f i)
    have hu:∀ x,wtB (upd f i (gU (ah g i) pl i (f i)) x)≤wtB (f x):=by
     intro x
     unfold upd
     by_cases q:x=i
     · rw [if_pos q,q];exact hw.1
     rw [if_neg q];exact Nat.le_refl _
    refine ⟨fun x=>Nat.le_trans (h1 x) (hu x),fun _ => .inr ⟨i,List.mem_cons_self,?_⟩⟩
    have:=h1 i
    have h3:upd f i (gU (ah g i) pl i (f i)) i=gU (ah g i) pl i (f i):=by unfold upd;rw [if_pos rfl]
    rw [h3] at this
    exact Nat.lt_of_le_of_lt this (hw.2 e)
  rw [if_neg e3]
  obtain ⟨h1,h2⟩:=nJ g pl r f b
  exact ⟨h1,fun h=>(h2 h).imp id (fun ⟨j,hj,w⟩=>⟨j,List.mem_cons_of_mem _ hj,w⟩)⟩
theorem qU {f f':Int→Bool × Bool} (h:∀ x,wtB (f' x)≤wtB (f x)):∀ O:List Int,mq f' O≤mq f O
 | []=>Nat.le_refl _
 | i :: r=>by have:=qU h r;have:=h i;unfold mq;omega
theorem qV {f f':Int→Bool × Bool} (h:∀ x,wtB (f' x)≤wtB (f x)):∀ O:List Int,(∃ i∈O,wtB (f' i)<wtB (f i))→mq f' O<mq f O
 | [],hx=>by obtain ⟨i,hi,_⟩:=hx;cases hi
 | j :: r,hx=>by
  obtain ⟨i,hi,hw⟩:=hx
  have h1:=qU h r
  have h2:=h j
  unfold mq
  rcases List.mem_cons.1 hi with rfl | hi
  · omega
  have:=qV h r ⟨i,hi,hw⟩
  omega
theorem oC (f:Int→Bool × Bool):∀ O:List Int,mq f O≤2*O.length
 | []=>Nat.le_refl _
 | i :: r=>by
  have:=oC f r
  have:wtB (f i)≤2:=by unfold wtB;split<;>split<;>omega
  unfold mq
  rw [List.length_cons]
  omega
theorem mR (g:List S47) (after:Int→Int) (O:List Int):∀ (k:Nat) (f:Int→Bool × Bool),mq f O<k→(kW g after O k f).isSome=true
 | 0,f,h=>absurd h (Nat.not_lt_zero _)
 | k+1,f,h=>by
  unfold kW
  obtain ⟨h1,h2⟩:=nJ g (iF g after f O 0 (fun _=>0)) O f false
  by_cases e:(fJ g (iF g after f O 0 (fun _=>0)) O f false).2=true
  · rw [if_pos e]
    have:=(h2 e).resolve_left (by decide)
    have:=qV h1 O this
    exact mR g after O k _ (by omega)
  rw [if_neg e];rfl
theorem ji (g:List S47) (pl:Int→Int):∀ (O:List Int) (f:Int→Bool × Bool),(fJ g pl O f true).2=true
 | [],f=>rfl
 | i :: r,f=>by
  unfold fJ
  split
  · split
    · exact ji g pl r f
    exact ji g pl r _
  exact ji g pl r f
theorem jC (g:List S47) (pl:Int→Int):∀ (O:List Int) (f:Int→Bool × Bool),(fJ g pl O f false).2=false→(fJ g pl O f false).1=f∧∀ i∈O,(ah g i).f1=3→gU (ah g i) pl i (f i)=f i
 | [],f,h=>⟨rfl,fun i hi=>by cases hi⟩
 | i :: r,f,h=>by
  unfold fJ at h ⊢
  by_cases e3:(ah g i).f1=3
  · rw [if_pos e3] at h ⊢
    by_cases e:gU (ah g i) pl i (f i)=f i
    · rw [if_pos e] at h ⊢
      obtain ⟨h1,h2⟩:=jC g pl r f h
      refine ⟨h1,fun j hj=>?_⟩
      rcases List.mem_cons.1 hj with rfl | hj
      · exact fun _=>e
      exact h2 j hj
    rw [if_neg e,ji] at h
    cases h
  rw [if_neg e3] at h ⊢
  obtain ⟨h1,h2⟩:=jC g pl r f h
  refine ⟨h1,fun j hj=>?_⟩
  rcases List.mem_cons.1 hj with rfl | hj
  · exact fun q=>absurd q e3
  exact h2 j hj
theorem oQ (g:List S47) (after:Int→Int) (O:List Int) (PL:Int→Int) (F:Int→Bool × Bool):∀ (k:Nat) (f:Int→Bool × Bool),kW g after O k f=some (PL,F) →
 PL=iF g after F O 0 (fun _=>0)∧∀ i∈O,(ah g i).f1=3→gU (ah g i) PL i (F i)=F i
 | 0,f,h=>by cases h
 | k+1,f,h=>by
  unfold kW at h
  by_cases e:(fJ g (iF g after f O 0 (fun _=>0)) O f false).2=true
  · rw [if_pos e] at h
    exact oQ g after O PL F k _ h
  rw [if_neg e] at h
  have e2:=jC g _ O f (by simpa using e)
  injection h with h
  injection h with h1 h2
  rw [e2.1] at h2
  subst h2
  subst h1
  exact ⟨rfl,e2.2⟩
structure Lay (g:List S47) (O:List Int) (after PL:Int→Int) (f:Int→Bool × Bool) (p:List S45):Prop where
 tk:TkB g=true
 zero:(0:Int)∈O
 pl0:PL 0=0
 dom:∀ i∈O,0≤i∧i<(g.length:Int)
 closed:∀ i∈O,∀ x∈cz (ah g i),x∈O
 place:∀ i∈O,∃ A B,p=A++bcF (ah g i) (after i) PL (f i) (PL i)++B∧(A.length:Int)=PL i
 fwd:∀ i∈O,∀ x∈cz (ah g i),PL i+szF g after f i≤PL x
 fall:∀ i∈O,(ah g i).f1=2→(ah g i).f3=after i→PL (after i)=PL i+((ah g i).f0.length:Int)
 long:p.length≤4096
 inn:∀ i∈O,PL i<p.length
 near:∀ i∈O,(ah g i).f1=3→((f i).1=false→PL (ah g i).f3 - (PL i+((ah g i).f0.length:Int)) - 1≤255)∧((f i).2=false→PL (ah g i).f4 - (PL i+((ah g i).f0.length:Int)) - 1≤255)
 cover:∀ t:Nat,t<p.length→∃ i∈O,∃ j:Nat,j<(bcF (ah g i) (after i) PL (f i) (PL i)).length∧(t:Int)=PL i+j
 last:∃ i∈O,(ah g i).f1=1∧(p.length:Int)=PL i+((ah g i).f0.length:Int)+1
theorem jN {A c B:List S45} {j:Nat} (h:j<c.length):bg (A++c++B) ((A.length:Int)+j)=c[j]:=by
 unfold bg
 rw [show ((A.length:Int)+(j:Int)).toNat=A.length+j by omega,List.getD_eq_getElem?_getD,List.append_assoc,List.getElem?_append_right (by omega),Nat.add_sub_cancel_left,List.getElem?_append_left h,List.getElem?_eq_getElem h]
 rfl
theorem qc (c:Int):jmP c=jmB c:=by unfold jmP;rw [uz];rfl
theorem hoP_eq (c j1 j2 i1 i2 K a x:Int):hoP ⟨c,j1,j2,K⟩ a x=hoP ⟨c,i1,i2,K⟩ a x:=by
 unfold hoP
 have h:∀ b,aW.j0 10 a b c j1 j2 K=aW.j0 10 a b c i1 i2 K:=fun b=>rfl
 have:aW.f 10 c j1 j2 K a x=aW.f 10 c i1 i2 K a x:=by
  unfold aW.f
  simp only [h]
 exact congrArg (fun o=>o.getD false) this
theorem pz {p:List S45} {pk:List Int} {at_:Int} {M:bn} {T:List Int} {i:S45} (h0:0≤at_) (h1:at_<p.length) (hp:p.length≤4096) (hi:bg p at_=i) (hs:stB i.f0 i.f3=true) (m:Nat) :
 dL p pk (m+1) at_ M T=if (cK i pk M).2=0 then dL p pk m (at_+1) (cK i pk M).1 (T++[at_]) else some (0,(cK i pk M).2,T++[at_]):=by
 obtain ⟨n6,n22,n5,nj,_⟩:=nZ hs
 rw [dL,if_pos ⟨h0,h1⟩]
 simp only [hi]
 rw [if_neg n6,if_neg n22,if_neg n5,qc,nj,if_neg (by decide),w64 (n:=at_+1) (by omega) (by omega)]
theorem nO (p:List S45) (pk:List Int) (hp:p.length≤4096) (B:List S45):∀ (c A:List S45),p=A++c++B→(∀ i∈c,stB i.f0 i.f3=true)→∀ (M:bn) (s:Int) (T:List Int),0≤s→s≤A.length →
 ((dA pk c M s).2.2=0∧(dA pk c M s).2.1=s+c.length∧∃ T':List Int,T'.length=T.length+c.length∧∀ m,dL p pk (m+c.length) A.length M T=dL p pk m ((A.length:Int)+c.length) (dA pk c M s).1 T') ∨
 ((dA pk c M s).2.2≠0∧s<(dA pk c M s).2.1∧(dA pk c M s).2.1≤s+c.length∧∃ T':List Int,(T'.length:Int) - T.length=(dA pk c M s).2.1 - s∧∀ m,c.length≤m→dL p pk m A.length M T=some (0,(dA pk c M s).2.2,T'))
 | [],A,e,hs,M,s,T,h0,h1=>by
  refine .inl ⟨rfl,?_,T,rfl,?_⟩
  · show s=s+(([]:List S45).length:Int)
    rw [List.length_nil];omega
  intro m
  show dL p pk m A.length M T=dL p pk m ((A.length:Int)+(([]:List S45).length:Int)) M T
  rw [List.length_nil,show (A.length:Int)+((0:Nat):Int)=A.length by omega]
 | i :: r,A,e,hs,M,s,T,h0,h1=>by
  have hl:p.length=A.length+(r.length+1)+B.length:=by rw [e];simp;omega
  have hi:bg p (A.length:Int)=i:=by
   have:=jN (A:=A) (c:=i :: r) (B:=B) (j:=0) (by simp)
   rw [show (A.length:Int)+((0:Nat):Int)=A.length by omega] at this
   rw [e,this]
   rfl
  have hv:=fun m=>pz (p:=p) (pk:=pk) (at_:=(A.length:Int)) (M:=M) (T:=T) (by omega) (by omega) hp hi (hs i List.mem_cons_self) m
  unfold dA
  by_cases q:(cK i pk M).2=0
  · rw [if_pos q,w64 (n:=s+1) (by omega) (by omega)]
    have hs2:s+1≤((A++[i]).length:Int):=by rw [List.length_append,List.length_singleton];omega
    · rcases nO p pk hp B r (A++[i]) (by rw [e];simp) (fun x hx=>hs x (List.mem_cons_of_mem _ hx)) (cK i pk M).1 (s+1) (T++[(A.length:Int)]) (by omega) hs2 with ⟨a,b,T',l,v⟩ | ⟨a,b,b',T',l,v⟩
      · refine .inl ⟨a,?_,T',?_,?_⟩
        · rw [b,List.length_cons];omega
        · rw [l,List.length_cons,List.length_append,List.length_singleton];omega
        intro m
        have:=v m
        rw [List.length_append,List.length_singleton] at this
        rw [List.length_cons,←Nat.add_assoc,hv,if_pos q,show (A.length:Int)+1=((A.length+1:Nat):Int) by omega,this,show ((A.length+1:Nat):Int)+(r.length:Int)=(A.length:Int)+((r.length+1:Nat):Int) by omega]
      refine .inr ⟨a,by omega,?_,T',?_,?_⟩
      · rw [List.length_cons];omega
      · rw [List.length_append,List.length_singleton] at l;omega
      intro m hm
      rw [List.length_cons] at hm
      obtain ⟨m,rfl⟩:∃ q,m=q+1:=⟨m - 1,by omega⟩
      have:=v m (by omega)
      rw [List.length_append,List.length_singleton] at this
      rw [hv,if_pos q,show (A.length:Int)+1=((A.length+1:Nat):Int) by omega,this]
  rw [if_neg q,w64 (n:=s+1) (by omega) (by omega)]
  refine .inr ⟨q,by show s<s+1;omega,by show s+1≤s+((i :: r).length:Int);rw [List.length_cons];omega,T++[(A.length:Int)],?_,?_⟩
  · show ((T++[(A.length:Int)]).length:Int) - T.length=s+1 - s
    rw [List.length_append,List.length_singleton];omega
  intro m hm
  rw [List.length_cons] at hm
  obtain ⟨m,rfl⟩:∃ q,m=q+1:=⟨m - 1,by omega⟩
  rw [hv,if_neg q]
theorem uy {tt here:Int} (h0:0≤here) (h1:here+1≤tt) (h2:tt≤4096):(jaI tt here).f3=tt - here - 1:=by
 unfold jaI
 simp only
 rw [w64 (n:=tt - here) (by omega) (by omega),w64 (n:=tt - here - 1) (by omega) (by omega),IntKind.wrap_u32]
 omega
theorem vm_ja {p:List S45} {pk:List Int} {at_ tt:Int} {M:bn} {T:List Int} (h0:0≤at_) (h1:at_<p.length) (hp:p.length≤4096) (hi:bg p at_=jaI tt at_) (h2:at_+1≤tt) (h3:tt≤4096) (m:Nat) :
 dL p pk (m+1) at_ M T=dL p pk m tt M (T++[at_]):=by
 rw [dL,if_pos ⟨h0,h1⟩]
 simp only [hi]
 rw [uy h0 h2 h3,if_neg (show ¬(jaI tt at_).f0=6 from (by decide:¬(5:Int)=6)),if_neg (show ¬(jaI tt at_).f0=22 from (by decide:¬(5:Int)=22)),if_pos (show (jaI tt at_).f0=5 from rfl)]
 rw [w64 (n:=at_+1) (by omega) (by omega),w64 (n:=tt - at_ - 1) (by omega) (by omega),w64 (n:=at_+1+(tt - at_ - 1)) (by omega) (by omega),show at_+1+(tt - at_ - 1)=tt by omega]
theorem vm_test {p:List S45} {pk:List Int} {at_:Int} {M:bn} {T:List Int} {i:S45} (h0:0≤at_) (h1:at_<p.length) (hp:p.length≤4096) (hi:bg p at_=i) (hj:jmB i.f0=true) (j1:0≤i.f1∧i.f1<256) (j2:0≤i.f2∧i.f2<256) (m:Nat) :
 dL p pk (m+1) at_ M T=if hoP i M.a M.x=true then dL p pk m (at_+1+i.f1) M (T++[at_]) else dL p pk m (at_+1+i.f2) M (T++[at_]):=by
 obtain ⟨n6,n22,n5⟩:=jm_not hj
 rw [dL,if_pos ⟨h0,h1⟩]
 simp only [hi]
 rw [if_neg n6,if_neg n22,if_neg n5,qc,if_pos hj,w64 (n:=at_+1) (by omega) (by omega),w64 (n:=i.f1) (by omega) (by omega),w64 (n:=i.f2) (by omega) (by omega),w64 (n:=at_+1+i.f1) (by omega) (by omega),w64 (n:=at_+1+i.f2) (by omega) (by omega)]
theorem ng {n:Int} (h0:0≤n) (h1:n≤255):IntKind.u8.wrap (wrap64 n)=n:=by
 rw [w64 (by omega) (by omega),IntKind.wrap_u8];omega
theorem jU {g:List S47} (h:TkB g=true) {i:Int} (h0:0≤i) (h1:i<g.length):∀ x∈cz (ah g i),i<x∧x<(g.length:Int):=by
 obtain ⟨j,rfl⟩:=Int.eq_ofNat_of_zero_le h0
 have hj:j<g.length:=by omega
 have:=qG _ g 0 4096 (gZ h).2.2 (by omega) j hj
 rw [ko hj]
 have hg:=this.2.2.2
 rw [show (0:Int)+(j:Int)=j by omega] at hg
 unfold ic at hg
 simp only [Bool.and_eq_true,Bool.or_eq_true,Bool.not_eq_true',decide_eq_true_eq,decide_eq_false_iff_not] at hg
 intro x hx
 unfold cz at hx
 split at hx
 · rw [List.mem_singleton.1 hx]
   rcases hg.1 with q | q
   · omega
   exact q
 split at hx
 · rename_i e2 e3
   have h3:(j:Int)<(g[j]).f3∧(g[j]).f3<(g.length:Int):=by
    rcases hg.1 with q | q
    · omega
    exact q
   have h4:(j:Int)<(g[j]).f4∧(g[j]).f4<(g.length:Int):=by
    rcases hg.2 with q | q
    · exact absurd e3 q
    exact q
   rcases List.mem_cons.1 hx with q | q
   · rw [q];exact h3
   rw [List.mem_singleton.1 q];exact h4
 cases hx
section
variable {g:List S47} {O:List Int} {after PL:Int→Int} {f:Int→Bool × Bool} {p:List S45}
theorem Lay.pos (L:Lay g O after PL f p) {i:Int} (hi:i∈O):0≤PL i:=by
 obtain ⟨A,B,_,h⟩:=L.place i hi
 omega
theorem Lay.goTo (L:Lay g O after PL f p) (pk:List Int) {q:Int} {x:Int} (hx:x∈O) (h0:0≤q) (h1:q+1≤PL x) (M:bn) (T:List Int) (t:Int)
 (h:t=PL x∨(q+1≤t∧t<PL x∧bg p t=jaI (PL x) t)) :
 ∃ T':List Int,T.length≤T'.length∧∀ m:Nat,(p.length:Int) - (q+1)≤m→∃ m':Nat,(p.length:Int) - PL x≤m'∧dL p pk m t M T=dL p pk m' (PL x) M T':=by
 have hl:=L.long
 have hn:=L.inn x hx
 rcases h with rfl | ⟨h2,h3,h4⟩
 · exact ⟨T,Nat.le_refl _,fun m hm=>⟨m,by omega,rfl⟩⟩
 refine ⟨T++[t],by rw [List.length_append];omega,fun m hm=>?_⟩
 obtain ⟨m,rfl⟩:∃ r,m=r+1:=⟨m - 1,by omega⟩
 exact ⟨m,by omega,vm_ja (by omega) (by omega) hl h4 (by omega) (by omega) m⟩
theorem Lay.sim (L:Lay g O after PL f p) (pk:List Int):∀ (d:Nat) (i:Int),i∈O→(g.length:Int) - i≤d→∀ (M:bn) (s:Int) (T:List Int),0≤s→s≤PL i →
 ∃ v fl s',(∀ k,d≤k→ib g pk k i M s=some (v,fl,s'))∧s≤s'∧∃ T':List Int,s' - s≤(T'.length:Int) - T.length∧∀ m:Nat,(p.length:Int) - PL i≤m→dL p pk m (PL i) M T=some (v,fl,T'):=by
 intro d
 induction d with
 | zero=>intro i hi hd;have:=(L.dom i hi).2;omega
 | succ d ih=>
  intro i hi hd M s T hs0 hs1
  have hdom:=L.dom i hi
  have hlong:=L.long
  have hin:=L.inn i hi
  obtain ⟨hlen,hcode,hend⟩:=jd L.tk (eU hdom.1 hdom.2)
  have hgo:=jU L.tk hdom.1 hdom.2
  have hcl:=L.closed i hi
  have hfw:=L.fwd i hi
  have hfa:=L.fall i hi
  have hne:=L.near i hi
  obtain ⟨A,B,hp,hA⟩:=L.place i hi
  have hg:∀ k,ib g pk (k+1) i M s=(let b:=ah g i
   let q:=dA pk b.f0 M s
   if q.2.2=0 then
    (if b.f1=1 then (if b.f2.f0=6 then some (b.f2.f3,0,wrap64 (q.2.1+1)) else some (q.1.a,0,wrap64 (q.2.1+1)))
    else if b.f1=2 then ib g pk k b.f3 q.1 q.2.1
    else if hoP b.f2 q.1.a q.1.x=true then ib g pk k b.f3 q.1 (wrap64 (q.2.1+1))
    else ib g pk k b.f4 q.1 (wrap64 (q.2.1+1)))
   else some (0,q.2.2,q.2.1)):=by
   intro k
   rw [ib,if_pos hdom]
  have hsz:szF g after f i=((ah g i).f0.length:Int)+eD (ah g i) (after i) (f i):=rfl
  have htl:=lC (ah g i) (after i) (f i)
  rw [hsz] at hfw
  clear hsz
  generalize ah g i=b at *
  dsimp only at hg
  generalize hrest:(if b.f1=1 then [b.f2] else if b.f1=2 then (if b.f3=after i then [] else [jaI (PL b.f3) (PL i+b.f0.length)])
   else dV b PL (f i) (PL i+b.f0.length+1) :: ((if (f i).1 then [jaI (PL b.f3) (PL i+b.f0.length+1)] else [])++(if (f i).2 then [jaI (PL b.f4) (PL i+b.f0.length+1+(if (f i).1 then 1 else 0))] else [])))=rest
  have hbc:bcF b (after i) PL (f i) (PL i)=b.f0++rest:=by rw [←hrest];rfl
  rw [hbc] at hp
  have hp2:p=A++b.f0++(rest++B):=by rw [hp];simp
  have hpl:p.length=A.length+b.f0.length+rest.length+B.length:=by rw [hp];simp;omega
  have hrd:∀ (j:Nat) (h:j<rest.length),bg p (PL i+b.f0.length+j)=rest[j]:=by
   intro j h
   have:=jN (A:=A++b.f0) (c:=rest) (B:=B) (j:=j) h
   rw [List.length_append] at this
   rw [hp,show PL i+(b.f0.length:Int)+(j:Int)=((A.length+b.f0.length:Nat):Int)+j by omega,←this]
   simp only [List.append_assoc]
  have hst:∀ x∈b.f0,stB x.f0 x.f3=true:=by
   intro x hx
   exact (List.all_eq_true.1 hcode) x hx
  have hsim:=nO p pk hlong (rest++B) b.f0 A hp2 hst M s T hs0 (by omega)
  generalize dA pk b.f0 M s=Q at *
  obtain ⟨M1,s1,fl⟩:=Q
  dsimp only at hg hsim
  rw [hA] at hsim
  rcases hsim with ⟨rfl,hs1e,T1,hT1,hv⟩ | ⟨hfl,hlo,hhi,T1,hT1,hv⟩
  · -- no fault
    simp only [if_true] at hg
    have hq:∀ m:Nat,(p.length:Int) - PL i≤m→∃ m':Nat,(p.length:Int) - (PL i+b.f0.length)≤m'∧dL p pk m (PL i) M T=dL p pk m' (PL i+b.f0.length) M1 T1:=by
     intro m hm
     refine ⟨m - b.f0.length,by omega,?_⟩
     rw [←hv (m - b.f0.length),show m - b.f0.length+b.f0.length=m by omega]
    by_cases e1:b.f1=1
    · -- a return
      have hre:reB b.f2.f0=true:=by
       unfold gG at hend
       rw [if_pos e1] at hend
       simp only [Bool.and_eq_true] at hend
       exact hend.1.1.1
      rw [if_pos e1] at hrest
      subst hrest
      have hi0:=hrd 0 (by simp)
      simp only [List.getElem_cons_zero] at hi0
      rw [show PL i+(b.f0.length:Int)+((0:Nat):Int)=PL i+b.f0.length by omega] at hi0
      have hpl2:p.length=A.length+b.f0.length+1+B.length:=by simpa using hpl
      have hrc:b.f2.f0=6∨b.f2.f0=22:=of_decide_eq_true hre
      by_cases c6:b.f2.f0=6
      · refine ⟨b.f2.f3,0,s1+1,?_,by omega,T1++[PL i+b.f0.length],?_,?_⟩
        · intro k hk
          obtain ⟨k,rfl⟩:∃ r,k=r+1:=⟨k - 1,by omega⟩
          rw [hg,if_pos e1,if_pos c6,w64 (by omega) (by omega)]
        · rw [List.length_append,List.length_singleton];omega
        intro m hm
        obtain ⟨m',hm',e⟩:=hq m hm
        obtain ⟨m',rfl⟩:∃ r,m'=r+1:=⟨m' - 1,by omega⟩
        rw [e,dL,if_pos ⟨by omega,by omega⟩]
        simp only [hi0]
        rw [if_pos c6]
      have c22:b.f2.f0=22:=by omega
      refine ⟨M1.a,0,s1+1,?_,by omega,T1++[PL i+b.f0.length],?_,?_⟩
      · intro k hk
        obtain ⟨k,rfl⟩:∃ r,k=r+1:=⟨k - 1,by omega⟩
        rw [hg,if_pos e1,if_neg c6,w64 (by omega) (by omega)]
      · rw [List.length_append,List.length_singleton];omega
      intro m hm
      obtain ⟨m',hm',e⟩:=hq m hm
      obtain ⟨m',rfl⟩:∃ r,m'=r+1:=⟨m' - 1,by omega⟩
      rw [e,dL,if_pos ⟨by omega,by omega⟩]
      simp only [hi0]
      rw [if_neg c6,if_pos c22]
    by_cases e2:b.f1=2
    · -- a go
      have hgl:cz b=[b.f3]:=by unfold cz;rw [if_pos e2]
      rw [hgl] at hgo hcl hfw
      have hx:=hcl b.f3 List.mem_cons_self
      have hxi:=(hgo b.f3 List.mem_cons_self).1
      have hxp:=hfw b.f3 List.mem_cons_self
      have hxl:=L.inn b.f3 hx
      have hj:PL b.f3=PL i+b.f0.length∨(PL i+b.f0.length≤PL i+b.f0.length∧PL i+b.f0.length<PL b.f3∧bg p (PL i+b.f0.length)=jaI (PL b.f3) (PL i+b.f0.length)):=by
       rw [if_neg e1,if_pos e2] at hrest
       by_cases ea:b.f3=after i
       · left
         rw [ea];exact hfa e2 ea
       rw [if_neg ea] at hrest
       subst hrest
       have ht:eD b (after i) (f i)=1:=by
        unfold eD
        rw [if_neg (fun q=>ea q.2),if_neg (by omega)]
       have:=hrd 0 (by simp)
       rw [show PL i+(b.f0.length:Int)+((0:Nat):Int)=PL i+b.f0.length by omega] at this
       exact .inr ⟨Int.le_refl _,by omega,this⟩
      have hcont:∃ T2:List Int,T1.length≤T2.length∧∀ m:Nat,(p.length:Int) - (PL i+b.f0.length)≤m→∃ m':Nat,(p.length:Int) - PL b.f3≤m'∧dL p pk m (PL i+b.f0.length) M1 T1=dL p pk m' (PL b.f3) M1 T2:=by
       rcases hj with e | ⟨_,h2,h3⟩
       · exact ⟨T1,Nat.le_refl _,fun m hm=>⟨m,by omega,by rw [e]⟩⟩
       refine ⟨T1++[PL i+b.f0.length],by rw [List.length_append];omega,fun m hm=>?_⟩
       obtain ⟨m,rfl⟩:∃ r,m=r+1:=⟨m - 1,by omega⟩
       exact ⟨m,by omega,vm_ja (by omega) (by omega) hlong h3 (by omega) (by omega) m⟩
      obtain ⟨T2,hT2,hc⟩:=hcont
      obtain ⟨v,fl,s',h1,h2,T3,h3,h4⟩:=ih b.f3 hx (by omega) M1 s1 T2 (by omega) (by omega)
      refine ⟨v,fl,s',?_,by omega,T3,by omega,?_⟩
      · intro k hk
        obtain ⟨k,rfl⟩:∃ r,k=r+1:=⟨k - 1,by omega⟩
        rw [hg,if_neg e1,if_pos e2]
        exact h1 k (by omega)
      intro m hm
      obtain ⟨m',hm',e⟩:=hq m hm
      obtain ⟨m2,hm2,e2⟩:=hc m' hm'
      rw [e,e2]
      exact h4 m2 hm2
    -- a test
    have e3:b.f1=3:=by have:=iC hend;omega
    have hjm:jmB b.f2.f0=true:=by
     unfold gG at hend
     rw [if_neg e1,if_neg e2,if_pos e3] at hend
     simp only [Bool.and_eq_true] at hend
     exact hend.1
    have hgl:cz b=[b.f3,b.f4]:=by unfold cz;rw [if_neg e2,if_pos e3]
    rw [hgl] at hgo hcl hfw
    have hy:=hcl b.f3 List.mem_cons_self
    have hn:=hcl b.f4 (List.mem_cons_of_mem _ List.mem_cons_self)
    have hyi:=(hgo b.f3 List.mem_cons_self).1
    have hni:=(hgo b.f4 (List.mem_cons_of_mem _ List.mem_cons_self)).1
    have hyp:=hfw b.f3 List.mem_cons_self
    have hnp:=hfw b.f4 (List.mem_cons_of_mem _ List.mem_cons_self)
    have hyl:=L.inn b.f3 hy
    have hnl:=L.inn b.f4 hn
    have hnear:=hne e3
    rw [if_neg e1,if_neg e2] at hrest
    have ht:eD b (after i) (f i)=1+(if (f i).1 then 1 else 0)+(if (f i).2 then 1 else 0):=by
     unfold eD
     rw [if_neg (fun q=>e2 q.1),if_pos e3]
    rw [ht] at hyp hnp
    generalize f i=ff at *
    obtain ⟨fy,fn⟩:=ff
    dsimp only at hrest hyp hnp hnear
    have hrl:0<rest.length:=by rw [←hrest];simp
    have hpq:PL i+(b.f0.length:Int)<p.length:=by omega
    have hi0:bg p (PL i+b.f0.length)=dV b PL (fy,fn) (PL i+b.f0.length+1):=by
     have:=hrd 0 hrl
     rw [show PL i+(b.f0.length:Int)+((0:Nat):Int)=PL i+b.f0.length by omega] at this
     rw [this]
     simp only [←hrest,List.getElem_cons_zero]
    have hf0:(dV b PL (fy,fn) (PL i+b.f0.length+1)).f0=b.f2.f0:=rfl
    have hho:hoP (dV b PL (fy,fn) (PL i+b.f0.length+1)) M1.a M1.x=hoP b.f2 M1.a M1.x:=by
     have e:=hoP_eq b.f2.f0 (dV b PL (fy,fn) (PL i+b.f0.length+1)).f1 (dV b PL (fy,fn) (PL i+b.f0.length+1)).f2 b.f2.f1 b.f2.f2 b.f2.f3 M1.a M1.x
     exact e
    -- where the two ways lead
    have hY:0≤(dV b PL (fy,fn) (PL i+b.f0.length+1)).f1∧(dV b PL (fy,fn) (PL i+b.f0.length+1)).f1<256∧(PL i+(b.f0.length:Int)+1+(dV b PL (fy,fn) (PL i+b.f0.length+1)).f1=PL b.f3∨(PL i+(b.f0.length:Int)+1≤PL i+(b.f0.length:Int)+1+(dV b PL (fy,fn) (PL i+b.f0.length+1)).f1∧PL i+(b.f0.length:Int)+1+(dV b PL (fy,fn) (PL i+b.f0.length+1)).f1<PL b.f3∧bg p (PL i+(b.f0.length:Int)+1+(dV b PL (fy,fn) (PL i+b.f0.length+1)).f1)=jaI (PL b.f3) (PL i+(b.f0.length:Int)+1+(dV b PL (fy,fn) (PL i+b.f0.length+1)).f1))):=by
     unfold dV
     dsimp only
     cases fy
     · simp only [Bool.false_eq_true,if_false] at hyp hnear ⊢
       have h5:=hnear.1 trivial
       have h6:0≤(if fn=true then (1:Int) else 0):=by split<;>omega
       rw [ng (by omega) (by omega)]
       exact ⟨by omega,by omega,.inl (by omega)⟩
     simp only [if_true] at hyp hrest ⊢
     have h6:0≤(if fn=true then (1:Int) else 0):=by split<;>omega
     refine ⟨by omega,by omega,.inr ⟨by omega,by omega,?_⟩⟩
     have h7:1<rest.length:=by rw [←hrest];simp
     have:=hrd 1 h7
     rw [show PL i+(b.f0.length:Int)+1+0=PL i+b.f0.length+((1:Nat):Int) by omega,this]
     simp only [←hrest]
     rfl
    have hN:0≤(dV b PL (fy,fn) (PL i+b.f0.length+1)).f2∧(dV b PL (fy,fn) (PL i+b.f0.length+1)).f2<256∧(PL i+(b.f0.length:Int)+1+(dV b PL (fy,fn) (PL i+b.f0.length+1)).f2=PL b.f4∨(PL i+(b.f0.length:Int)+1≤PL i+(b.f0.length:Int)+1+(dV b PL (fy,fn) (PL i+b.f0.length+1)).f2∧PL i+(b.f0.length:Int)+1+(dV b PL (fy,fn) (PL i+b.f0.length+1)).f2<PL b.f4∧bg p (PL i+(b.f0.length:Int)+1+(dV b PL (fy,fn) (PL i+b.f0.length+1)).f2)=jaI (PL b.f4) (PL i+(b.f0.length:Int)+1+(dV b PL (fy,fn) (PL i+b.f0.length+1)).f2))):=by
     unfold dV
     dsimp only
     cases fn
     · simp only [Bool.false_eq_true,if_false] at hnp hnear ⊢
       have h5:=hnear.2 trivial
       have h6:0≤(if fy=true then (1:Int) else 0):=by split<;>omega
       rw [ng (by omega) (by omega)]
       exact ⟨by omega,by omega,.inl (by omega)⟩
     simp only [if_true] at hnp hrest ⊢
     cases fy
     · simp only [Bool.false_eq_true,if_false] at hnp hrest ⊢
       refine ⟨by omega,by omega,.inr ⟨by omega,by omega,?_⟩⟩
       have h7:1<rest.length:=by rw [←hrest];simp
       have:=hrd 1 h7
       rw [show PL i+(b.f0.length:Int)+1+0=PL i+b.f0.length+((1:Nat):Int) by omega,this]
       simp only [←hrest,List.nil_append,List.getElem_cons_succ,List.getElem_cons_zero]
       rw [show PL i+(b.f0.length:Int)+1+0=PL i+b.f0.length+((1:Nat):Int) by omega]
     simp only [if_true] at hnp hrest ⊢
     refine ⟨by omega,by omega,.inr ⟨by omega,by omega,?_⟩⟩
     have h7:2<rest.length:=by rw [←hrest];simp
     have:=hrd 2 h7
     rw [show PL i+(b.f0.length:Int)+1+1=PL i+b.f0.length+((2:Nat):Int) by omega,this]
     simp only [←hrest,List.getElem_cons_succ,List.cons_append,List.nil_append,List.getElem_cons_zero]
     rw [show PL i+(b.f0.length:Int)+1+1=PL i+b.f0.length+((2:Nat):Int) by omega]
    have hvt:=fun m=>vm_test (p:=p) (pk:=pk) (at_:=PL i+b.f0.length) (M:=M1) (T:=T1) (by omega) hpq hlong hi0 (by rw [hf0];exact hjm) ⟨hY.1,hY.2.1⟩ ⟨hN.1,hN.2.1⟩ m
    rw [hho] at hvt
    have h6:0≤(if fy=true then (1:Int) else 0):=by split<;>omega
    have h7:0≤(if fn=true then (1:Int) else 0):=by split<;>omega
    by_cases hh:hoP b.f2 M1.a M1.x=true
    · obtain ⟨T2,hT2,hc⟩:=L.goTo pk hy (q:=PL i+b.f0.length) (by omega) (by omega) M1 (T1++[PL i+b.f0.length]) _ hY.2.2
      obtain ⟨v,fl,s',h1,h2,T3,h3,h4⟩:=ih b.f3 hy (by omega) M1 (s1+1) T2 (by omega) (by omega)
      rw [List.length_append,List.length_singleton] at hT2
      refine ⟨v,fl,s',?_,by omega,T3,by omega,?_⟩
      · intro k hk
        obtain ⟨k,rfl⟩:∃ r,k=r+1:=⟨k - 1,by omega⟩
        rw [hg,if_neg e1,if_neg e2,if_pos hh,w64 (by omega) (by omega)]
        exact h1 k (by omega)
      intro m hm
      obtain ⟨m',hm',e⟩:=hq m hm
      obtain ⟨m',rfl⟩:∃ r,m'=r+1:=⟨m' - 1,by omega⟩
      obtain ⟨m2,hm2,e2⟩:=hc m' (by omega)
      rw [e,hvt,if_pos hh,e2]
      exact h4 m2 hm2
    obtain ⟨T2,hT2,hc⟩:=L.goTo pk hn (q:=PL i+b.f0.length) (by omega) (by omega) M1 (T1++[PL i+b.f0.length]) _ hN.2.2
    obtain ⟨v,fl,s',h1,h2,T3,h3,h4⟩:=ih b.f4 hn (by omega) M1 (s1+1) T2 (by omega) (by omega)
    rw [List.length_append,List.length_singleton] at hT2
    refine ⟨v,fl,s',?_,by omega,T3,by omega,?_⟩
    · intro k hk
      obtain ⟨k,rfl⟩:∃ r,k=r+1:=⟨k - 1,by omega⟩
      rw [hg,if_neg e1,if_neg e2,if_neg hh,w64 (by omega) (by omega)]
      exact h1 k (by omega)
    intro m hm
    obtain ⟨m',hm',e⟩:=hq m hm
    obtain ⟨m',rfl⟩:∃ r,m'=r+1:=⟨m' - 1,by omega⟩
    obtain ⟨m2,hm2,e2⟩:=hc m' (by omega)
    rw [e,hvt,if_neg hh,e2]
    exact h4 m2 hm2
  -- a fault
  refine ⟨0,fl,s1,?_,by omega,T1,by omega,?_⟩
  · intro k hk
    obtain ⟨k,rfl⟩:∃ r,k=r+1:=⟨k - 1,by omega⟩
    rw [hg,if_neg hfl]
  intro m hm
  exact hv m (by omega)
end
theorem rch_in {g:List S47} (h:TkB g=true) {i:Int} (hr:Rch g i):0≤i∧i<(g.length:Int):=by
 induction hr with
 | zero=>have:=(gZ h).1;omega
 | step h1 h0 hl hx ih=>have:=jU h h0 hl _ hx;omega
def mkF (g:List S47) (i:Int):Int:=((ah g i).f0.length:Int)+1+(if (ah g i).f1=3 then 2 else 0)
theorem uE (g:List S47) (i:Int):1≤mkF g i:=by unfold mkF;split<;>omega
theorem uG (g:List S47) {j:Nat} (h:j<g.length):msL (g.take (j+1))=msL (g.take j)+mkF g (j:Int):=by
 have happ:∀ (l:List S47) (b:S47),msL (l++[b])=msL l+((b.f0.length:Int)+1+(if b.f1=3 then 2 else 0)):=by
  intro l b
  induction l with
  | nil=>simp [msL]
  | cons c l ih=>rw [List.cons_append,msL,msL,ih];omega
 rw [List.take_succ_eq_append_getElem h,happ]
 unfold mkF
 rw [ko h]
theorem lQ (g:List S47):∀ (d:Nat) (O:List Int),O.Pairwise (·<·)→(∀ i∈O,0≤i∧i<(d:Int))→d≤g.length→dK (mkF g) O≤msL (g.take d)
 | 0,O,hp,hO,hd=>by
  cases O with
  | nil=>simp [dK,msL]
  | cons i r=>have:=hO i List.mem_cons_self;omega
 | d+1,O,hp,hO,hd=>by
  rw [uG g (by omega)]
  have hm:=uE g (d:Int)
  by_cases hz:O=[]
  · subst hz
    have:=lQ g d [] List.Pairwise.nil (by simp) (by omega)
    simp only [dK] at this ⊢
    omega
  obtain ⟨O',x,rfl⟩:∃ O' x,O=O'++[x]:=⟨O.dropLast,O.getLast hz,(List.dropLast_concat_getLast hz).symm⟩
  have hp2:=List.pairwise_append.1 hp
  rw [gB]
  have hx:=hO x (by simp)
  have hlt:∀ i∈O',i<x:=fun i hi=>hp2.2.2 i hi x (List.mem_singleton.2 rfl)
  by_cases e:x=(d:Int)
  · have:=lQ g d O' hp2.1 (fun i hi=>⟨(hO i (List.mem_append_left _ hi)).1,by have:=hlt i hi;omega⟩) (by omega)
    rw [e]
    simp only [dK]
    omega
  have:=lQ g d (O'++[x]) hp (fun i hi=>by
   refine ⟨(hO i hi).1,?_⟩
   rcases List.mem_append.1 hi with h | h
   · have:=hlt i h;omega
   rw [List.mem_singleton.1 h];omega) (by omega)
  rw [gB] at this
  omega
theorem rA {s t:Int→Int} (h:∀ i,s i≤t i):∀ l:List Int,dK s l≤dK t l
 | []=>Int.le_refl _
 | i :: r=>by have:=rA h r;have:=h i;unfold dK;omega
theorem lay_of {g:List S47} (htk:TkB g=true) (hms:msL g≤4096) {R:List Bool} (hR:R.length=g.length) (hrch:∀ i:Int,0≤i→i<g.length→(dI false R i=true↔Rch g i))
 {k:Nat} {PL:Int→Int} {f:Int→Bool × Bool} (hp:kW g (bC R g.length).2 (bC R g.length).1 k (fun _=>(false,false))=some (PL,f)) :
 Lay g (bC R g.length).1 (bC R g.length).2 PL f (kF g (bC R g.length).2 PL f (bC R g.length).1 [])∧((kF g (bC R g.length).2 PL f (bC R g.length).1 []).length:Int)≤msL g:=by
 obtain ⟨hsort,hmem,hbig,haft⟩:=kE R g.length
 obtain ⟨hPL,hfr⟩:=oQ g _ _ PL f k _ hp
 clear hp
 generalize (bC R g.length).1=O at *
 generalize (bC R g.length).2=after at *
 have hdom:∀ i∈O,0≤i∧i<(g.length:Int):=fun i hi=>⟨((hmem i).1 hi).1,((hmem i).1 hi).2.1⟩
 have hO:∀ i:Int,Rch g i→i∈O:=by
  intro i hi
  have:=rch_in htk hi
  exact (hmem i).2 ⟨this.1,this.2,(hrch i this.1 this.2).2 hi⟩
 have hRch:∀ i∈O,Rch g i:=fun i hi=>(hrch i (hdom i hi).1 (hdom i hi).2).1 ((hmem i).1 hi).2.2
 have hkind:∀ i∈O,(ah g i).f1=1∨(ah g i).f1=2∨(ah g i).f1=3:=fun i hi=>iC (jd htk (eU (hdom i hi).1 (hdom i hi).2)).2.2
 have hsum:dK (szF g after f) O≤msL g:=by
  refine Int.le_trans (rA (t:=mkF g) (fun i=>?_) O) ?_
  · have:=(lC (ah g i) (after i) (f i)).2
    unfold szF mkF;omega
  have:=lQ g g.length O hsort hdom (Nat.le_refl _)
  rwa [List.take_length] at this
 have hnn:=qC g after f
 have hplace:∀ (m:Nat) (h:m<O.length),PL O[m]=dK (szF g after f) (O.take m):=by
  intro m h
  have:=rq g after f O 0 (fun _=>0) hsort (Int.le_refl _) (by omega) m h
  rw [←hPL] at this
  omega
 have hidx:∀ i∈O,∃ (m:Nat) (h:m<O.length),O[m]=i:=fun i hi=>List.getElem_of_mem hi
 have hinc:∀ i∈O,∀ x∈O,i<x→PL i+szF g after f i≤PL x:=by
  intro i hi x hx hix
  obtain ⟨m,hm,rfl⟩:=hidx i hi
  obtain ⟨m2,hm2,rfl⟩:=hidx x hx
  have hmm:m<m2:=by
   rcases Nat.lt_trichotomy m m2 with h | h | h
   · exact h
   · subst h;omega
   have:=List.pairwise_iff_getElem.1 hsort m2 m hm2 hm h;omega
  rw [hplace m hm,hplace m2 hm2,←jr hm]
  exact gY (fun i _=>hnn i) hmm
 obtain ⟨_,hlen,hblk⟩:=rG g after PL f O [] hkind
 rw [List.length_nil] at hlen
 have h0O:(0:Int)∈O:=hO 0 .zero
 have hOl:0<O.length:=List.length_pos_of_mem h0O
 have hgo:∀ i∈O,∀ x∈cz (ah g i),i<x∧x∈O:=fun i hi x hx=>
  ⟨(jU htk (hdom i hi).1 (hdom i hi).2 x hx).1,hO x (.step (hRch i hi) (hdom i hi).1 (hdom i hi).2 hx)⟩
 -- the last one returns
 have hlast1:(ah g (O[O.length - 1]'(by omega))).f1=1:=by
  have hmem1:O[O.length - 1]'(by omega)∈O:=List.getElem_mem _
  have hmax:∀ x∈O,x≤O[O.length - 1]'(by omega):=by
   intro x hx
   obtain ⟨m,hm,rfl⟩:=hidx x hx
   by_cases e:m=O.length - 1
   · subst e;exact Int.le_refl _
   have:=List.pairwise_iff_getElem.1 hsort m (O.length - 1) hm (by omega) (by omega);omega
  rcases hkind _ hmem1 with h | h | h
  · exact h
  · have:=hgo _ hmem1 (ah g (O[O.length - 1]'(by omega))).f3 (by unfold cz;rw [if_pos h];exact List.mem_cons_self)
    have:=hmax _ this.2;omega
  have:=hgo _ hmem1 (ah g (O[O.length - 1]'(by omega))).f3 (by unfold cz;rw [if_neg (by omega),if_pos h];exact List.mem_cons_self)
  have:=hmax _ this.2;omega
 have htake:dK (szF g after f) O=PL (O[O.length - 1]'(by omega))+szF g after f (O[O.length - 1]'(by omega)):=by
  rw [hplace _ (by omega),←jr (by omega),show O.length - 1+1=O.length by omega,List.take_length]
 have hszl:szF g after f (O[O.length - 1]'(by omega))=((ah g (O[O.length - 1]'(by omega))).f0.length:Int)+1:=by
  unfold szF eD
  rw [if_neg (fun q=>by have:=q.1;omega),if_neg (by omega)]
 have hfirst:PL 0=0:=by
  obtain ⟨m,hm,e⟩:=hidx 0 h0O
  have hm0:m=0:=by
   by_cases h:m=0
   · exact h
   have:=List.pairwise_iff_getElem.1 hsort 0 m (by omega) hm (by omega)
   have:=hdom O[0] (List.getElem_mem _)
   omega
  subst hm0
  have h9:=hplace 0 hm
  rw [e] at h9
  exact h9
 refine ⟨⟨htk,h0O,hfirst,hdom,fun i hi x hx=>(hgo i hi x hx).2,?_,fun i hi x hx=>hinc i hi x (hgo i hi x hx).2 (hgo i hi x hx).1,?_,by omega,?_,?_,?_,?_⟩,by omega⟩
 · intro i hi
   obtain ⟨m,hm,rfl⟩:=hidx i hi
   obtain ⟨A,B,e,l⟩:=hblk m hm
   have hA:(A.length:Int)=PL O[m]:=by rw [hplace m hm,l,List.length_nil];omega
   rw [hA] at e
   exact ⟨A,B,e,hA⟩
 · intro i hi h2 h3
   obtain ⟨m,hm,rfl⟩:=hidx i hi
   have hg:=hgo _ hi (ah g O[m]).f3 (by unfold cz;rw [if_pos h2];exact List.mem_cons_self)
   have ha:=haft m hm
   have hd0:=(hdom _ hi).1
   by_cases hm1:m+1<O.length
   · rw [dif_pos hm1] at ha
     rw [ha,hplace (m+1) hm1,jr hm,←hplace m hm]
     unfold szF eD
     rw [if_pos ⟨h2,h3⟩]
     omega
   rw [dif_neg hm1] at ha
   omega
 · intro i hi
   obtain ⟨m,hm,rfl⟩:=hidx i hi
   rw [hplace m hm,hlen]
   have h1:dK (szF g after f) (O.take m)≤dK (szF g after f) (O.take (O.length - 1)):=gY (fun i _=>hnn i) (by omega)
   rw [←hplace (O.length - 1) (by omega)] at h1
   omega
 · intro i hi h3
   have e:=hfr i hi h3
   have hgl:cz (ah g i)=[(ah g i).f3,(ah g i).f4]:=by unfold cz;rw [if_neg (by omega),if_pos h3]
   have hy:=hgo i hi _ (by rw [hgl];exact List.mem_cons_self)
   have hn:=hgo i hi _ (by rw [hgl];exact List.mem_cons_of_mem _ List.mem_cons_self)
   have hpos:∀ x∈O,0≤PL x∧PL x≤4096:=by
    intro x hx
    obtain ⟨m,hm,rfl⟩:=hidx x hx
    rw [hplace m hm]
    have a:=lw (s:=szF g after f) (l:=O.take m) (fun i _=>hnn i)
    have b:=gY (s:=szF g after f) (l:=O) (fun i _=>hnn i) (show m≤O.length by omega)
    rw [List.take_length] at b
    omega
   have h1:=hpos i hi
   have h2:=hpos _ hy.2
   have h4:=hpos _ hn.2
   have h5:=(jd htk (eU (hdom i hi).1 (hdom i hi).2)).1
   unfold gU at e
   rw [w64 (n:=PL i+((ah g i).f0.length:Int)) (by omega) (by omega),w64 (n:=PL (ah g i).f3 - (PL i+((ah g i).f0.length:Int))) (by omega) (by omega),w64 (n:=PL (ah g i).f4 - (PL i+((ah g i).f0.length:Int))) (by omega) (by omega),w64 (n:=PL (ah g i).f3 - (PL i+((ah g i).f0.length:Int)) - 1) (by omega) (by omega),w64 (n:=PL (ah g i).f4 - (PL i+((ah g i).f0.length:Int)) - 1) (by omega) (by omega)] at e
   constructor
   · intro q
     have e1:=congrArg Prod.fst e
     simp only at e1
     rw [q,Bool.false_or] at e1
     have:=of_decide_eq_false e1
     omega
   intro q
   have e1:=congrArg Prod.snd e
   simp only at e1
   rw [q,Bool.false_or] at e1
   have:=of_decide_eq_false e1
   omega
 · intro t ht
   -- the block in which the place t lies
   have hcov:∀ m:Nat,m≤O.length→(t:Int)<dK (szF g after f) (O.take m)→∃ (q:Nat) (h:q<O.length),dK (szF g after f) (O.take q)≤t∧(t:Int)<dK (szF g after f) (O.take (q+1)):=by
    intro m
    induction m with
    | zero=>intro _ h;simp [dK] at h;omega
    | succ m ih=>
     intro hm h
     by_cases h2:(t:Int)<dK (szF g after f) (O.take m)
     · exact ih (by omega) h2
     exact ⟨m,by omega,by omega,h⟩
   obtain ⟨q,hq,h1,h2⟩:=hcov O.length (Nat.le_refl _) (by rw [List.take_length];omega)
   rw [jr hq,←hplace q hq] at h2
   rw [←hplace q hq] at h1
   refine ⟨O[q],List.getElem_mem _,((t:Int) - PL O[q]).toNat,?_,by omega⟩
   have:=nD (ah g O[q]) (after O[q]) PL (f O[q]) (PL O[q]) (hkind _ (List.getElem_mem _))
   unfold szF at h2
   omega
 exact ⟨O[O.length - 1]'(by omega),List.getElem_mem _,hlast1,by omega⟩
theorem rJ {α:Type} (l r:List α) (j:Nat) (h:j<(l++r).length):(∃ h1:j<l.length,(l++r)[j]=l[j])∨∃ (q:Nat) (hq:q<r.length),j=l.length+q∧(l++r)[j]=r[q]:=by
 by_cases h1:j<l.length
 · exact .inl ⟨h1,List.getElem_append_left h1⟩
 rw [List.length_append] at h
 exact .inr ⟨j - l.length,by omega,by omega,List.getElem_append_right (by omega)⟩
def okI (p:List S45) (t:Nat) (i:S45):Prop:=
 flF i.f0 i.f3=0∧(i.f0=5→0≤i.f3∧i.f3<(p.length:Int) - 1 - t)∧(jmB i.f0=true→0≤i.f1∧i.f1<(p.length:Int) - 1 - t∧0≤i.f2∧i.f2<(p.length:Int) - 1 - t)
theorem check_l (p:List S45) (hp:p.length≤4096) (h0:0<p.length) (hI:∀ (t:Nat) (h:t<p.length),okI p t p[t]) (hr:reB (p[p.length - 1]'(by omega)).f0=true):∀ (d t:Nat),p.length - t=d→t≤p.length→∀ k,d+10≤k→bf.l0 k p (p.length:Int) (t:Int)=some (0,0):=by
 intro d
 induction d with
 | zero=>
  intro t hd ht k hk
  obtain ⟨k,rfl⟩:∃ m,k=m+1:=⟨k - 1,by omega⟩
  have hl:bg p ((p.length:Int) - 1)=p[p.length - 1]'(by omega):=by
   have:=fV (c:=p) (j:=p.length - 1) (by omega)
   rw [show ((p.length - 1:Nat):Int)=(p.length:Int) - 1 by omega] at this
   exact this
  rw [bf.l0,if_neg (by omega),w64 (n:=(p.length:Int) - 1) (by omega) (by omega),if_pos (by omega),if_pos (by omega),hl,uV,hr]
  rfl
 | succ d ih=>
  intro t hd ht k hk
  obtain ⟨k,rfl⟩:∃ m,k=m+9:=⟨k - 9,by omega⟩
  have hlt:t<p.length:=by omega
  obtain ⟨o1,o2,o3⟩:=hI t hlt
  have hnext:=ih (t+1) (by omega) (by omega) (k+8) (by omega)
  rw [show ((t+1:Nat):Int)=(t:Int)+1 by omega] at hnext
  rw [bf.l0,if_pos (by omega),if_pos (by omega),if_pos (by omega),fV hlt,fault_f,Option.bind_some,if_pos o1,uz,Option.bind_some,w64 (n:=(p.length:Int) - 1) (by omega) (by omega),w64 (n:=(p.length:Int) - 1 - t) (by omega) (by omega),w64 (n:=(t:Int)+1) (by omega) (by omega),hnext]
  by_cases c5:(p[t]).f0=5
  · have:=o2 c5
    rw [if_pos c5,if_neg (by omega)]
    have hj:jmB (p[t]).f0=false:=by rw [c5];rfl
    rw [hj,if_neg (by decide)]
  rw [if_neg c5]
  cases hj:jmB (p[t]).f0
  · rw [if_neg (by decide)]
  have:=o3 hj
  rw [if_pos rfl,w64 (n:=(p[t]).f1) (by omega) (by omega),w64 (n:=(p[t]).f2) (by omega) (by omega),if_neg (by omega),if_neg (by omega)]
theorem tH (p:List S45) (hp:p.length≤4096) (h0:0<p.length) (hI:∀ (t:Nat) (h:t<p.length),okI p t p[t]) (hr:reB (p[p.length - 1]'(by omega)).f0=true) (k:Nat) (hk:10000≤k):bf.f k p=some (0,0):=by
 unfold bf.f
 rw [if_neg (by omega),if_neg (by omega)]
 exact check_l p hp h0 hI hr p.length 0 rfl (by omega) k (by omega)
section
variable {g:List S47} {O:List Int} {after PL:Int→Int} {f:Int→Bool × Bool} {p:List S45}
theorem Lay.each (L:Lay g O after PL f p) (hk:∀ b∈g,(∀ i∈b.f0,0≤i.f3)∧0≤b.f2.f3) (t:Nat) (h:t<p.length):okI p t p[t]∧0≤(p[t]).f3:=by
 obtain ⟨i,hi,j,hj,htj⟩:=L.cover t h
 obtain ⟨A,B,hp,hA⟩:=L.place i hi
 have hdom:=L.dom i hi
 have hlong:=L.long
 have hgt:p[t]=(bcF (ah g i) (after i) PL (f i) (PL i))[j]:=by
  have e1:=fV h
  have e2:=jN (A:=A) (c:=bcF (ah g i) (after i) PL (f i) (PL i)) (B:=B) hj
  rw [←hp,hA,←htj,e1] at e2
  exact e2
 have hmem:=eU hdom.1 hdom.2
 obtain ⟨hlen,hcode,hend⟩:=jd L.tk hmem
 have hkb:=hk _ hmem
 have hcl:=L.closed i hi
 have hfw:=L.fwd i hi
 have hne:=L.near i hi
 have hpl:=L.pos hi
 have hbl:=nD (ah g i) (after i) PL (f i) (PL i) (iC hend)
 have hszf:szF g after f i=((ah g i).f0.length:Int)+eD (ah g i) (after i) (f i):=rfl
 rw [hszf,←hbl] at hfw
 have hbp:((bcF (ah g i) (after i) PL (f i) (PL i)).length:Int)+PL i≤p.length:=by rw [hp];simp;omega
 rw [hgt]
 clear hgt hp hszf hmem
 have hinn:=L.inn
 generalize ah g i=b at *
 generalize hff:f i=ff at *
 obtain ⟨fy,fn⟩:=ff
 rcases rJ b.f0 _ j hj with ⟨hjl,e⟩ | ⟨r,hr,hjr,e⟩
 · have e':(bcF b (after i) PL (fy,fn) (PL i))[j]=b.f0[j]:=e
   rw [e']
   have hs:=(List.all_eq_true.1 hcode) _ (List.getElem_mem hjl)
   obtain ⟨n6,n22,n5,nj,nf⟩:=nZ hs
   exact ⟨⟨nf,fun q=>absurd q n5,fun q=>by rw [nj] at q;cases q⟩,hkb.1 _ (List.getElem_mem hjl)⟩
 dsimp only at hr e
 have e':(bcF b (after i) PL (fy,fn) (PL i))[j]=_:=e
 rw [e']
 clear e e'
 have hja:∀ (x:Int),x∈cz b→∀ at_:Int,at_=t→okI p t (jaI (PL x) at_)∧0≤(jaI (PL x) at_).f3:=by
  intro x hx at_ ha
  have h1:=hfw x hx
  have h2:=hinn x (hcl x hx)
  have h3:=uy (tt:=PL x) (here:=at_) (by omega) (by omega) (by omega)
  rw [h3]
  refine ⟨⟨rfl,fun _=>by rw [h3];omega,fun q=>by rw [show (jaI (PL x) at_).f0=5 from rfl] at q;exact absurd q (by decide)⟩,by omega⟩
 by_cases e1:b.f1=1
 · simp only [if_pos e1] at hr ⊢
   obtain rfl:r=0:=by simpa using hr
   have hre:reB b.f2.f0=true:=by
    unfold gG at hend
    rw [if_pos e1] at hend
    simp only [Bool.and_eq_true] at hend
    exact hend.1.1.1
   have hn:=re_not hre
   exact ⟨⟨fl_re _ hre,fun q=>absurd q hn.2,fun q=>by rw [List.getElem_cons_zero,hn.1] at q;cases q⟩,hkb.2⟩
 by_cases e2:b.f1=2
 · simp only [if_neg e1,if_pos e2] at hr ⊢
   by_cases ea:b.f3=after i
   · simp only [if_pos ea,List.length_nil] at hr
     omega
   simp only [if_neg ea] at hr ⊢
   obtain rfl:r=0:=by simpa using hr
   exact hja b.f3 (by unfold cz;rw [if_pos e2];exact List.mem_cons_self) _ (by omega)
 have e3:b.f1=3:=by have:=iC hend;omega
 have hjm:jmB b.f2.f0=true:=by
  unfold gG at hend
  rw [if_neg e1,if_neg e2,if_pos e3] at hend
  simp only [Bool.and_eq_true] at hend
  exact hend.1
 have hgl:cz b=[b.f3,b.f4]:=by unfold cz;rw [if_neg e2,if_pos e3]
 have hy:b.f3∈cz b:=by rw [hgl];exact List.mem_cons_self
 have hn:b.f4∈cz b:=by rw [hgl];exact List.mem_cons_of_mem _ List.mem_cons_self
 have hyp:=hfw _ hy
 have hnp:=hfw _ hn
 have hyi:=hinn _ (hcl _ hy)
 have hni:=hinn _ (hcl _ hn)
 have hnear:=hne e3
 have hbl2:((bcF b (after i) PL (fy,fn) (PL i)).length:Int)=(b.f0.length:Int)+1+(if fy then 1 else 0)+(if fn then 1 else 0):=by
  rw [hbl];unfold eD;rw [if_neg (fun q=>e2 q.1),if_pos e3];dsimp only;omega
 rw [hbl2] at hyp hnp hbp
 simp only [if_neg e1,if_neg e2] at hr ⊢
 have h6:0≤(if fy=true then (1:Int) else 0):=by split<;>omega
 have h7:0≤(if fn=true then (1:Int) else 0):=by split<;>omega
 cases r with
 | zero=>
  rw [List.getElem_cons_zero]
  refine ⟨⟨fl_jm _ hjm,fun q=>absurd q (nQ hjm),fun _=>?_⟩,hkb.2⟩
  unfold dV
  dsimp only
  cases fy<;>cases fn<;>simp only [Bool.false_eq_true,if_false,if_true] at hyp hnp hbp hnear ⊢
  · have a:=hnear.1 trivial
    have b:=hnear.2 trivial
    rw [ng (by omega) (by omega),ng (by omega) (by omega)]
    omega
  · have a:=hnear.1 trivial
    rw [ng (by omega) (by omega)]
    omega
  · have b:=hnear.2 trivial
    rw [ng (by omega) (by omega)]
    omega
  omega
 | succ r=>
  simp only [List.getElem_cons_succ]
  rw [List.length_cons] at hr
  cases fy<;>cases fn<;>simp only [Bool.false_eq_true,if_false,if_true,List.nil_append,List.append_nil,List.cons_append,List.length_cons,List.length_nil,Int.add_zero] at hr ⊢
  · omega
  · obtain rfl:r=0:=by omega
    exact hja b.f4 hn _ (by omega)
  · obtain rfl:r=0:=by omega
    exact hja b.f3 hy _ (by omega)
  cases r with
  | zero=>exact hja b.f3 hy _ (by omega)
  | succ r=>
   obtain rfl:r=0:=by omega
   exact hja b.f4 hn _ (by omega)
theorem Lay.ends (L:Lay g O after PL f p):∃ h:0<p.length,reB (p[p.length - 1]'(by omega)).f0=true:=by
 obtain ⟨i,hi,h1,hl⟩:=L.last
 obtain ⟨A,B,hp,hA⟩:=L.place i hi
 have hpos:=L.pos hi
 have hdom:=L.dom i hi
 refine ⟨by omega,?_⟩
 have hbc:(bcF (ah g i) (after i) PL (f i) (PL i))=(ah g i).f0++[(ah g i).f2]:=by unfold bcF;rw [if_pos h1]
 have e1:=fV (c:=p) (j:=p.length - 1) (by omega)
 have e2:=jN (A:=A) (c:=bcF (ah g i) (after i) PL (f i) (PL i)) (B:=B) (j:=(ah g i).f0.length) (by rw [hbc];simp)
 rw [←hp,hA,show PL i+((ah g i).f0.length:Int)=((p.length - 1:Nat):Int) by omega,e1] at e2
 rw [e2]
 simp only [hbc,List.getElem_append_right (Nat.le_refl _),Nat.sub_self,List.getElem_cons_zero]
 obtain ⟨_,_,hend⟩:=jd L.tk (eU hdom.1 hdom.2)
 unfold gG at hend
 rw [if_pos h1] at hend
 simp only [Bool.and_eq_true] at hend
 exact hend.1.1.1
theorem Lay.check (L:Lay g O after PL f p) (hk:∀ b∈g,(∀ i∈b.f0,0≤i.f3)∧0≤b.f2.f3) (k:Nat) (hk2:10000≤k):bf.f k p=some (0,0):=by
 obtain ⟨h0,hr⟩:=L.ends
 exact tH p L.long h0 (fun t h=>(L.each hk t h).1) hr k hk2
theorem Lay.code (L:Lay g O after PL f p) (hk:∀ b∈g,(∀ i∈b.f0,0≤i.f3)∧0≤b.f2.f3) (pk:List Int) (hpk:pk.length≤65536) (k:Nat) (hk2:10000≤k):dX.f k p pk=some 0:=by
 unfold dX.f
 rw [L.check hk k hk2,Option.bind_some,if_pos rfl,if_neg (by omega)]
theorem Lay.k0 (L:Lay g O after PL f p) (hk:∀ b∈g,(∀ i∈b.f0,0≤i.f3)∧0≤b.f2.f3):∀ i∈p,0≤i.f3:=by
 intro i hi
 obtain ⟨t,h,rfl⟩:=List.getElem_of_mem hi
 exact (L.each hk t h).2
theorem Lay.runs (L:Lay g O after PL f p) (pk:List Int):∃ v fl s,ib g pk 5000 0 z16 0=some (v,fl,s)∧∃ T:List Int,s≤(T.length:Int)∧dL p pk 5000 0 z16 []=some (v,fl,T):=by
 have h2:=(gZ L.tk).2.1
 obtain ⟨v,fl,s,h1,_,T,h3,h4⟩:=L.sim pk g.length 0 L.zero (by omega) z16 0 [] (Int.le_refl _) (by rw [L.pl0];omega)
 refine ⟨v,fl,s,h1 5000 (by omega),T,by rw [List.length_nil] at h3;omega,?_⟩
 have:=h4 5000 (by rw [L.pl0];have:=L.long;omega)
 rwa [L.pl0] at this
end
def asV (gw gn:Nat):Array Value:=#[.func (.func 142) #[] #[.pointer (some ⟨gw,0,none⟩)],.func (.func 144) #[] #[.pointer (some ⟨gw,0,none⟩)],.func (.func 146) #[] #[.pointer (some ⟨gw,0,none⟩)],.func (.func 147) #[] #[.pointer (some ⟨gw,0,none⟩)],.func (.func 148) #[] #[.pointer (some ⟨gw,0,none⟩),.pointer (some ⟨gn,0,none⟩)]]
structure AQ (w:World) (ga gw gn:Nat) (n:Int):Prop where
  qa:w.heap[ga]?=some (.cells (asV gw gn) 138 (0,0))
  qw:w.heap[gw]?=some (.cells whV 171 (0,0))
  qn:w.heap[gn]?=some (.cells #[.int .i64 n] 3 (0,0))
theorem AQ.below {w w1:World} {ga gw gn:Nat} {n:Int} (h:AQ w ga gw gn n) (hb:Below w.heap.size w w1):AQ w1 ga gw gn n:=⟨au h.qa hb,au h.qw hb,au h.qn hb⟩
theorem ow (w:World) (n:Int):Calls Try.prog 98 #[.int .i64 n] w fun e w'=>∃ ga gw gn:Nat,e = .returned (.slice (some ⟨ga,0,none⟩) 5 5)∧AQ w' ga gw gn n∧Below w.heap.size w w':=by
  go_enter Try.func98,Try.ntmps98
  go_wp2
  go_ret
  exact ⟨w.heap.size+1+1,w.heap.size+1,w.heap.size,rfl,⟨nw3 w _ _ _,au (nw2 w _ _) (ai (Below.refl _ _) _),au (au (heap_alloc_new _ _) (ai (Below.refl _ _) _)) (ai (Below.refl _ _) _)⟩,ai (ai (ai (Below.refl _ _) _) _) _⟩
structure PrG (p:List S45):Prop where
  some_:0<p.length
  few:p.length≤4096
  ok:∀ (t:Nat) (h:t<p.length),okI p t p[t]∧Rg (p[t]).f3
  re:∀ b,p[p.length - 1]?=some b→reB b.f0=true
structure QI (n t:Int) (b:S45):Prop where
  kn:kn b.f0=true
  mem:(b.f0=2∨b.f0=3∨b.f0=96∨b.f0=97)→b.f3<16
  div:(b.f0=52∨b.f0=148)→b.f3≠0
  sh:(b.f0=100∨b.f0=116)→b.f3≤31
  rg:Rg b.f3
  ja:b.f0=5→b.f3<n - 1 - t
  jm:jmB b.f0=true→0≤b.f1∧b.f1<n - 1 - t∧0≤b.f2∧b.f2<n - 1 - t
theorem fl_out {c K:Int} (h:flF c K=0):kn c=true∧((c=2∨c=3∨c=96∨c=97)→K<16)∧((c=52∨c=148)→K≠0)∧((c=100∨c=116)→K≤31):=by
  unfold flF at h
  cases hk:kn c
  · rw [hk,if_neg (by decide)] at h;cases h
  rw [hk,if_pos rfl] at h
  by_cases a:(c=2∨c=3∨c=96∨c=97)∧K≥16
  · rw [if_pos a] at h;cases h
  rw [if_neg a] at h
  by_cases b:(c=52∨c=148)∧K=0
  · rw [if_pos b] at h;cases h
  rw [if_neg b] at h
  by_cases d:(c=100∨c=116)∧K>31
  · rw [if_pos d] at h;cases h
  exact ⟨rfl,fun q=>by (by_cases e:K<16;exact e;exact absurd ⟨q,by omega⟩ a),fun q e=>b ⟨q,e⟩,fun q=>by (by_cases e:K≤31;exact e;exact absurd ⟨q,by omega⟩ d)⟩
theorem PrG.qi {p:List S45} (h:PrG p) {t:Nat} {b:S45} (hb:p[t]?=some b):QI p.length t b:=by
  obtain ⟨h1,rfl⟩:=List.getElem?_eq_some_iff.1 hb
  obtain ⟨⟨a,b,c⟩,d⟩:=h.ok t h1
  obtain ⟨e1,e2,e3,e4⟩:=fl_out a
  exact ⟨e1,e2,e3,e4,d,fun q=>(b q).2,c⟩
theorem lI (w:World) (p:List S45) (A:Option Addr) (c:Nat) (HP:Kd.C k45 w A p.length p) (hc:p.length≤c) (hp:PrG p) :
    Calls Try.prog 65 #[.slice A p.length c] w fun e w'=>e = .returned (.tuple #[.int .i64 0,.int .i64 0])∧Below w.heap.size w w':=by
  obtain ⟨n,en⟩:∃ n,n=p.length:=⟨_,rfl⟩
  have h0:=hp.some_
  have h1:=hp.few
  have HC:=aa.mk HP
  have HPG:=aa.mk hp
  have EN:=aa.mk en
  rw [←en] at h0 h1 HC ⊢
  clear HP hc hp en
  go_enter Try.func65,Try.ntmps65
  go_wp2
  go_step3
  go_upto_region 6 with (go_at_call 98;refine (ow w _).mono ?_;rintro e X ⟨ga,gw,gn,rfl,hq,hb⟩;have HQ:=aa.mk hq;have HB:=aa.mk hb;clear hq hb)
  go_wp2
  go_step3
  go_wp2
  go_loopw [5,6,23] (fun v5 v6 v23 wr=>∃ i:Nat,i≤n∧v23 = .int .i64 i∧v5 = .int .i64 0∧v6 = .int .i64 0∧aa (AQ wr ga gw gn n∧Below w.heap.size w wr)) (fun _ _ v23 _=>n - (intOf v23).toNat)
  case atStart=>exact ⟨0,Nat.zero_le _,rfl,rfl,rfl,⟨HQ.out,HB.out⟩⟩
  case round=>
    clear HQ HB
    obtain ⟨i,hi,rfl,rfl,rfl,HQ⟩:=hrel
    obtain ⟨X,rfl⟩:∃ X:World,X=wr:=⟨_,rfl⟩
    by_cases hlt:i<n
    · obtain ⟨b,hb⟩:∃ b,p[i]?=some b:=⟨_,List.getElem?_eq_getElem (by rw [←EN.out];exact hlt)⟩
      have hrd:bg p (i:Int)=b:=by
        obtain ⟨h1,h2⟩:=List.getElem?_eq_some_iff.1 hb
        rw [fV h1,h2]
      have i0:(0:Int)≤(i:Int):=by omega
      have i1:(i:Int)<(n:Int):=by omega
      have HBX:aa (Below w.heap.size w X):=⟨HQ.out.2⟩
      obtain ⟨ad,rfl,x0,x1,x2,x3,-,-⟩:=fK HC HBX (i:Int) (decide_eq_true i0) (decide_eq_true i1)
      rw [hrd,Int.toNat_natCast] at x0 x1 x2 x3
      have hqi:=HPG.out.qi hb
      rw [←EN.out] at hqi
      have HI:=aa.mk hqi
      obtain ⟨cc,b1,b2,k⟩:=b
      dsimp only at x0 x1 x2 x3
      clear hb hrd hqi HBX
      go_upto_region 10 with (fail)
      refine forget (fun Y=>∃ gi,gi=X.heap.size∧Below X.heap.size X Y∧BX Y gi gw 171 cc b1 b2 k whV) ⟨_,rfl,ai (Below.refl _ _) _,heap_alloc_new _ _,au HQ.out.1.qw (ai (Below.refl _ _) _)⟩ ?_
      clear x0 x1 x2 x3
      rintro Y ⟨gi,egi,hb,hx⟩
      rw [←egi]
      have HY:aa (AQ Y ga gw gn n∧Below w.heap.size w Y∧BX Y gi gw 171 cc b1 b2 k whV):=⟨HQ.out.1.below hb,ak HQ.out.2 hb,hx⟩
      clear egi hb hx HQ
      go_wp2
      go_loopw [5,6,30] (fun v5 v6 v30 wr=>∃ j:Nat,j≤5∧v30 = .int .i64 j∧v5 = .int .i64 0∧v6 = .int .i64 0∧aa (AQ wr ga gw gn n∧Below w.heap.size w wr∧BX wr gi gw 171 cc b1 b2 k whV)) (fun _ _ v30 _=>5 - (intOf v30).toNat)
      case atStart=>exact ⟨0,by omega,rfl,rfl,rfl,HY⟩
      case round=>
        clear HY
        obtain ⟨j,hj,rfl,rfl,rfl,HY⟩:=hrel
        obtain ⟨Z,rfl⟩:∃ Z:World,Z=wr:=⟨_,rfl⟩
        have k0:=HY.out.2.2.k0
        have k1:=HY.out.2.2.k1
        have k2:=HY.out.2.2.k2
        have k3:=HY.out.2.2.k3
        by_cases hlt5:j<5
        · have j0:(0:Int)≤(j:Int):=by omega
          have j1:(j:Int)<5:=by omega
          have hcase:j=0∨j=1∨j=2∨j=3∨j=4:=by omega
          rcases hcase with hj0 | hj0 | hj0 | hj0 | hj0
          · have pc:Z.cell? ⟨ga,j,none⟩=some (.func (.func 142) #[] #[.pointer (some ⟨gw,0,none⟩)]):=(ag HY.out.1.qa j).trans (by rw [hj0];rfl)
            clear hj0
            go_wp2_with (go_at_call 142;refine (pK Z gw _ cc b1 b2 k HY.out.2.2.cm HI.out.kn).mono ?_;rintro e V ⟨rfl,hb⟩;have HV:aa (AQ V ga gw gn n∧Below w.heap.size w V∧BX V gi gw 171 cc b1 b2 k whV):=⟨HY.out.1.below hb,ak HY.out.2.1 hb,HY.out.2.2.below hb⟩;clear hb)
            clear pc k0 k1 k2 k3 HY
            go_roundw
            case rel=>exact ⟨j+1,by omega,by go_num,rfl,rfl,HV⟩
            case measure=>simp [intOf];omega
          · have pc:Z.cell? ⟨ga,j,none⟩=some (.func (.func 144) #[] #[.pointer (some ⟨gw,0,none⟩)]):=(ag HY.out.1.qa j).trans (by rw [hj0];rfl)
            clear hj0
            go_wp2_with (go_at_call 144;refine (pM Z gw _ cc b1 b2 k HY.out.2.2.cm HI.out.mem).mono ?_;rintro e V ⟨rfl,hb⟩;have HV:aa (AQ V ga gw gn n∧Below w.heap.size w V∧BX V gi gw 171 cc b1 b2 k whV):=⟨HY.out.1.below hb,ak HY.out.2.1 hb,HY.out.2.2.below hb⟩;clear hb)
            clear pc k0 k1 k2 k3 HY
            go_roundw
            case rel=>exact ⟨j+1,by omega,by go_num,rfl,rfl,HV⟩
            case measure=>simp [intOf];omega
          · have pc:Z.cell? ⟨ga,j,none⟩=some (.func (.func 146) #[] #[.pointer (some ⟨gw,0,none⟩)]):=(ag HY.out.1.qa j).trans (by rw [hj0];rfl)
            clear hj0
            go_wp2_with (go_at_call 146;refine (pO Z gw _ cc b1 b2 k HY.out.2.2.cm HI.out.div).mono ?_;rintro e V ⟨rfl,hb⟩;have HV:aa (AQ V ga gw gn n∧Below w.heap.size w V∧BX V gi gw 171 cc b1 b2 k whV):=⟨HY.out.1.below hb,ak HY.out.2.1 hb,HY.out.2.2.below hb⟩;clear hb)
            clear pc k0 k1 k2 k3 HY
            go_roundw
            case rel=>exact ⟨j+1,by omega,by go_num,rfl,rfl,HV⟩
            case measure=>simp [intOf];omega
          · have pc:Z.cell? ⟨ga,j,none⟩=some (.func (.func 147) #[] #[.pointer (some ⟨gw,0,none⟩)]):=(ag HY.out.1.qa j).trans (by rw [hj0];rfl)
            clear hj0
            go_wp2_with (go_at_call 147;refine (pQ Z gw _ cc b1 b2 k HY.out.2.2.cm HI.out.sh).mono ?_;rintro e V ⟨rfl,hb⟩;have HV:aa (AQ V ga gw gn n∧Below w.heap.size w V∧BX V gi gw 171 cc b1 b2 k whV):=⟨HY.out.1.below hb,ak HY.out.2.1 hb,HY.out.2.2.below hb⟩;clear hb)
            clear pc k0 k1 k2 k3 HY
            go_roundw
            case rel=>exact ⟨j+1,by omega,by go_num,rfl,rfl,HV⟩
            case measure=>simp [intOf];omega
          · have pc:Z.cell? ⟨ga,j,none⟩=some (.func (.func 148) #[] #[.pointer (some ⟨gw,0,none⟩),.pointer (some ⟨gn,0,none⟩)]):=(ag HY.out.1.qa j).trans (by rw [hj0];rfl)
            clear hj0
            go_wp2_with (go_at_call 148;refine (pR Z gw gn n _ cc b1 b2 k HY.out.2.2.cm HY.out.1.qn (by omega) (by omega) (by omega) HI.out.rg HI.out.ja HI.out.jm).mono ?_;rintro e V ⟨rfl,hb⟩;have HV:aa (AQ V ga gw gn n∧Below w.heap.size w V∧BX V gi gw 171 cc b1 b2 k whV):=⟨HY.out.1.below hb,ak HY.out.2.1 hb,HY.out.2.2.below hb⟩;clear hb)
            clear pc k0 k1 k2 k3 HY
            go_roundw
            case rel=>exact ⟨j+1,by omega,by go_num,rfl,rfl,HV⟩
            case measure=>simp [intOf];omega
        · have hj5:j=5:=by omega
          subst hj5
          have HE:aa (AQ Z ga gw gn n∧Below w.heap.size w Z):=⟨HY.out.1,HY.out.2.1⟩
          clear k0 k1 k2 k3 HY
          go_wp2
          go_roundw
          case rel=>exact ⟨i+1,by omega,by go_num,rfl,rfl,HE⟩
          case measure=>simp [intOf];omega
    · have hin:i=n:=by omega
      subst hin
      obtain ⟨b,hb⟩:∃ b,p[i - 1]?=some b:=⟨_,List.getElem?_eq_getElem (by rw [←EN.out];omega)⟩
      have hre:reB b.f0=true:=HPG.out.re b (by rw [←EN.out];exact hb)
      have hrd:bg p ((i:Int) - 1)=b:=by
        obtain ⟨h1,h2⟩:=List.getElem?_eq_some_iff.1 hb
        rw [show (i:Int) - 1=((i - 1:Nat):Int) by omega,fV h1,h2]
      have i0:(0:Int)≤(i:Int) - 1:=by omega
      have i1:(i:Int) - 1<(i:Int):=by omega
      have HBX:aa (Below w.heap.size w X):=⟨HQ.out.2⟩
      obtain ⟨ad,rfl,x0,x1,x2,x3,-,-⟩:=fK HC HBX ((i:Int) - 1) (decide_eq_true i0) (decide_eq_true i1)
      rw [hrd,show ((i:Int) - 1).toNat=i - 1 by omega] at x0
      have HCL:=aa.mk (fun W=>bK.calls 18 b.f0 6 W (by rw [(iL b.f0 10).1,(dZ b.f0).2 hre]))
      clear hb hre hrd x1 x2 x3
      go_wp2_with (go_at_call 99;refine (HCL.out _).mono ?_;rintro e w' ⟨rfl,⟨nd,rfl⟩⟩)
      rw [Exit.noGoto_ret]
      go_ret2
      exact ⟨rfl,ak HQ.out.2 (af (Below.refl _ _) _)⟩
def Tr (F:List Bool) (s:Nat):Prop:=F.getD s false=true
theorem jE {F:List Bool} {a:Nat} (h:a<F.length):Tr (F.set a true) a:=by
 unfold Tr
 rw [List.getD_eq_getElem?_getD,List.getElem?_set_self h];rfl
theorem iA {F:List Bool} {s:Nat} (a:Nat) (h:Tr F s):Tr (F.set a true) s:=by
 unfold Tr at h ⊢
 rw [List.getD_eq_getElem?_getD] at h ⊢
 rw [List.getElem?_set]
 split
 · split
   · rfl
   rename_i e h2;subst e;rw [List.getElem?_eq_none (by omega)] at h;cases h
 exact h
structure MkB (i:S45) (s:Nat) (F:List Bool):Prop where
 ja:i.f0=5→Tr F (s+1+i.f3.toNat)
 jt:jmB i.f0=true→Tr F (s+1+i.f1.toNat)
 jf:jmB i.f0=true→Tr F (s+1+i.f2.toNat)
 nx:eF i.f0=5∨reB i.f0=true→Tr F (s+1)
def bcn (F:List Bool):Nat→Nat
 | 0=>0
 | i+1=>bcn F i+(if F.getD i false=true then 1 else 0)
theorem iK {F:List Bool} {i:Nat} (h:Tr F i):bcn F (i+1)=bcn F i+1:=by show bcn F i+_=_;rw [if_pos (show F.getD i false=true from h)]
theorem jY {F:List Bool} {i:Nat} (h:¬Tr F i):bcn F (i+1)=bcn F i:=by
 show bcn F i+_=_
 rw [if_neg (show ¬F.getD i false=true from h)];rfl
theorem pV (F:List Bool):∀ i,bcn F i≤i:=by
 intro i
 induction i with
 | zero=>exact Nat.le_refl _
 | succ i ih=>by_cases h:Tr F i;rw [iK h];omega;rw [jY h];omega
theorem tq (F:List Bool) (i:Nat):∀ d,bcn F i≤bcn F (i+d):=by
 intro d
 induction d with
 | zero=>exact Nat.le_refl _
 | succ d ih=>
  refine Nat.le_trans ih ?_
  show _≤bcn F (i+d+1)
  by_cases h:Tr F (i+d)
  · rw [iK h];omega
  rw [jY h];exact Nat.le_refl _
theorem pW (F:List Bool) {i j:Nat} (h:i≤j):bcn F i≤bcn F j:=by
 have:=tq F i (j - i)
 rw [show i+(j - i)=j by omega] at this
 exact this
theorem sZ (c K:Int):jJ ⟨c,0,0,if usK c=true then K else 0⟩=true:=by
 unfold jJ
 cases usK c<;>rfl
theorem ry {c K:Int} (h0:flF c K=0) (h5:¬eF c=5) (h6:¬reB c=true):stB c K=true:=by
 rw [jQ]
 have h1:¬eF c<0:=by
  intro h
  cases hk:kn c
  · unfold flF at h0;rw [hk] at h0;cases h0
  exact (jh c (of_decide_eq_true hk)).2.1 h
 rw [decide_eq_false h1,decide_eq_false h5,decide_eq_false (fun h=>h6 ((dZ c).1 h)),decide_eq_true h0];rfl
theorem mk_bo (L:Nat) (hL:L≤4096) (W:World):(Instr.makeSlice 73 (.int .i64 ((L:Int)+1)) (.int .i64 ((L:Int)+1))).run Try.prog W = .ok (.slice (some ⟨W.heap.size,0,none⟩) (L+1) (L+1)) (W.alloc (.cells (boC (List.replicate (L+1) false)) 4)):=by
 rw [show (L:Int)+1=((L+1:Nat):Int) by omega]
 obtain ⟨i,hi,hzz⟩:=Option.map_eq_some_iff.1 info_bo
 simp only [Prod.mk.injEq] at hzz
 obtain ⟨hz,hs,hb⟩:=hzz
 have h:=run_make (P:=Try.prog) W 73 4 i _ Try.underlying73 hi hz .i64 .i64 ((L+1:Nat):Int) ((L+1:Nat):Int) (by omega) (Int.le_refl _) (by rw [hb];omega) (by omega)
 rw [Int.toNat_natCast,hs] at h
 have e:=mQ (fun b:Bool=>[Value.bool b]) false 1 rfl (L+1)
 refine h.trans ?_
 show Result.ok _ (World.alloc W (.cells (madeCells [Value.bool false].toArray ((L+1)*1)) 4))=_
 rw [e]
 unfold boC
 rw [List.map_eq_flatMap]
theorem MkB.old {i:S45} {s:Nat} {F:List Bool} (h:MkB i s F) {F1:List Bool} (m:∀ s,Tr F s→Tr F1 s):MkB i s F1:=⟨fun e=>m _ (h.ja e),fun e=>m _ (h.jt e),fun e=>m _ (h.jf e),fun e=>m _ (h.nx e)⟩
structure BgI (w X:World) (gf n:Nat) (F:List Bool):Prop where
 low:Below w.heap.size w X
 row:X.heap[gf]?=some (.cells (boC F) 4 (0,0))
 len:F.length=n+1
 lo:w.heap.size≤gf
section
variable {w X Y:World} {gf n:Nat} {F:List Bool}
theorem BgI.below (h:BgI w X gf n F) (hb:Below X.heap.size X Y):BgI w Y gf n F:=⟨ak h.low hb,au h.row hb,h.len,h.lo⟩
theorem BgI.set (h:BgI w X gf n F) (j:Nat):BgI w (X.setCell ⟨gf,j,none⟩ (.bool true)) gf n (F.set j true):=⟨h.low.setCell h.lo _,aJ h.row j _ (boC_set j true),by rw [List.length_set];exact h.len,h.lo⟩
theorem BgI.cell (h:BgI w X gf n F) {j:Nat} (hj:j<n+1):X.cell? ⟨gf,j,none⟩=some (.bool (F.getD j false))∧X.frozen? ⟨gf,j,none⟩=false:=⟨(ag h.row j).trans (nE (by rw [h.len];exact hj)),aj h.row j⟩
end
structure BgM (p:List S45) (F:List Bool) (i:Nat):Prop where
 t0:Tr F 0
 m:∀ (s:Nat) (h:s<p.length),s<i→MkB p[s] s F
theorem BgM.old {p:List S45} {F F1:List Bool} {i:Nat} (h:BgM p F i) (m:∀ s,Tr F s→Tr F1 s):BgM p F1 i:=⟨m _ h.t0,fun s h1 h2=>(h.m s h1 h2).old m⟩
structure BgG (b:S45) (i:Nat) (F:List Bool):Prop where
 ja:b.f0=5→Tr F (i+1+b.f3.toNat)
 jt:jmB b.f0=true→Tr F (i+1+b.f1.toNat)
 jf:jmB b.f0=true→Tr F (i+1+b.f2.toNat)
theorem BgM.next {p:List S45} {F:List Bool} {i:Nat} {b:S45} (h:BgM p F i) (hb:p[i]?=some b) (hg:BgG b i F) (hn:eF b.f0=5∨reB b.f0=true→Tr F (i+1)):BgM p F (i+1):=by
 refine ⟨h.t0,fun s h1 h2=>?_⟩
 by_cases e:s=i
 · subst e
   have:=(List.getElem?_eq_some_iff.1 hb).2
   rw [this]
   exact ⟨hg.ja,hg.jt,hg.jf,hn⟩
 exact h.m s h1 (by omega)
end Go.Proofs.Ytdkalnkplgfgoaa.Ln
