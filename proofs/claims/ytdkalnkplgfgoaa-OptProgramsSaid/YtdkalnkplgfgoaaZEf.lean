/- Lemmas and walks for the statements of the texts ZEZ..: the declarations that they need, taken together by a program of this session. Conditions: as each says. -/
import Derived.Test.YtdkalnkplgfgoaaZEa
import Derived.Test.YtdkalnkplgfgoaaZEb
import Derived.Test.YtdkalnkplgfgoaaZEc
import Derived.Test.YtdkalnkplgfgoaaZEd
import Derived.Test.YtdkalnkplgfgoaaZEe
set_option maxHeartbeats 8000000
set_option maxRecDepth 100000
set_option linter.unusedVariables false
set_option linter.unusedSimpArgs false
namespace Go.Proofs.Ytdkalnkplgfgoaa.Ln
open Go.RowKit Go.Maps Go.Proofs.YtdkalnkplgfgoaaW.PrintWords Go.Proofs.YtdkalnkplgfgoaaW.PrintLast Go.Proofs.YtdkalnkplgfgoaaW.PrintMore Go.Proofs.Ytdkalnkplgfgoaa.PA
def mkC (b:S47) (c:List Bool):List Bool:=if b.f1=1 then c else if b.f1=3 then (c.set b.f3.toNat true).set b.f4.toNat true else c.set b.f3.toNat true
def cmF:List S47→Nat→List Bool→List Bool
 | [],_,c=>c
 | b :: r,n,c=>cmF r (n+1) (if c.getD n false=true then mkC b c else c)
def fU (g:List S47) (first:Nat):List Bool:=cmF g 0 ((List.replicate g.length false).set first true)
def cO (c:List Bool):Nat→Nat
 | 0=>0
 | j+1=>cO c j+(if c.getD j false=true then 1 else 0)
def gM (c:List Bool) (b:S47):S47:=⟨b.f0,b.f1,b.f2,if b.f1=1 then b.f3 else (cO c b.f3.toNat:Int),if b.f1=3 then (cO c b.f4.toNat:Int) else b.f4⟩
def dpL (c:List Bool):List S47→Nat→List S47
 | [],_=>[]
 | b :: r,n=>if c.getD n false=true then gM c b :: dpL c r (n+1) else dpL c r (n+1)
def iV (g:List S47):List S47 × Bool:=
 if cO (fU g (onG g 0)) g.length=g.length then (g,false) else (dpL (fU g (onG g 0)) g 0,true)
theorem AR (b:S47) (c:List Bool):(mkC b c).length=c.length:=by
 unfold mkC;split;rfl;split<;>simp
theorem yX:∀ (l:List S47) (n:Nat) (c:List Bool),(cmF l n c).length=c.length:=by
 intro l
 induction l with
 | nil=>intro n c;rfl
 | cons b r ih=>
  intro n c
  unfold cmF
  rw [ih]
  split
  · exact AR b c
  rfl
theorem wL {c:List Bool} {i j:Nat} (h:c.getD j false=true):(c.set i true).getD j false=true:=by
 by_cases hi:i<c.length
 · rw [dL hi];split
   · rfl
   exact h
 rw [List.set_eq_of_length_le (by omega)];exact h
theorem mW {c:List Bool} {i j:Nat} (h:i≠j):(c.set i true).getD j false=c.getD j false:=by
 by_cases hi:i<c.length
 · rw [dL hi,if_neg h]
 rw [List.set_eq_of_length_le (by omega)]
theorem mk_t {b:S47} {c:List Bool} {j:Nat} (h:c.getD j false=true):(mkC b c).getD j false=true:=by
 unfold mkC;split
 · exact h
 split
 · exact wL (wL h)
 exact wL h
theorem mk_o {b:S47} {i:Nat} {n:Int} (h:BOk b i n) {c:List Bool} {j:Nat} (hj:j≤i):(mkC b c).getD j false=c.getD j false:=by
 unfold mkC
 by_cases e1:b.f1=1
 · rw [if_pos e1]
 rw [if_neg e1]
 have hy:=bB h.goal e1
 by_cases e3:b.f1=3
 · rw [if_pos e3]
   have hn:=dM h.goal e3
   rw [mW (by omega),mW (by omega)]
 rw [if_neg e3,mW (by omega)]
theorem cm_t:∀ (l:List S47) (n:Nat) (c:List Bool) (j:Nat),c.getD j false=true→(cmF l n c).getD j false=true:=by
 intro l
 induction l with
 | nil=>intro n c j h;exact h
 | cons b r ih=>
  intro n c j h
  unfold cmF
  refine ih _ _ _ ?_
  split
  · exact mk_t h
  exact h
theorem cm_o (L:Int):∀ (l:List S47) (n:Nat) (c:List Bool),(∀ (j:Nat) (b:S47),l[j]?=some b→BOk b ((n+j:Nat):Int) L)→∀ j,j≤n→(cmF l n c).getD j false=c.getD j false:=by
 intro l
 induction l with
 | nil=>intro n c _ j h;rfl
 | cons b r ih=>
  intro n c hb j h
  have hb0:BOk b ((n:Nat):Int) L:=hb 0 b rfl
  have hr:∀ (j:Nat) (b:S47),r[j]?=some b→BOk b ((n+1+j:Nat):Int) L:=fun j c hc=>by
   have:=hb (j+1) c hc
   rw [show n+1+j=n+(j+1) by omega];exact this
  unfold cmF
  rw [ih (n+1) _ hr j (by omega)]
  split
  · exact mk_o hb0 h
  rfl
theorem yY (L:Int) (m:Nat):∀ (l:List S47) (n:Nat) (c:List Bool),(∀ (j:Nat) (b:S47),l[j]?=some b→BOk b ((n+j:Nat):Int) L)→(∀ j,j<m→c.getD j false=false)→∀ j,j<m→(cmF l n c).getD j false=false:=by
 intro l
 induction l with
 | nil=>intro n c _ h;exact h
 | cons b r ih=>
  intro n c hb h
  have hb0:BOk b ((n:Nat):Int) L:=hb 0 b rfl
  have hr:∀ (j:Nat) (b:S47),r[j]?=some b→BOk b ((n+1+j:Nat):Int) L:=fun j c hc=>by
   have:=hb (j+1) c hc
   rw [show n+1+j=n+(j+1) by omega];exact this
  unfold cmF
  refine ih (n+1) _ hr ?_
  intro j hj
  by_cases q:c.getD n false=true
  · rw [if_pos q]
    have hmn:m≤n:=by
     refine Nat.le_of_not_lt fun hlt=>?_
     rw [h n hlt] at q;cases q
    rw [mk_o hb0 (by omega)]
    exact h j hj
  rw [if_neg q];exact h j hj
theorem cm_cl (L:Nat):∀ (l:List S47) (n:Nat) (c:List Bool),(∀ (j:Nat) (b:S47),l[j]?=some b→BOk b ((n+j:Nat):Int) L)→c.length=L →
 ∀ (j:Nat) (b:S47),l[j]?=some b→(cmF l n c).getD (n+j) false=true→(b.f1≠1→(cmF l n c).getD b.f3.toNat false=true)∧(b.f1=3→(cmF l n c).getD b.f4.toNat false=true):=by
 intro l
 induction l with
 | nil=>intro n c _ _ j b h;simp at h
 | cons b0 r ih=>
  intro n c hb hc j b h hin
  have hb0:BOk b0 ((n:Nat):Int) L:=hb 0 b0 rfl
  have hr:∀ (j:Nat) (b:S47),r[j]?=some b→BOk b ((n+1+j:Nat):Int) L:=fun j c hc=>by
   have:=hb (j+1) c hc
   rw [show n+1+j=n+(j+1) by omega];exact this
  cases j with
  | zero=>
   cases h
   have e:=cm_o L (b0 :: r) n c hb n (Nat.le_refl n)
   rw [Nat.add_zero,e] at hin
   unfold cmF
   rw [if_pos hin]
   refine ⟨fun h1=>cm_t _ _ _ _ ?_,fun h3=>cm_t _ _ _ _ ?_⟩
   · have hy:=bB hb0.goal h1
     unfold mkC
     rw [if_neg h1]
     have e1:(c.set b0.f3.toNat true).getD b0.f3.toNat false=true:=by rw [dL (by omega),if_pos rfl]
     split
     · exact wL e1
     exact e1
   have hn:=dM hb0.goal h3
   unfold mkC
   rw [if_neg (by omega),if_pos h3,dL (by rw [List.length_set];omega),if_pos rfl]
  | succ j=>
   unfold cmF at hin ⊢
   have:=ih (n+1) (if c.getD n false=true then mkC b0 c else c) hr (by split;rw [AR];exact hc;exact hc) j b h
   rw [show n+1+j=n+(j+1) by omega] at this
   exact this hin
theorem num_le (c:List Bool):∀ (d j:Nat),cO c j≤cO c (j+d)∧cO c (j+d)≤cO c j+d:=by
 intro d
 induction d with
 | zero=>intro j;exact ⟨Nat.le_refl _,Nat.le_refl _⟩
 | succ d ih=>
  intro j
  have:=ih j
  show cO c j≤cO c (j+d)+_∧cO c (j+d)+_≤_
  split<;>omega
theorem iW {c:List Bool} {i j:Nat} (h:i≤j):cO c i≤cO c j∧cO c j≤cO c i+(j - i):=by
 obtain ⟨d,rfl⟩:∃ d,j=i+d:=⟨j - i,by omega⟩
 have:=num_le c d i
 omega
theorem lh {c:List Bool} {i j:Nat} (h:i<j) (hc:c.getD i false=true):cO c i<cO c j:=by
 have h1:=(iW (c:=c) (i:=i+1) (j:=j) h).1
 have:cO c (i+1)=cO c i+1:=by show cO c i+_=_;rw [if_pos hc]
 omega
theorem num_z {c:List Bool}:∀ {m:Nat},(∀ j,j<m→c.getD j false=false)→cO c m=0:=by
 intro m
 induction m with
 | zero=>intro _;rfl
 | succ m ih=>
  intro h
  show cO c m+_=0
  rw [ih (fun j hj=>h j (by omega)),h m (by omega)];rfl
theorem nE {c:List Bool} {b:S47} {r:List S47} {n:Nat} (q:c.getD n false=true):dpL c (b :: r) n=gM c b :: dpL c r (n+1):=by
 show (if c.getD n false=true then _ else _)=_
 rw [if_pos q]
theorem tH {c:List Bool} {b:S47} {r:List S47} {n:Nat} (q:¬c.getD n false=true):dpL c (b :: r) n=dpL c r (n+1):=by
 show (if c.getD n false=true then _ else _)=_
 rw [if_neg q]
theorem mP {c:List Bool} {n:Nat} (q:c.getD n false=true):cO c (n+1)=cO c n+1:=by
 show cO c n+_=_;rw [if_pos q]
theorem nI {c:List Bool} {n:Nat} (q:¬c.getD n false=true):cO c (n+1)=cO c n:=by
 show cO c n+_=_;rw [if_neg q];rfl
theorem db1 {c:List Bool} {b:S47} (h:b.f1=1):gM c b=b:=by
 unfold gM;rw [if_pos h,if_neg (by omega)]
theorem db2 {c:List Bool} {b:S47} (h:b.f1=2):gM c b=⟨b.f0,b.f1,b.f2,(cO c b.f3.toNat:Int),b.f4⟩:=by
 unfold gM;rw [if_neg (show ¬b.f1=1 by omega),if_neg (show ¬b.f1=3 by omega)]
theorem db3 {c:List Bool} {b:S47} (h:b.f1=3):gM c b=⟨b.f0,b.f1,b.f2,(cO c b.f3.toNat:Int),(cO c b.f4.toNat:Int)⟩:=by
 unfold gM;rw [if_neg (show ¬b.f1=1 by omega),if_pos h]
theorem dp_get (c:List Bool):∀ (l:List S47) (n j:Nat) (b:S47),l[j]?=some b→c.getD (n+j) false=true→(dpL c l n)[cO c (n+j) - cO c n]?=some (gM c b):=by
 intro l
 induction l with
 | nil=>intro n j b h;simp at h
 | cons b0 r ih=>
  intro n j b h hc
  cases j with
  | zero=>
   cases h
   have hc':c.getD n false=true:=hc
   rw [nE hc']
   show (gM c b0 :: _)[cO c n - cO c n]?=_
   rw [Nat.sub_self];rfl
  | succ j=>
   have h2:=ih (n+1) j b h (by rw [show n+1+j=n+(j+1) by omega];exact hc)
   rw [show n+1+j=n+(j+1) by omega] at h2
   have hm:=(iW (c:=c) (i:=n+1) (j:=n+(j+1)) (by omega)).1
   by_cases q:c.getD n false=true
   · have e:=mP q
     rw [nE q,show cO c (n+(j+1)) - cO c n=(cO c (n+(j+1)) - cO c (n+1))+1 by omega]
     exact h2
   rw [tH q,←nI q];exact h2
theorem dp_at (c:List Bool):∀ (l:List S47) (n k:Nat) (b':S47),(dpL c l n)[k]?=some b'→∃ j b,l[j]?=some b∧c.getD (n+j) false=true∧b'=gM c b∧cO c (n+j)=cO c n+k:=by
 intro l
 induction l with
 | nil=>intro n k b' h;simp [dpL] at h
 | cons b0 r ih=>
  intro n k b' h
  by_cases q:c.getD n false=true
  · have e:=mP q
    rw [nE q] at h
    cases k with
    | zero=>exact ⟨0,b0,rfl,q,(Option.some.inj h).symm,rfl⟩
    | succ k=>
     obtain ⟨j,b,h1,h2,h3,h4⟩:=ih (n+1) k b' h
     rw [show n+1+j=n+(j+1) by omega] at h2 h4
     exact ⟨j+1,b,h1,h2,h3,by omega⟩
  have e:=nI q
  rw [tH q] at h
  obtain ⟨j,b,h1,h2,h3,h4⟩:=ih (n+1) k b' h
  rw [show n+1+j=n+(j+1) by omega] at h2 h4
  exact ⟨j+1,b,h1,h2,h3,by omega⟩
theorem zh (c:List Bool):∀ (l:List S47) (n:Nat),(dpL c l n).length+cO c n=cO c (n+l.length):=by
 intro l
 induction l with
 | nil=>intro n;exact Nat.zero_add _
 | cons b r ih=>
  intro n
  have:=ih (n+1)
  rw [show n+1+r.length=n+(b :: r).length by rw [List.length_cons];omega] at this
  by_cases q:c.getD n false=true
  · have e:=mP q
    rw [nE q,List.length_cons];omega
  have e:=nI q
  rw [tH q];omega
theorem rQ (c:List Bool) (F G:S47→Nat) (one:Nat) (h1:∀ b,one≤G b):∀ (l:List S47) (n:Nat),(∀ (j:Nat) (b:S47),l[j]?=some b→c.getD (n+j) false=true→F (gM c b)≤G b) →
 ((dpL c l n).map F).sum+one*l.length+one*cO c n≤(l.map G).sum+one*cO c (n+l.length):=by
 intro l
 induction l with
 | nil=>intro n _;simp [dpL]
 | cons b r ih=>
  intro n h
  have i1:=ih (n+1) (fun j b hb hc=>h (j+1) b hb (by rw [show n+(j+1)=n+1+j by omega];exact hc))
  rw [show n+1+r.length=n+(b :: r).length by rw [List.length_cons];omega] at i1
  have e1:one*(b :: r).length=one*r.length+one:=by rw [List.length_cons,Nat.mul_add,Nat.mul_one]
  have hg:=h1 b
  rw [e1,List.map_cons,List.sum_cons]
  by_cases q:c.getD n false=true
  · have h0:=h 0 b rfl q
    rw [mP q,Nat.mul_add,Nat.mul_one] at i1
    rw [nE q,List.map_cons,List.sum_cons]
    omega
  rw [nI q] at i1
  rw [tH q]
  omega
theorem on_rn {g:List S47} {pk:List Int}:∀ (k:Nat) {j:Nat} {M:bH} {v f:Int} {t:Nat},Rn g pk j M v f t→Rn g pk (onF g k j) M v f t:=by
 intro k
 induction k with
 | zero=>intro j M v f t h;exact h
 | succ k ih=>
  intro j M v f t h
  unfold onF
  cases hb:g[j]? with
  | none=>exact h
  | some b=>
   dsimp only
   by_cases q:fB b=true
   · rw [if_pos q]
     refine ih ?_
     have e:=mq (pk:=pk) (M:=M) q
     cases h with
     | fin hb' e'=>rw [hb] at hb';cases hb';rw [e] at e';cases e'
     | go hb' e' hr=>
      rw [hb] at hb';cases hb'
      rw [e] at e'
      injection e' with a1 a2 a3
      subst a1 a2 a3
      rw [Nat.zero_add];exact hr
   rw [if_neg q];exact h
theorem jZ {g:List S47} (hg:GOk g):jA g (iV g).1 (iV g).2:=by
 have hb0:∀ (j:Nat) (b:S47),g[j]?=some b→BOk b ((0+j:Nat):Int) g.length:=fun j b h=>by rw [Nat.zero_add];exact hg.all j b h
 unfold iV
 by_cases q:cO (fU g (onG g 0)) g.length=g.length
 · rw [if_pos q]
   exact ⟨hg,fun pk v f t h=>⟨t,Nat.le_refl _,h⟩,Nat.le_refl _,Nat.le_refl _,(fun h=>by cases h),fun _=>rfl⟩
 rw [if_neg q]
 have hfirst:onG g 0<g.length:=(oo hg g.length 0 hg.some_).2
 have hcl:=cm_cl g.length g 0 ((List.replicate g.length false).set (onG g 0) true) hb0 (by rw [List.length_set,List.length_replicate])
 have hlow:=yY g.length (onG g 0) g 0 ((List.replicate g.length false).set (onG g 0) true) hb0 (fun j hj=>by
  rw [mW (by omega),List.getD_eq_getElem?_getD,List.getElem?_replicate];split<;>rfl)
 have hst:(fU g (onG g 0)).getD (onG g 0) false=true:=cm_t _ _ _ _ (by rw [dL (by rw [List.length_replicate];exact hfirst),if_pos rfl])
 change ∀ j b,g[j]?=some b→(fU g (onG g 0)).getD (0+j) false=true→(b.f1≠1→(fU g (onG g 0)).getD b.f3.toNat false=true)∧(b.f1=3→(fU g (onG g 0)).getD b.f4.toNat false=true) at hcl
 change ∀ j,j<onG g 0→(fU g (onG g 0)).getD j false=false at hlow
 generalize fU g (onG g 0)=c at *
 have hn0:cO c (onG g 0)=0:=num_z hlow
 have hlen:(dpL c g 0).length=cO c g.length:=by have:=zh c g 0;rw [Nat.zero_add] at this;exact this
 have hnl:cO c g.length≤g.length:=by have:=(iW (c:=c) (Nat.zero_le g.length)).2;have e:cO c 0=0:=rfl;omega
 have hpos:=lh hfirst hst
 have cl:∀ (j:Nat) (b:S47),g[j]?=some b→c.getD j false=true→(b.f1≠1→c.getD b.f3.toNat false=true)∧(b.f1=3→c.getD b.f4.toNat false=true):=fun j b hb hj=>hcl j b hb (by rw [Nat.zero_add];exact hj)
 -- a block in its new place
 have bok:∀ (j:Nat) (b:S47),g[j]?=some b→c.getD j false=true→BOk (gM c b) (cO c j) (cO c g.length):=by
  intro j b hb hj
  have hok:=hg.all j b hb
  have hc:=cl j b hb hj
  refine ⟨hok.code,?_,?_,hok.rg,hok.rl⟩
  · have he:=hok.ends
    rcases eO hok.ends with ⟨h1,_⟩ | ⟨h1,_⟩ | ⟨h1,_⟩
    · rw [db1 h1];exact he
    · rw [db2 h1]
      unfold jB at he ⊢
      dsimp only
      rw [if_neg (show ¬b.f1=1 by omega),if_pos h1] at he ⊢
      exact he
    rw [db3 h1]
    unfold jB at he ⊢
    dsimp only
    rw [if_neg (show ¬b.f1=1 by omega),if_neg (show ¬b.f1=2 by omega),if_pos h1] at he ⊢
    exact he
  rcases eO hok.ends with ⟨h1,_⟩ | ⟨h1,_⟩ | ⟨h1,_⟩
  · rw [db1 h1]
    unfold gT
    rw [decide_eq_true h1,decide_eq_false (show ¬b.f1=3 by omega)];rfl
  · have hy:=bB hok.goal (by omega)
    have hyc:=hc.1 (by omega)
    rw [db2 h1]
    unfold gT
    dsimp only
    have a1:=lh (c:=c) (i:=j) (j:=b.f3.toNat) (by omega) hj
    have a2:=lh (c:=c) (i:=b.f3.toNat) (j:=g.length) (by omega) hyc
    rw [decide_eq_true (show ((cO c j:Nat):Int)<((cO c b.f3.toNat:Nat):Int)∧((cO c b.f3.toNat:Nat):Int)<((cO c g.length:Nat):Int) by omega),decide_eq_false (show ¬b.f1=3 by omega),Bool.or_true];rfl
  have hy:=bB hok.goal (by omega)
  have hn:=dM hok.goal h1
  have hyc:=hc.1 (by omega)
  have hnc:=hc.2 h1
  rw [db3 h1]
  unfold gT
  dsimp only
  have a1:=lh (c:=c) (i:=j) (j:=b.f3.toNat) (by omega) hj
  have a2:=lh (c:=c) (i:=b.f3.toNat) (j:=g.length) (by omega) hyc
  have a3:=lh (c:=c) (i:=j) (j:=b.f4.toNat) (by omega) hj
  have a4:=lh (c:=c) (i:=b.f4.toNat) (j:=g.length) (by omega) hnc
  rw [decide_eq_true (show ((cO c j:Nat):Int)<((cO c b.f3.toNat:Nat):Int)∧((cO c b.f3.toNat:Nat):Int)<((cO c g.length:Nat):Int) by omega),decide_eq_true (show ((cO c j:Nat):Int)<((cO c b.f4.toNat:Nat):Int)∧((cO c b.f4.toNat:Nat):Int)<((cO c g.length:Nat):Int) by omega),Bool.or_true,Bool.or_true];rfl
 have get:∀ (j:Nat) (b:S47),g[j]?=some b→c.getD j false=true→(dpL c g 0)[cO c j]?=some (gM c b):=by
  intro j b hb hj
  have:=dp_get c g 0 j b hb (by rw [Nat.zero_add];exact hj)
  rw [Nat.zero_add] at this
  exact this
 have hout:∀ (pk:List Int) (j:Nat) (b:S47),g[j]?=some b→∀ M,(∀ v f s,fO pk b M = .fin v f s→fO pk (gM c b) M = .fin v f s)∧(∀ j1 M1 s,fO pk b M = .go j1 M1 s→fO pk (gM c b) M = .go (cO c j1) M1 s):=by
  intro pk j b hb M
  have hok:=hg.all j b hb
  unfold fO
  show (∀ v f s,_→(if (bF pk b.f0 M).2.1=0 then fT (gM c b) (bF pk b.f0 M).1 (bF pk b.f0 M).2.2 else .fin 0 (bF pk b.f0 M).2.1 (bF pk b.f0 M).2.2)=_)∧(∀ j1 M1 s,_→(if (bF pk b.f0 M).2.1=0 then fT (gM c b) (bF pk b.f0 M).1 (bF pk b.f0 M).2.2 else .fin 0 (bF pk b.f0 M).2.1 (bF pk b.f0 M).2.2)=_)
  by_cases h0:(bF pk b.f0 M).2.1=0
  · rw [if_pos h0,if_pos h0]
    rcases eO hok.ends with ⟨h1,_⟩ | ⟨h1,_⟩ | ⟨h1,_⟩
    · rw [db1 h1]
      refine ⟨(fun v f s e=>e),fun j1 M1 s e=>?_⟩
      unfold fT at e;rw [if_pos h1] at e;cases e
    · have E:∀ M k,fT b M k = .go b.f3.toNat M k:=fun M k=>by unfold fT;rw [if_neg (show ¬b.f1=1 by omega),if_pos h1]
      have E2:∀ M k,fT (gM c b) M k = .go (cO c b.f3.toNat) M k:=fun M k=>by
       rw [db2 h1]
       unfold fT
       dsimp only
       rw [if_neg (show ¬b.f1=1 by omega),if_pos h1,Int.toNat_natCast]
      rw [E,E2]
      refine ⟨(fun v f s e=>by cases e),fun j1 M1 s e=>?_⟩
      injection e with a1 a2 a3
      subst a1 a2 a3
      rfl
    have E:∀ M k,fT b M k = .go (if hoP b.f2 M.a M.x=true then b.f3.toNat else b.f4.toNat) M (k+1):=fun M k=>by unfold fT;rw [if_neg (show ¬b.f1=1 by omega),if_neg (show ¬b.f1=2 by omega)]
    have E2:∀ M k,fT (gM c b) M k = .go (if hoP b.f2 M.a M.x=true then cO c b.f3.toNat else cO c b.f4.toNat) M (k+1):=fun M k=>by
     rw [db3 h1]
     unfold fT
     dsimp only
     rw [if_neg (show ¬b.f1=1 by omega),if_neg (show ¬b.f1=2 by omega),Int.toNat_natCast,Int.toNat_natCast]
    rw [E,E2]
    refine ⟨(fun v f s e=>by cases e),fun j1 M1 s e=>?_⟩
    injection e with a1 a2 a3
    subst a1 a2 a3
    split<;>rfl
  rw [if_neg h0,if_neg h0]
  exact ⟨fun v f s e=>e,fun j1 M1 s e=>by cases e⟩
 have run:∀ (pk:List Int) {j:Nat} {M:bH} {v f:Int} {t:Nat},Rn g pk j M v f t→c.getD j false=true→Rn (dpL c g 0) pk (cO c j) M v f t:=by
  intro pk j M v f t hr
  induction hr with
  | @fin j M b v f s hb e=>intro hj;exact .fin (get j b hb hj) ((hout pk j b hb M).1 v f s e)
  | @go j M b j1 M1 s1 v f t1 hb e _ ih=>
   intro hj
   have hok:=hg.all j b hb
   obtain ⟨_,_,_,_,q3⟩:=kg hok (by omega) e
   have hc1:c.getD j1 false=true:=by
    have hc:=cl j b hb hj
    rcases q3 with ⟨e2,ej,_⟩ | ⟨e3,ej,_⟩
    · have:=hc.1 (by omega)
      rw [show j1=b.f3.toNat by omega];exact this
    have hy:=hc.1 (by omega)
    have hn:=hc.2 e3
    by_cases ho:hoP b.f2 M1.a M1.x=true
    · rw [if_pos ho] at ej;rw [show j1=b.f3.toNat by omega];exact hy
    rw [if_neg ho] at ej;rw [show j1=b.f4.toNat by omega];exact hn
   exact .go (get j b hb hj) ((hout pk j b hb M).2 j1 M1 s1 e) (ih hc1)
 have ph1:∀ b:S47,1≤phB g.length b:=fun b=>by unfold phB;omega
 have phw:∀ (j:Nat) (b:S47),g[j]?=some b→c.getD (0+j) false=true→phB (cO c g.length:Nat) (gM c b)≤phB g.length b:=by
  intro j b hb hj
  have hok:=hg.all j b hb
  show 1+wC b.f0+wE _ (gM c b)≤1+wC b.f0+wE _ b
  have:wE (cO c g.length:Nat) (gM c b)≤wE g.length b:=by
   rcases eO hok.ends with ⟨h1,_⟩ | ⟨h1,_⟩ | ⟨h1,_⟩
   · rw [db1 h1]
     unfold wE
     rw [if_pos h1,if_pos h1];exact Nat.le_refl _
   · have hy:=bB hok.goal (by omega)
     have:=(iW (c:=c) (i:=b.f3.toNat) (j:=g.length) (by omega)).2
     rw [db2 h1]
     unfold wE
     dsimp only
     rw [if_neg (show ¬b.f1=1 by omega),if_pos h1,if_neg (show ¬b.f1=1 by omega),if_pos h1]
     omega
   have hy:=bB hok.goal (by omega)
   have hn:=dM hok.goal h1
   have:=(iW (c:=c) (i:=b.f3.toNat) (j:=g.length) (by omega)).2
   have:=(iW (c:=c) (i:=b.f4.toNat) (j:=g.length) (by omega)).2
   rw [db3 h1]
   unfold wE
   dsimp only
   rw [if_neg (show ¬b.f1=1 by omega),if_neg (show ¬b.f1=2 by omega),if_neg (show ¬b.f1=1 by omega),if_neg (show ¬b.f1=2 by omega)]
   omega
  omega
 have sph:=rQ c (phB (cO c g.length:Nat)) (phB g.length) 1 ph1 g 0 phw
 have sms:=rQ c msB msB 0 (fun b=>Nat.zero_le _) g 0 (fun j b _ _=>Nat.le_refl _)
 have ssz:=rQ c szB szB 0 (fun b=>Nat.zero_le _) g 0 (fun j b _ _=>Nat.le_refl _)
 have sln:=rQ c (fun b=>b.f0.length) (fun b=>b.f0.length) 0 (fun b=>Nat.zero_le _) g 0 (fun j b _ _=>Nat.le_refl _)
 rw [Nat.zero_add] at sph
 simp only [Nat.zero_mul,Nat.add_zero] at sms ssz sln
 have en:cO c 0=0:=rfl
 refine ⟨⟨by rw [hlen];omega,by rw [hlen];have:=hg.few;omega,fun k b' h=>?_,Nat.le_trans sln hg.sum⟩,?_,sms,?_,?_,fun h=>by cases h⟩
 · obtain ⟨j,b,h1,h2,h3,h4⟩:=dp_at c g 0 k b' h
   rw [Nat.zero_add] at h2 h4
   rw [en,Nat.zero_add] at h4
   rw [hlen,h3,←h4]
   exact bok j b h1 h2
 · intro pk v f t hr
   have:=run pk (on_rn g.length hr) hst
   change Rn _ pk (cO c (onG g 0)) _ _ _ _ at this
   rw [hn0] at this
   exact ⟨t,Nat.le_refl _,this⟩
 · unfold phG;dsimp only;rw [hlen];omega
 intro _;unfold phG;dsimp only;rw [hlen];omega
def jU:S47:=⟨[],1,⟨6,0,0,0⟩,0,0⟩
def mgB (b nx:S47):S47:=⟨b.f0++nx.f0,nx.f1,nx.f2,nx.f3,nx.f4⟩
def jn1 (g:List S47) (a y:Nat) (b nx:S47):List S47:=(g.set a (mgB b nx)).set y jU
def cE (t:Nat) (b:S47):Nat:=(if b.f1≠1∧b.f3.toNat=t then 1 else 0)+(if b.f1=3∧b.f4.toNat=t then 1 else 0)
def jo (g:List S47) (t:Nat):Nat:=(g.map (cE t)).sum
theorem sO (f:S47→Nat):∀ (g:List S47) (i:Nat) (b c:S47),g[i]?=some b→((g.set i c).map f).sum+f b=(g.map f).sum+f c:=by
 intro g
 induction g with
 | nil=>intro i b c h;simp at h
 | cons a r ih=>
  intro i b c h
  cases i with
  | zero=>cases h;simp only [List.set_cons_zero,List.map_cons,List.sum_cons];omega
  | succ i=>
   have:=ih i b c h
   simp only [List.set_cons_succ,List.map_cons,List.sum_cons]
   omega
theorem wu {g:List S47} {i j:Nat} {c:S47}:(g.set i c)[j]?=if i=j then (if i<g.length then some c else none) else g[j]?:=by
 rw [List.getElem?_set]
theorem je {g:List S47} {i j:Nat} {c:S47} (h:i≠j):(g.set i c)[j]?=g[j]?:=by
 rw [wu,if_neg h]
theorem pI {g:List S47} {i:Nat} {c:S47} (h:i<g.length):(g.set i c)[i]?=some c:=by
 rw [wu,if_pos rfl,if_pos h]
theorem yV (t:Nat):cE t jU=0:=rfl
theorem vZ {g:List S47} {i j t:Nat} {b c:S47} (hb:g[i]?=some b) (hc:g[j]?=some c) (h:i≠j):cE t b+cE t c≤jo g t:=by
 have h1:=sO (cE t) g i b jU hb
 have h2:cE t c≤((g.set i jU).map (cE t)).sum:=wO (List.mem_map_of_mem (List.mem_of_getElem? (by rw [je h];exact hc)))
 rw [yV] at h1
 unfold jo
 omega
theorem pq {b:S47} {t:Nat} (h1:b.f1≠1) (h:b.f3.toNat=t):1≤cE t b:=by
 unfold cE;rw [if_pos ⟨h1,h⟩];omega
theorem cE_no {b:S47} {t:Nat} (h1:b.f1=3) (h:b.f4.toNat=t):1≤cE t b:=by
 unfold cE;rw [if_pos (show b.f1=3∧b.f4.toNat=t from ⟨h1,h⟩)];omega
structure Mg (g:List S47) (a y:Nat) (b nx:S47):Prop where
 gok:GOk g
 at_:g[a]?=some b
 goes:b.f1=2
 goal:b.f3.toNat=y
 nx:g[y]?=some nx
 one:jo g y=1
theorem Mg.lt {g:List S47} {a y:Nat} {b nx:S47} (h:Mg g a y b nx):a<y∧y<g.length∧a<g.length:=by
 have hy:=bB (h.gok.all a b h.at_).goal (by have:=h.goes;omega)
 have:=h.goal
 have:y<g.length:=(List.getElem?_eq_some_iff.1 h.nx).1
 omega
theorem Mg.len {g:List S47} {a y:Nat} {b nx:S47} (h:Mg g a y b nx):(jn1 g a y b nx).length=g.length:=by
 unfold jn1;rw [List.length_set,List.length_set]
theorem Mg.get {g:List S47} {a y:Nat} {b nx:S47} (h:Mg g a y b nx):(jn1 g a y b nx)[a]?=some (mgB b nx)∧(jn1 g a y b nx)[y]?=some jU∧∀ j,j≠a→j≠y→(jn1 g a y b nx)[j]?=g[j]?:=by
 obtain ⟨l1,l2,l3⟩:=h.lt
 unfold jn1
 refine ⟨?_,?_,fun j h1 h2=>?_⟩
 · rw [je (by omega),pI l3]
 · rw [pI (by rw [List.length_set];exact l2)]
 rw [je (by omega),je (by omega)]
theorem Mg.sum {g:List S47} {a y:Nat} {b nx:S47} (h:Mg g a y b nx) (f:S47→Nat):((jn1 g a y b nx).map f).sum+f b+f nx=(g.map f).sum+f (mgB b nx)+f jU:=by
 obtain ⟨l1,l2,l3⟩:=h.lt
 have h1:=sO f g a b (mgB b nx) h.at_
 have h2:=sO f (g.set a (mgB b nx)) y nx jU (by rw [je (by omega)];exact h.nx)
 unfold jn1
 omega
theorem Mg.cnt {g:List S47} {a y:Nat} {b nx:S47} (h:Mg g a y b nx) (t:Nat):jo (jn1 g a y b nx) t=if t=y then 0 else jo g t:=by
 have hs:=h.sum (cE t)
 have e1:cE t (mgB b nx)=cE t nx:=rfl
 have e2:cE t b=if y=t then 1 else 0:=by
  unfold cE
  have h2:=h.goes
  have h3:=h.goal
  rw [if_neg (show ¬(b.f1=3∧_) by omega),h3]
  by_cases q:y=t
  · rw [if_pos ⟨by omega,q⟩,if_pos q]
  rw [if_neg (fun h=>q h.2),if_neg q]
 rw [e1,yV,e2] at hs
 unfold jo at *
 by_cases q:t=y
 · subst q
   rw [if_pos rfl] at hs ⊢
   have:=h.one
   unfold jo at this
   omega
 rw [if_neg (fun h=>q h.symm)] at hs
 rw [if_neg q]
 omega
theorem xe {c d:List S45} (h1:fE c=true) (h2:fE d=true):fE (c++d)=true:=by
 unfold fE at *;rw [List.all_append,h1,h2];rfl
theorem Mg.gok' {g:List S47} {a y:Nat} {b nx:S47} (h:Mg g a y b nx):GOk (jn1 g a y b nx):=by
 obtain ⟨l1,l2,l3⟩:=h.lt
 obtain ⟨g1,g2,g3⟩:=h.get
 have ha:=h.gok.all a b h.at_
 have hy:=h.gok.all y nx h.nx
 refine ⟨by rw [h.len];exact h.gok.some_,by rw [h.len];exact h.gok.few,fun j c hc=>?_,?_⟩
 · rw [h.len]
   by_cases qa:j=a
   · subst qa
     rw [g1] at hc
     cases hc
     refine ⟨xe ha.code hy.code,hy.ends,?_,?_,hy.rl⟩
     · have hg:=hy.goal
       unfold gT at hg ⊢
       simp only [Bool.and_eq_true,Bool.or_eq_true,decide_eq_true_eq,Bool.not_eq_true',decide_eq_false_iff_not] at hg ⊢
       show (nx.f1=1∨_<nx.f3∧nx.f3<_)∧(¬nx.f1=3∨_<nx.f4∧nx.f4<_)
       omega
     intro x hx
     rcases List.mem_append.1 hx with hx | hx
     · exact ha.rg x hx
     exact hy.rg x hx
   by_cases qy:j=y
   · subst qy
     rw [g2] at hc
     cases hc
     exact ⟨rfl,rfl,rfl,(fun x hx=>absurd hx List.not_mem_nil),Rg.z⟩
   rw [g3 j qa qy] at hc
   exact h.gok.all j c hc
 have:=h.sum (fun b=>b.f0.length)
 have e:(mgB b nx).f0.length=b.f0.length+nx.f0.length:=List.length_append
 have e2:jU.f0.length=0:=rfl
 have:=h.gok.sum
 omega
theorem zX (pk:List Int):∀ (c d:List S45) (M:bH),bF pk (c++d) M=if (bF pk c M).2.1=0 then ((bF pk d (bF pk c M).1).1,(bF pk d (bF pk c M).1).2.1,(bF pk c M).2.2+(bF pk d (bF pk c M).1).2.2) else bF pk c M:=by
 intro c
 induction c with
 | nil=>intro d M;show bF pk d M=(if (0:Int)=0 then _ else _);rw [if_pos rfl];show _=(_,_,0+_);rw [Nat.zero_add];rfl
 | cons i r ih=>
  intro d M
  show (if (bY i pk M).2=0 then ((bF pk (r++d) (bY i pk M).1).1,(bF pk (r++d) (bY i pk M).1).2.1,(bF pk (r++d) (bY i pk M).1).2.2+1) else ((bY i pk M).1,(bY i pk M).2,1))=_
  have e:bF pk (i :: r) M=(if (bY i pk M).2=0 then ((bF pk r (bY i pk M).1).1,(bF pk r (bY i pk M).1).2.1,(bF pk r (bY i pk M).1).2.2+1) else ((bY i pk M).1,(bY i pk M).2,1)):=rfl
  rw [e]
  by_cases f0:(bY i pk M).2=0
  · rw [if_pos f0,if_pos f0,ih]
    dsimp only
    by_cases q:(bF pk r (bY i pk M).1).2.1=0
    · rw [if_pos q,if_pos q]
      simp only [Prod.mk.injEq,true_and]
      omega
    rw [if_neg q,if_neg q]
  rw [if_neg f0,if_neg f0]
  dsimp only
  rw [if_neg f0]
def shO (k:Nat):Out→Out
 | .fin v f s => .fin v f (k+s)
 | .go j M s => .go j M (k+s)
theorem endO_sh (b:S47) (M:bH) (k s:Nat):fT b M (k+s)=shO k (fT b M s):=by
 unfold fT
 split
 · rfl
 split<;>rfl
theorem AQ (pk:List Int) {b nx:S47} (h:b.f1=2) (M:bH):((bF pk b.f0 M).2.1=0→fO pk (mgB b nx) M=shO (bF pk b.f0 M).2.2 (fO pk nx (bF pk b.f0 M).1))∧((bF pk b.f0 M).2.1≠0→fO pk (mgB b nx) M=fO pk b M):=by
 have e:fO pk (mgB b nx) M=if (bF pk (b.f0++nx.f0) M).2.1=0 then fT nx (bF pk (b.f0++nx.f0) M).1 (bF pk (b.f0++nx.f0) M).2.2 else .fin 0 (bF pk (b.f0++nx.f0) M).2.1 (bF pk (b.f0++nx.f0) M).2.2:=rfl
 rw [e,zX]
 refine ⟨fun h0=>?_,fun h0=>?_⟩
 · rw [if_pos h0]
   dsimp only
   unfold fO
   split
   · exact endO_sh _ _ _ _
   rfl
 rw [if_neg h0,if_neg h0]
 unfold fO
 rw [if_neg h0]
theorem Mg.run {g:List S47} {a y:Nat} {b nx:S47} (h:Mg g a y b nx) (pk:List Int):∀ {j:Nat} {M:bH} {v f:Int} {t:Nat},Rn g pk j M v f t →
 (j≠y→Rn (jn1 g a y b nx) pk j M v f t)∧(j=y→fO pk nx M = .fin v f t∨∃ j1 M1 s t1,fO pk nx M = .go j1 M1 s∧t=s+t1∧Rn (jn1 g a y b nx) pk j1 M1 v f t1):=by
 obtain ⟨l1,l2,l3⟩:=h.lt
 obtain ⟨g1,g2,g3⟩:=h.get
 intro j M v f t hr
 induction hr with
 | @fin j M c v f s hb e=>
  refine ⟨fun hy=>?_,fun hy=>?_⟩
  · by_cases qa:j=a
    · subst qa
      rw [h.at_] at hb;cases hb
      have h0:(bF pk b.f0 M).2.1≠0:=by
       intro h0
       unfold fO at e
       rw [if_pos h0] at e
       unfold fT at e
       have:=h.goes
       rw [if_neg (by omega),if_pos this] at e
       cases e
      exact .fin g1 (by rw [(AQ pk h.goes M).2 h0];exact e)
    exact .fin (by rw [g3 j qa hy];exact hb) e
  subst hy
  rw [h.nx] at hb;cases hb
  exact .inl e
 | @go j M c j1 M1 s1 v f t1 hb e _ ih=>
  have hok:=h.gok.all j c hb
  obtain ⟨h0,q1,q2,q3,q4⟩:=kg hok (by omega) e
  refine ⟨fun hy=>?_,fun hy=>?_⟩
  · by_cases qa:j=a
    · subst qa
      rw [h.at_] at hb;cases hb
      have hj1:j1=y∧s1=(bF pk b.f0 M).2.2:=by
       have:=h.goes
       have:=h.goal
       rcases q4 with ⟨_,ej,es⟩ | ⟨e3,_⟩
       · exact ⟨by omega,es⟩
       omega
      have em:=(AQ pk (nx:=nx) h.goes M).1 h0
      rw [←q1,←hj1.2] at em
      rcases ih.2 hj1.1 with e2 | ⟨j2,M2,s2,t2,e2,rfl,hr2⟩
      · rw [e2] at em
        exact .fin g1 em
      rw [e2] at em
      rw [←Nat.add_assoc]
      exact .go g1 em hr2
    have hj1:j1≠y:=by
     rintro rfl
     have c1:=pq (b:=b) (t:=j1) (by have:=h.goes;omega) h.goal
     have c2:=vZ (t:=j1) h.at_ hb (Ne.symm qa)
     have:=h.one
     rcases q4 with ⟨e2,ej,_⟩ | ⟨e3,ej,_⟩
     · have:=pq (b:=c) (t:=j1) (by omega) (by omega)
       omega
     by_cases ho:hoP c.f2 M1.a M1.x=true
     · rw [if_pos ho] at ej
       have:=pq (b:=c) (t:=j1) (by omega) (by omega)
       omega
     rw [if_neg ho] at ej
     have:=cE_no (b:=c) (t:=j1) e3 (by omega)
     omega
    exact .go (by rw [g3 j qa hy];exact hb) e (ih.1 hj1)
  subst hy
  rw [h.nx] at hb;cases hb
  exact .inr ⟨j1,M1,s1,t1,e,rfl,ih.1 (by omega)⟩
theorem wC_app (c d:List S45):wC (c++d)=wC c+wC d:=by
 unfold wC;rw [List.map_append,List.sum_append]
theorem Mg.w {g:List S47} {a y:Nat} {b nx:S47} (h:Mg g a y b nx):phG (jn1 g a y b nx)<phG g∧msG (jn1 g a y b nx)≤msG g:=by
 have h1:=h.sum (phB g.length)
 have h2:=h.sum msB
 have hg:=h.goes
 have hy:=bB (h.gok.all a b h.at_).goal (by omega)
 have p1:phB g.length b=1+wC b.f0+(1+((g.length:Int) - b.f3).toNat):=by
  unfold phB wE;rw [if_neg (by omega),if_pos hg]
 have p2:phB g.length nx=1+wC nx.f0+wE g.length nx:=rfl
 have p3:phB g.length (mgB b nx)=1+(wC b.f0+wC nx.f0)+wE g.length nx:=by rw [←wC_app];rfl
 have p4:phB g.length jU=2:=rfl
 have m1:msB b=b.f0.length+1:=by unfold msB;rw [if_neg (by omega)]
 have m2:msB (mgB b nx)+1=b.f0.length+msB nx+1:=by
  have e:(mgB b nx).f0.length=b.f0.length+nx.f0.length:=List.length_append
  show (mgB b nx).f0.length+1+(if nx.f1=3 then 2 else 0)+1=b.f0.length+(nx.f0.length+1+(if nx.f1=3 then 2 else 0))+1
  omega
 have m3:msB jU=1:=rfl
 refine ⟨?_,?_⟩
 · unfold phG
   rw [h.len]
   omega
 unfold msG
 omega
def jnY (g:List S47) (fr:List Nat) (a:Nat):Option (S47 × S47):=
 match g[a]? with
 | some b=>if b.f1=2∧fr.getD b.f3.toNat 0=1 then (match g[b.f3.toNat]? with | some nx=>some (b,nx) | none=>none) else none
 | none=>none
def jnW:Nat→List S47→List Nat→Nat→List S47 × List Nat × Bool
 | 0,g,fr,_=>(g,fr,false)
 | k+1,g,fr,a=>
  match jnY g fr a with
  | some (b,nx)=>((jnW k (jn1 g a b.f3.toNat b nx) (fr.set b.f3.toNat 0) a).1,(jnW k (jn1 g a b.f3.toNat b nx) (fr.set b.f3.toNat 0) a).2.1,true)
  | none=>(g,fr,false)
def jnL:Nat→List S47→List Nat→Nat→List S47 × Bool
 | 0,g,_,_=>(g,false)
 | d+1,g,fr,a=>((jnL d (jnW g.length g fr a).1 (jnW g.length g fr a).2.1 (a+1)).1,(jnW g.length g fr a).2.2||(jnL d (jnW g.length g fr a).1 (jnW g.length g fr a).2.1 (a+1)).2)
def frG (g:List S47):List Nat:=(List.range g.length).map (jo g)
def jP (g:List S47):List S47 × Bool:=jnL g.length g (frG g) 0
structure sS (g:List S47) (fr:List Nat):Prop where
 len:fr.length=g.length
 eq:∀ t,t<g.length→fr.getD t 0=jo g t
theorem zy (g:List S47):sS g (frG g):=by
 refine ⟨by unfold frG;rw [List.length_map,List.length_range],fun t ht=>?_⟩
 unfold frG
 rw [List.getD_eq_getElem?_getD,List.getElem?_map,List.getElem?_range ht]
 rfl
theorem Aa {g:List S47} (hg:GOk g) {fr:List Nat} (hf:sS g fr) {a:Nat} {b nx:S47} (h:jnY g fr a=some (b,nx)):Mg g a b.f3.toNat b nx:=by
 unfold jnY at h
 cases e:g[a]? with
 | none=>rw [e] at h;cases h
 | some c=>
  rw [e] at h
  dsimp only at h
  by_cases q:c.f1=2∧fr.getD c.f3.toNat 0=1
  · rw [if_pos q] at h
    cases e2:g[c.f3.toNat]? with
    | none=>rw [e2] at h;cases h
    | some d=>
     rw [e2] at h
     cases h
     have hlt:b.f3.toNat<g.length:=(List.getElem?_eq_some_iff.1 e2).1
     exact ⟨hg,e,q.1,rfl,e2,by rw [←hf.eq _ hlt];exact q.2⟩
  rw [if_neg q] at h;cases h
theorem fr_mg {g:List S47} {fr:List Nat} (hf:sS g fr) {a y:Nat} {b nx:S47} (h:Mg g a y b nx):sS (jn1 g a y b nx) (fr.set y 0):=by
 obtain ⟨l1,l2,l3⟩:=h.lt
 refine ⟨by rw [List.length_set,h.len];exact hf.len,fun t ht=>?_⟩
 rw [h.len] at ht
 rw [dL (by rw [hf.len];exact l2),h.cnt]
 by_cases q:y=t
 · rw [if_pos q,if_pos q.symm]
 rw [if_neg q,if_neg (fun h=>q h.symm)];exact hf.eq t ht
structure l6 (g g':List S47) (found:Bool):Prop where
 gok:GOk g'
 len:g'.length=g.length
 run:∀ pk v f t,Rn g pk 0 z16 v f t→Rn g' pk 0 z16 v f t
 ms:msG g'≤msG g
 ph:phG g'≤phG g
 less:found=true→phG g'<phG g
 same:found=false→g'=g
theorem l6.refl {g:List S47} (hg:GOk g):l6 g g false:=⟨hg,rfl,(fun _ _ _ _ h=>h),Nat.le_refl _,Nat.le_refl _,(fun h=>by cases h),fun _=>rfl⟩
theorem l6.one {g:List S47} {a y:Nat} {b nx:S47} (h:Mg g a y b nx):l6 g (jn1 g a y b nx) true:=by
 obtain ⟨w1,w2⟩:=h.w
 obtain ⟨l1,l2,l3⟩:=h.lt
 exact ⟨h.gok',h.len,fun pk v f t hr=>(h.run pk hr).1 (by omega),w2,Nat.le_of_lt w1,fun _=>w1,fun h=>by cases h⟩
theorem l6.trans {g g1 g2:List S47} {f1 f2:Bool} (h:l6 g g1 f1) (h2:l6 g1 g2 f2):l6 g g2 (f1||f2):=by
 refine ⟨h2.gok,h2.len.trans h.len,fun pk v f t hr=>h2.run pk v f t (h.run pk v f t hr),Nat.le_trans h2.ms h.ms,Nat.le_trans h2.ph h.ph,fun hf=>?_,fun hf=>?_⟩
 · have:=h.ph
   have:=h2.ph
   rcases Bool.or_eq_true_iff.1 hf with hf | hf
   · have:=h.less hf;omega
   have:=h2.less hf;omega
 rw [Bool.or_eq_false_iff] at hf
 rw [h2.same hf.2,h.same hf.1]
theorem jnW_ok (P:List S47→Prop) (hP:∀ g a y b nx,Mg g a y b nx→P g→P (jn1 g a y b nx)):∀ (k:Nat) (g:List S47) (fr:List Nat) (a:Nat),GOk g→sS g fr→P g →
 l6 g (jnW k g fr a).1 (jnW k g fr a).2.2∧sS (jnW k g fr a).1 (jnW k g fr a).2.1∧P (jnW k g fr a).1:=by
 intro k
 induction k with
 | zero=>intro g fr a hg hf hp;exact ⟨l6.refl hg,hf,hp⟩
 | succ k ih=>
  intro g fr a hg hf hp
  unfold jnW
  cases e:jnY g fr a with
  | none=>exact ⟨l6.refl hg,hf,hp⟩
  | some q=>
   obtain ⟨b,nx⟩:=q
   have hm:=Aa hg hf e
   obtain ⟨i1,i2,i3⟩:=ih (jn1 g a b.f3.toNat b nx) (fr.set b.f3.toNat 0) a hm.gok' (fr_mg hf hm) (hP _ _ _ _ _ hm hp)
   dsimp only
   have:=(l6.one hm).trans i1
   rw [Bool.true_or] at this
   exact ⟨this,i2,i3⟩
theorem z8 (P:List S47→Prop) (hP:∀ g a y b nx,Mg g a y b nx→P g→P (jn1 g a y b nx)):∀ (d:Nat) (g:List S47) (fr:List Nat) (a:Nat),GOk g→sS g fr→P g →
 l6 g (jnL d g fr a).1 (jnL d g fr a).2∧P (jnL d g fr a).1:=by
 intro d
 induction d with
 | zero=>intro g fr a hg hf hp;exact ⟨l6.refl hg,hp⟩
 | succ d ih=>
  intro g fr a hg hf hp
  unfold jnL
  dsimp only
  obtain ⟨w1,w2,w3⟩:=jnW_ok P hP g.length g fr a hg hf hp
  obtain ⟨i1,i2⟩:=ih _ _ (a+1) w1.gok w2 w3
  exact ⟨w1.trans i1,i2⟩
theorem og {g:List S47} (hg:GOk g):jA g (jP g).1 (jP g).2:=by
 obtain ⟨h,_⟩:=z8 (fun _=>True) (fun _ _ _ _ _ _ _=>trivial) g.length g (frG g) 0 hg (zy g) trivial
 exact ⟨h.gok,fun pk v f t hr=>⟨t,Nat.le_refl _,h.run pk v f t hr⟩,h.ms,h.ph,h.less,h.same⟩
theorem uI (P:List S47→Prop) (hP:∀ g a y b nx,Mg g a y b nx→P g→P (jn1 g a y b nx)) {g:List S47} (hg:GOk g) (hp:P g):P (jP g).1:=
 (z8 P hP g.length g (frG g) 0 hg (zy g) hp).2
theorem zZ:∀ (d:Nat) (g:List S47) (fr:List Nat) (a:Nat),0<g.length→(jnL d g fr a).2=false→∀ j,a≤j→j<a+d→jnY g fr j=none:=by
 intro d
 induction d with
 | zero=>intro g fr a _ _ j h1 h2;omega
 | succ d ih=>
  intro g fr a hl h j h1 h2
  unfold jnL at h
  dsimp only at h
  rw [Bool.or_eq_false_iff] at h
  obtain ⟨L,hL⟩:∃ L,g.length=L+1:=⟨g.length - 1,by omega⟩
  rw [hL] at h
  have key:jnY g fr a=none∧jnW (L+1) g fr a=(g,fr,false):=by
   cases e:jnY g fr a with
   | none=>
    refine ⟨rfl,?_⟩
    unfold jnW;rw [e]
   | some q=>
    obtain ⟨b,nx⟩:=q
    have h1:=h.1
    unfold jnW at h1
    rw [e] at h1
    cases h1
  rw [key.2] at h
  by_cases q:j=a
  · subst q;exact key.1
  exact ih g fr (a+1) hl h.2 j (by omega) (by omega)
theorem xy {g:List S47} (hg:GOk g) (h:(jP g).2=false):∀ (j:Nat) (b:S47),g[j]?=some b→b.f1=2→jo g b.f3.toNat≠1:=by
 intro j b hb h2 hc
 have hj:j<g.length:=(List.getElem?_eq_some_iff.1 hb).1
 have:=zZ g.length g (frG g) 0 hg.some_ h j (Nat.zero_le _) (by omega)
 have hy:=bB (hg.all j b hb).goal (by omega)
 have hlt:b.f3.toNat<g.length:=by omega
 unfold jnY at this
 rw [hb] at this
 dsimp only at this
 rw [if_pos ⟨h2,by rw [(zy g).eq _ hlt];exact hc⟩,List.getElem?_eq_getElem hlt] at this
 cases this
def szM:List S47→Nat→List Bool→Nat
 | [],_,_=>0
 | b :: r,n,m=>(if m.getD n false=true then 0 else szB b)+szM r (n+1) m
structure Mk (g:List S47) (m:List Bool) (S:Nat):Prop where
 len:m.length=g.length
 zero:m.getD 0 false=false
 cl:∀ (j:Nat) (b:S47),g[j]?=some b→m.getD j false=false→(b.f1≠1→m.getD b.f3.toNat false=false)∧(b.f1=3→m.getD b.f4.toNat false=false)
 sz:szM g 0 m≤S
def Mks (g:List S47) (S:Nat):Prop:=∃ m,Mk g m S
theorem mV (n j:Nat):(List.replicate n false).getD j false=false:=by
 rw [List.getD_eq_getElem?_getD,List.getElem?_replicate];split<;>rfl
theorem szM_all:∀ (g:List S47) (n:Nat) (m:List Bool),(∀ j,n≤j→j<n+g.length→m.getD j false=false)→szM g n m=szG g:=by
 intro g
 induction g with
 | nil=>intro n m _;rfl
 | cons b r ih=>
  intro n m h
  unfold szM szG
  rw [h n (Nat.le_refl n) (by rw [List.length_cons];omega),if_neg (by decide),ih (n+1) m (fun j h1 h2=>h j (by omega) (by rw [List.length_cons];omega)),List.map_cons,List.sum_cons]
  rfl
theorem mks_0 (g:List S47):Mks g (szG g):=
 ⟨List.replicate g.length false,by rw [List.length_replicate],mV _ _,fun j b _ _=>⟨fun _=>mV _ _,fun _=>mV _ _⟩,Nat.le_of_eq (szM_all g 0 _ (fun j _ _=>mV _ _))⟩
theorem szM_le (m:List Bool):∀ (g g':List S47) (n:Nat),g'.length=g.length→(∀ (j:Nat) (b b':S47),g[j]?=some b→g'[j]?=some b'→szB b'≤szB b)→szM g' n m≤szM g n m:=by
 intro g
 induction g with
 | nil=>intro g' n h _;cases g' with | nil=>exact Nat.le_refl _ | cons=>cases h
 | cons b r ih=>
  intro g' n h H
  cases g' with
  | nil=>cases h
  | cons b' r'=>
   unfold szM
   have h0:=H 0 b b' rfl rfl
   have h1:=ih r' (n+1) (by simpa using h) (fun j c c' hc hc'=>H (j+1) c c' hc hc')
   split<;>omega
theorem r9 {g g':List S47} {m:List Bool} {S:Nat} (h:Mk g m S) (hl:g'.length=g.length) (H:∀ (j:Nat) (b b':S47),g[j]?=some b→g'[j]?=some b'→szB b'≤szB b ∧
 ((b.f1≠1→m.getD b.f3.toNat false=false)→(b.f1=3→m.getD b.f4.toNat false=false)→(b'.f1≠1→m.getD b'.f3.toNat false=false)∧(b'.f1=3→m.getD b'.f4.toNat false=false))):Mk g' m S:=by
 refine ⟨h.len.trans hl.symm,h.zero,fun j b' hb' hm=>?_,Nat.le_trans (szM_le m g g' 0 hl (fun j b b' hb hb'=>(H j b b' hb hb').1)) h.sz⟩
 have hj:j<g.length:=by rw [←hl];exact (List.getElem?_eq_some_iff.1 hb').1
 have hb:=List.getElem?_eq_getElem hj
 have:=h.cl j _ hb hm
 exact (H j _ b' hb hb').2 this.1 this.2
theorem en_goal {s:St} {b:S47} {i n:Int} (h:BOk b i n) (P:Int→Prop) (h3:b.f1≠1→P b.f3) (h4:b.f1=3→P b.f4):((enF s b).1.f1≠1→P (enF s b).1.f3)∧((enF s b).1.f1=3→P (enF s b).1.f4):=by
 unfold enF
 by_cases q:b.f1=1∧b.f2.f0=22
 · rw [if_pos q]
   cases gS s 0 with
   | none=>exact ⟨h3,h4⟩
   | some a=>exact ⟨h3,h4⟩
 rw [if_neg q]
 by_cases q3:b.f1≠3
 · rw [if_pos q3];exact ⟨h3,h4⟩
 rw [if_neg q3]
 cases jI s (gN s b.f2).1 with
 | none=>exact ⟨h3,h4⟩
 | some y=>
  dsimp only
  refine ⟨fun _=>?_,fun e=>by cases e⟩
  split
  · exact h3 (by omega)
  exact h4 (by omega)
theorem fold_mk {g:List S47} (hg:GOk g) {S:Nat} (h:Mks g S):Mks (jq g).1 S:=by
 obtain ⟨m,h⟩:=h
 obtain ⟨a1,_⟩:=vS hg.some_
 have hb:∀ (j:Nat) (b:S47),g[j]?=some b→BOk b ((0+j:Nat):Int) g.length:=fun j b h=>by rw [Nat.zero_add];exact hg.all j b h
 refine ⟨m,r9 h (zo g 0 _) (fun j b b' hj hj'=>?_)⟩
 obtain ⟨b0,hb0,e | ⟨s,hs,e⟩⟩:=fd_at g.length g 0 _ a1 hb j b' hj'
 · rw [hj] at hb0;cases hb0
   subst e
   exact ⟨Nat.le_refl _,fun h3 h4=>⟨h3,h4⟩⟩
 rw [hj] at hb0;cases hb0
 subst e
 have hok:=hg.all j b hj
 refine ⟨(zx hok hs).2.2.2,fun h3 h4=>?_⟩
 obtain ⟨a,c,d,_⟩:=lU b.f0 s hs hok.code hok.rg
 exact en_goal (b:=⟨(cu s b.f0).1,b.f1,b.f2,b.f3,b.f4⟩) ⟨a,hok.ends,hok.goal,c,hok.rl⟩ (fun x=>m.getD x.toNat false=false) h3 h4
theorem copy_mk {g:List S47} {S:Nat} (h:Mks g S):Mks (jb g).1 S:=by
 obtain ⟨m,h⟩:=h
 refine ⟨m,r9 h (List.length_map ..) (fun j b b' hj hj'=>?_)⟩
 have:some b'=some (gz b).1:=by
  rw [←hj']
  show (g.map _)[j]?=_
  rw [List.getElem?_map,hj];rfl
 cases this
 refine ⟨?_,fun h3 h4=>⟨h3,h4⟩⟩
 have:=(nD b.f0 iJ 18).1.length_le
 show (cpF iJ 18 b.f0).1.length+(if b.f1=2 then 0 else 1)≤b.f0.length+(if b.f1=2 then 0 else 1)
 omega
theorem dead_mk {g:List S47} (hg:GOk g) {S:Nat} (h:Mks g S):Mks (jM g).1 S:=by
 obtain ⟨m,h⟩:=h
 have H:=zf g.length (ddL g 0).2.1 g 0 (fun j b h=>by rw [Nat.zero_add];exact hg.all j b h) (fun j _=>rfl)
 refine ⟨m,r9 h (zg g 0).1 (fun j b b' hj hj'=>?_)⟩
 obtain ⟨b2,hb2,hd⟩:=H j b hj
 have:some b2=some b':=hb2.symm.trans hj'
 cases this
 rw [hd.blk]
 refine ⟨?_,fun h3 h4=>⟨h3,h4⟩⟩
 have:=(rF (lvF b ((ddL g 0).2.1.getD b.f3.toNat noW) ((ddL g 0).2.1.getD b.f4.toNat noW)) b.f0).1.length_le
 unfold szB
 dsimp only
 omega
theorem on_mk {g:List S47} {m:List Bool} {S:Nat} (h:Mk g m S):∀ (k j:Nat),m.getD j false=false→m.getD (onF g k j) false=false:=by
 intro k
 induction k with
 | zero=>intro j hj;exact hj
 | succ k ih=>
  intro j hj
  unfold onF
  cases e:g[j]? with
  | none=>exact hj
  | some b=>
   dsimp only
   by_cases q:fB b=true
   · rw [if_pos q]
     exact ih _ ((h.cl j b e hj).1 (by have:=(iP.1 q).1;omega))
   rw [if_neg q];exact hj
theorem goal_mk {g:List S47} (hg:GOk g) {S:Nat} (h:Mks g S):Mks (iF g).1 S:=by
 obtain ⟨m,h⟩:=h
 refine ⟨m,r9 h (List.length_map ..) (fun j b b' hj hj'=>?_)⟩
 have:some (goB g b).1=some b':=(kT hj).symm.trans hj'
 cases this
 refine ⟨(xn hg (hg.all j b hj)).2.2.2.2,fun h3 h4=>?_⟩
 have hon:∀ x:Nat,m.getD x false=false→m.getD (onG g x:Int).toNat false=false:=fun x hx=>by
  rw [Int.toNat_natCast];exact on_mk h g.length x hx
 unfold goB
 by_cases e1:b.f1=1
 · rw [if_pos e1];exact ⟨h3,h4⟩
 rw [if_neg e1]
 by_cases e2:b.f1=2
 · rw [if_pos e2]
   exact ⟨fun _=>hon _ (h3 e1),fun e=>by dsimp only at e;omega⟩
 rw [if_neg e2]
 split
 · exact ⟨fun _=>hon _ (h3 e1),fun e=>by cases e⟩
 exact ⟨fun _=>hon _ (h3 e1),fun e=>hon _ (h4 e)⟩
theorem cm_mk {g:List S47} {m:List Bool} {S:Nat} (h:Mk g m S):∀ (l:List S47) (n:Nat) (c:List Bool),(∀ (j:Nat) (b:S47),l[j]?=some b→g[n+j]?=some b)→(∀ j,c.getD j false=true→m.getD j false=false)→∀ j,(cmF l n c).getD j false=true→m.getD j false=false:=by
 intro l
 induction l with
 | nil=>intro n c _ hc;exact hc
 | cons b r ih=>
  intro n c hb hc
  unfold cmF
  refine ih (n+1) _ (fun j x hx=>by rw [show n+1+j=n+(j+1) by omega];exact hb (j+1) x hx) ?_
  intro j hj
  by_cases q:c.getD n false=true
  · rw [if_pos q] at hj
    have h0:=h.cl n b (hb 0 b rfl) (hc n q)
    have st:∀ (c:List Bool) (i j:Nat),(c.set i true).getD j false=true→c.getD j false=true∨i=j:=fun c i j e=>by
     by_cases hi:i=j
     · exact .inr hi
     rw [mW hi] at e;exact .inl e
    unfold mkC at hj
    by_cases e1:b.f1=1
    · rw [if_pos e1] at hj;exact hc j hj
    rw [if_neg e1] at hj
    by_cases e3:b.f1=3
    · rw [if_pos e3] at hj
      rcases st _ _ _ hj with hj | rfl
      · rcases st _ _ _ hj with hj | rfl
        · exact hc j hj
        exact h0.1 e1
      exact h0.2 e3
    rw [if_neg e3] at hj
    rcases st _ _ _ hj with hj | rfl
    · exact hc j hj
    exact h0.1 e1
  rw [if_neg q] at hj;exact hc j hj
theorem come_mk {g:List S47} (hg:GOk g) {m:List Bool} {S:Nat} (h:Mk g m S):∀ j,(fU g (onG g 0)).getD j false=true→m.getD j false=false:=by
 refine cm_mk h g 0 _ (fun j b hb=>by rw [Nat.zero_add];exact hb) (fun j hj=>?_)
 by_cases q:onG g 0=j
 · subst q;exact on_mk h g.length 0 h.zero
 rw [mW q,mV] at hj;cases hj
theorem dp_mk (c m:List Bool) (hcm:∀ j,c.getD j false=true→m.getD j false=false):∀ (l:List S47) (n:Nat),szG (dpL c l n)≤szM l n m:=by
 intro l
 induction l with
 | nil=>intro n;exact Nat.le_refl _
 | cons b r ih=>
  intro n
  have:=ih (n+1)
  unfold szM
  by_cases q:c.getD n false=true
  · rw [nE q,if_neg (by rw [hcm n q];decide)]
    unfold szG at *
    rw [List.map_cons,List.sum_cons]
    have e:szB (gM c b)=szB b:=rfl
    omega
  rw [tH q];omega
theorem drop_mk {g:List S47} (hg:GOk g) {S:Nat} (h:Mks g S):Mks (iV g).1 S:=by
 obtain ⟨m,h⟩:=h
 unfold iV
 by_cases q:cO (fU g (onG g 0)) g.length=g.length
 · rw [if_pos q];exact ⟨m,h⟩
 rw [if_neg q]
 have h1:=dp_mk (fU g (onG g 0)) m (come_mk hg h) g 0
 have h2:=h.sz
 obtain ⟨m2,k⟩:=mks_0 (dpL (fU g (onG g 0)) g 0)
 exact ⟨m2,k.len,k.zero,k.cl,Nat.le_trans k.sz (Nat.le_trans h1 h2)⟩
theorem sZ {g:List S47} (hg:GOk g) (h:(iV g).2=false):∀ j,j<g.length→(fU g (onG g 0)).getD j false=true:=by
 unfold iV at h
 by_cases q:cO (fU g (onG g 0)) g.length=g.length
 · intro j hj
   generalize fU g (onG g 0)=c at *
   cases e:c.getD j false with
   | true=>rfl
   | false=>
    have a1:=(iW (c:=c) (i:=0) (j:=j) (Nat.zero_le _)).2
    have a2:=nI (c:=c) (n:=j) (by rw [e];decide)
    have a3:=(iW (c:=c) (i:=j+1) (j:=g.length) (by omega)).2
    have a4:cO c 0=0:=rfl
    omega
 rw [if_neg q] at h;cases h
theorem jw (b:S47) (r:List S47) (n:Nat) (m:List Bool):szM (b :: r) n m=(if m.getD n false=true then 0 else szB b)+szM r (n+1) m:=rfl
theorem wP (m:List Bool):∀ (g:List S47) (n i:Nat) (b c:S47),g[i]?=some b→szM (g.set i c) n m+(if m.getD (n+i) false=true then 0 else szB b)=szM g n m+(if m.getD (n+i) false=true then 0 else szB c):=by
 intro g
 induction g with
 | nil=>intro n i b c h;simp at h
 | cons a r ih=>
  intro n i b c h
  cases i with
  | zero=>
   cases h
   show szM (c :: r) n m+(if m.getD n false=true then 0 else szB a)=szM (a :: r) n m+(if m.getD n false=true then 0 else szB c)
   rw [jw,jw]
   generalize (if m.getD n false=true then 0 else szB a)=u
   generalize (if m.getD n false=true then 0 else szB c)=v
   omega
  | succ i=>
   have:=ih (n+1) i b c h
   rw [show n+1+i=n+(i+1) by omega] at this
   rw [List.set_cons_succ,jw,jw]
   omega
theorem szM_far (m:List Bool) (x:Nat) (hl:x<m.length):∀ (r:List S47) (k:Nat),x<k→szM r k (m.set x true)=szM r k m:=by
 intro r
 induction r with
 | nil=>intro k _;rfl
 | cons y r ih2=>
  intro k hk
  have e:(m.set x true).getD k false=m.getD k false:=by rw [dL hl,if_neg (by omega)]
  rw [jw,jw,ih2 (k+1) (by omega),e]
theorem Cm (m:List Bool):∀ (g:List S47) (n i:Nat) (b:S47),g[i]?=some b→n+i<m.length→szM g n (m.set (n+i) true)+(if m.getD (n+i) false=true then 0 else szB b)=szM g n m:=by
 intro g
 induction g with
 | nil=>intro n i b h;simp at h
 | cons a r ih=>
  intro n i b h hl
  rw [jw,jw]
  cases i with
  | zero=>
   cases h
   have e:(m.set n true).getD n false=true:=by rw [dL (by omega),if_pos rfl]
   rw [Nat.add_zero,szM_far m n (by omega) r (n+1) (by omega),e,if_pos rfl]
   omega
  | succ i=>
   have:=ih (n+1) i b h (by omega)
   rw [show n+1+i=n+(i+1) by omega] at this
   have e:(m.set (n+(i+1)) true).getD n false=m.getD n false:=by rw [dL hl,if_neg (by omega)]
   rw [e]
   omega
theorem join_mk {g:List S47} (hg:GOk g) {S:Nat} (h:Mks g S):Mks (jP g).1 S:=by
 refine uI (fun g=>Mks g S) ?_ hg h
 rintro g a y b nx hm ⟨m,h⟩
 obtain ⟨l1,l2,l3⟩:=hm.lt
 obtain ⟨g1,g2,g3⟩:=hm.get
 have hml:=h.len
 have hgo:=hm.goes
 have hgl:=hm.goal
 have hset:∀ x,(m.set y true).getD x false=if y=x then true else m.getD x false:=fun x=>dL (by omega)
 refine ⟨m.set y true,by rw [List.length_set,hm.len];exact hml,by rw [hset,if_neg (by omega)];exact h.zero,fun j c hc hj=>?_,?_⟩
 · rw [hset] at hj
   by_cases qy:y=j
   · rw [if_pos qy] at hj;cases hj
   rw [if_neg qy] at hj
   have fin:∀ x:Nat,m.getD x false=false→x≠y→(m.set y true).getD x false=false:=fun x h1 h2=>by
    rw [hset,if_neg (fun e=>h2 e.symm)];exact h1
   by_cases qa:j=a
   · subst qa
     rw [g1] at hc
     cases hc
     have hy:=(h.cl j b hm.at_ hj).1 (by omega)
     rw [hgl] at hy
     have hn:=h.cl y nx hm.nx hy
     have hok:=hm.gok.all y nx hm.nx
     refine ⟨fun e=>fin _ (hn.1 e) ?_,fun e=>fin _ (hn.2 e) ?_⟩
     · have:=bB hok.goal e;show nx.f3.toNat≠y;omega
     have:=dM hok.goal e;show nx.f4.toNat≠y;omega
   rw [g3 j qa (fun e=>qy e.symm)] at hc
   have hn:=h.cl j c hc hj
   have hone:=hm.one
   have c1:=pq (b:=b) (t:=y) (by omega) hgl
   have c2:=vZ (t:=y) hm.at_ hc (Ne.symm qa)
   refine ⟨fun e=>fin _ (hn.1 e) (fun e2=>?_),fun e=>fin _ (hn.2 e) (fun e2=>?_)⟩
   · have:=pq (b:=c) e e2;omega
   have:=cE_no (b:=c) e e2;omega
 have s1:=wP m g 0 a b (mgB b nx) hm.at_
 have s2:=wP m (g.set a (mgB b nx)) 0 y nx jU (by rw [je (by omega)];exact hm.nx)
 have s3:=Cm m (jn1 g a y b nx) 0 y jU g2 (by omega)
 rw [Nat.zero_add] at s1 s2 s3
 have hs:=h.sz
 change szM (jn1 g a y b nx) 0 m+_=_ at s2
 have z1:szB b=b.f0.length:=by unfold szB;rw [if_pos hgo];rfl
 have z2:szB (mgB b nx)=b.f0.length+szB nx:=by
  have e:(mgB b nx).f0.length=b.f0.length+nx.f0.length:=List.length_append
  show (mgB b nx).f0.length+(if nx.f1=2 then 0 else 1)=b.f0.length+(nx.f0.length+(if nx.f1=2 then 0 else 1))
  omega
 have hcl:=(h.cl a b hm.at_)
 rw [z1,z2] at s1
 cases ea:m.getD a false with
 | true=>
  rw [ea,if_pos rfl,if_pos rfl] at s1
  by_cases ey:m.getD y false=true
  · rw [if_pos ey,if_pos ey] at s2
    rw [if_pos ey] at s3
    omega
  rw [if_neg ey,if_neg ey] at s2
  rw [if_neg ey] at s3
  omega
 | false=>
  rw [ea,if_neg (by decide),if_neg (by decide)] at s1
  have hy:=(hcl ea).1 (by omega)
  rw [hgl] at hy
  rw [hy,if_neg (by decide),if_neg (by decide)] at s2
  rw [hy,if_neg (by decide)] at s3
  omega
def r1 (g:List S47):=jq g
def r2 (g:List S47):=jb (r1 g).1
def r3 (g:List S47):=jM (r2 g).1
def r4 (g:List S47):=iF (r3 g).1
def r5 (g:List S47):=iV (r4 g).1
def r6 (g:List S47):=jP (r5 g).1
def iD (g:List S47):List S47 × Bool:=((r6 g).1,(r6 g).2||((r5 g).2||((r4 g).2||((r3 g).2||((r2 g).2||(r1 g).2)))))
def qw:Nat→List S47→List S47
 | 0,g=>g
 | k+1,g=>if (iD g).2=true then qw k (iD g).1 else (iD g).1
theorem jA.trans {g g1 g2:List S47} {f1 f2:Bool} (h:jA g g1 f1) (h2:jA g1 g2 f2):jA g g2 (f2||f1):=by
 refine ⟨h2.gok,fun pk v f t hr=>?_,Nat.le_trans h2.ms h.ms,Nat.le_trans h2.ph h.ph,fun hf=>?_,fun hf=>?_⟩
 · obtain ⟨t1,l1,hr1⟩:=h.run pk v f t hr
   obtain ⟨t2,l2,hr2⟩:=h2.run pk v f t1 hr1
   exact ⟨t2,by omega,hr2⟩
 · have:=h.ph
   have:=h2.ph
   rcases Bool.or_eq_true_iff.1 hf with hf | hf
   · have:=h2.less hf;omega
   have:=h.less hf;omega
 rw [Bool.or_eq_false_iff] at hf
 rw [h2.same hf.1,h.same hf.2]
theorem kI {g:List S47} (hg:GOk g):jA g (iD g).1 (iD g).2:=by
 have b1:=j5 hg
 have b2:=b1.trans (jX b1.gok)
 have b3:=b2.trans (jY b2.gok)
 have b4:=b3.trans (j6 b3.gok)
 have b5:=b4.trans (jZ b4.gok)
 exact b5.trans (og b5.gok)
theorem BH {g:List S47} (hg:GOk g) {S:Nat} (h:Mks g S):Mks (iD g).1 S:=by
 have b1:=j5 hg
 have b2:=b1.trans (jX b1.gok)
 have b3:=b2.trans (jY b2.gok)
 have b4:=b3.trans (j6 b3.gok)
 have b5:=b4.trans (jZ b4.gok)
 exact join_mk b5.gok (drop_mk b4.gok (goal_mk b3.gok (dead_mk b2.gok (copy_mk (fold_mk hg h)))))
structure Done (x:List S47):Prop where
 gok:GOk x
 fold:(jq x).2=false
 dead:(jM x).2=false
 goal:(iF x).2=false
 drop:(iV x).2=false
 join:(jP x).2=false
theorem vD {g:List S47} (hg:GOk g) (h:(iD g).2=false):(iD g).1=g∧Done g:=by
 have hb:=kI hg
 unfold iD at h
 simp only [Bool.or_eq_false_iff] at h
 obtain ⟨h6,h5,h4,h3,h2,h1⟩:=h
 have b1:=j5 hg
 have e1:(r1 g).1=g:=b1.same h1
 have b2:=jX (show GOk (r1 g).1 by rw [e1];exact hg)
 have e2:(r2 g).1=g:=(b2.same h2).trans e1
 have b3:=jY (show GOk (r2 g).1 by rw [e2];exact hg)
 have e3:(r3 g).1=g:=(b3.same h3).trans e2
 have b4:=j6 (show GOk (r3 g).1 by rw [e3];exact hg)
 have e4:(r4 g).1=g:=(b4.same h4).trans e3
 have b5:=jZ (show GOk (r4 g).1 by rw [e4];exact hg)
 have e5:(r5 g).1=g:=(b5.same h5).trans e4
 refine ⟨hb.same (by unfold iD;simp [h1,h2,h3,h4,h5,h6]),hg,h1,?_,?_,?_,?_⟩
 · rw [←e2];exact h3
 · rw [←e3];exact h4
 · rw [←e4];exact h5
 rw [←e5];exact h6
structure Impr (g x:List S47):Prop where
 done:Done x
 run:∀ pk v f t,Rn g pk 0 z16 v f t→∃ t',t'≤t∧Rn x pk 0 z16 v f t'
 ms:msG x≤msG g
 size:∀ S,Mks g S→Mks x S
theorem imp_ok:∀ (k:Nat) (g:List S47),GOk g→phG g<k→Impr g (qw k g):=by
 intro k
 induction k with
 | zero=>intro g _ h;omega
 | succ k ih=>
  intro g hg h
  have hb:=kI hg
  unfold qw
  by_cases q:(iD g).2=true
  · rw [if_pos q]
    have:=hb.less q
    obtain ⟨a,b,c,d⟩:=ih (iD g).1 hb.gok (by omega)
    refine ⟨a,fun pk v f t hr=>?_,Nat.le_trans c hb.ms,fun S hS=>d S (BH hg hS)⟩
    obtain ⟨t1,l1,hr1⟩:=hb.run pk v f t hr
    obtain ⟨t2,l2,hr2⟩:=b pk v f t1 hr1
    exact ⟨t2,by omega,hr2⟩
  rw [if_neg q]
  have q':(iD g).2=false:=by simpa using q
  obtain ⟨e,hd⟩:=vD hg q'
  rw [e]
  exact ⟨hd,fun pk v f t hr=>⟨t,Nat.le_refl _,hr⟩,Nat.le_refl _,fun S h=>h⟩
theorem cm_all (P:Nat→Prop):∀ (l:List S47) (n:Nat) (c:List Bool),(∀ b∈l,(b.f1≠1→P b.f3.toNat)∧(b.f1=3→P b.f4.toNat))→(∀ j,c.getD j false=true→P j)→∀ j,(cmF l n c).getD j false=true→P j:=by
 intro l
 induction l with
 | nil=>intro n c _ hc;exact hc
 | cons b r ih=>
  intro n c hb hc
  unfold cmF
  refine ih (n+1) _ (fun x hx=>hb x (List.mem_cons_of_mem _ hx)) ?_
  intro j hj
  have h0:=hb b (List.mem_cons_self ..)
  have st:∀ (c:List Bool) (i j:Nat),(c.set i true).getD j false=true→c.getD j false=true∨i=j:=fun c i j e=>by
   by_cases hi:i=j
   · exact .inr hi
   rw [mW hi] at e;exact .inl e
  by_cases q:c.getD n false=true
  · rw [if_pos q] at hj
    unfold mkC at hj
    by_cases e1:b.f1=1
    · rw [if_pos e1] at hj;exact hc j hj
    rw [if_neg e1] at hj
    by_cases e3:b.f1=3
    · rw [if_pos e3] at hj
      rcases st _ _ _ hj with hj | rfl
      · rcases st _ _ _ hj with hj | rfl
        · exact hc j hj
        exact h0.1 e1
      exact h0.2 e3
    rw [if_neg e3] at hj
    rcases st _ _ _ hj with hj | rfl
    · exact hc j hj
    exact h0.1 e1
  rw [if_neg q] at hj;exact hc j hj
theorem Done.first {x:List S47} (h:Done x):onG x 0=0:=by
 have hc:=sZ h.gok h.drop 0 h.gok.some_
 refine Nat.eq_zero_of_not_pos fun hp=>?_
 have:=yY x.length (onG x 0) x 0 ((List.replicate x.length false).set (onG x 0) true) (fun j b hb=>by rw [Nat.zero_add];exact h.gok.all j b hb) (fun j hj=>by
  rw [mW (by omega),mV]) 0 hp
 change (fU x (onG x 0)).getD 0 false=false at this
 rw [hc] at this;cases this
theorem Done.come {x:List S47} (h:Done x):∀ j,j<x.length→(fU x 0).getD j false=true:=by
 have:=sZ h.gok h.drop
 rw [h.first] at this
 exact this
theorem Done.gb {x:List S47} (h:Done x) {b:S47} (hb:b∈x):(goB x b).2=false:=by
 have h2:x.any (fun b=>(goB x b).2)=false:=h.goal
 rw [List.any_eq_false] at h2
 simpa using h2 b hb
theorem Done.on {x:List S47} (h:Done x) {j:Nat} {b:S47} (hb:x[j]?=some b):(b.f1≠1→onG x b.f3.toNat=b.f3.toNat)∧(b.f1=3→onG x b.f4.toNat=b.f4.toNat∧b.f3≠b.f4):=by
 have hok:=h.gok.all j b hb
 have hf:=h.gb (List.mem_of_getElem? hb)
 unfold goB at hf
 rcases eO hok.ends with ⟨h1,_⟩ | ⟨h1,_⟩ | ⟨h1,_⟩
 · exact ⟨fun e=>absurd h1 e,fun e=>by omega⟩
 · rw [if_neg (by omega),if_pos h1] at hf
   have hy:=bB hok.goal (by omega)
   have:=of_decide_eq_false hf
   exact ⟨fun _=>by omega,fun e=>by omega⟩
 rw [if_neg (by omega),if_neg (by omega)] at hf
 have hy:=bB hok.goal (by omega)
 have hn:=dM hok.goal h1
 by_cases q:onG x b.f3.toNat=onG x b.f4.toNat
 · rw [if_pos q] at hf;cases hf
 rw [if_neg q] at hf
 simp only [Bool.or_eq_false_iff,decide_eq_false_iff_not] at hf
 refine ⟨fun _=>by omega,fun _=>⟨by omega,fun e=>q (by rw [e])⟩⟩
theorem Done.nobare {x:List S47} (h:Done x) {j:Nat} {b:S47} (hb:x[j]?=some b):¬fB b=true:=by
 have hj:j<x.length:=(List.getElem?_eq_some_iff.1 hb).1
 have P:=cm_all (fun j=>∀ b,x[j]?=some b→¬fB b=true) x 0 ((List.replicate x.length false).set 0 true) (fun b hb=>?_) (fun j hj c hc=>?_) j (h.come j hj) b hb
 · exact P
 · obtain ⟨i,hi⟩:=List.getElem?_of_mem hb
   have hok:=h.gok.all i b hi
   have ho:=h.on hi
   refine ⟨fun e c hc=>?_,fun e c hc=>?_⟩
   · have hy:=bB hok.goal e
     obtain ⟨d,hd,hn⟩:=uR h.gok x.length b.f3.toNat (by omega) (by omega)
     rw [ho.1 e,hc] at hd
     cases hd;exact hn
   have hy:=dM hok.goal e
   obtain ⟨d,hd,hn⟩:=uR h.gok x.length b.f4.toNat (by omega) (by omega)
   rw [(ho.2 e).1,hc] at hd
   cases hd;exact hn
 by_cases q:0=j
 · subst q
   obtain ⟨d,hd,hn⟩:=uR h.gok x.length 0 (by omega) h.gok.some_
   rw [h.first,hc] at hd
   cases hd;exact hn
 rw [mW q,mV] at hj;cases hj
theorem fd_none (L:Nat):∀ (l:List S47) (n:Nat) (A:AC),AOk A L→(∀ (j:Nat) (b:S47),l[j]?=some b→BOk b ((n+j:Nat):Int) L)→(fdL l n A).2=false →
 ∀ (j:Nat) (b:S47),l[j]?=some b→(cmF l n A.2).getD (n+j) false=true→∃ s,Wst s∧(dH s b).2.2=false:=by
 intro l
 induction l with
 | nil=>intro n A _ _ _ j b h;simp at h
 | cons b0 r ih=>
  intro n A hA hb hf j b h hc
  have hb0:BOk b0 ((n:Nat):Int) L:=hb 0 b0 rfl
  have hr:∀ (j:Nat) (b:S47),r[j]?=some b→BOk b ((n+1+j:Nat):Int) L:=fun j c hc=>by
   have:=hb (j+1) c hc
   rw [show n+1+j=n+(j+1) by omega];exact this
  have ho:=cm_o L (b0 :: r) n A.2 hb n (Nat.le_refl n)
  unfold fdL at hf
  by_cases q:A.2.getD n false=true
  · rw [if_pos q,Bool.or_eq_false_iff] at hf
    have hw:=hA.wst n q
    have hs:=lK hb0 hw hf.1
    cases j with
    | zero=>cases h;exact ⟨_,hw,hf.1⟩
    | succ j=>
     have f2:=hf.2
     rw [hs] at f2
     obtain ⟨w1,w2,_⟩:=jO hb0 hw
     rw [hs] at w1
     have hcome:(nxF b0 (dH (A.1.getD n []) b0).2.1 A).2=mkC b0 A.2:=by
      unfold nxF mkC
      rcases eO hb0.ends with ⟨h1,_⟩ | ⟨h1,_⟩ | ⟨h1,_⟩
      · rw [if_neg (by omega),if_neg (by omega),if_pos h1]
      · rw [if_pos h1,if_neg (by omega),if_neg (by omega)];rfl
      rw [if_neg (by omega),if_pos h1,if_neg (by omega),if_pos h1];rfl
     refine ih (n+1) _ (qP hA w1 w2) hr f2 j b h ?_
     rw [hcome]
     unfold cmF at hc
     rw [if_pos q] at hc
     rw [show n+1+j=n+(j+1) by omega];exact hc
  rw [if_neg q] at hf
  cases j with
  | zero=>rw [Nat.add_zero,ho] at hc;exact absurd hc q
  | succ j=>
   refine ih (n+1) _ hA hr hf j b h ?_
   unfold cmF at hc
   rw [if_neg q] at hc
   rw [show n+1+j=n+(j+1) by omega];exact hc
theorem Done.folded {x:List S47} (h:Done x) {j:Nat} {b:S47} (hb:x[j]?=some b):∃ s,Wst s∧(dH s b).2.2=false:=by
 have hj:j<x.length:=(List.getElem?_eq_some_iff.1 hb).1
 obtain ⟨a1,_⟩:=vS h.gok.some_
 refine fd_none x.length x 0 _ a1 (fun j b h2=>by rw [Nat.zero_add];exact h.gok.all j b h2) h.fold j b hb ?_
 rw [Nat.zero_add]
 exact h.come j hj
theorem xU (s:St) (i:S45) (r:List S45):cu s (i :: r)=if iq s (dn s i)=true then ((cu s r).1,(cu s r).2.1,true)
 else (dn s i :: (cu (dK s (dn s i)) r).1,(cu (dK s (dn s i)) r).2.1,neI (dn s i) i||(cu (dK s (dn s i)) r).2.2):=rfl
theorem qg {s:St} {i:S45} {r:List S45} (h:(cu s (i :: r)).2.2=false):iq s i=false∧dn s i=i∧(cu (dK s i) r).2.2=false∧(cu s (i :: r)).2.1=(cu (dK s i) r).2.1:=by
 rw [xU] at h ⊢
 by_cases q:iq s (dn s i)=true
 · rw [if_pos q] at h;cases h
 rw [if_neg q] at h
 dsimp only at h
 rw [Bool.or_eq_false_iff] at h
 have e:=AV h.1
 have h2:=h.2
 rw [if_neg q]
 rw [e] at q h2 ⊢
 exact ⟨by simpa using q,rfl,h2,rfl⟩
theorem qI {s:St} (i:S45):(dK s i).length=s.length:=by
 unfold dK
 repeat (refine eF (P:=fun t:St=>t.length=s.length) (fun _=>by rw [List.length_set]) (fun _=>?_))
 rw [List.length_set]
theorem xA {s:St} {v:Int} (hs:gS s 0=some v) {i:S45} (h:dn s i=i) (hc:i.f0∈eQ∨i.f0=132):False:=by
 obtain ⟨c,jt,jf,k⟩:=i
 dsimp only at hc
 have H:∀ x∈eQ,x ∉ ldL∧x≠7∧x≠135∧x≠132∧x ∉ gH∧x≠0:=by decide
 have e0:(dn s ⟨c,jt,jf,k⟩).f0=0:=by
  unfold dn
  dsimp only
  rcases hc with hc | rfl
  · obtain ⟨a1,a2,a3,a4,a5,a6⟩:=H c hc
    rw [if_neg a1,if_neg (by omega),if_pos (.inr (.inl hc))]
    unfold ru jF
    dsimp only
    rw [if_neg a4,if_neg a5,hs]
  rw [if_neg (by decide),if_neg (by decide),if_pos (.inl rfl)]
  unfold ru
  dsimp only
  rw [if_pos rfl,hs]
 rw [h] at e0
 dsimp only at e0
 subst e0
 rcases hc with hc | hc
 · exact (H 0 hc).2.2.2.2.2 rfl
 cases hc
theorem Ci:∀ (c:List S45) (s:St),s.length=18→(cu s c).2.2=false→∀ (j:Nat) (a b:S45),c[j]?=some a→c[j+1]?=some b→a.f0=0→¬(b.f0∈eQ∨b.f0=132):=by
 intro c
 induction c with
 | nil=>intro s _ _ j a b h;simp at h
 | cons i r ih=>
  intro s hw h j a b ha hb h0 hc
  obtain ⟨_,_,h3,_⟩:=qg h
  cases j with
  | zero=>
   cases ha
   have hg:gS (dK s i) 0=some i.f3:=by
    unfold dK
    rw [if_pos h0,nH (by omega),if_pos rfl]
   cases r with
   | nil=>simp at hb
   | cons i2 r2=>
    have hb':i2=b:=by simpa using hb
    subst hb'
    exact xA hg (qg h3).2.1 hc
  | succ j=>exact ih (dK s i) ((qI i).trans hw) h3 j a b ha hb h0 hc
theorem Ch:∀ (c:List S45) (s:St),s.length=18→(cu s c).2.2=false→∀ i,c.getLast?=some i→i.f0=0→gS (cu s c).2.1 0=some i.f3:=by
 intro c
 induction c with
 | nil=>intro s _ _ i h;simp at h
 | cons a r ih=>
  intro s hw h i hi h0
  obtain ⟨_,_,h3,h4⟩:=qg h
  rw [h4]
  cases r with
  | nil=>
   have:a=i:=by simpa using hi
   subst this
   show gS (dK s a) 0=_
   unfold dK
   rw [if_pos h0,nH (by omega),if_pos rfl]
  | cons i2 r2=>exact ih (dK s a) ((qI a).trans hw) h3 i (by rw [List.getLast?_cons_cons] at hi;exact hi) h0
theorem en_none {s:St} {b:S47} (h:(enF s b).2=false) (h3:b.f1=3) {v:Int} (hs:gS s 0=some v):b.f2.f0∈tX:=by
 refine Classical.byContradiction fun hx=>?_
 unfold enF at h
 rw [if_neg (by omega),if_neg (by omega)] at h
 have e1:gN s b.f2=(b.f2,false):=by unfold gN;rw [if_neg hx]
 have e2:jI s (gN s b.f2).1=some (hoK b.f2.f0 v b.f2.f3):=by
  rw [e1];unfold jI;rw [if_neg hx,hs]
 rw [e2] at h
 cases h
theorem tu (l:Lw) (i:S45) (r:List S45):bkF l (i :: r)=if inW (bkF l r).2.1 (wrF i)=false∧i.f0 ∉ flL then ((bkF l r).1,(bkF l r).2.1,true)
 else (i :: (bkF l r).1,rdF ((bkF l r).2.1.set (wrF i) false) i,(bkF l r).2.2):=rfl
theorem rE {l:Lw} {i:S45} {r:List S45} (h:(bkF l (i :: r)).2.2=false):¬(inW (bkF l r).2.1 (wrF i)=false∧i.f0 ∉ flL)∧(bkF l r).2.2=false∧(bkF l (i :: r)).2.1=rdF ((bkF l r).2.1.set (wrF i) false) i:=by
 rw [tu] at h ⊢
 by_cases q:inW (bkF l r).2.1 (wrF i)=false∧i.f0 ∉ flL
 · rw [if_pos q] at h;cases h
 rw [if_neg q] at h ⊢;exact ⟨q,h,rfl⟩
theorem bk_pair (l:Lw) (hl:l.length=18):∀ (c:List S45),fE c=true→(∀ x∈c,Rg x.f3)→(bkF l c).2.2=false→∀ (j:Nat) (a b:S45),c[j]?=some a→c[j+1]?=some b→(a.f0=0∨a.f0=96∨a.f0=128)→b.f0 ∉ ([0,32,40,48,64,72,80,96,128]:List Int):=by
 intro c
 induction c with
 | nil=>intro _ _ _ j a b h;simp at h
 | cons i r ih=>
  intro hc hk h j a b ha hb h0 hm
  unfold fE at hc
  rw [List.all_cons,Bool.and_eq_true] at hc
  have hk2:∀ x∈r,Rg x.f3:=fun x hx=>hk x (List.mem_cons_of_mem _ hx)
  obtain ⟨h1,h2,h3⟩:=rE h
  cases j with
  | zero=>
   cases ha
   cases r with
   | nil=>simp at hb
   | cons i2 r2=>
    have hb':i2=b:=by simpa using hb
    subst hb'
    obtain ⟨g1,g2,g3⟩:=rE h2
    refine h1 ⟨?_,?_⟩
    · rw [g3]
      have ew:wrF i=0:=by unfold wrF;rcases h0 with h0 | h0 | h0<;>rw [h0]<;>rfl
      have ew2:wrF i2=0:=by
       simp only [List.mem_cons,List.not_mem_nil,or_false] at hm
       unfold wrF
       rw [if_neg (by omega),if_neg (by omega)]
      have hr:rdB i2 0=false:=by
       have hm2:=hm
       simp only [List.mem_cons,List.not_mem_nil,or_false] at hm
       have HL:∀ x∈([0,32,40,48,64,72,80,96,128]:List Int),¬(x=2∨x=132∨x∈eQ∨x∈gH∨x=7∨jmB x=true∨x=22):=by decide
       unfold rdB
       rw [decide_eq_false (HL _ hm2),decide_eq_false (show ¬(0:Nat)=1 by decide),decide_eq_false (show ¬0=2+i2.f3.toNat by omega)]
       rfl
      rw [ew,ew2]
      unfold rdF
      rw [iw,hr,Bool.or_false]
      unfold inW
      rw [dL (by rw [pg l hl];decide),if_pos rfl]
      rfl
    rcases h0 with h0 | h0 | h0<;>rw [h0]<;>decide
  | succ j=>exact ih hc.2 hk2 h2 j a b ha hb h0 hm
def Lds (g:List S47) (k:Nat):Prop:=∃ b∈g,∃ c∈b.f0,(c.f0=96∨c.f0=97)∧c.f3.toNat=k
theorem uZ {i:S45} {k:Nat} (h:rdB i (2+k)=true):(i.f0=96∨i.f0=97)∧i.f3.toNat=k:=by
 unfold rdB at h
 rw [decide_eq_false (show ¬2+k=0 by omega),decide_eq_false (show ¬2+k=1 by omega)] at h
 simp only [Bool.false_and,Bool.false_or,Bool.and_eq_true,decide_eq_true_eq] at h
 exact ⟨h.2,by omega⟩
theorem uX {l:Lw} {i:S45} {j:Nat} (h:inW (rdF l i) j=true):inW l j=true∨rdB i j=true:=by
 unfold rdF at h
 rw [iw,Bool.and_eq_true,Bool.or_eq_true] at h
 exact h.2
theorem yP (g:List S47) (l:Lw) (k:Nat) (hl:inW l (2+k)=true→Lds g k) {b:S47} (hb:b∈g):∀ (c:List S45),(∀ x∈c,x∈b.f0)→inW (bkF l c).2.1 (2+k)=true→Lds g k:=by
 intro c
 induction c with
 | nil=>intro _ h;exact hl h
 | cons i r ih=>
  intro hc h
  have ih:=ih (fun x hx=>hc x (List.mem_cons_of_mem _ hx))
  rw [tu] at h
  by_cases q:inW (bkF l r).2.1 (wrF i)=false∧i.f0 ∉ flL
  · rw [if_pos q] at h;exact ih h
  rw [if_neg q] at h
  rcases uX h with h | h
  · refine ih ?_
    unfold inW at h ⊢
    by_cases hw:wrF i<(bkF l r).2.1.length
    · rw [dL hw] at h
      split at h
      · cases h
      exact h
    rw [List.set_eq_of_length_le (by omega)] at h;exact h
  exact ⟨b,hb,i,hc i (List.mem_cons_self ..),uZ h⟩
theorem lv_lds (g:List S47) {b:S47} (he:jB b=true) {y z:Lw} {k:Nat} (hy:inW y (2+k)=true→Lds g k) (hz:inW z (2+k)=true→Lds g k):inW (lvF b y z) (2+k)=true→Lds g k:=by
 intro h
 have nol:b.f1≠2→¬(b.f2.f0=96∨b.f2.f0=97):=by
  intro h2 hx
  rcases eO he with ⟨_,h1,_⟩ | ⟨h1,_⟩ | ⟨_,h1,_⟩
  · rcases hx with hx | hx<;>rw [hx] at h1<;>revert h1<;>decide
  · exact h2 h1
  rcases hx with hx | hx<;>rw [hx] at h1<;>revert h1<;>decide
 unfold lvF at h
 by_cases e1:b.f1=1
 · rw [if_pos e1] at h
   rcases uX h with h | h
   · unfold inW noW at h;rw [mV] at h;cases h
   exact absurd (uZ h).1 (nol (by omega))
 rw [if_neg e1] at h
 by_cases e2:b.f1=2
 · rw [if_pos e2] at h;exact hy h
 rw [if_neg e2] at h
 rcases uX h with h | h
 · rw [iw,Bool.and_eq_true,Bool.or_eq_true] at h
   rcases h.2 with h | h
   · exact hy h
   exact hz h
 exact absurd (uZ h).1 (nol e2)
theorem yR (g:List S47) (l:Lw) (hl:∀ k,inW l (2+k)=true→Lds g k) {b:S47} (hb:b∈g):∀ (c:List S45),(∀ x∈c,x∈b.f0)→(bkF l c).2.2=false→∀ i∈c,(i.f0=2∨i.f0=3)→Lds g i.f3.toNat:=by
 intro c
 induction c with
 | nil=>intro _ _ i hi;cases hi
 | cons a r ih=>
  intro hc h i hi h0
  obtain ⟨h1,h2,_⟩:=rE h
  rcases List.mem_cons.1 hi with rfl | hi
  · have ew:wrF i=2+i.f3.toNat:=by unfold wrF;rw [if_neg (by omega),if_pos h0]
    have hf:i.f0 ∉ flL:=by rcases h0 with h0 | h0<;>rw [h0]<;>decide
    have hin:inW (bkF l r).2.1 (wrF i)=true:=by
     cases e:inW (bkF l r).2.1 (wrF i) with
     | true=>rfl
     | false=>exact absurd ⟨e,hf⟩ h1
    rw [ew] at hin
    exact yP g l _ (hl _) hb r (fun x hx=>hc x (List.mem_cons_of_mem _ hx)) hin
  exact ih (fun x hx=>hc x (List.mem_cons_of_mem _ hx)) h2 i hi h0
theorem dd_none (P:Lw→Prop) (h0:P noW):∀ (l:List S47) (n:Nat),(∀ b∈l,∀ y z,P y→P z→P (lvF b y z)∧P (bkF (lvF b y z) b.f0).2.1) →
 (∀ x∈(ddL l n).2.1,P x)∧((ddL l n).2.2=false→∀ b∈l,∃ x,P x∧(bkF x b.f0).2.2=false):=by
 intro l
 induction l with
 | nil=>intro n _;exact ⟨(fun x hx=>by cases hx),fun _ b hb=>by cases hb⟩
 | cons a r ih=>
  intro n H
  obtain ⟨i1,i2⟩:=ih (n+1) (fun b hb=>H b (List.mem_cons_of_mem _ hb))
  have get:∀ i,P ((ddL r (n+1)).2.1.getD i noW):=by
   intro i
   rw [List.getD_eq_getElem?_getD]
   cases e:(ddL r (n+1)).2.1[i]? with
   | none=>exact h0
   | some u=>exact i1 u (List.mem_of_getElem? e)
  have ha:=H a (List.mem_cons_self ..) _ _ (get (a.f3.toNat - (n+1))) (get (a.f4.toNat - (n+1)))
  unfold ddL
  dsimp only
  refine ⟨fun x hx=>?_,fun h b hb=>?_⟩
  · rcases List.mem_cons.1 hx with rfl | hx
    · exact ha.2
    exact i1 x hx
  rw [Bool.or_eq_false_iff] at h
  rcases List.mem_cons.1 hb with rfl | hb
  · exact ⟨_,ha.1,h.1⟩
  exact i2 h.2 b hb
theorem Done.tF {x:List S47} (h:Done x) {b:S47} (hb:b∈x):∃ l:Lw,l.length=18∧(∀ k,inW l (2+k)=true→Lds x k)∧(bkF l b.f0).2.2=false:=by
 have he:∀ b∈x,jB b=true:=fun b hb=>by
  obtain ⟨j,hj⟩:=List.getElem?_of_mem hb
  exact (h.gok.all j b hj).ends
 obtain ⟨_,h2⟩:=dd_none (fun l=>l.length=18∧∀ k,inW l (2+k)=true→Lds x k) ⟨rfl,fun k hk=>by unfold inW noW at hk;rw [mV] at hk;cases hk⟩ x 0 (fun b hb y z hy hz=>by
  have l1:=rX b (z:=z) hy.1
  have l2:∀ k,inW (lvF b y z) (2+k)=true→Lds x k:=fun k=>lv_lds x (he b hb) (hy.2 k) (hz.2 k)
  exact ⟨⟨l1,l2⟩,pg _ l1 _,fun k=>yP x _ k (l2 k) hb b.f0 (fun c hc=>hc)⟩)
 obtain ⟨l,hl,hf⟩:=h2 h.dead b hb
 exact ⟨l,hl.1,hl.2,hf⟩
structure vL (x:List S47):Prop where
 reach:∀ j,j<x.length→(fU x 0).getD j false=true
 test:∀ b∈x,b.f1=3→b.f3≠b.f4
 bare:∀ b∈x,b.f1=2→b.f0≠[]
 alone:∀ b∈x,b.f1=2→jo x b.f3.toNat≠1
 known:∀ b∈x,b.f1=3→∀ i,b.f0.getLast?=some i→i.f0=0→b.f2.f0∈tX
 alu:∀ b∈x,∀ (j:Nat) (a c:S45),b.f0[j]?=some a→b.f0[j+1]?=some c→a.f0=0→¬(c.f0∈eQ∨c.f0=132)
 load:∀ b∈x,∀ (j:Nat) (a c:S45),b.f0[j]?=some a→b.f0[j+1]?=some c→(a.f0=0∨a.f0=96∨a.f0=128)→c.f0 ∉ ([0,32,40,48,64,72,80,96,128]:List Int)
 store:∀ b∈x,∀ i∈b.f0,(i.f0=2∨i.f0=3)→Lds x i.f3.toNat
theorem Done.gone {x:List S47} (h:Done x):vL x:=by
 have at_:∀ b∈x,∃ j:Nat,x[j]?=some b:=fun b hb=>List.getElem?_of_mem hb
 refine ⟨h.come,?_,?_,?_,?_,?_,?_,?_⟩
 · intro b hb h3
   obtain ⟨j,hj⟩:=at_ b hb
   exact ((h.on hj).2 h3).2
 · intro b hb h2 he
   obtain ⟨j,hj⟩:=at_ b hb
   exact h.nobare hj (iP.2 ⟨h2,he⟩)
 · intro b hb h2
   obtain ⟨j,hj⟩:=at_ b hb
   exact xy h.gok h.join j b hj h2
 · intro b hb h3 i hi h0
   obtain ⟨j,hj⟩:=at_ b hb
   obtain ⟨s,hs,hf⟩:=h.folded hj
   unfold dH at hf
   rw [Bool.or_eq_false_iff] at hf
   exact en_none (b:=⟨(cu s b.f0).1,b.f1,b.f2,b.f3,b.f4⟩) hf.2 h3 (Ch b.f0 s hs.len hf.1 i hi h0)
 · intro b hb j a c ha hc h0
   obtain ⟨j2,hj⟩:=at_ b hb
   obtain ⟨s,hs,hf⟩:=h.folded hj
   unfold dH at hf
   rw [Bool.or_eq_false_iff] at hf
   exact Ci b.f0 s hs.len hf.1 j a c ha hc h0
 · intro b hb j a c ha hc h0
   obtain ⟨j2,hj⟩:=at_ b hb
   have hok:=h.gok.all j2 b hj
   obtain ⟨l,h1,h2,h3⟩:=h.tF hb
   exact bk_pair l h1 b.f0 hok.code hok.rg h3 j a c ha hc h0
 intro b hb i hi h0
 obtain ⟨l,h1,h2,h3⟩:=h.tF hb
 exact yR x l h2 hb b.f0 (fun c hc=>hc) h3 i hi h0
end Go.Proofs.Ytdkalnkplgfgoaa.Ln
namespace Go.Proofs.Ytdkalnkplgfgoaa.PA
open Go.RowKit Go.Proofs.YtdkalnkplgfgoaaW.PrintWords Go.Proofs.YtdkalnkplgfgoaaW.PrintLast Go.Proofs.YtdkalnkplgfgoaaW.PrintMore
attribute [local go_sem] dZ ek fF fG dQ dR d9 eu
def bO.f (a0:Int) (a1:Int) (a2:Int):Option (Int × Bool):=if (Go.bits .andNot .u16 a0 8)=4 then (some ((a1+a2) % 4294967296,true)) else (if (Go.bits .andNot .u16 a0 8)=20 then (some ((a1 - a2) % 4294967296,true)) else (if (Go.bits .andNot .u16 a0 8)=36 then (some ((a1*a2) % 4294967296,true)) else (if (Go.bits .andNot .u16 a0 8)=68 then (some (Go.bits .or .u32 a1 a2,true)) else (if (Go.bits .andNot .u16 a0 8)=84 then (some (Go.bits .and .u32 a1 a2,true)) else (if (Go.bits .andNot .u16 a0 8)=164 then (some (Go.bits .xor .u32 a1 a2,true)) else (if (Go.bits .andNot .u16 a0 8)=100 then (if 0≤a2 then (some (shl .u32 a1 a2,true)) else (none)) else (if (Go.bits .andNot .u16 a0 8)=116 then (if 0≤a2 then (some (shr .u32 a1 a2,true)) else (none)) else (if a2=0 then (some (0,false)) else (if (Go.bits .andNot .u16 a0 8)=52 then (some ((Int.tdiv a1 a2) % 4294967296,true)) else (some (Int.tmod a1 a2,true)))))))))))
theorem bO.calls (a0:Int) (a1:Int) (a2:Int) (r1:Int) (r2:Bool) (w:World) (h:bO.f a0 a1 a2=some (r1,r2)) :
 Calls Try.prog 155 #[.int .u16 a0,.int .u32 a1,.int .u32 a2] w fun e w'=>e = .returned (.tuple #[.int .u32 r1,.bool r2])∧bZ w w':=by
 have H:(if (Go.bits .andNot .u16 a0 8)=4 then (some ((a1+a2) % 4294967296,true)) else (if (Go.bits .andNot .u16 a0 8)=20 then (some ((a1 - a2) % 4294967296,true)) else (if (Go.bits .andNot .u16 a0 8)=36 then (some ((a1*a2) % 4294967296,true)) else (if (Go.bits .andNot .u16 a0 8)=68 then (some (Go.bits .or .u32 a1 a2,true)) else (if (Go.bits .andNot .u16 a0 8)=84 then (some (Go.bits .and .u32 a1 a2,true)) else (if (Go.bits .andNot .u16 a0 8)=164 then (some (Go.bits .xor .u32 a1 a2,true)) else (if (Go.bits .andNot .u16 a0 8)=100 then (if 0≤a2 then (some (shl .u32 a1 a2,true)) else (none)) else (if (Go.bits .andNot .u16 a0 8)=116 then (if 0≤a2 then (some (shr .u32 a1 a2,true)) else (none)) else (if a2=0 then (some (0,false)) else (if (Go.bits .andNot .u16 a0 8)=52 then (some ((Int.tdiv a1 a2) % 4294967296,true)) else (some (Int.tmod a1 a2,true))))))))))))=some (r1,r2):=h
 clear h
 iterate 2
  replace H:=bN H
  obtain ⟨H,-,_,_⟩ | ⟨H,c4,_,_⟩:=H
  · obtain ⟨rfl,rfl⟩:=so2 H
    go_enter Try.func155,Try.ntmps155
    go_wp2
    go_ret2
    exact ⟨aY,bC⟩
 iterate 2
  replace H:=bN H
  obtain ⟨H,-,_,_⟩ | ⟨H,c6,_,_⟩:=H
  · obtain ⟨rfl,rfl⟩:=so2 H
    go_enter Try.func155,Try.ntmps155
    go_wp2
    go_ret2
    exact ⟨aY,bC⟩
 iterate 2
  replace H:=bN H
  obtain ⟨H,-,_,_⟩ | ⟨H,c8,_,_⟩:=H
  · obtain ⟨rfl,rfl⟩:=so2 H
    go_enter Try.func155,Try.ntmps155
    go_wp2
    go_ret2
    exact ⟨aY,bC⟩
 replace H:=bN H
 obtain ⟨H,-,_,_⟩ | ⟨H,c10,_,_⟩:=H
 · replace H:=mZ H
   obtain ⟨H,c11⟩ | ⟨H,c11⟩:=H
   · have c11b0:=eq_true c11
     have c11b1:decide (0≤a2)=true:=decide_eq_true c11
     clear c11
     obtain ⟨ji12,hji12⟩:∃ j_:Int,(shl .u32 a1 a2)=j_:=⟨_,rfl⟩
     replace H:(some (ji12,true))=some (r1,r2):=by first | (rw [hji12] at H;exact H) | (simp only [hji12] at H ⊢;exact H)
     have hji12_:(IntKind.u32.wrap (a1*2 ^ min a2.toNat 32))=ji12:=hji12
     have hji12z:a2≤32→(IntKind.u32.wrap (a1*2 ^ a2.toNat))=ji12:=qR hji12
     obtain ⟨rfl,rfl⟩:=so2 H
     go_enter Try.func155,Try.ntmps155
     go_wp2
     go_ret2
     exact ⟨by first | rfl | (simp;done) | (simp only [←hji12]<;>(first | rfl | simp)) | (simp [*];done),bC⟩
   exact absurd H (by simp)
 replace H:=bN H
 obtain ⟨H,-,_,_⟩ | ⟨H,c13,_,_⟩:=H
 · replace H:=mZ H
   obtain ⟨H,c14⟩ | ⟨H,c14⟩:=H
   · have c14b0:=eq_true c14
     have c14b1:decide (0≤a2)=true:=decide_eq_true c14
     clear c14
     obtain ⟨ji15,hji15⟩:∃ j_:Int,(shr .u32 a1 a2)=j_:=⟨_,rfl⟩
     replace H:(some (ji15,true))=some (r1,r2):=by first | (rw [hji15] at H;exact H) | (simp only [hji15] at H ⊢;exact H)
     have hji15_:(a1 / 2 ^ min a2.toNat 32)=ji15:=hji15
     have hji15z:a2≤32→(a1 / 2 ^ a2.toNat)=ji15:=qU hji15
     obtain ⟨rfl,rfl⟩:=so2 H
     go_enter Try.func155,Try.ntmps155
     go_wp2
     go_ret2
     exact ⟨by first | rfl | (simp;done) | (simp only [←hji15]<;>(first | rfl | simp)) | (simp [*];done),bC⟩
   exact absurd H (by simp)
 iterate 2
  replace H:=bN H
  obtain ⟨H,-,_,_⟩ | ⟨H,c16,_,_⟩:=H
  · obtain ⟨rfl,rfl⟩:=so2 H
    go_enter Try.func155,Try.ntmps155
    go_wp2
    go_ret2
    exact ⟨aY,bC⟩
 obtain ⟨rfl,rfl⟩:=so2 H
 go_enter Try.func155,Try.ntmps155
 go_wp2
 go_ret2
 exact ⟨aY,bC⟩
def ic.f (a0:Int) (a1:Int) (a2:Int):Option (Bool):=if (Go.bits .andNot .u16 a0 8)=21 then (some (a1==a2)) else (if (Go.bits .andNot .u16 a0 8)=37 then (some (decide (a1>a2))) else (if (Go.bits .andNot .u16 a0 8)=53 then (some (decide (a1≥a2))) else (some ((Go.bits .and .u32 a1 a2) != 0))))
theorem ic.calls (a0:Int) (a1:Int) (a2:Int) (r:Bool) (w:World) (h:ic.f a0 a1 a2=some r) :
 Calls Try.prog 157 #[.int .u16 a0,.int .u32 a1,.int .u32 a2] w fun e w'=>e = .returned (.bool r)∧bZ w w':=by
 have H:(if (Go.bits .andNot .u16 a0 8)=21 then (some (a1==a2)) else (if (Go.bits .andNot .u16 a0 8)=37 then (some (decide (a1>a2))) else (if (Go.bits .andNot .u16 a0 8)=53 then (some (decide (a1≥a2))) else (some ((Go.bits .and .u32 a1 a2) != 0)))))=some r:=h
 clear h
 replace H:=bN H
 obtain ⟨H,-,_,_⟩ | ⟨H,c4,_,_⟩:=H
 · cases H
   go_enter Try.func157,Try.ntmps157
   go_wp2
   go_ret
   exact ⟨aY,bC⟩
 iterate 2
  replace H:=bN H
  obtain ⟨H,-,_,_⟩ | ⟨H,c5,_,_⟩:=H
  · cases H
    go_enter Try.func157,Try.ntmps157
    go_wp2
    go_ret
    exact ⟨aY,bC⟩
 cases H
 go_enter Try.func157,Try.ntmps157
 go_wp2
 go_ret
 exact ⟨aY,bC⟩
def gY.f (a0:Int):Option (Bool × Int):=some (true,a0)
theorem gY.calls (a0:Int) (r1:Bool) (r2:Int) (w:World) (h:gY.f a0=some (r1,r2)) :
 Calls Try.prog 125 #[.int .u32 a0] w fun e w'=>e = .returned (.agg #[.bool r1,.int .u32 r2])∧Below w.heap.size w w':=by
 have hu149:=Try.underlying149
 have HB:=aa.mk (Below.refl w.heap.size w)
 have H:(some (true,a0))=some (r1,r2):=h
 clear h
 obtain ⟨rfl,rfl⟩:=so2 H
 go_enter Try.func125,Try.ntmps125
 go_wp2_with ((with_reducible refine aW (N:=2) rfl ?_);refine dS (N:=2) (cs:=#[.bool false,.int .u32 0]) (t:=149) ?_;intro gb562 hg w2 hbox hb;have GE562:=geN HB hg;have BK562:=aa.mk hbox;replace HB:=cK HB hb;clear hb hbox hg;have hcz3_0:w2.cell? ⟨gb562,0,none⟩=some (.bool false):=(ae BK562.out 0).trans rfl;have hcz3_1:w2.cell? ⟨gb562,1,none⟩=some (.int .u32 0):=(ae BK562.out 1).trans rfl;have hfz3_0:=af BK562.out 0;have hfz3_1:=af BK562.out 1)
 refine bodyPost_ret (results_cell_row rfl _ _ gb562 149 #[.bool true,.int .u32 a0] (0,0) _ rfl (by (with_reducible repeat (first | refine bg ?_ _ | refine bz ?_ | refine aT ?_ _));refine aM (cs:=#[.bool true,.int .u32 0]) ?_ 1 _ rfl;(with_reducible repeat (first | refine bg ?_ _ | refine bz ?_ | refine aT ?_ _));refine aM (cs:=#[.bool false,.int .u32 0]) ?_ 0 _ rfl;(with_reducible repeat (first | refine bg ?_ _ | refine bz ?_ | refine aT ?_ _));exact BK562.out) Try.underlying149 rfl (by kernel_rfl)) rfl ?_
 exact ⟨dm,bv⟩
def jh.f (a0_0:Int) (a0_1:Int) (a0_2:Int) (a0_3:Int):Option (Int × Int × Bool):=if a0_0=96 then (some (wrap64 (2+(wrap64 (a0_3))),0,true)) else (if a0_0=97 then (some (wrap64 (2+(wrap64 (a0_3))),1,true)) else (if a0_0=2 then (some (0,wrap64 (2+(wrap64 (a0_3))),true)) else (if a0_0=3 then (some (1,wrap64 (2+(wrap64 (a0_3))),true)) else (if a0_0=7 then (some (0,1,true)) else (if a0_0=135 then (some (1,0,true)) else (some (0,0,false)))))))
theorem jh.calls (a0_0:Int) (a0_1:Int) (a0_2:Int) (a0_3:Int) (r1:Int) (r2:Int) (r3:Bool) (w:World) (h:jh.f a0_0 a0_1 a0_2 a0_3=some (r1,r2,r3)) :
 Calls Try.prog 131 #[.agg #[.int .u16 a0_0,.int .u8 a0_1,.int .u8 a0_2,.int .u32 a0_3]] w fun e w'=>e = .returned (.tuple #[.int .i64 r1,.int .i64 r2,.bool r3])∧Below w.heap.size w w':=by
 have hu45:=Try.underlying45
 have HB:=aa.mk (Below.refl w.heap.size w)
 have H:(if a0_0=96 then (some (wrap64 (2+(wrap64 (a0_3))),0,true)) else (if a0_0=97 then (some (wrap64 (2+(wrap64 (a0_3))),1,true)) else (if a0_0=2 then (some (0,wrap64 (2+(wrap64 (a0_3))),true)) else (if a0_0=3 then (some (1,wrap64 (2+(wrap64 (a0_3))),true)) else (if a0_0=7 then (some (0,1,true)) else (if a0_0=135 then (some (1,0,true)) else (some (0,0,false))))))))=some (r1,r2,r3):=h
 clear h
 iterate 2
  replace H:=bN H
  obtain ⟨H,-,_,_⟩ | ⟨H,c2,_,_⟩:=H
  · obtain ⟨rfl,rfl,rfl⟩:=so3 H
    go_enter Try.func131,Try.ntmps131
    go_wp2_with ((with_reducible refine aW (N:=1) rfl ?_);refine dS (N:=1) (cs:=#[.int .u16 a0_0,.int .u8 a0_1,.int .u8 a0_2,.int .u32 a0_3]) (t:=45) ?_;intro gb563 hg w3 hbox hb;have GE563:=geN HB hg;have BK563:=aa.mk hbox;replace HB:=cK HB hb;clear hb hbox hg;obtain ⟨_,_,_,_,_,_,_,_⟩:=cz4 BK563)
    repeat (go_quiet (first | ((with_reducible refine aW (N:=1) rfl ?_);refine dS (N:=1) (cs:=#[.int .u16 a0_0,.int .u8 a0_1,.int .u8 a0_2,.int .u32 a0_3]) (t:=45) ?_;intro gb563 hg w3 hbox hb;have GE563:=geN HB hg;have BK563:=aa.mk hbox;replace HB:=cK HB hb;clear hb hbox hg;obtain ⟨_,_,_,_,_,_,_,_⟩:=cz4 BK563));try go_wp2_with ((with_reducible refine aW (N:=1) rfl ?_);refine dS (N:=1) (cs:=#[.int .u16 a0_0,.int .u8 a0_1,.int .u8 a0_2,.int .u32 a0_3]) (t:=45) ?_;intro gb563 hg w3 hbox hb;have GE563:=geN HB hg;have BK563:=aa.mk hbox;replace HB:=cK HB hb;clear hb hbox hg;obtain ⟨_,_,_,_,_,_,_,_⟩:=cz4 BK563))
    go_ret3
    exact ⟨dm,bv⟩
 iterate 2
  replace H:=bN H
  obtain ⟨H,-,_,_⟩ | ⟨H,c8,_,_⟩:=H
  · obtain ⟨rfl,rfl,rfl⟩:=so3 H
    go_enter Try.func131,Try.ntmps131
    go_wp2_with ((with_reducible refine aW (N:=1) rfl ?_);refine dS (N:=1) (cs:=#[.int .u16 a0_0,.int .u8 a0_1,.int .u8 a0_2,.int .u32 a0_3]) (t:=45) ?_;intro gb563 hg w9 hbox hb;have GE563:=geN HB hg;have BK563:=aa.mk hbox;replace HB:=cK HB hb;clear hb hbox hg;obtain ⟨_,_,_,_,_,_,_,_⟩:=cz4 BK563)
    repeat (go_quiet (first | ((with_reducible refine aW (N:=1) rfl ?_);refine dS (N:=1) (cs:=#[.int .u16 a0_0,.int .u8 a0_1,.int .u8 a0_2,.int .u32 a0_3]) (t:=45) ?_;intro gb563 hg w9 hbox hb;have GE563:=geN HB hg;have BK563:=aa.mk hbox;replace HB:=cK HB hb;clear hb hbox hg;obtain ⟨_,_,_,_,_,_,_,_⟩:=cz4 BK563));try go_wp2_with ((with_reducible refine aW (N:=1) rfl ?_);refine dS (N:=1) (cs:=#[.int .u16 a0_0,.int .u8 a0_1,.int .u8 a0_2,.int .u32 a0_3]) (t:=45) ?_;intro gb563 hg w9 hbox hb;have GE563:=geN HB hg;have BK563:=aa.mk hbox;replace HB:=cK HB hb;clear hb hbox hg;obtain ⟨_,_,_,_,_,_,_,_⟩:=cz4 BK563))
    go_ret3
    exact ⟨dm,bv⟩
 iterate 2
  replace H:=bN H
  obtain ⟨H,-,_,_⟩ | ⟨H,c14,_,_⟩:=H
  · obtain ⟨rfl,rfl,rfl⟩:=so3 H
    go_enter Try.func131,Try.ntmps131
    go_wp2_with ((with_reducible refine aW (N:=1) rfl ?_);refine dS (N:=1) (cs:=#[.int .u16 a0_0,.int .u8 a0_1,.int .u8 a0_2,.int .u32 a0_3]) (t:=45) ?_;intro gb563 hg w15 hbox hb;have GE563:=geN HB hg;have BK563:=aa.mk hbox;replace HB:=cK HB hb;clear hb hbox hg;obtain ⟨_,_,_,_,_,_,_,_⟩:=cz4 BK563)
    repeat (go_quiet (first | ((with_reducible refine aW (N:=1) rfl ?_);refine dS (N:=1) (cs:=#[.int .u16 a0_0,.int .u8 a0_1,.int .u8 a0_2,.int .u32 a0_3]) (t:=45) ?_;intro gb563 hg w15 hbox hb;have GE563:=geN HB hg;have BK563:=aa.mk hbox;replace HB:=cK HB hb;clear hb hbox hg;obtain ⟨_,_,_,_,_,_,_,_⟩:=cz4 BK563));try go_wp2_with ((with_reducible refine aW (N:=1) rfl ?_);refine dS (N:=1) (cs:=#[.int .u16 a0_0,.int .u8 a0_1,.int .u8 a0_2,.int .u32 a0_3]) (t:=45) ?_;intro gb563 hg w15 hbox hb;have GE563:=geN HB hg;have BK563:=aa.mk hbox;replace HB:=cK HB hb;clear hb hbox hg;obtain ⟨_,_,_,_,_,_,_,_⟩:=cz4 BK563))
    go_ret3
    exact ⟨dm,bv⟩
 obtain ⟨rfl,rfl,rfl⟩:=so3 H
 go_enter Try.func131,Try.ntmps131
 go_wp2_with ((with_reducible refine aW (N:=1) rfl ?_);refine dS (N:=1) (cs:=#[.int .u16 a0_0,.int .u8 a0_1,.int .u8 a0_2,.int .u32 a0_3]) (t:=45) ?_;intro gb563 hg w20 hbox hb;have GE563:=geN HB hg;have BK563:=aa.mk hbox;replace HB:=cK HB hb;clear hb hbox hg;obtain ⟨_,_,_,_,_,_,_,_⟩:=cz4 BK563)
 repeat (go_quiet (first | ((with_reducible refine aW (N:=1) rfl ?_);refine dS (N:=1) (cs:=#[.int .u16 a0_0,.int .u8 a0_1,.int .u8 a0_2,.int .u32 a0_3]) (t:=45) ?_;intro gb563 hg w20 hbox hb;have GE563:=geN HB hg;have BK563:=aa.mk hbox;replace HB:=cK HB hb;clear hb hbox hg;obtain ⟨_,_,_,_,_,_,_,_⟩:=cz4 BK563));try go_wp2_with ((with_reducible refine aW (N:=1) rfl ?_);refine dS (N:=1) (cs:=#[.int .u16 a0_0,.int .u8 a0_1,.int .u8 a0_2,.int .u32 a0_3]) (t:=45) ?_;intro gb563 hg w20 hbox hb;have GE563:=geN HB hg;have BK563:=aa.mk hbox;replace HB:=cK HB hb;clear hb hbox hg;obtain ⟨_,_,_,_,_,_,_,_⟩:=cz4 BK563))
 go_ret3
 exact ⟨dm,bv⟩
def dG.j0:Nat→Int→Bool→Int→Int→Int→Int→Option (Int)
 | 0,_,_,_,_,_,_=>none
 | k+1,x5,x8,x565000,x565001,x565002,x565003=>if x8=true then (some (wrap64 (2+(wrap64 (x565003))))) else (if x5=7 then (if x565000=7 then (some 1) else (some 0)) else (some 0))
def dG.f (k:Nat) (a0_0:Int) (a0_1:Int) (a0_2:Int) (a0_3:Int):Option (Int):=(aG.f k a0_0).bind fun t565=>(if t565=1 then (some 1) else (if t565=2 then (dG.j0 k t565 (t565==2) a0_0 a0_1 a0_2 a0_3) else (dG.j0 k t565 (t565==3) a0_0 a0_1 a0_2 a0_3)))
theorem dG.calls (k:Nat) (a0_0:Int) (a0_1:Int) (a0_2:Int) (a0_3:Int) (r:Int) (w:World) (h:dG.f k a0_0 a0_1 a0_2 a0_3=some r) :
 Calls Try.prog 133 #[.agg #[.int .u16 a0_0,.int .u8 a0_1,.int .u8 a0_2,.int .u32 a0_3]] w fun e w'=>e = .returned (.int .i64 r)∧Below w.heap.size w w':=by
 have hu45:=Try.underlying45
 have HB:=aa.mk (Below.refl w.heap.size w)
 have H:((aG.f k a0_0).bind fun t565=>(if t565=1 then (some 1) else (if t565=2 then (dG.j0 k t565 (t565==2) a0_0 a0_1 a0_2 a0_3) else (dG.j0 k t565 (t565==3) a0_0 a0_1 a0_2 a0_3))))=some r:=h
 clear h
 replace H:=bnd H
 obtain ⟨t565,A2,H⟩:=H
 replace H:=bN H
 obtain ⟨H,-,_,_⟩ | ⟨H,c3,_,_⟩:=H
 · cases H
   go_enter Try.func133,Try.ntmps133
   go_wp2_with (first | ((with_reducible refine aW (N:=1) rfl ?_);refine dS (N:=1) (cs:=#[.int .u16 a0_0,.int .u8 a0_1,.int .u8 a0_2,.int .u32 a0_3]) (t:=45) ?_;intro gb564 hg w4 hbox hb;have GE564:=geN HB hg;have BK564:=aa.mk hbox;replace HB:=cK HB hb;clear hb hbox hg;obtain ⟨_,_,_,_,_,_,_,_⟩:=cz4 BK564) | (go_at_call 99;(with_reducible refine (aG.calls _ _ _ _ A2.out).mono ?_);rintro e w' ⟨rfl,⟨nd,rfl⟩⟩))
   go_ret
   exact ⟨dm,bv⟩
 have HC6:=aa.mk H
 clear H
 go_enter Try.func133,Try.ntmps133
 go_upto_if 8 with (first | ((with_reducible refine aW (N:=1) rfl ?_);refine dS (N:=1) (cs:=#[.int .u16 a0_0,.int .u8 a0_1,.int .u8 a0_2,.int .u32 a0_3]) (t:=45) ?_;intro gb564 hg w7 hbox hb;have GE564:=geN HB hg;have BK564:=aa.mk hbox;replace HB:=cK HB hb;clear hb hbox hg;obtain ⟨_,_,_,_,_,_,_,_⟩:=cz4 BK564) | (go_at_call 99;(with_reducible refine (aG.calls _ _ _ _ A2.out).mono ?_);rintro e w' ⟨rfl,⟨nd,rfl⟩⟩))
 (try simp only [Act.put,List.setIfInBounds_toArray,List.set_cons_zero,List.set_cons_succ])
 go_cut [8] (fun v8 wc=>∃ (kq:Nat) (x8_5:Bool),v8 = .bool x8_5∧aa (dG.j0 kq t565 x8_5 a0_0 a0_1 a0_2 a0_3=some r)∧aa (kq≤k)∧aa (wc.heap[gb564]?=some (.cells #[.int .u16 a0_0,.int .u8 a0_1,.int .u8 a0_2,.int .u32 a0_3] 45 (0,0)))∧aa (Below w.heap.size w wc))
 case first=>
  have H:=HC6.out
  clear HC6
  replace H:=bN H
  obtain ⟨H,-,c9b0,_⟩ | ⟨H,c9,c9b0,_⟩:=H
  · (first | rw [c9b0] | (simp only [dD,dE];rw [c9b0]) | skip)
    replace H:=aa.mk H
    go_wp2
    go_meet
    case rel=>exact ⟨_,_,aY,H,⟨le0⟩,⟨iU⟩,⟨bv⟩⟩
  (first | rw [c9b0] | (simp only [dD,dE];rw [c9b0]) | skip)
  replace H:=aa.mk H
  go_wp2
  go_meet
  case rel=>exact ⟨_,_,aY,H,⟨le0⟩,⟨iU⟩,⟨bv⟩⟩
 case rest=>
  clear HC6
  obtain ⟨kq,x8_5,rfl,HA,HJ5,BK564,HB⟩:=hcut
  cases kq with
  | zero=>exact absurd HA.out (by simp [dG.j0])
  | succ kj5=>
   have H:=HA.out
   clear HA
   simp only [dG.j0] at H
   by_cases c10:x8_5=true
   · subst c10
     have H1:(some (wrap64 (2+(wrap64 (a0_3)))))=some r:=by rw [if_pos rfl] at H;exact H
     clear H
     have H:=H1
     clear H1
     cases H
     obtain ⟨_,_,_,_,_,_,_,_⟩:=cz4 BK564
     go_wp2
     go_ret
     exact ⟨dm,bv⟩
   replace c10:=Bool.eq_false_iff.mpr c10
   subst c10
   have H1:(if t565=7 then (if a0_0=7 then (some 1) else (some 0)) else (some 0))=some r:=by rw [if_neg (show ¬(false=true) by decide)] at H;exact H
   clear H
   have H:=H1
   clear H1
   replace H:=bN H
   obtain ⟨H,-,_,_⟩ | ⟨H,c12,_,_⟩:=H
   · replace H:=bN H
     obtain ⟨H,-,_,_⟩ | ⟨H,c13,_,_⟩:=H
     · cases H
       obtain ⟨_,_,_,_,_,_,_,_⟩:=cz4 BK564
       go_wp2
       go_ret
       exact ⟨dm,bv⟩
     cases H
     obtain ⟨_,_,_,_,_,_,_,_⟩:=cz4 BK564
     go_wp2
     go_ret
     exact ⟨dm,bv⟩
   cases H
   go_wp2
   go_ret
   exact ⟨dm,bv⟩
end Go.Proofs.Ytdkalnkplgfgoaa.PA
namespace Go.Proofs.Ytdkalnkplgfgoaa.Ln
open Go.RowKit Go.Maps Go.Proofs.YtdkalnkplgfgoaaW.PrintWords Go.Proofs.YtdkalnkplgfgoaaW.PrintLast Go.Proofs.YtdkalnkplgfgoaaW.PrintMore Go.Proofs.Ytdkalnkplgfgoaa.PA
theorem Bl (k:Nat) (c:Int):PA.aG.f k c=aG.f k c:=rfl
theorem andN_K:∀ c∈eQ,Go.bits .andNot .u16 c 8=c:=by decide +kernel
theorem uf {c a k:Int} (hc:c∈eQ) (hk:0≤k) (h52:(c=52∨c=148)→k≠0) (h31:(c=100∨c=116)→k≤31):PA.bO.f c a k=some ((opP c a k).1,true):=by
 have hb:=andN_K c hc
 unfold PA.bO.f
 rw [hb]
 simp only [eQ,List.mem_cons,List.not_mem_nil,or_false] at hc
 rcases hc with rfl | rfl | rfl | rfl | rfl | rfl | rfl | rfl | rfl | rfl
 · rfl
 · rfl
 · rfl
 · rw [Bd,if_neg (h52 (.inl rfl)),if_neg (by decide),if_neg (by decide),if_neg (by decide),if_neg (by decide),if_neg (by decide),if_neg (by decide),if_neg (by decide),if_neg (by decide),if_neg (h52 (.inl rfl))];rfl
 · rfl
 · rfl
 · have:=h31 (.inl rfl)
   rw [si hk,if_neg (show ¬k>31 by omega),if_neg (by decide),if_neg (by decide),if_neg (by decide),if_neg (by decide),if_neg (by decide),if_neg (by decide),if_pos rfl,if_pos hk]
 · have:=h31 (.inr rfl)
   rw [sj hk,if_neg (show ¬k>31 by omega),if_neg (by decide),if_neg (by decide),if_neg (by decide),if_neg (by decide),if_neg (by decide),if_neg (by decide),if_neg (by decide),if_pos rfl,if_pos hk]
 · rw [Bc,if_neg (h52 (.inr rfl)),if_neg (by decide),if_neg (by decide),if_neg (by decide),if_neg (by decide),if_neg (by decide),if_neg (by decide),if_neg (by decide),if_neg (by decide),if_neg (h52 (.inr rfl))];rfl
 rfl
theorem holds_f {c a k:Int} (hc:jmB c=true) (hx:c ∉ tX):PA.ic.f c a k=some (hoK c a k):=by
 have hm:c∈([21,29,37,45,53,61,69,77]:List Int):=of_decide_eq_true hc
 simp only [tX,List.mem_cons,List.not_mem_nil,or_false] at hm hx
 have H:c∈([21,37,53,69]:List Int):=by simp only [List.mem_cons,List.not_mem_nil,or_false];omega
 have G:∀ c∈([21,37,53,69]:List Int),Go.bits .andNot .u16 c 8=c:=by decide +kernel
 unfold PA.ic.f hoK
 rw [G c H]
 by_cases h1:c=21
 · rw [if_pos h1,if_pos h1]
 rw [if_neg h1,if_neg h1]
 by_cases h2:c=37
 · rw [if_pos h2,if_pos h2]
 rw [if_neg h2,if_neg h2]
 by_cases h3:c=53
 · rw [if_pos h3,if_pos h3]
 rw [if_neg h3,if_neg h3]
theorem uq:∀ c∈stL,(aU c=0↔c∈([0,32,40,48,64,72,80,96,128]:List Int))∧(aU c=1↔c∈([1,97,129,177]:List Int))∧(aU c=2↔c=2)∧(aU c=3↔c=3)∧(aU c=4↔c=132∨c∈eQ∨c∈gH)∧aU c≠5∧aU c≠6∧(aU c=7↔c=7∨c=135)∧aU c ≠ -1:=by
 decide +kernel
theorem uk {i:S45} (hc:stB i.f0 i.f3=true) (hk:Rg i.f3) (k:Nat):PA.dG.f (k+8) i.f0 i.f1 i.f2 i.f3=some (wrF i:Int):=by
 obtain ⟨hm,h16,_⟩:=gQ hc
 obtain ⟨h0,h1,h2,h3,h4,h5,h6,h7,h8⟩:=uq i.f0 hm
 have hk0:=hk.1
 have hk1:=hk.2
 have e:wrap64 (2+wrap64 i.f3)=2+i.f3:=by rw [w64 (n:=i.f3) (by omega) (by omega),w64 (by omega) (by omega)]
 unfold PA.dG.f
 rw [Bl,(gu i.f0 k).1]
 simp only [Option.bind_some]
 have hj:∀ b:Bool,PA.dG.j0 (k+7+1) (aU i.f0) b i.f0 i.f1 i.f2 i.f3=if b=true then some (2+i.f3) else if aU i.f0=7 then (if i.f0=7 then some 1 else some 0) else some 0:=fun b=>by
  rw [PA.dG.j0,e]
 rw [hj,hj]
 unfold wrF
 simp only [List.mem_cons,List.not_mem_nil,or_false] at h1
 by_cases c1:aU i.f0=1
 · rw [if_pos c1,if_pos (by have:=h1.1 c1;omega)];rfl
 rw [if_neg c1]
 have n1:¬(i.f0=1∨i.f0=97∨i.f0=129∨i.f0=177):=fun h=>c1 (h1.2 h)
 by_cases c2:aU i.f0=2
 · have:=h2.1 c2
   rw [if_pos c2,if_pos (beq_iff_eq.mpr c2),if_neg (by omega),if_pos (.inl this)]
   congr 1;omega
 rw [if_neg c2]
 by_cases c3:aU i.f0=3
 · have:=h3.1 c3
   rw [if_pos (beq_iff_eq.mpr c3),if_neg (by omega),if_pos (.inr this)]
   congr 1;omega
 rw [if_neg (by simpa using c3)]
 have n2:i.f0≠2:=fun h=>c2 (h2.2 h)
 have n3:i.f0≠3:=fun h=>c3 (h3.2 h)
 by_cases c7:aU i.f0=7
 · rw [if_pos c7]
   by_cases q:i.f0=7
   · rw [if_pos q,if_pos (by omega)];rfl
   rw [if_neg q,if_neg (by omega),if_neg (by omega)];rfl
 have:=mt h7.2 c7
 rw [if_neg c7,if_neg (by omega),if_neg (by omega)];rfl
theorem moves_f {i:S45} (hk:Rg i.f3):PA.jh.f i.f0 i.f1 i.f2 i.f3=some (match mvF i with | some (f,t)=>((f:Int),(t:Int),true) | none=>(0,0,false)):=by
 have hk0:=hk.1
 have hk1:=hk.2
 have e:wrap64 (2+wrap64 i.f3)=((2+i.f3.toNat:Nat):Int):=by rw [w64 (n:=i.f3) (by omega) (by omega),w64 (by omega) (by omega)];omega
 unfold PA.jh.f mvF
 rw [e]
 by_cases c1:i.f0=96
 · rw [if_pos c1,if_pos c1];rfl
 rw [if_neg c1,if_neg c1]
 by_cases c2:i.f0=97
 · rw [if_pos c2,if_pos c2];rfl
 rw [if_neg c2,if_neg c2]
 by_cases c3:i.f0=2
 · rw [if_pos c3,if_pos c3];rfl
 rw [if_neg c3,if_neg c3]
 by_cases c4:i.f0=3
 · rw [if_pos c4,if_pos c4];rfl
 rw [if_neg c4,if_neg c4]
 by_cases c5:i.f0=7
 · rw [if_pos c5,if_pos c5];rfl
 rw [if_neg c5,if_neg c5]
 by_cases c6:i.f0=135
 · rw [if_pos c6,if_pos c6];rfl
 rw [if_neg c6,if_neg c6]
theorem zn {c K:Int} (hc:stB c K=true) (k:Nat):∃ u1 u2,fA.f (k+8) c=some (u1,u2,decide (c∈flL)):=by
 have hm:=(gQ hc).1
 have hkn:kn c=true:=by
  have H:∀ x∈stL,kn x=true:=by decide
  exact H c hm
 have H:∀ x∈stL,ib.f x=some (decide (x∈flL)):=by decide +kernel
 obtain ⟨⟨u2,u3,e⟩,_⟩:=sP c k
 unfold fA.f at e ⊢
 rw [(lL c k).1,hkn] at e ⊢
 simp only [Option.bind_some,if_true,H c hm] at e ⊢
 obtain ⟨x,hx,e⟩:=Option.bind_eq_some_iff.1 e
 obtain ⟨y,hy,e⟩:=Option.bind_eq_some_iff.1 e
 rw [hx,hy]
 exact ⟨_,_,rfl⟩
def jg (o:Option Int):List Value:=[.bool o.isSome,.int .u32 (o.getD 0)]
def aC (s:St):Array Value:=(s.flatMap jg).toArray
theorem zq (s:St):∀ i,i<s.length→(s.flatMap jg)[2*i]?=some (.bool (gS s i).isSome)∧(s.flatMap jg)[2*i+1]?=some (.int .u32 ((gS s i).getD 0)):=by
 induction s with
 | nil=>intro i h;cases h
 | cons o r ih=>
  intro i h
  cases i with
  | zero=>exact ⟨rfl,rfl⟩
  | succ i=>
   have:=ih i (by simpa using h)
   exact this
theorem BO {s:St} {i:Nat} (h:i<s.length):(aC s)[2*i]?=some (.bool (gS s i).isSome):=by
 unfold aC;rw [List.getElem?_toArray];exact (zq s i h).1
theorem sc_v {s:St} {i:Nat} (h:i<s.length):(aC s)[2*i+1]?=some (.int .u32 ((gS s i).getD 0)):=by
 unfold aC;rw [List.getElem?_toArray];exact (zq s i h).2
theorem zu (o:Option Int):∀ (s:St) (i:Nat),i<s.length→((s.flatMap jg).set (2*i) (.bool o.isSome)).set (2*i+1) (.int .u32 (o.getD 0))=(s.set i o).flatMap jg:=by
 intro s
 induction s with
 | nil=>intro i h;cases h
 | cons a r ih=>
  intro i h
  cases i with
  | zero=>rfl
  | succ i=>
   have:=ih i (by simpa using h)
   show Value.bool a.isSome :: Value.int .u32 (a.getD 0) :: (((r.flatMap jg).set (2*i) _).set (2*i+1) _)=_
   rw [this];rfl
theorem sc_set {s:St} {i:Nat} (o:Option Int) (h:i<s.length):((aC s).setIfInBounds (2*i) (.bool o.isSome)).setIfInBounds (2*i+1) (.int .u32 (o.getD 0))=aC (s.set i o):=by
 unfold aC
 rw [List.setIfInBounds_toArray,List.setIfInBounds_toArray,zu o s i h]
section
variable {w:World} {gs i:Nat} {s:St} {v:Int}
theorem cY (j:Nat) (hS:w.heap[gs]?=some (.cells (aC s) 151 (0,0))) (e:gS s i=some v) (h:i<s.length:=by omega) (hj:j=2*i:=by rfl):w.cell? ⟨gs,j,none⟩=some (.bool true):=by
 subst hj
 exact (ae hS _).trans ((BO h).trans (by rw [e];rfl))
theorem cN (j:Nat) (hS:w.heap[gs]?=some (.cells (aC s) 151 (0,0))) (e:gS s i=none) (h:i<s.length:=by omega) (hj:j=2*i:=by rfl):w.cell? ⟨gs,j,none⟩=some (.bool false):=by
 subst hj
 exact (ae hS _).trans ((BO h).trans (by rw [e];rfl))
theorem dY (j:Nat) (hS:w.heap[gs]?=some (.cells (aC s) 151 (0,0))) (e:gS s i=some v) (h:i<s.length:=by omega) (hj:j=2*i+1:=by rfl):w.cell? ⟨gs,j,none⟩=some (.int .u32 v):=by
 subst hj
 exact (ae hS _).trans ((sc_v h).trans (by rw [e];rfl))
theorem dN (j:Nat) (hS:w.heap[gs]?=some (.cells (aC s) 151 (0,0))) (e:gS s i=none) (h:i<s.length:=by omega) (hj:j=2*i+1:=by rfl):w.cell? ⟨gs,j,none⟩=some (.int .u32 0):=by
 subst hj
 exact (ae hS _).trans ((sc_v h).trans (by rw [e];rfl))
end
theorem size_alloc (w:World) (o:Obj):(w.alloc o).heap.size=w.heap.size+1:=by show (w.heap.push o).size=_;exact Array.size_push ..
theorem eY (w:World) (o1 o2:Obj):((w.alloc o1).alloc o2).heap[w.heap.size+1]?=some o2:=by
 have:=heap_alloc_new (w.alloc o1) o2
 rwa [size_alloc] at this
theorem kP (w:World) (o1 o2:Obj):((w.alloc o1).alloc o2).heap[w.heap.size]?=some o1:=by
 rw [←heap_alloc_new w o1]
 show ((w.heap.push o1).push o2)[w.heap.size]?=(w.heap.push o1)[w.heap.size]?
 rw [Array.getElem?_push,if_neg (by rw [Array.size_push];omega)]
theorem cB (w:World) (o1 o2:Obj):Below w.heap.size w ((w.alloc o1).alloc o2):=ai (ai (Below.refl _ w) _) _
def fD (i:S45):Value := .agg #[.int .u16 i.f0,.int .u8 i.f1,.int .u8 i.f2,.int .u32 i.f3]
theorem jS {W:World} {g:Nat} {a b c d:Value} {T:TypeId} (h:W.heap[g]?=some (.cells #[a,b,c,d] T (0,0))) (v0 v1 v2 v3:Value) :
 ((((W.setCell ⟨g,0,none⟩ v0).setCell ⟨g,1,none⟩ v1).setCell ⟨g,2,none⟩ v2).setCell ⟨g,3,none⟩ v3).heap[g]?=some (.cells #[v0,v1,v2,v3] T (0,0)):=
 aM (aM (aM (aM h 0 _ rfl) 1 _ rfl) 2 _ rfl) 3 _ rfl
theorem fK {w W:World} {g:Nat} (h:Below w.heap.size w W) (hg:w.heap.size≤g) (v0 v1 v2 v3:Value) :
 Below w.heap.size w ((((W.setCell ⟨g,0,none⟩ v0).setCell ⟨g,1,none⟩ v1).setCell ⟨g,2,none⟩ v2).setCell ⟨g,3,none⟩ v3):=
 dz (dz (dz (dz h hg) hg) hg) hg
theorem alu_n1 (w:World) (gs:Nat) (s:St) (v i1 i2 k:Int) (hS:w.heap[gs]?=some (.cells (aC s) 151 (0,0))) (hl:s.length=18) (e0:gS s 0=some v) :
 Calls Try.prog 166 #[.pointer (some ⟨gs,0,none⟩),.agg #[.int .u16 132,.int .u8 i1,.int .u8 i2,.int .u32 k]] w fun e w'=>e = .returned (.agg #[.int .u16 0,.int .u8 0,.int .u8 0,.int .u32 (IntKind.u32.wrap (-v))])∧Below w.heap.size w w':=by
 have c0:=cY 0 hS e0
 have c1:=dY 1 hS e0
 have hlt:=ax hS
 have HS:=aa.mk hS
 clear hS
 go_enter Try.func166,Try.ntmps166
 go_wp2
 refine bodyPost_ret (results_cell_row rfl _ _ (w.heap.size+1) 45 (#[.int .u16 0,.int .u8 0,.int .u8 0,.int .u32 (IntKind.u32.wrap (-v))]) (0,0) _ rfl (eY _ _ _) Try.underlying45 rfl (by kernel_rfl)) rfl ?_
 exact ⟨rfl,cB _ _ _⟩
theorem alu_n0 (w:World) (gs:Nat) (s:St) (i1 i2 k:Int) (hS:w.heap[gs]?=some (.cells (aC s) 151 (0,0))) (hl:s.length=18) (e0:gS s 0=none) :
 Calls Try.prog 166 #[.pointer (some ⟨gs,0,none⟩),.agg #[.int .u16 132,.int .u8 i1,.int .u8 i2,.int .u32 k]] w fun e w'=>e = .returned (.agg #[.int .u16 132,.int .u8 i1,.int .u8 i2,.int .u32 k])∧Below w.heap.size w w':=by
 have c0:=cN 0 hS e0
 have hlt:=ax hS
 have HS:=aa.mk hS
 clear hS
 go_enter Try.func166,Try.ntmps166
 go_wp2
 refine bodyPost_ret (results_cell_row rfl _ _ (w.heap.size+1) 45 (#[.int .u16 132,.int .u8 i1,.int .u8 i2,.int .u32 k]) (0,0) _ rfl (eY _ _ _) Try.underlying45 rfl (by kernel_rfl)) rfl ?_
 exact ⟨rfl,cB _ _ _⟩
theorem alu_k1 (w:World) (gs:Nat) (s:St) (c v r i1 i2 k:Int) (hS:w.heap[gs]?=some (.cells (aC s) 151 (0,0))) (hl:s.length=18) (e0:gS s 0=some v) (hn:(c==132)=false) (h8:(Go.bits .and .u16 c 8 != 0)=false) (hr:PA.bO.f c v k=some (r,true)) :
 Calls Try.prog 166 #[.pointer (some ⟨gs,0,none⟩),.agg #[.int .u16 c,.int .u8 i1,.int .u8 i2,.int .u32 k]] w fun e w'=>e = .returned (.agg #[.int .u16 0,.int .u8 0,.int .u8 0,.int .u32 r])∧Below w.heap.size w w':=by
 have c0:=cY 0 hS e0
 have c1:=dY 1 hS e0
 have hlt:=ax hS
 have HS:=aa.mk hS
 have HC:=fun W=>PA.bO.calls c v k r true W hr
 have HC:=aa.mk HC
 clear hS hr
 go_enter Try.func166,Try.ntmps166
 go_upto_region 16 with (fail)
 refine forget (fun W=>∃ gi,gi=w.heap.size∧Below w.heap.size w W∧W.heap[gi]?=some (.cells #[.int .u16 (c),.int .u8 i1,.int .u8 i2,.int .u32 k] 45 (0,0))∧W.heap[gi+1]?=some (.cells #[.int .u16 0,.int .u8 0,.int .u8 0,.int .u32 0] 45 (0,0))) ⟨_,rfl,cB _ _ _,kP _ _ _,eY _ _ _⟩ ?_
 rintro W ⟨gi,egi,hb,hi,hr⟩
 rw [←egi]
 have x1:=au hb c1
 have y0:=dA hi 0
 have y3:=dA hi 3
 have HB:=aa.mk hb
 have HI:=aa.mk hi
 have HR:=aa.mk hr
 have EG:=aa.mk egi
 clear hb hi hr c0 c1 egi
 go_quiet ((go_at_call 155;exact Calls.quiet_of ((HC.out _).mono fun _ _ ⟨he,⟨m,hm⟩⟩=>⟨he,m,hm⟩)))
 obtain ⟨z0,z1,z2,z3,t0,t1,t2,t3⟩:=cz4 ⟨HR.out⟩
 go_wp2
 have hq:=aA (Below.refl W.heap.size W) nq
 refine bodyPost_ret (results_cell_row rfl _ _ (gi+1) 45 (#[.int .u16 0,.int .u8 0,.int .u8 0,.int .u32 r]) (0,0) _ rfl (jS (aj HR.out hq) _ _ _ _) Try.underlying45 rfl (by kernel_rfl)) rfl ?_
 exact ⟨rfl,fK (av HB.out hq) (by have:=EG.out;omega) _ _ _ _⟩
theorem alu_k84 (w:World) (gs:Nat) (s:St) (i1 i2 k:Int) (hS:w.heap[gs]?=some (.cells (aC s) 151 (0,0))) (hl:s.length=18) (e0:gS s 0=none) (hk:k=0) :
 Calls Try.prog 166 #[.pointer (some ⟨gs,0,none⟩),.agg #[.int .u16 84,.int .u8 i1,.int .u8 i2,.int .u32 k]] w fun e w'=>e = .returned (.agg #[.int .u16 0,.int .u8 0,.int .u8 0,.int .u32 0])∧Below w.heap.size w w':=by
 have c0:=cN 0 hS e0
 subst hk
 have hlt:=ax hS
 have HS:=aa.mk hS
 clear hS
 go_enter Try.func166,Try.ntmps166
 go_wp2
 refine bodyPost_ret (results_cell_row rfl _ _ (w.heap.size+1) 45 (#[.int .u16 0,.int .u8 0,.int .u8 0,.int .u32 0]) (0,0) _ rfl (eY _ _ _) Try.underlying45 rfl (by kernel_rfl)) rfl ?_
 exact ⟨rfl,cB _ _ _⟩
theorem alu_k36 (w:World) (gs:Nat) (s:St) (i1 i2 k:Int) (hS:w.heap[gs]?=some (.cells (aC s) 151 (0,0))) (hl:s.length=18) (e0:gS s 0=none) (hk:k=0) :
 Calls Try.prog 166 #[.pointer (some ⟨gs,0,none⟩),.agg #[.int .u16 36,.int .u8 i1,.int .u8 i2,.int .u32 k]] w fun e w'=>e = .returned (.agg #[.int .u16 0,.int .u8 0,.int .u8 0,.int .u32 0])∧Below w.heap.size w w':=by
 have c0:=cN 0 hS e0
 subst hk
 have hlt:=ax hS
 have HS:=aa.mk hS
 clear hS
 go_enter Try.func166,Try.ntmps166
 go_wp2
 refine bodyPost_ret (results_cell_row rfl _ _ (w.heap.size+1) 45 (#[.int .u16 0,.int .u8 0,.int .u8 0,.int .u32 0]) (0,0) _ rfl (eY _ _ _) Try.underlying45 rfl (by kernel_rfl)) rfl ?_
 exact ⟨rfl,cB _ _ _⟩
theorem alu_kz (w:World) (gs:Nat) (s:St) (c i1 i2 k:Int) (hS:w.heap[gs]?=some (.cells (aC s) 151 (0,0))) (hl:s.length=18) (e0:gS s 0=none) (hn:(c==132)=false) (h8:(Go.bits .and .u16 c 8 != 0)=false) (hk:k=0) (ha:(c==84)=false) (hm:(c==36)=false) :
 Calls Try.prog 166 #[.pointer (some ⟨gs,0,none⟩),.agg #[.int .u16 c,.int .u8 i1,.int .u8 i2,.int .u32 k]] w fun e w'=>e = .returned (.agg #[.int .u16 c,.int .u8 i1,.int .u8 i2,.int .u32 0])∧Below w.heap.size w w':=by
 have c0:=cN 0 hS e0
 subst hk
 have hlt:=ax hS
 have HS:=aa.mk hS
 clear hS
 go_enter Try.func166,Try.ntmps166
 go_wp2
 refine bodyPost_ret (results_cell_row rfl _ _ (w.heap.size+1) 45 (#[.int .u16 c,.int .u8 i1,.int .u8 i2,.int .u32 0]) (0,0) _ rfl (eY _ _ _) Try.underlying45 rfl (by kernel_rfl)) rfl ?_
 exact ⟨rfl,cB _ _ _⟩
theorem alu_kn (w:World) (gs:Nat) (s:St) (c i1 i2 k:Int) (hS:w.heap[gs]?=some (.cells (aC s) 151 (0,0))) (hl:s.length=18) (e0:gS s 0=none) (hn:(c==132)=false) (h8:(Go.bits .and .u16 c 8 != 0)=false) (hk:(k==0)=false) :
 Calls Try.prog 166 #[.pointer (some ⟨gs,0,none⟩),.agg #[.int .u16 c,.int .u8 i1,.int .u8 i2,.int .u32 k]] w fun e w'=>e = .returned (.agg #[.int .u16 c,.int .u8 i1,.int .u8 i2,.int .u32 k])∧Below w.heap.size w w':=by
 have c0:=cN 0 hS e0
 have hlt:=ax hS
 have HS:=aa.mk hS
 clear hS
 go_enter Try.func166,Try.ntmps166
 go_wp2
 refine bodyPost_ret (results_cell_row rfl _ _ (w.heap.size+1) 45 (#[.int .u16 c,.int .u8 i1,.int .u8 i2,.int .u32 k]) (0,0) _ rfl (eY _ _ _) Try.underlying45 rfl (by kernel_rfl)) rfl ?_
 exact ⟨rfl,cB _ _ _⟩
theorem alu_x0 (w:World) (gs:Nat) (s:St) (c i1 i2 k:Int) (hS:w.heap[gs]?=some (.cells (aC s) 151 (0,0))) (hl:s.length=18) (e1:gS s 1=none) (hn:(c==132)=false) (h8:(Go.bits .and .u16 c 8 != 0)=true) :
 Calls Try.prog 166 #[.pointer (some ⟨gs,0,none⟩),.agg #[.int .u16 c,.int .u8 i1,.int .u8 i2,.int .u32 k]] w fun e w'=>e = .returned (.agg #[.int .u16 c,.int .u8 i1,.int .u8 i2,.int .u32 k])∧Below w.heap.size w w':=by
 have c2:=cN 2 hS e1
 have hlt:=ax hS
 have HS:=aa.mk hS
 clear hS
 go_enter Try.func166,Try.ntmps166
 go_wp2
 refine bodyPost_ret (results_cell_row rfl _ _ (w.heap.size+1) 45 (#[.int .u16 c,.int .u8 i1,.int .u8 i2,.int .u32 k]) (0,0) _ rfl (eY _ _ _) Try.underlying45 rfl (by kernel_rfl)) rfl ?_
 exact ⟨rfl,cB _ _ _⟩
theorem alu_xf1 (w:World) (gs:Nat) (s:St) (y i1 i2 k:Int) (hS:w.heap[gs]?=some (.cells (aC s) 151 (0,0))) (hl:s.length=18) (e1:gS s 1=some y) (hy:decide (31<y)=true) :
 Calls Try.prog 166 #[.pointer (some ⟨gs,0,none⟩),.agg #[.int .u16 108,.int .u8 i1,.int .u8 i2,.int .u32 k]] w fun e w'=>e = .returned (.agg #[.int .u16 0,.int .u8 0,.int .u8 0,.int .u32 0])∧Below w.heap.size w w':=by
 have c2:=cY 2 hS e1
 have c3:=dY 3 hS e1
 have hlt:=ax hS
 have HS:=aa.mk hS
 clear hS
 go_enter Try.func166,Try.ntmps166
 go_wp2
 refine bodyPost_ret (results_cell_row rfl _ _ (w.heap.size+1) 45 (#[.int .u16 0,.int .u8 0,.int .u8 0,.int .u32 0]) (0,0) _ rfl (eY _ _ _) Try.underlying45 rfl (by kernel_rfl)) rfl ?_
 exact ⟨rfl,cB _ _ _⟩
theorem alu_xf2 (w:World) (gs:Nat) (s:St) (y i1 i2 k:Int) (hS:w.heap[gs]?=some (.cells (aC s) 151 (0,0))) (hl:s.length=18) (e1:gS s 1=some y) (hy:decide (31<y)=true) :
 Calls Try.prog 166 #[.pointer (some ⟨gs,0,none⟩),.agg #[.int .u16 124,.int .u8 i1,.int .u8 i2,.int .u32 k]] w fun e w'=>e = .returned (.agg #[.int .u16 0,.int .u8 0,.int .u8 0,.int .u32 0])∧Below w.heap.size w w':=by
 have c2:=cY 2 hS e1
 have c3:=dY 3 hS e1
 have hlt:=ax hS
 have HS:=aa.mk hS
 clear hS
 go_enter Try.func166,Try.ntmps166
 go_wp2
 refine bodyPost_ret (results_cell_row rfl _ _ (w.heap.size+1) 45 (#[.int .u16 0,.int .u8 0,.int .u8 0,.int .u32 0]) (0,0) _ rfl (eY _ _ _) Try.underlying45 rfl (by kernel_rfl)) rfl ?_
 exact ⟨rfl,cB _ _ _⟩
theorem uK (k:Nat) (a0 a1 a2 a3:Int) (b1 b2 b3:Bool) (w:World) (h:bu.f k a0=some (b1,b2,b3)) :
 Calls Try.prog 62 #[.agg #[.int .u16 a0,.int .u8 a1,.int .u8 a2,.int .u32 a3]] w fun e w'=>e = .returned (.agg #[.int .u16 a0,.int .u8 0,.int .u8 0,.int .u32 (if b1=true then a3 else 0)])∧Below w.heap.size w w':=by
 have HC:=aa.mk (fun W=>bu.calls k a0 b1 b2 b3 W h)
 clear h
 obtain ⟨vv,ev⟩:∃ vv,vv=if b1=true then a3 else 0:=⟨_,rfl⟩
 rw [←ev]
 have EV:=aa.mk ev
 clear ev
 go_enter Try.func62,Try.ntmps62
 go_upto_region 1 with (fail)
 refine forget (fun W=>∃ gi,gi=w.heap.size∧Below w.heap.size w W∧W.heap[gi]?=some (.cells #[.int .u16 a0,.int .u8 a1,.int .u8 a2,.int .u32 a3] 45 (0,0))∧W.heap[gi+1]?=some (.cells #[.int .u16 0,.int .u8 0,.int .u8 0,.int .u32 0] 45 (0,0))) ⟨_,rfl,cB _ _ _,kP _ _ _,eY _ _ _⟩ ?_
 rintro W ⟨gi,egi,hb,hi,hr⟩
 rw [←egi]
 have HW:=aa.mk (And.intro hb (And.intro hi (And.intro hr egi)))
 have y0:=dA hi 0
 clear hb hi hr egi
 go_upto_region 2 with (go_at_call 94;refine (HC.out _).mono ?_;rintro e w' ⟨rfl,⟨nd,rfl⟩⟩)
 refine forget (fun V=>Below w.heap.size w V∧V.heap[gi]?=some (.cells #[.int .u16 a0,.int .u8 a1,.int .u8 a2,.int .u32 a3] 45 (0,0))∧V.heap[gi+1]?=some (.cells #[.int .u16 0,.int .u8 0,.int .u8 0,.int .u32 0] 45 (0,0))) ⟨av HW.out.1 (aA (Below.refl _ _) _),bg HW.out.2.1 _,bg HW.out.2.2.1 _⟩ ?_
 clear y0
 rintro V ⟨hb,hi,hr⟩
 obtain ⟨y0,y1,y2,y3,-,-,-,-⟩:=cz4 ⟨hi⟩
 have f1:=af hi 1
 have f2:=af hi 2
 have f3:=af hi 3
 have HG:aa (w.heap.size≤gi):=⟨by rw [HW.out.2.2.2];exact Nat.le_refl _⟩
 have HV:=aa.mk (And.intro hb (And.intro hi hr))
 clear hb hi hr HW
 cases b1
 case' false => 
  go_upto_region 6 with (fail)
  refine forget (fun Z=>Below w.heap.size w Z∧Z.heap[gi]?=some (.cells #[.int .u16 a0,.int .u8 0,.int .u8 0,.int .u32 vv] 45 (0,0))∧Z.heap[gi+1]?=some (.cells #[.int .u16 0,.int .u8 0,.int .u8 0,.int .u32 0] 45 (0,0)))
   ⟨dz (dz (dz HV.out.1 HG.out) HG.out) HG.out,(by rw [EV.out];exact aM (aM (aM HV.out.2.1 1 _ rfl) 2 _ rfl) 3 _ rfl),df (df (df HV.out.2.2 (by show gi+1≠gi;omega) _) (by show gi+1≠gi;omega) _) (by show gi+1≠gi;omega) _⟩ ?_
 case' true=>
  go_upto_region 6 with (fail)
  refine forget (fun Z=>Below w.heap.size w Z∧Z.heap[gi]?=some (.cells #[.int .u16 a0,.int .u8 0,.int .u8 0,.int .u32 vv] 45 (0,0))∧Z.heap[gi+1]?=some (.cells #[.int .u16 0,.int .u8 0,.int .u8 0,.int .u32 0] 45 (0,0)))
   ⟨dz (dz HV.out.1 HG.out) HG.out,(by rw [EV.out];exact aM (aM HV.out.2.1 1 _ rfl) 2 _ rfl),df (df HV.out.2.2 (by show gi+1≠gi;omega) _) (by show gi+1≠gi;omega) _⟩ ?_
 all_goals
  clear y0 y1 y2 y3 f1 f2 f3 HV
  rintro Z ⟨hb,hi,hr⟩
  obtain ⟨y0,y1,y2,y3,-,-,-,-⟩:=cz4 ⟨hi⟩
  obtain ⟨z0,z1,z2,z3,t0,t1,t2,t3⟩:=cz4 ⟨hr⟩
  have HZ:=aa.mk (And.intro hb hr)
  clear hb hi hr
  go_wp2
  refine bodyPost_ret (results_cell_row rfl _ _ (gi+1) 45 (#[.int .u16 a0,.int .u8 0,.int .u8 0,.int .u32 vv]) (0,0) _ rfl (jS HZ.out.2 _ _ _ _) Try.underlying45 rfl (by kernel_rfl)) rfl ?_
  exact ⟨rfl,fK HZ.out.1 (by have:=HG.out;omega) _ _ _ _⟩
def Tr (F:List Bool) (s:Nat):Prop:=F.getD s false=true
theorem nR {F:List Bool} {a:Nat} (h:a<F.length):Tr (F.set a true) a:=by
 unfold Tr
 rw [List.getD_eq_getElem?_getD,List.getElem?_set_self h];rfl
theorem nS {F:List Bool} {s:Nat} (a:Nat) (h:Tr F s):Tr (F.set a true) s:=by
 unfold Tr at h ⊢
 rw [List.getD_eq_getElem?_getD] at h ⊢
 rw [List.getElem?_set]
 split
 · split
   · rfl
   rename_i e h2;subst e;rw [List.getElem?_eq_none (by omega)] at h;cases h
 exact h
structure MkB (i:S45) (s:Nat) (F:List Bool):Prop where
 ja:i.f0=5→Tr F (s+1+i.f3.toNat)
 jt:jmB i.f0=true→Tr F (s+1+i.f1.toNat)
 jf:jmB i.f0=true→Tr F (s+1+i.f2.toNat)
 nx:aU i.f0=5∨reB i.f0=true→Tr F (s+1)
def bcn (F:List Bool):Nat→Nat
 | 0=>0
 | i+1=>bcn F i+(if F.getD i false=true then 1 else 0)
theorem kR {F:List Bool} {i:Nat} (h:Tr F i):bcn F (i+1)=bcn F i+1:=by show bcn F i+_=_;rw [if_pos (show F.getD i false=true from h)]
theorem o9 {F:List Bool} {i:Nat} (h:¬Tr F i):bcn F (i+1)=bcn F i:=by
 show bcn F i+_=_
 rw [if_neg (show ¬F.getD i false=true from h)];rfl
theorem um (F:List Bool):∀ i,bcn F i≤i:=by
 intro i
 induction i with
 | zero=>exact Nat.le_refl _
 | succ i ih=>by_cases h:Tr F i;rw [kR h];omega;rw [o9 h];omega
theorem yN (F:List Bool) (i:Nat):∀ d,bcn F i≤bcn F (i+d):=by
 intro d
 induction d with
 | zero=>exact Nat.le_refl _
 | succ d ih=>
  refine Nat.le_trans ih ?_
  show _≤bcn F (i+d+1)
  by_cases h:Tr F (i+d)
  · rw [kR h];omega
  rw [o9 h];exact Nat.le_refl _
theorem rA (F:List Bool) {i j:Nat} (h:i≤j):bcn F i≤bcn F j:=by
 have:=yN F i (j - i)
 rw [show i+(j - i)=j by omega] at this
 exact this
structure NB (n:Nat) (F:List Bool) (N:List Int) (i:Nat):Prop where
 len:N.length=n+1
 at_:∀ j:Nat,j<i→N.getD j 0=(bcn F (j+1):Int) - 1
theorem AU {n:Nat} {F:List Bool} {N:List Int} {i:Nat} (h:NB n F N i) (hi:i<n) (v:Int) (hv:v=(bcn F (i+1):Int) - 1):NB n F (N.set i v) (i+1):=by
 refine ⟨by rw [List.length_set];exact h.len,fun j hj=>?_⟩
 rw [List.getD_eq_getElem?_getD,List.getElem?_set]
 by_cases e:i=j
 · subst e;rw [if_pos rfl,if_pos (by rw [h.len];omega)];exact hv
 rw [if_neg e,←List.getD_eq_getElem?_getD];exact h.at_ j (by omega)
structure OI (T:Nat) (out:List S47) (e:Nat):Prop where
 all:∀ (j:Nat) (b:S47),out[j]?=some b→BOk b j T
 sum:(out.map (fun b=>b.f0.length)).sum≤e
theorem OI.add {T:Nat} {out:List S47} {e e':Nat} {b:S47} (h:OI T out e) (hb:BOk b out.length T) (he:e+b.f0.length≤e'):OI T (out++[b]) e':=by
 refine ⟨fun j x hx=>?_,?_⟩
 · rw [List.getElem?_append] at hx
   split at hx
   · exact h.all j x hx
   rename_i hj
   obtain ⟨hj2,rfl⟩:=List.getElem?_eq_some_iff.1 hx
   rw [List.length_singleton] at hj2
   obtain rfl:j=out.length:=by omega
   simpa using hb
 rw [List.map_append,List.sum_append,List.map_singleton,List.sum_singleton]
 have:=h.sum
 omega
theorem yM (c K:Int):jW ⟨c,0,0,if usK c=true then K else 0⟩=true:=by
 unfold jW
 cases usK c<;>rfl
theorem st_ok {c K:Int} (h0:flF c K=0) (h5:¬aU c=5) (h6:¬reB c=true):stB c K=true:=by
 rw [lT]
 have h1:¬aU c<0:=by
  intro h
  cases hk:kn c
  · unfold flF at h0;rw [hk] at h0;cases h0
  exact (lJ c (of_decide_eq_true hk)).2.1 h
 rw [decide_eq_false h1,decide_eq_false h5,decide_eq_false (fun h=>h6 ((mD c).1 h)),decide_eq_true h0];rfl
structure OC (c:List S45):Prop where
 st:∀ x∈c,stB x.f0 x.f3=true
 rg:∀ x∈c,Rg x.f3
theorem OC.nil:OC []:=⟨(fun x h=>by cases h),(fun x h=>by cases h)⟩
theorem OC.add {c:List S45} {i:S45} (h:OC c) (hs:stB i.f0 i.f3=true) (hr:Rg i.f3):OC (c++[i]):=by
 refine ⟨fun x hx=>?_,fun x hx=>?_⟩
 · rcases List.mem_append.1 hx with hx | hx
   · exact h.st x hx
   rw [List.mem_singleton.1 hx];exact hs
 rcases List.mem_append.1 hx with hx | hx
 · exact h.rg x hx
 rw [List.mem_singleton.1 hx];exact hr
theorem OC.code {c:List S45} (h:OC c):fE c=true:=List.all_eq_true.2 h.st
theorem bok_ret {c:List S45} (h:OC c) {q K:Int} (hr:reB q=true) (hK:Rg K) (j n:Int):BOk ⟨c,1,⟨q,0,0,if usK q=true then K else 0⟩,0,0⟩ j n:=
 ⟨h.code,by show (reB q&&jW _&&_&&_)=true;rw [hr,yM];rfl,rfl,h.rg,by show Rg (if _ then _ else _);split;exact hK;exact Rg.z⟩
theorem yS {c:List S45} (h:OC c) {y j n:Int} (h1:j<y) (h2:y<n):BOk ⟨c,2,⟨0,0,0,0⟩,y,0⟩ j n:=
 ⟨h.code,rfl,by unfold gT;simp [h1,h2],h.rg,Rg.z⟩
theorem yT {c:List S45} (h:OC c) {q K y z j n:Int} (hr:jmB q=true) (hK:Rg K) (h1:j<y) (h2:y<n) (h3:j<z) (h4:z<n):BOk ⟨c,3,⟨q,0,0,if usK q=true then K else 0⟩,y,z⟩ j n:=
 ⟨h.code,by show (jmB q&&jW _)=true;rw [hr,yM];rfl,by unfold gT;simp [h1,h2,h3,h4],h.rg,by show Rg (if _ then _ else _);split;exact hK;exact Rg.z⟩
end Go.Proofs.Ytdkalnkplgfgoaa.Ln
