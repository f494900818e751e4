/- Lemmas and walks for the statements of the texts ZTZ..: the declarations that they need, taken together by a program of this session. Conditions: as each says. -/
import Derived.Test.YtdkalnkplgfgoaaZTb
import Derived.Test.YtdkalnkplgfgoaaZTc
import Derived.Test.YtdkalnkplgfgoaaZTe
set_option maxHeartbeats 4000000
set_option maxRecDepth 100000
set_option linter.unusedVariables false
set_option linter.unusedSimpArgs false
namespace Go.Proofs.Ytdkalnkplgfgoaa.Ln
open Go.RowKit Go.Maps Go.Proofs.YtdkalnkplgfgoaaW.PrintWords Go.Proofs.YtdkalnkplgfgoaaW.PrintLast Go.Proofs.YtdkalnkplgfgoaaW.PrintMore Go.Proofs.Ytdkalnkplgfgoaa.PA
def szM:List S47→Nat→List Bool→Nat
 | [],_,_=>0
 | b :: r,n,m=>(if m.getD n false=true then 0 else szB b)+szM r (n+1) m
structure Mk (g:List S47) (m:List Bool) (S:Nat):Prop where
 len:m.length=g.length
 zero:m.getD 0 false=false
 cl:∀ (j:Nat) (b:S47),g[j]?=some b→m.getD j false=false→(b.f1≠1→m.getD b.f3.toNat false=false)∧(b.f1=3→m.getD b.f4.toNat false=false)
 sz:szM g 0 m≤S
def Mks (g:List S47) (S:Nat):Prop:=∃ m,Mk g m S
theorem rU (n j:Nat):(List.replicate n false).getD j false=false:=by
 rw [List.getD_eq_getElem?_getD,List.getElem?_replicate];split<;>rfl
theorem uW:∀ (g:List S47) (n:Nat) (m:List Bool),(∀ j,n≤j→j<n+g.length→m.getD j false=false)→szM g n m=szG g:=by
 intro g
 induction g with
 | nil=>intro n m _;rfl
 | cons b r ih=>
  intro n m h
  unfold szM szG
  rw [h n (Nat.le_refl n) (by rw [List.length_cons];omega),if_neg (by decide),ih (n+1) m (fun j h1 h2=>h j (by omega) (by rw [List.length_cons];omega)),List.map_cons,List.sum_cons]
  rfl
theorem mks_0 (g:List S47):Mks g (szG g):=
 ⟨List.replicate g.length false,by rw [List.length_replicate],rU _ _,fun j b _ _=>⟨fun _=>rU _ _,fun _=>rU _ _⟩,Nat.le_of_eq (uW g 0 _ (fun j _ _=>rU _ _))⟩
theorem szM_le (m:List Bool):∀ (g g':List S47) (n:Nat),g'.length=g.length→(∀ (j:Nat) (b b':S47),g[j]?=some b→g'[j]?=some b'→szB b'≤szB b)→szM g' n m≤szM g n m:=by
 intro g
 induction g with
 | nil=>intro g' n h _;cases g' with | nil=>exact Nat.le_refl _ | cons=>cases h
 | cons b r ih=>
  intro g' n h H
  cases g' with
  | nil=>cases h
  | cons b' r'=>
   unfold szM
   have h0:=H 0 b b' rfl rfl
   have h1:=ih r' (n+1) (by simpa using h) (fun j c c' hc hc'=>H (j+1) c c' hc hc')
   split<;>omega
theorem qE {g g':List S47} {m:List Bool} {S:Nat} (h:Mk g m S) (hl:g'.length=g.length) (H:∀ (j:Nat) (b b':S47),g[j]?=some b→g'[j]?=some b'→szB b'≤szB b ∧
 ((b.f1≠1→m.getD b.f3.toNat false=false)→(b.f1=3→m.getD b.f4.toNat false=false)→(b'.f1≠1→m.getD b'.f3.toNat false=false)∧(b'.f1=3→m.getD b'.f4.toNat false=false))):Mk g' m S:=by
 refine ⟨h.len.trans hl.symm,h.zero,fun j b' hb' hm=>?_,Nat.le_trans (szM_le m g g' 0 hl (fun j b b' hb hb'=>(H j b b' hb hb').1)) h.sz⟩
 have hj:j<g.length:=by rw [←hl];exact (List.getElem?_eq_some_iff.1 hb').1
 have hb:=List.getElem?_eq_getElem hj
 have:=h.cl j _ hb hm
 exact (H j _ b' hb hb').2 this.1 this.2
theorem en_goal {s:St} {b:S47} {i n:Int} (h:BOk b i n) (P:Int→Prop) (h3:b.f1≠1→P b.f3) (h4:b.f1=3→P b.f4):((enF s b).1.f1≠1→P (enF s b).1.f3)∧((enF s b).1.f1=3→P (enF s b).1.f4):=by
 unfold enF
 by_cases q:b.f1=1∧b.f2.f0=22
 · rw [if_pos q]
   cases gS s 0 with
   | none=>exact ⟨h3,h4⟩
   | some a=>exact ⟨h3,h4⟩
 rw [if_neg q]
 by_cases q3:b.f1≠3
 · rw [if_pos q3];exact ⟨h3,h4⟩
 rw [if_neg q3]
 cases jg s (fV s b.f2).1 with
 | none=>exact ⟨h3,h4⟩
 | some y=>
  dsimp only
  refine ⟨fun _=>?_,fun e=>by cases e⟩
  split
  · exact h3 (by omega)
  exact h4 (by omega)
theorem fold_mk {g:List S47} (hg:GOk g) {S:Nat} (h:Mks g S):Mks (iI g).1 S:=by
 obtain ⟨m,h⟩:=h
 obtain ⟨a1,_⟩:=wT hg.some_
 have hb:∀ (j:Nat) (b:S47),g[j]?=some b→BOk b ((0+j:Nat):Int) g.length:=fun j b h=>by rw [Nat.zero_add];exact hg.all j b h
 refine ⟨m,qE h (xU g 0 _) (fun j b b' hj hj'=>?_)⟩
 obtain ⟨b0,hb0,e | ⟨s,hs,e⟩⟩:=fd_at g.length g 0 _ a1 hb j b' hj'
 · rw [hj] at hb0;cases hb0
   subst e
   exact ⟨Nat.le_refl _,fun h3 h4=>⟨h3,h4⟩⟩
 rw [hj] at hb0;cases hb0
 subst e
 have hok:=hg.all j b hj
 refine ⟨(xZ hok hs).2.2.2,fun h3 h4=>?_⟩
 obtain ⟨a,c,d,_⟩:=kU b.f0 s hs hok.code hok.rg
 exact en_goal (b:=⟨(bR s b.f0).1,b.f1,b.f2,b.f3,b.f4⟩) ⟨a,hok.ends,hok.goal,c,hok.rl⟩ (fun x=>m.getD x.toNat false=false) h3 h4
theorem copy_mk {g:List S47} {S:Nat} (h:Mks g S):Mks (iq g).1 S:=by
 obtain ⟨m,h⟩:=h
 refine ⟨m,qE h (List.length_map ..) (fun j b b' hj hj'=>?_)⟩
 have:some b'=some (fo b).1:=by
  rw [←hj']
  show (g.map _)[j]?=_
  rw [List.getElem?_map,hj];rfl
 cases this
 refine ⟨?_,fun h3 h4=>⟨h3,h4⟩⟩
 have:=(l7 b.f0 gP 18).1.length_le
 show (cpF gP 18 b.f0).1.length+(if b.f1=2 then 0 else 1)≤b.f0.length+(if b.f1=2 then 0 else 1)
 omega
theorem dead_mk {g:List S47} (hg:GOk g) {S:Nat} (h:Mks g S):Mks (iZ g).1 S:=by
 obtain ⟨m,h⟩:=h
 have H:=xL g.length (ddL g 0).2.1 g 0 (fun j b h=>by rw [Nat.zero_add];exact hg.all j b h) (fun j _=>rfl)
 refine ⟨m,qE h (xM g 0).1 (fun j b b' hj hj'=>?_)⟩
 obtain ⟨b2,hb2,hd⟩:=H j b hj
 have:some b2=some b':=hb2.symm.trans hj'
 cases this
 rw [hd.blk]
 refine ⟨?_,fun h3 h4=>⟨h3,h4⟩⟩
 have:=(qg (lvF b ((ddL g 0).2.1.getD b.f3.toNat noW) ((ddL g 0).2.1.getD b.f4.toNat noW)) b.f0).1.length_le
 unfold szB
 dsimp only
 omega
theorem on_mk {g:List S47} {m:List Bool} {S:Nat} (h:Mk g m S):∀ (k j:Nat),m.getD j false=false→m.getD (onF g k j) false=false:=by
 intro k
 induction k with
 | zero=>intro j hj;exact hj
 | succ k ih=>
  intro j hj
  unfold onF
  cases e:g[j]? with
  | none=>exact hj
  | some b=>
   dsimp only
   by_cases q:fw b=true
   · rw [if_pos q]
     exact ih _ ((h.cl j b e hj).1 (by have:=(iY.1 q).1;omega))
   rw [if_neg q];exact hj
theorem goal_mk {g:List S47} (hg:GOk g) {S:Nat} (h:Mks g S):Mks (gJ g).1 S:=by
 obtain ⟨m,h⟩:=h
 refine ⟨m,qE h (List.length_map ..) (fun j b b' hj hj'=>?_)⟩
 have:some (goB g b).1=some b':=(kC hj).symm.trans hj'
 cases this
 refine ⟨(vK hg (hg.all j b hj)).2.2.2.2,fun h3 h4=>?_⟩
 have hon:∀ x:Nat,m.getD x false=false→m.getD (onG g x:Int).toNat false=false:=fun x hx=>by
  rw [Int.toNat_natCast];exact on_mk h g.length x hx
 unfold goB
 by_cases e1:b.f1=1
 · rw [if_pos e1];exact ⟨h3,h4⟩
 rw [if_neg e1]
 by_cases e2:b.f1=2
 · rw [if_pos e2]
   exact ⟨fun _=>hon _ (h3 e1),fun e=>by dsimp only at e;omega⟩
 rw [if_neg e2]
 split
 · exact ⟨fun _=>hon _ (h3 e1),fun e=>by cases e⟩
 exact ⟨fun _=>hon _ (h3 e1),fun e=>hon _ (h4 e)⟩
theorem cm_mk {g:List S47} {m:List Bool} {S:Nat} (h:Mk g m S):∀ (l:List S47) (n:Nat) (c:List Bool),(∀ (j:Nat) (b:S47),l[j]?=some b→g[n+j]?=some b)→(∀ j,c.getD j false=true→m.getD j false=false)→∀ j,(cmF l n c).getD j false=true→m.getD j false=false:=by
 intro l
 induction l with
 | nil=>intro n c _ hc;exact hc
 | cons b r ih=>
  intro n c hb hc
  unfold cmF
  refine ih (n+1) _ (fun j x hx=>by rw [show n+1+j=n+(j+1) by omega];exact hb (j+1) x hx) ?_
  intro j hj
  by_cases q:c.getD n false=true
  · rw [if_pos q] at hj
    have h0:=h.cl n b (hb 0 b rfl) (hc n q)
    have st:∀ (c:List Bool) (i j:Nat),(c.set i true).getD j false=true→c.getD j false=true∨i=j:=fun c i j e=>by
     by_cases hi:i=j
     · exact .inr hi
     rw [pV hi] at e;exact .inl e
    unfold mkC at hj
    by_cases e1:b.f1=1
    · rw [if_pos e1] at hj;exact hc j hj
    rw [if_neg e1] at hj
    by_cases e3:b.f1=3
    · rw [if_pos e3] at hj
      rcases st _ _ _ hj with hj | rfl
      · rcases st _ _ _ hj with hj | rfl
        · exact hc j hj
        exact h0.1 e1
      exact h0.2 e3
    rw [if_neg e3] at hj
    rcases st _ _ _ hj with hj | rfl
    · exact hc j hj
    exact h0.1 e1
  rw [if_neg q] at hj;exact hc j hj
theorem uG {g:List S47} (hg:GOk g) {m:List Bool} {S:Nat} (h:Mk g m S):∀ j,(gX g (onG g 0)).getD j false=true→m.getD j false=false:=by
 refine cm_mk h g 0 _ (fun j b hb=>by rw [Nat.zero_add];exact hb) (fun j hj=>?_)
 by_cases q:onG g 0=j
 · subst q;exact on_mk h g.length 0 h.zero
 rw [pV q,rU] at hj;cases hj
theorem dp_mk (c m:List Bool) (hcm:∀ j,c.getD j false=true→m.getD j false=false):∀ (l:List S47) (n:Nat),szG (dpL c l n)≤szM l n m:=by
 intro l
 induction l with
 | nil=>intro n;exact Nat.le_refl _
 | cons b r ih=>
  intro n
  have:=ih (n+1)
  unfold szM
  by_cases q:c.getD n false=true
  · rw [l8 q,if_neg (by rw [hcm n q];decide)]
    unfold szG at *
    rw [List.map_cons,List.sum_cons]
    have e:szB (fG c b)=szB b:=rfl
    omega
  rw [ru q];omega
theorem drop_mk {g:List S47} (hg:GOk g) {S:Nat} (h:Mks g S):Mks (gY g).1 S:=by
 obtain ⟨m,h⟩:=h
 unfold gY
 by_cases q:bM (gX g (onG g 0)) g.length=g.length
 · rw [if_pos q];exact ⟨m,h⟩
 rw [if_neg q]
 have h1:=dp_mk (gX g (onG g 0)) m (uG hg h) g 0
 have h2:=h.sz
 obtain ⟨m2,k⟩:=mks_0 (dpL (gX g (onG g 0)) g 0)
 exact ⟨m2,k.len,k.zero,k.cl,Nat.le_trans k.sz (Nat.le_trans h1 h2)⟩
theorem wU {g:List S47} (hg:GOk g) (h:(gY g).2=false):∀ j,j<g.length→(gX g (onG g 0)).getD j false=true:=by
 unfold gY at h
 by_cases q:bM (gX g (onG g 0)) g.length=g.length
 · intro j hj
   generalize gX g (onG g 0)=c at *
   cases e:c.getD j false with
   | true=>rfl
   | false=>
    have a1:=(ic (c:=c) (i:=0) (j:=j) (Nat.zero_le _)).2
    have a2:=mi (c:=c) (n:=j) (by rw [e];decide)
    have a3:=(ic (c:=c) (i:=j+1) (j:=g.length) (by omega)).2
    have a4:bM c 0=0:=rfl
    omega
 rw [if_neg q] at h;cases h
theorem mks_end {g:List S47} (hg:GOk g) (hd:(gY g).2=false) {S:Nat} (h:Mks g S):szG g≤S:=by
 obtain ⟨m,h⟩:=h
 rw [←uW g 0 m (fun j _ hj=>uG hg h j (wU hg hd j (by omega)))]
 exact h.sz
theorem iK (b:S47) (r:List S47) (n:Nat) (m:List Bool):szM (b :: r) n m=(if m.getD n false=true then 0 else szB b)+szM r (n+1) m:=rfl
theorem uX (m:List Bool):∀ (g:List S47) (n i:Nat) (b c:S47),g[i]?=some b→szM (g.set i c) n m+(if m.getD (n+i) false=true then 0 else szB b)=szM g n m+(if m.getD (n+i) false=true then 0 else szB c):=by
 intro g
 induction g with
 | nil=>intro n i b c h;simp at h
 | cons a r ih=>
  intro n i b c h
  cases i with
  | zero=>
   cases h
   show szM (c :: r) n m+(if m.getD n false=true then 0 else szB a)=szM (a :: r) n m+(if m.getD n false=true then 0 else szB c)
   rw [iK,iK]
   generalize (if m.getD n false=true then 0 else szB a)=u
   generalize (if m.getD n false=true then 0 else szB c)=v
   omega
  | succ i=>
   have:=ih (n+1) i b c h
   rw [show n+1+i=n+(i+1) by omega] at this
   rw [List.set_cons_succ,iK,iK]
   omega
theorem szM_far (m:List Bool) (x:Nat) (hl:x<m.length):∀ (r:List S47) (k:Nat),x<k→szM r k (m.set x true)=szM r k m:=by
 intro r
 induction r with
 | nil=>intro k _;rfl
 | cons y r ih2=>
  intro k hk
  have e:(m.set x true).getD k false=m.getD k false:=by rw [dm hl,if_neg (by omega)]
  rw [iK,iK,ih2 (k+1) (by omega),e]
theorem AB (m:List Bool):∀ (g:List S47) (n i:Nat) (b:S47),g[i]?=some b→n+i<m.length→szM g n (m.set (n+i) true)+(if m.getD (n+i) false=true then 0 else szB b)=szM g n m:=by
 intro g
 induction g with
 | nil=>intro n i b h;simp at h
 | cons a r ih=>
  intro n i b h hl
  rw [iK,iK]
  cases i with
  | zero=>
   cases h
   have e:(m.set n true).getD n false=true:=by rw [dm (by omega),if_pos rfl]
   rw [Nat.add_zero,szM_far m n (by omega) r (n+1) (by omega),e,if_pos rfl]
   omega
  | succ i=>
   have:=ih (n+1) i b h (by omega)
   rw [show n+1+i=n+(i+1) by omega] at this
   have e:(m.set (n+(i+1)) true).getD n false=m.getD n false:=by rw [dm hl,if_neg (by omega)]
   rw [e]
   omega
theorem join_mk {g:List S47} (hg:GOk g) {S:Nat} (h:Mks g S):Mks (jC g).1 S:=by
 refine sV (fun g=>Mks g S) ?_ hg h
 rintro g a y b nx hm ⟨m,h⟩
 obtain ⟨l1,l2,l3⟩:=hm.lt
 obtain ⟨g1,g2,g3⟩:=hm.get
 have hml:=h.len
 have hgo:=hm.goes
 have hgl:=hm.goal
 have hset:∀ x,(m.set y true).getD x false=if y=x then true else m.getD x false:=fun x=>dm (by omega)
 refine ⟨m.set y true,by rw [List.length_set,hm.len];exact hml,by rw [hset,if_neg (by omega)];exact h.zero,fun j c hc hj=>?_,?_⟩
 · rw [hset] at hj
   by_cases qy:y=j
   · rw [if_pos qy] at hj;cases hj
   rw [if_neg qy] at hj
   have fin:∀ x:Nat,m.getD x false=false→x≠y→(m.set y true).getD x false=false:=fun x h1 h2=>by
    rw [hset,if_neg (fun e=>h2 e.symm)];exact h1
   by_cases qa:j=a
   · subst qa
     rw [g1] at hc
     cases hc
     have hy:=(h.cl j b hm.at_ hj).1 (by omega)
     rw [hgl] at hy
     have hn:=h.cl y nx hm.nx hy
     have hok:=hm.gok.all y nx hm.nx
     refine ⟨fun e=>fin _ (hn.1 e) ?_,fun e=>fin _ (hn.2 e) ?_⟩
     · have:=bE hok.goal e;show nx.f3.toNat≠y;omega
     have:=dw hok.goal e;show nx.f4.toNat≠y;omega
   rw [g3 j qa (fun e=>qy e.symm)] at hc
   have hn:=h.cl j c hc hj
   have hone:=hm.one
   have c1:=nS (b:=b) (t:=y) (by omega) hgl
   have c2:=uF (t:=y) hm.at_ hc (Ne.symm qa)
   refine ⟨fun e=>fin _ (hn.1 e) (fun e2=>?_),fun e=>fin _ (hn.2 e) (fun e2=>?_)⟩
   · have:=nS (b:=c) e e2;omega
   have:=cE_no (b:=c) e e2;omega
 have s1:=uX m g 0 a b (mgB b nx) hm.at_
 have s2:=uX m (g.set a (mgB b nx)) 0 y nx ji (by rw [iy (by omega)];exact hm.nx)
 have s3:=AB m (jn1 g a y b nx) 0 y ji g2 (by omega)
 rw [Nat.zero_add] at s1 s2 s3
 have hs:=h.sz
 change szM (jn1 g a y b nx) 0 m+_=_ at s2
 have z1:szB b=b.f0.length:=by unfold szB;rw [if_pos hgo];rfl
 have z2:szB (mgB b nx)=b.f0.length+szB nx:=by
  have e:(mgB b nx).f0.length=b.f0.length+nx.f0.length:=List.length_append
  show (mgB b nx).f0.length+(if nx.f1=2 then 0 else 1)=b.f0.length+(nx.f0.length+(if nx.f1=2 then 0 else 1))
  omega
 have hcl:=(h.cl a b hm.at_)
 rw [z1,z2] at s1
 cases ea:m.getD a false with
 | true=>
  rw [ea,if_pos rfl,if_pos rfl] at s1
  by_cases ey:m.getD y false=true
  · rw [if_pos ey,if_pos ey] at s2
    rw [if_pos ey] at s3
    omega
  rw [if_neg ey,if_neg ey] at s2
  rw [if_neg ey] at s3
  omega
 | false=>
  rw [ea,if_neg (by decide),if_neg (by decide)] at s1
  have hy:=(hcl ea).1 (by omega)
  rw [hgl] at hy
  rw [hy,if_neg (by decide),if_neg (by decide)] at s2
  rw [hy,if_neg (by decide)] at s3
  omega
def r1 (g:List S47):=iI g
def r2 (g:List S47):=iq (r1 g).1
def r3 (g:List S47):=iZ (r2 g).1
def r4 (g:List S47):=gJ (r3 g).1
def r5 (g:List S47):=gY (r4 g).1
def r6 (g:List S47):=jC (r5 g).1
def gG (g:List S47):List S47 × Bool:=((r6 g).1,(r6 g).2||((r5 g).2||((r4 g).2||((r3 g).2||((r2 g).2||(r1 g).2)))))
def o8:Nat→List S47→List S47
 | 0,g=>g
 | k+1,g=>if (gG g).2=true then o8 k (gG g).1 else (gG g).1
theorem iM.trans {g g1 g2:List S47} {f1 f2:Bool} (h:iM g g1 f1) (h2:iM g1 g2 f2):iM g g2 (f2||f1):=by
 refine ⟨h2.gok,fun pk v f t hr=>?_,Nat.le_trans h2.ms h.ms,Nat.le_trans h2.ph h.ph,fun hf=>?_,fun hf=>?_⟩
 · obtain ⟨t1,l1,hr1⟩:=h.run pk v f t hr
   obtain ⟨t2,l2,hr2⟩:=h2.run pk v f t1 hr1
   exact ⟨t2,by omega,hr2⟩
 · have:=h.ph
   have:=h2.ph
   rcases Bool.or_eq_true_iff.1 hf with hf | hf
   · have:=h2.less hf;omega
   have:=h.less hf;omega
 rw [Bool.or_eq_false_iff] at hf
 rw [h2.same hf.1,h.same hf.2]
theorem j6 {g:List S47} (hg:GOk g):iM g (gG g).1 (gG g).2:=by
 have b1:=jy hg
 have b2:=b1.trans (jo b1.gok)
 have b3:=b2.trans (jq b2.gok)
 have b4:=b3.trans (jA b3.gok)
 have b5:=b4.trans (jv b4.gok)
 exact b5.trans (mH b5.gok)
theorem Ag {g:List S47} (hg:GOk g) {S:Nat} (h:Mks g S):Mks (gG g).1 S:=by
 have b1:=jy hg
 have b2:=b1.trans (jo b1.gok)
 have b3:=b2.trans (jq b2.gok)
 have b4:=b3.trans (jA b3.gok)
 have b5:=b4.trans (jv b4.gok)
 exact join_mk b5.gok (drop_mk b4.gok (goal_mk b3.gok (dead_mk b2.gok (copy_mk (fold_mk hg h)))))
structure Done (x:List S47):Prop where
 gok:GOk x
 fold:(iI x).2=false
 dead:(iZ x).2=false
 goal:(gJ x).2=false
 drop:(gY x).2=false
 join:(jC x).2=false
theorem ug {g:List S47} (hg:GOk g) (h:(gG g).2=false):(gG g).1=g∧Done g:=by
 have hb:=j6 hg
 unfold gG at h
 simp only [Bool.or_eq_false_iff] at h
 obtain ⟨h6,h5,h4,h3,h2,h1⟩:=h
 have b1:=jy hg
 have e1:(r1 g).1=g:=b1.same h1
 have b2:=jo (show GOk (r1 g).1 by rw [e1];exact hg)
 have e2:(r2 g).1=g:=(b2.same h2).trans e1
 have b3:=jq (show GOk (r2 g).1 by rw [e2];exact hg)
 have e3:(r3 g).1=g:=(b3.same h3).trans e2
 have b4:=jA (show GOk (r3 g).1 by rw [e3];exact hg)
 have e4:(r4 g).1=g:=(b4.same h4).trans e3
 have b5:=jv (show GOk (r4 g).1 by rw [e4];exact hg)
 have e5:(r5 g).1=g:=(b5.same h5).trans e4
 refine ⟨hb.same (by unfold gG;simp [h1,h2,h3,h4,h5,h6]),hg,h1,?_,?_,?_,?_⟩
 · rw [←e2];exact h3
 · rw [←e3];exact h4
 · rw [←e4];exact h5
 rw [←e5];exact h6
structure wK (g x:List S47):Prop where
 done:Done x
 run:∀ pk v f t,Rn g pk 0 z16 v f t→∃ t',t'≤t∧Rn x pk 0 z16 v f t'
 ms:msG x≤msG g
 size:∀ S,Mks g S→Mks x S
theorem imp_ok:∀ (k:Nat) (g:List S47),GOk g→phG g<k→wK g (o8 k g):=by
 intro k
 induction k with
 | zero=>intro g _ h;omega
 | succ k ih=>
  intro g hg h
  have hb:=j6 hg
  unfold o8
  by_cases q:(gG g).2=true
  · rw [if_pos q]
    have:=hb.less q
    obtain ⟨a,b,c,d⟩:=ih (gG g).1 hb.gok (by omega)
    refine ⟨a,fun pk v f t hr=>?_,Nat.le_trans c hb.ms,fun S hS=>d S (Ag hg hS)⟩
    obtain ⟨t1,l1,hr1⟩:=hb.run pk v f t hr
    obtain ⟨t2,l2,hr2⟩:=b pk v f t1 hr1
    exact ⟨t2,by omega,hr2⟩
  rw [if_neg q]
  have q':(gG g).2=false:=by simpa using q
  obtain ⟨e,hd⟩:=ug hg q'
  rw [e]
  exact ⟨hd,fun pk v f t hr=>⟨t,Nat.le_refl _,hr⟩,Nat.le_refl _,fun S h=>h⟩
theorem wK.sz {g x:List S47} (h:wK g x):szG x≤szG g:=mks_end h.done.gok h.done.drop (h.size _ (mks_0 g))
theorem zM (k:Nat) (c:Int):PA.aC.f k c=aC.f k c:=rfl
theorem andN_K:∀ c∈dO,Go.bits .andNot .u16 c 8=c:=by decide +kernel
theorem rT {c a k:Int} (hc:c∈dO) (hk:0≤k) (h52:(c=52∨c=148)→k≠0) (h31:(c=100∨c=116)→k≤31):PA.aZ.f c a k=some ((opP c a k).1,true):=by
 have hb:=andN_K c hc
 unfold PA.aZ.f
 rw [hb]
 simp only [dO,List.mem_cons,List.not_mem_nil,or_false] at hc
 rcases hc with rfl | rfl | rfl | rfl | rfl | rfl | rfl | rfl | rfl | rfl
 · rfl
 · rfl
 · rfl
 · rw [zH,if_neg (h52 (.inl rfl)),if_neg (by decide),if_neg (by decide),if_neg (by decide),if_neg (by decide),if_neg (by decide),if_neg (by decide),if_neg (by decide),if_neg (by decide),if_neg (h52 (.inl rfl))];rfl
 · rfl
 · rfl
 · have:=h31 (.inl rfl)
   rw [qG hk,if_neg (show ¬k>31 by omega),if_neg (by decide),if_neg (by decide),if_neg (by decide),if_neg (by decide),if_neg (by decide),if_neg (by decide),if_pos rfl,if_pos hk]
 · have:=h31 (.inr rfl)
   rw [qH hk,if_neg (show ¬k>31 by omega),if_neg (by decide),if_neg (by decide),if_neg (by decide),if_neg (by decide),if_neg (by decide),if_neg (by decide),if_neg (by decide),if_pos rfl,if_pos hk]
 · rw [zG,if_neg (h52 (.inr rfl)),if_neg (by decide),if_neg (by decide),if_neg (by decide),if_neg (by decide),if_neg (by decide),if_neg (by decide),if_neg (by decide),if_neg (by decide),if_neg (h52 (.inr rfl))];rfl
 rfl
theorem holds_f {c a k:Int} (hc:jmB c=true) (hx:c ∉ tX):PA.dA.f c a k=some (hoK c a k):=by
 have hm:c∈([21,29,37,45,53,61,69,77]:List Int):=of_decide_eq_true hc
 simp only [tX,List.mem_cons,List.not_mem_nil,or_false] at hm hx
 have H:c∈([21,37,53,69]:List Int):=by simp only [List.mem_cons,List.not_mem_nil,or_false];omega
 have G:∀ c∈([21,37,53,69]:List Int),Go.bits .andNot .u16 c 8=c:=by decide +kernel
 unfold PA.dA.f hoK
 rw [G c H]
 by_cases h1:c=21
 · rw [if_pos h1,if_pos h1]
 rw [if_neg h1,if_neg h1]
 by_cases h2:c=37
 · rw [if_pos h2,if_pos h2]
 rw [if_neg h2,if_neg h2]
 by_cases h3:c=53
 · rw [if_pos h3,if_pos h3]
 rw [if_neg h3,if_neg h3]
theorem sG:∀ c∈stL,(aJ c=0↔c∈([0,32,40,48,64,72,80,96,128]:List Int))∧(aJ c=1↔c∈([1,97,129,177]:List Int))∧(aJ c=2↔c=2)∧(aJ c=3↔c=3)∧(aJ c=4↔c=132∨c∈dO∨c∈eZ)∧aJ c≠5∧aJ c≠6∧(aJ c=7↔c=7∨c=135)∧aJ c ≠ -1:=by
 decide +kernel
theorem sj {i:S45} (hc:stB i.f0 i.f3=true) (hk:Rg i.f3) (k:Nat):PA.bV.f (k+8) i.f0 i.f1 i.f2 i.f3=some (wrF i:Int):=by
 obtain ⟨hm,h16,_⟩:=fM hc
 obtain ⟨h0,h1,h2,h3,h4,h5,h6,h7,h8⟩:=sG i.f0 hm
 have hk0:=hk.1
 have hk1:=hk.2
 have e:wrap64 (2+wrap64 i.f3)=2+i.f3:=by rw [w64 (n:=i.f3) (by omega) (by omega),w64 (by omega) (by omega)]
 unfold PA.bV.f
 rw [zM,(fU i.f0 k).1]
 simp only [Option.bind_some]
 have hj:∀ b:Bool,PA.bV.j0 (k+7+1) (aJ i.f0) b i.f0 i.f1 i.f2 i.f3=if b=true then some (2+i.f3) else if aJ i.f0=7 then (if i.f0=7 then some 1 else some 0) else some 0:=fun b=>by
  rw [PA.bV.j0,e]
 rw [hj,hj]
 unfold wrF
 simp only [List.mem_cons,List.not_mem_nil,or_false] at h1
 by_cases c1:aJ i.f0=1
 · rw [if_pos c1,if_pos (by have:=h1.1 c1;omega)];rfl
 rw [if_neg c1]
 have n1:¬(i.f0=1∨i.f0=97∨i.f0=129∨i.f0=177):=fun h=>c1 (h1.2 h)
 by_cases c2:aJ i.f0=2
 · have:=h2.1 c2
   rw [if_pos c2,if_pos (beq_iff_eq.mpr c2),if_neg (by omega),if_pos (.inl this)]
   congr 1;omega
 rw [if_neg c2]
 by_cases c3:aJ i.f0=3
 · have:=h3.1 c3
   rw [if_pos (beq_iff_eq.mpr c3),if_neg (by omega),if_pos (.inr this)]
   congr 1;omega
 rw [if_neg (by simpa using c3)]
 have n2:i.f0≠2:=fun h=>c2 (h2.2 h)
 have n3:i.f0≠3:=fun h=>c3 (h3.2 h)
 by_cases c7:aJ i.f0=7
 · rw [if_pos c7]
   by_cases q:i.f0=7
   · rw [if_pos q,if_pos (by omega)];rfl
   rw [if_neg q,if_neg (by omega),if_neg (by omega)];rfl
 have:=mt h7.2 c7
 rw [if_neg c7,if_neg (by omega),if_neg (by omega)];rfl
theorem moves_f {i:S45} (hk:Rg i.f3):PA.iC.f i.f0 i.f1 i.f2 i.f3=some (match mvF i with | some (f,t)=>((f:Int),(t:Int),true) | none=>(0,0,false)):=by
 have hk0:=hk.1
 have hk1:=hk.2
 have e:wrap64 (2+wrap64 i.f3)=((2+i.f3.toNat:Nat):Int):=by rw [w64 (n:=i.f3) (by omega) (by omega),w64 (by omega) (by omega)];omega
 unfold PA.iC.f mvF
 rw [e]
 by_cases c1:i.f0=96
 · rw [if_pos c1,if_pos c1];rfl
 rw [if_neg c1,if_neg c1]
 by_cases c2:i.f0=97
 · rw [if_pos c2,if_pos c2];rfl
 rw [if_neg c2,if_neg c2]
 by_cases c3:i.f0=2
 · rw [if_pos c3,if_pos c3];rfl
 rw [if_neg c3,if_neg c3]
 by_cases c4:i.f0=3
 · rw [if_pos c4,if_pos c4];rfl
 rw [if_neg c4,if_neg c4]
 by_cases c5:i.f0=7
 · rw [if_pos c5,if_pos c5];rfl
 rw [if_neg c5,if_neg c5]
 by_cases c6:i.f0=135
 · rw [if_pos c6,if_pos c6];rfl
 rw [if_neg c6,if_neg c6]
theorem xS {c K:Int} (hc:stB c K=true) (k:Nat):∃ u1 u2,dM.f (k+8) c=some (u1,u2,decide (c∈flL)):=by
 have hm:=(fM hc).1
 have hkn:kn c=true:=by
  have H:∀ x∈stL,kn x=true:=by decide
  exact H c hm
 have H:∀ x∈stL,fT.f x=some (decide (x∈flL)):=by decide +kernel
 obtain ⟨⟨u2,u3,e⟩,_⟩:=AL c k
 unfold dM.f at e ⊢
 rw [(lN c k).1,hkn] at e ⊢
 simp only [Option.bind_some,if_true,H c hm] at e ⊢
 obtain ⟨x,hx,e⟩:=Option.bind_eq_some_iff.1 e
 obtain ⟨y,hy,e⟩:=Option.bind_eq_some_iff.1 e
 rw [hx,hy]
 exact ⟨_,_,rfl⟩
def iB (o:Option Int):List Value:=[.bool o.isSome,.int .u32 (o.getD 0)]
def aA (s:St):Array Value:=(s.flatMap iB).toArray
theorem xW (s:St):∀ i,i<s.length→(s.flatMap iB)[2*i]?=some (.bool (gS s i).isSome)∧(s.flatMap iB)[2*i+1]?=some (.int .u32 ((gS s i).getD 0)):=by
 induction s with
 | nil=>intro i h;cases h
 | cons o r ih=>
  intro i h
  cases i with
  | zero=>exact ⟨rfl,rfl⟩
  | succ i=>
   have:=ih i (by simpa using h)
   exact this
theorem Ak {s:St} {i:Nat} (h:i<s.length):(aA s)[2*i]?=some (.bool (gS s i).isSome):=by
 unfold aA;rw [List.getElem?_toArray];exact (xW s i h).1
theorem sc_v {s:St} {i:Nat} (h:i<s.length):(aA s)[2*i+1]?=some (.int .u32 ((gS s i).getD 0)):=by
 unfold aA;rw [List.getElem?_toArray];exact (xW s i h).2
theorem xX (o:Option Int):∀ (s:St) (i:Nat),i<s.length→((s.flatMap iB).set (2*i) (.bool o.isSome)).set (2*i+1) (.int .u32 (o.getD 0))=(s.set i o).flatMap iB:=by
 intro s
 induction s with
 | nil=>intro i h;cases h
 | cons a r ih=>
  intro i h
  cases i with
  | zero=>rfl
  | succ i=>
   have:=ih i (by simpa using h)
   show Value.bool a.isSome :: Value.int .u32 (a.getD 0) :: (((r.flatMap iB).set (2*i) _).set (2*i+1) _)=_
   rw [this];rfl
theorem sc_set {s:St} {i:Nat} (o:Option Int) (h:i<s.length):((aA s).setIfInBounds (2*i) (.bool o.isSome)).setIfInBounds (2*i+1) (.int .u32 (o.getD 0))=aA (s.set i o):=by
 unfold aA
 rw [List.setIfInBounds_toArray,List.setIfInBounds_toArray,xX o s i h]
section
variable {w:World} {gs i:Nat} {s:St} {v:Int}
theorem cY (j:Nat) (hS:w.heap[gs]?=some (.cells (aA s) 151 (0,0))) (e:gS s i=some v) (h:i<s.length:=by omega) (hj:j=2*i:=by rfl):w.cell? ⟨gs,j,none⟩=some (.bool true):=by
 subst hj
 exact (ae hS _).trans ((Ak h).trans (by rw [e];rfl))
theorem cN (j:Nat) (hS:w.heap[gs]?=some (.cells (aA s) 151 (0,0))) (e:gS s i=none) (h:i<s.length:=by omega) (hj:j=2*i:=by rfl):w.cell? ⟨gs,j,none⟩=some (.bool false):=by
 subst hj
 exact (ae hS _).trans ((Ak h).trans (by rw [e];rfl))
theorem dY (j:Nat) (hS:w.heap[gs]?=some (.cells (aA s) 151 (0,0))) (e:gS s i=some v) (h:i<s.length:=by omega) (hj:j=2*i+1:=by rfl):w.cell? ⟨gs,j,none⟩=some (.int .u32 v):=by
 subst hj
 exact (ae hS _).trans ((sc_v h).trans (by rw [e];rfl))
theorem dN (j:Nat) (hS:w.heap[gs]?=some (.cells (aA s) 151 (0,0))) (e:gS s i=none) (h:i<s.length:=by omega) (hj:j=2*i+1:=by rfl):w.cell? ⟨gs,j,none⟩=some (.int .u32 0):=by
 subst hj
 exact (ae hS _).trans ((sc_v h).trans (by rw [e];rfl))
end
theorem size_alloc (w:World) (o:Obj):(w.alloc o).heap.size=w.heap.size+1:=by show (w.heap.push o).size=_;exact Array.size_push ..
theorem dK (w:World) (o1 o2:Obj):((w.alloc o1).alloc o2).heap[w.heap.size+1]?=some o2:=by
 have:=heap_alloc_new (w.alloc o1) o2
 rwa [size_alloc] at this
theorem kH (w:World) (o1 o2:Obj):((w.alloc o1).alloc o2).heap[w.heap.size]?=some o1:=by
 rw [←heap_alloc_new w o1]
 show ((w.heap.push o1).push o2)[w.heap.size]?=(w.heap.push o1)[w.heap.size]?
 rw [Array.getElem?_push,if_neg (by rw [Array.size_push];omega)]
theorem bL (w:World) (o1 o2:Obj):Below w.heap.size w ((w.alloc o1).alloc o2):=ai (ai (Below.refl _ w) _) _
def dQ (i:S45):Value := .agg #[.int .u16 i.f0,.int .u8 i.f1,.int .u8 i.f2,.int .u32 i.f3]
theorem jh {W:World} {g:Nat} {a b c d:Value} {T:TypeId} (h:W.heap[g]?=some (.cells #[a,b,c,d] T (0,0))) (v0 v1 v2 v3:Value) :
 ((((W.setCell ⟨g,0,none⟩ v0).setCell ⟨g,1,none⟩ v1).setCell ⟨g,2,none⟩ v2).setCell ⟨g,3,none⟩ v3).heap[g]?=some (.cells #[v0,v1,v2,v3] T (0,0)):=
 aI (aI (aI (aI h 0 _ rfl) 1 _ rfl) 2 _ rfl) 3 _ rfl
theorem eU {w W:World} {g:Nat} (h:Below w.heap.size w W) (hg:w.heap.size≤g) (v0 v1 v2 v3:Value) :
 Below w.heap.size w ((((W.setCell ⟨g,0,none⟩ v0).setCell ⟨g,1,none⟩ v1).setCell ⟨g,2,none⟩ v2).setCell ⟨g,3,none⟩ v3):=
 eY (eY (eY (eY h hg) hg) hg) hg
theorem alu_n1 (w:World) (gs:Nat) (s:St) (v i1 i2 k:Int) (hS:w.heap[gs]?=some (.cells (aA s) 151 (0,0))) (hl:s.length=18) (e0:gS s 0=some v) :
 Calls Try.prog 166 #[.pointer (some ⟨gs,0,none⟩),.agg #[.int .u16 132,.int .u8 i1,.int .u8 i2,.int .u32 k]] w fun e w'=>e = .returned (.agg #[.int .u16 0,.int .u8 0,.int .u8 0,.int .u32 (IntKind.u32.wrap (-v))])∧Below w.heap.size w w':=by
 have c0:=cY 0 hS e0
 have c1:=dY 1 hS e0
 have hlt:=ay hS
 have HS:=aa.mk hS
 clear hS
 go_enter Try.func166,Try.ntmps166
 go_wp2
 refine bodyPost_ret (results_cell_row rfl _ _ (w.heap.size+1) 45 (#[.int .u16 0,.int .u8 0,.int .u8 0,.int .u32 (IntKind.u32.wrap (-v))]) (0,0) _ rfl (dK _ _ _) Try.underlying45 rfl (by kernel_rfl)) rfl ?_
 exact ⟨rfl,bL _ _ _⟩
theorem alu_n0 (w:World) (gs:Nat) (s:St) (i1 i2 k:Int) (hS:w.heap[gs]?=some (.cells (aA s) 151 (0,0))) (hl:s.length=18) (e0:gS s 0=none) :
 Calls Try.prog 166 #[.pointer (some ⟨gs,0,none⟩),.agg #[.int .u16 132,.int .u8 i1,.int .u8 i2,.int .u32 k]] w fun e w'=>e = .returned (.agg #[.int .u16 132,.int .u8 i1,.int .u8 i2,.int .u32 k])∧Below w.heap.size w w':=by
 have c0:=cN 0 hS e0
 have hlt:=ay hS
 have HS:=aa.mk hS
 clear hS
 go_enter Try.func166,Try.ntmps166
 go_wp2
 refine bodyPost_ret (results_cell_row rfl _ _ (w.heap.size+1) 45 (#[.int .u16 132,.int .u8 i1,.int .u8 i2,.int .u32 k]) (0,0) _ rfl (dK _ _ _) Try.underlying45 rfl (by kernel_rfl)) rfl ?_
 exact ⟨rfl,bL _ _ _⟩
theorem alu_k1 (w:World) (gs:Nat) (s:St) (c v r i1 i2 k:Int) (hS:w.heap[gs]?=some (.cells (aA s) 151 (0,0))) (hl:s.length=18) (e0:gS s 0=some v) (hn:(c==132)=false) (h8:(Go.bits .and .u16 c 8 != 0)=false) (hr:PA.aZ.f c v k=some (r,true)) :
 Calls Try.prog 166 #[.pointer (some ⟨gs,0,none⟩),.agg #[.int .u16 c,.int .u8 i1,.int .u8 i2,.int .u32 k]] w fun e w'=>e = .returned (.agg #[.int .u16 0,.int .u8 0,.int .u8 0,.int .u32 r])∧Below w.heap.size w w':=by
 have c0:=cY 0 hS e0
 have c1:=dY 1 hS e0
 have hlt:=ay hS
 have HS:=aa.mk hS
 have HC:=fun W=>PA.aZ.calls c v k r true W hr
 have HC:=aa.mk HC
 clear hS hr
 go_enter Try.func166,Try.ntmps166
 go_upto_region 16 with (fail)
 refine forget (fun W=>∃ gi,gi=w.heap.size∧Below w.heap.size w W∧W.heap[gi]?=some (.cells #[.int .u16 (c),.int .u8 i1,.int .u8 i2,.int .u32 k] 45 (0,0))∧W.heap[gi+1]?=some (.cells #[.int .u16 0,.int .u8 0,.int .u8 0,.int .u32 0] 45 (0,0))) ⟨_,rfl,bL _ _ _,kH _ _ _,dK _ _ _⟩ ?_
 rintro W ⟨gi,egi,hb,hi,hr⟩
 rw [←egi]
 have x1:=ax hb c1
 have y0:=d9 hi 0
 have y3:=d9 hi 3
 have HB:=aa.mk hb
 have HI:=aa.mk hi
 have HR:=aa.mk hr
 have EG:=aa.mk egi
 clear hb hi hr c0 c1 egi
 go_quiet ((go_at_call 155;exact Calls.quiet_of ((HC.out _).mono fun _ _ ⟨he,⟨m,hm⟩⟩=>⟨he,m,hm⟩)))
 obtain ⟨z0,z1,z2,z3,t0,t1,t2,t3⟩:=cz4 ⟨HR.out⟩
 go_wp2
 have hq:=aj (Below.refl W.heap.size W) nq
 refine bodyPost_ret (results_cell_row rfl _ _ (gi+1) 45 (#[.int .u16 0,.int .u8 0,.int .u8 0,.int .u32 r]) (0,0) _ rfl (jh (ak HR.out hq) _ _ _ _) Try.underlying45 rfl (by kernel_rfl)) rfl ?_
 exact ⟨rfl,eU (au HB.out hq) (by have:=EG.out;omega) _ _ _ _⟩
theorem alu_k84 (w:World) (gs:Nat) (s:St) (i1 i2 k:Int) (hS:w.heap[gs]?=some (.cells (aA s) 151 (0,0))) (hl:s.length=18) (e0:gS s 0=none) (hk:k=0) :
 Calls Try.prog 166 #[.pointer (some ⟨gs,0,none⟩),.agg #[.int .u16 84,.int .u8 i1,.int .u8 i2,.int .u32 k]] w fun e w'=>e = .returned (.agg #[.int .u16 0,.int .u8 0,.int .u8 0,.int .u32 0])∧Below w.heap.size w w':=by
 have c0:=cN 0 hS e0
 subst hk
 have hlt:=ay hS
 have HS:=aa.mk hS
 clear hS
 go_enter Try.func166,Try.ntmps166
 go_wp2
 refine bodyPost_ret (results_cell_row rfl _ _ (w.heap.size+1) 45 (#[.int .u16 0,.int .u8 0,.int .u8 0,.int .u32 0]) (0,0) _ rfl (dK _ _ _) Try.underlying45 rfl (by kernel_rfl)) rfl ?_
 exact ⟨rfl,bL _ _ _⟩
theorem alu_k36 (w:World) (gs:Nat) (s:St) (i1 i2 k:Int) (hS:w.heap[gs]?=some (.cells (aA s) 151 (0,0))) (hl:s.length=18) (e0:gS s 0=none) (hk:k=0) :
 Calls Try.prog 166 #[.pointer (some ⟨gs,0,none⟩),.agg #[.int .u16 36,.int .u8 i1,.int .u8 i2,.int .u32 k]] w fun e w'=>e = .returned (.agg #[.int .u16 0,.int .u8 0,.int .u8 0,.int .u32 0])∧Below w.heap.size w w':=by
 have c0:=cN 0 hS e0
 subst hk
 have hlt:=ay hS
 have HS:=aa.mk hS
 clear hS
 go_enter Try.func166,Try.ntmps166
 go_wp2
 refine bodyPost_ret (results_cell_row rfl _ _ (w.heap.size+1) 45 (#[.int .u16 0,.int .u8 0,.int .u8 0,.int .u32 0]) (0,0) _ rfl (dK _ _ _) Try.underlying45 rfl (by kernel_rfl)) rfl ?_
 exact ⟨rfl,bL _ _ _⟩
theorem alu_kz (w:World) (gs:Nat) (s:St) (c i1 i2 k:Int) (hS:w.heap[gs]?=some (.cells (aA s) 151 (0,0))) (hl:s.length=18) (e0:gS s 0=none) (hn:(c==132)=false) (h8:(Go.bits .and .u16 c 8 != 0)=false) (hk:k=0) (ha:(c==84)=false) (hm:(c==36)=false) :
 Calls Try.prog 166 #[.pointer (some ⟨gs,0,none⟩),.agg #[.int .u16 c,.int .u8 i1,.int .u8 i2,.int .u32 k]] w fun e w'=>e = .returned (.agg #[.int .u16 c,.int .u8 i1,.int .u8 i2,.int .u32 0])∧Below w.heap.size w w':=by
 have c0:=cN 0 hS e0
 subst hk
 have hlt:=ay hS
 have HS:=aa.mk hS
 clear hS
 go_enter Try.func166,Try.ntmps166
 go_wp2
 refine bodyPost_ret (results_cell_row rfl _ _ (w.heap.size+1) 45 (#[.int .u16 c,.int .u8 i1,.int .u8 i2,.int .u32 0]) (0,0) _ rfl (dK _ _ _) Try.underlying45 rfl (by kernel_rfl)) rfl ?_
 exact ⟨rfl,bL _ _ _⟩
theorem alu_kn (w:World) (gs:Nat) (s:St) (c i1 i2 k:Int) (hS:w.heap[gs]?=some (.cells (aA s) 151 (0,0))) (hl:s.length=18) (e0:gS s 0=none) (hn:(c==132)=false) (h8:(Go.bits .and .u16 c 8 != 0)=false) (hk:(k==0)=false) :
 Calls Try.prog 166 #[.pointer (some ⟨gs,0,none⟩),.agg #[.int .u16 c,.int .u8 i1,.int .u8 i2,.int .u32 k]] w fun e w'=>e = .returned (.agg #[.int .u16 c,.int .u8 i1,.int .u8 i2,.int .u32 k])∧Below w.heap.size w w':=by
 have c0:=cN 0 hS e0
 have hlt:=ay hS
 have HS:=aa.mk hS
 clear hS
 go_enter Try.func166,Try.ntmps166
 go_wp2
 refine bodyPost_ret (results_cell_row rfl _ _ (w.heap.size+1) 45 (#[.int .u16 c,.int .u8 i1,.int .u8 i2,.int .u32 k]) (0,0) _ rfl (dK _ _ _) Try.underlying45 rfl (by kernel_rfl)) rfl ?_
 exact ⟨rfl,bL _ _ _⟩
theorem alu_x0 (w:World) (gs:Nat) (s:St) (c i1 i2 k:Int) (hS:w.heap[gs]?=some (.cells (aA s) 151 (0,0))) (hl:s.length=18) (e1:gS s 1=none) (hn:(c==132)=false) (h8:(Go.bits .and .u16 c 8 != 0)=true) :
 Calls Try.prog 166 #[.pointer (some ⟨gs,0,none⟩),.agg #[.int .u16 c,.int .u8 i1,.int .u8 i2,.int .u32 k]] w fun e w'=>e = .returned (.agg #[.int .u16 c,.int .u8 i1,.int .u8 i2,.int .u32 k])∧Below w.heap.size w w':=by
 have c2:=cN 2 hS e1
 have hlt:=ay hS
 have HS:=aa.mk hS
 clear hS
 go_enter Try.func166,Try.ntmps166
 go_wp2
 refine bodyPost_ret (results_cell_row rfl _ _ (w.heap.size+1) 45 (#[.int .u16 c,.int .u8 i1,.int .u8 i2,.int .u32 k]) (0,0) _ rfl (dK _ _ _) Try.underlying45 rfl (by kernel_rfl)) rfl ?_
 exact ⟨rfl,bL _ _ _⟩
theorem alu_xf1 (w:World) (gs:Nat) (s:St) (y i1 i2 k:Int) (hS:w.heap[gs]?=some (.cells (aA s) 151 (0,0))) (hl:s.length=18) (e1:gS s 1=some y) (hy:decide (31<y)=true) :
 Calls Try.prog 166 #[.pointer (some ⟨gs,0,none⟩),.agg #[.int .u16 108,.int .u8 i1,.int .u8 i2,.int .u32 k]] w fun e w'=>e = .returned (.agg #[.int .u16 0,.int .u8 0,.int .u8 0,.int .u32 0])∧Below w.heap.size w w':=by
 have c2:=cY 2 hS e1
 have c3:=dY 3 hS e1
 have hlt:=ay hS
 have HS:=aa.mk hS
 clear hS
 go_enter Try.func166,Try.ntmps166
 go_wp2
 refine bodyPost_ret (results_cell_row rfl _ _ (w.heap.size+1) 45 (#[.int .u16 0,.int .u8 0,.int .u8 0,.int .u32 0]) (0,0) _ rfl (dK _ _ _) Try.underlying45 rfl (by kernel_rfl)) rfl ?_
 exact ⟨rfl,bL _ _ _⟩
theorem alu_xf2 (w:World) (gs:Nat) (s:St) (y i1 i2 k:Int) (hS:w.heap[gs]?=some (.cells (aA s) 151 (0,0))) (hl:s.length=18) (e1:gS s 1=some y) (hy:decide (31<y)=true) :
 Calls Try.prog 166 #[.pointer (some ⟨gs,0,none⟩),.agg #[.int .u16 124,.int .u8 i1,.int .u8 i2,.int .u32 k]] w fun e w'=>e = .returned (.agg #[.int .u16 0,.int .u8 0,.int .u8 0,.int .u32 0])∧Below w.heap.size w w':=by
 have c2:=cY 2 hS e1
 have c3:=dY 3 hS e1
 have hlt:=ay hS
 have HS:=aa.mk hS
 clear hS
 go_enter Try.func166,Try.ntmps166
 go_wp2
 refine bodyPost_ret (results_cell_row rfl _ _ (w.heap.size+1) 45 (#[.int .u16 0,.int .u8 0,.int .u8 0,.int .u32 0]) (0,0) _ rfl (dK _ _ _) Try.underlying45 rfl (by kernel_rfl)) rfl ?_
 exact ⟨rfl,bL _ _ _⟩
theorem wZ (w:World) (gs:Nat) (s:St) (c v r i1 i2 k:Int) (hS:w.heap[gs]?=some (.cells (aA s) 151 (0,0))) (hl:s.length=18) (e0:gS s 0=some v) (e1:gS s 1=some 0) (hn:(c==132)=false) (h8:(Go.bits .and .u16 c 8 != 0)=true) (hs1:(c==108)=false) (hs2:(c==124)=false) (hd1:(c==60)=false) (hd2:(c==156)=false) (hr:PA.aZ.f (Go.bits .andNot .u16 c 8) v 0=some (r,true)) :
 Calls Try.prog 166 #[.pointer (some ⟨gs,0,none⟩),.agg #[.int .u16 c,.int .u8 i1,.int .u8 i2,.int .u32 k]] w fun e w'=>e = .returned (.agg #[.int .u16 0,.int .u8 0,.int .u8 0,.int .u32 r])∧Below w.heap.size w w':=by
 have c0:=cY 0 hS e0
 have c1:=dY 1 hS e0
 have c2:=cY 2 hS e1
 have c3:=dY 3 hS e1
 have hlt:=ay hS
 have HS:=aa.mk hS
 have HC:=fun W=>PA.aZ.calls (Go.bits .andNot .u16 c 8) v 0 r true W hr
 have HC:=aa.mk HC
 clear hS hr
 go_enter Try.func166,Try.ntmps166
 go_upto_region 16 with (fail)
 refine forget (fun W=>∃ gi,gi=w.heap.size∧Below w.heap.size w W∧W.heap[gi]?=some (.cells #[.int .u16 ((Go.bits .andNot .u16 c 8)),.int .u8 0,.int .u8 0,.int .u32 0] 45 (0,0))∧W.heap[gi+1]?=some (.cells #[.int .u16 0,.int .u8 0,.int .u8 0,.int .u32 0] 45 (0,0))) ⟨_,rfl,bL _ _ _,kH _ _ _,dK _ _ _⟩ ?_
 rintro W ⟨gi,egi,hb,hi,hr⟩
 rw [←egi]
 have x1:=ax hb c1
 have y0:=d9 hi 0
 have y3:=d9 hi 3
 have HB:=aa.mk hb
 have HI:=aa.mk hi
 have HR:=aa.mk hr
 have EG:=aa.mk egi
 clear hb hi hr c0 c1 egi
 go_quiet ((go_at_call 155;exact Calls.quiet_of ((HC.out _).mono fun _ _ ⟨he,⟨m,hm⟩⟩=>⟨he,m,hm⟩)))
 obtain ⟨z0,z1,z2,z3,t0,t1,t2,t3⟩:=cz4 ⟨HR.out⟩
 go_wp2
 have hq:=aj (Below.refl W.heap.size W) nq
 refine bodyPost_ret (results_cell_row rfl _ _ (gi+1) 45 (#[.int .u16 0,.int .u8 0,.int .u8 0,.int .u32 r]) (0,0) _ rfl (jh (ak HR.out hq) _ _ _ _) Try.underlying45 rfl (by kernel_rfl)) rfl ?_
 exact ⟨rfl,eU (au HB.out hq) (by have:=EG.out;omega) _ _ _ _⟩
theorem wX (w:World) (gs:Nat) (s:St) (c i1 i2 k:Int) (hS:w.heap[gs]?=some (.cells (aA s) 151 (0,0))) (hl:s.length=18) (e0:gS s 0=none) (e1:gS s 1=some 0) (hn:(c==132)=false) (h8:(Go.bits .and .u16 c 8 != 0)=true) (hs1:(c==108)=false) (hs2:(c==124)=false) (hd1:(c==60)=false) (hd2:(c==156)=false) (ha:((Go.bits .andNot .u16 c 8)==84)=false) (hm:((Go.bits .andNot .u16 c 8)==36)=false) :
 Calls Try.prog 166 #[.pointer (some ⟨gs,0,none⟩),.agg #[.int .u16 c,.int .u8 i1,.int .u8 i2,.int .u32 k]] w fun e w'=>e = .returned (.agg #[.int .u16 (Go.bits .andNot .u16 c 8),.int .u8 0,.int .u8 0,.int .u32 0])∧Below w.heap.size w w':=by
 have c0:=cN 0 hS e0
 have c2:=cY 2 hS e1
 have c3:=dY 3 hS e1
 have hlt:=ay hS
 have HS:=aa.mk hS
 clear hS
 go_enter Try.func166,Try.ntmps166
 go_wp2
 refine bodyPost_ret (results_cell_row rfl _ _ (w.heap.size+1) 45 (#[.int .u16 (Go.bits .andNot .u16 c 8),.int .u8 0,.int .u8 0,.int .u32 0]) (0,0) _ rfl (dK _ _ _) Try.underlying45 rfl (by kernel_rfl)) rfl ?_
 exact ⟨rfl,bL _ _ _⟩
theorem xc (w:World) (gs:Nat) (s:St) (c v y r i1 i2 k:Int) (hS:w.heap[gs]?=some (.cells (aA s) 151 (0,0))) (hl:s.length=18) (e0:gS s 0=some v) (e1:gS s 1=some y) (hn:(c==132)=false) (h8:(Go.bits .and .u16 c 8 != 0)=true) (hs1:(c==108)=false) (hs2:(c==124)=false) (hd1:(c==60)=false) (hd2:(c==156)=false) (hz:(y==0)=false) (hr:PA.aZ.f (Go.bits .andNot .u16 c 8) v y=some (r,true)) :
 Calls Try.prog 166 #[.pointer (some ⟨gs,0,none⟩),.agg #[.int .u16 c,.int .u8 i1,.int .u8 i2,.int .u32 k]] w fun e w'=>e = .returned (.agg #[.int .u16 0,.int .u8 0,.int .u8 0,.int .u32 r])∧Below w.heap.size w w':=by
 have c0:=cY 0 hS e0
 have c1:=dY 1 hS e0
 have c2:=cY 2 hS e1
 have c3:=dY 3 hS e1
 have hlt:=ay hS
 have HS:=aa.mk hS
 have HC:=fun W=>PA.aZ.calls (Go.bits .andNot .u16 c 8) v y r true W hr
 have HC:=aa.mk HC
 clear hS hr
 go_enter Try.func166,Try.ntmps166
 go_upto_region 16 with (fail)
 refine forget (fun W=>∃ gi,gi=w.heap.size∧Below w.heap.size w W∧W.heap[gi]?=some (.cells #[.int .u16 ((Go.bits .andNot .u16 c 8)),.int .u8 0,.int .u8 0,.int .u32 y] 45 (0,0))∧W.heap[gi+1]?=some (.cells #[.int .u16 0,.int .u8 0,.int .u8 0,.int .u32 0] 45 (0,0))) ⟨_,rfl,bL _ _ _,kH _ _ _,dK _ _ _⟩ ?_
 rintro W ⟨gi,egi,hb,hi,hr⟩
 rw [←egi]
 have x1:=ax hb c1
 have y0:=d9 hi 0
 have y3:=d9 hi 3
 have HB:=aa.mk hb
 have HI:=aa.mk hi
 have HR:=aa.mk hr
 have EG:=aa.mk egi
 clear hb hi hr c0 c1 egi
 go_quiet ((go_at_call 155;exact Calls.quiet_of ((HC.out _).mono fun _ _ ⟨he,⟨m,hm⟩⟩=>⟨he,m,hm⟩)))
 obtain ⟨z0,z1,z2,z3,t0,t1,t2,t3⟩:=cz4 ⟨HR.out⟩
 go_wp2
 have hq:=aj (Below.refl W.heap.size W) nq
 refine bodyPost_ret (results_cell_row rfl _ _ (gi+1) 45 (#[.int .u16 0,.int .u8 0,.int .u8 0,.int .u32 r]) (0,0) _ rfl (jh (ak HR.out hq) _ _ _ _) Try.underlying45 rfl (by kernel_rfl)) rfl ?_
 exact ⟨rfl,eU (au HB.out hq) (by have:=EG.out;omega) _ _ _ _⟩
theorem wY (w:World) (gs:Nat) (s:St) (c y i1 i2 k:Int) (hS:w.heap[gs]?=some (.cells (aA s) 151 (0,0))) (hl:s.length=18) (e0:gS s 0=none) (e1:gS s 1=some y) (hn:(c==132)=false) (h8:(Go.bits .and .u16 c 8 != 0)=true) (hs1:(c==108)=false) (hs2:(c==124)=false) (hd1:(c==60)=false) (hd2:(c==156)=false) (hz:(y==0)=false) :
 Calls Try.prog 166 #[.pointer (some ⟨gs,0,none⟩),.agg #[.int .u16 c,.int .u8 i1,.int .u8 i2,.int .u32 k]] w fun e w'=>e = .returned (.agg #[.int .u16 (Go.bits .andNot .u16 c 8),.int .u8 0,.int .u8 0,.int .u32 y])∧Below w.heap.size w w':=by
 have c0:=cN 0 hS e0
 have c2:=cY 2 hS e1
 have c3:=dY 3 hS e1
 have hlt:=ay hS
 have HS:=aa.mk hS
 clear hS
 go_enter Try.func166,Try.ntmps166
 go_wp2
 refine bodyPost_ret (results_cell_row rfl _ _ (w.heap.size+1) 45 (#[.int .u16 (Go.bits .andNot .u16 c 8),.int .u8 0,.int .u8 0,.int .u32 y]) (0,0) _ rfl (dK _ _ _) Try.underlying45 rfl (by kernel_rfl)) rfl ?_
 exact ⟨rfl,bL _ _ _⟩
theorem xm (w:World) (gs:Nat) (s:St) (v r i1 i2 k:Int) (hS:w.heap[gs]?=some (.cells (aA s) 151 (0,0))) (hl:s.length=18) (e0:gS s 0=some v) (e1:gS s 1=some 0) (hy:decide (31<0)=false) (hr:PA.aZ.f (Go.bits .andNot .u16 108 8) v 0=some (r,true)) :
 Calls Try.prog 166 #[.pointer (some ⟨gs,0,none⟩),.agg #[.int .u16 108,.int .u8 i1,.int .u8 i2,.int .u32 k]] w fun e w'=>e = .returned (.agg #[.int .u16 0,.int .u8 0,.int .u8 0,.int .u32 r])∧Below w.heap.size w w':=by
 have c0:=cY 0 hS e0
 have c1:=dY 1 hS e0
 have c2:=cY 2 hS e1
 have c3:=dY 3 hS e1
 have hlt:=ay hS
 have HS:=aa.mk hS
 have HC:=fun W=>PA.aZ.calls (Go.bits .andNot .u16 108 8) v 0 r true W hr
 have HC:=aa.mk HC
 clear hS hr
 go_enter Try.func166,Try.ntmps166
 go_upto_region 16 with (fail)
 refine forget (fun W=>∃ gi,gi=w.heap.size∧Below w.heap.size w W∧W.heap[gi]?=some (.cells #[.int .u16 ((Go.bits .andNot .u16 108 8)),.int .u8 0,.int .u8 0,.int .u32 0] 45 (0,0))∧W.heap[gi+1]?=some (.cells #[.int .u16 0,.int .u8 0,.int .u8 0,.int .u32 0] 45 (0,0))) ⟨_,rfl,bL _ _ _,kH _ _ _,dK _ _ _⟩ ?_
 rintro W ⟨gi,egi,hb,hi,hr⟩
 rw [←egi]
 have x1:=ax hb c1
 have y0:=d9 hi 0
 have y3:=d9 hi 3
 have HB:=aa.mk hb
 have HI:=aa.mk hi
 have HR:=aa.mk hr
 have EG:=aa.mk egi
 clear hb hi hr c0 c1 egi
 go_quiet ((go_at_call 155;exact Calls.quiet_of ((HC.out _).mono fun _ _ ⟨he,⟨m,hm⟩⟩=>⟨he,m,hm⟩)))
 obtain ⟨z0,z1,z2,z3,t0,t1,t2,t3⟩:=cz4 ⟨HR.out⟩
 go_wp2
 have hq:=aj (Below.refl W.heap.size W) nq
 refine bodyPost_ret (results_cell_row rfl _ _ (gi+1) 45 (#[.int .u16 0,.int .u8 0,.int .u8 0,.int .u32 r]) (0,0) _ rfl (jh (ak HR.out hq) _ _ _ _) Try.underlying45 rfl (by kernel_rfl)) rfl ?_
 exact ⟨rfl,eU (au HB.out hq) (by have:=EG.out;omega) _ _ _ _⟩
theorem xh (w:World) (gs:Nat) (s:St) (i1 i2 k:Int) (hS:w.heap[gs]?=some (.cells (aA s) 151 (0,0))) (hl:s.length=18) (e0:gS s 0=none) (e1:gS s 1=some 0) (hy:decide (31<0)=false) :
 Calls Try.prog 166 #[.pointer (some ⟨gs,0,none⟩),.agg #[.int .u16 108,.int .u8 i1,.int .u8 i2,.int .u32 k]] w fun e w'=>e = .returned (.agg #[.int .u16 (Go.bits .andNot .u16 108 8),.int .u8 0,.int .u8 0,.int .u32 0])∧Below w.heap.size w w':=by
 have c0:=cN 0 hS e0
 have c2:=cY 2 hS e1
 have c3:=dY 3 hS e1
 have hlt:=ay hS
 have HS:=aa.mk hS
 clear hS
 go_enter Try.func166,Try.ntmps166
 go_wp2
 refine bodyPost_ret (results_cell_row rfl _ _ (w.heap.size+1) 45 (#[.int .u16 (Go.bits .andNot .u16 108 8),.int .u8 0,.int .u8 0,.int .u32 0]) (0,0) _ rfl (dK _ _ _) Try.underlying45 rfl (by kernel_rfl)) rfl ?_
 exact ⟨rfl,bL _ _ _⟩
theorem xn (w:World) (gs:Nat) (s:St) (v y r i1 i2 k:Int) (hS:w.heap[gs]?=some (.cells (aA s) 151 (0,0))) (hl:s.length=18) (e0:gS s 0=some v) (e1:gS s 1=some y) (hy:decide (31<y)=false) (hz:(y==0)=false) (hr:PA.aZ.f (Go.bits .andNot .u16 108 8) v y=some (r,true)) :
 Calls Try.prog 166 #[.pointer (some ⟨gs,0,none⟩),.agg #[.int .u16 108,.int .u8 i1,.int .u8 i2,.int .u32 k]] w fun e w'=>e = .returned (.agg #[.int .u16 0,.int .u8 0,.int .u8 0,.int .u32 r])∧Below w.heap.size w w':=by
 have c0:=cY 0 hS e0
 have c1:=dY 1 hS e0
 have c2:=cY 2 hS e1
 have c3:=dY 3 hS e1
 have hlt:=ay hS
 have HS:=aa.mk hS
 have HC:=fun W=>PA.aZ.calls (Go.bits .andNot .u16 108 8) v y r true W hr
 have HC:=aa.mk HC
 clear hS hr
 go_enter Try.func166,Try.ntmps166
 go_upto_region 16 with (fail)
 refine forget (fun W=>∃ gi,gi=w.heap.size∧Below w.heap.size w W∧W.heap[gi]?=some (.cells #[.int .u16 ((Go.bits .andNot .u16 108 8)),.int .u8 0,.int .u8 0,.int .u32 y] 45 (0,0))∧W.heap[gi+1]?=some (.cells #[.int .u16 0,.int .u8 0,.int .u8 0,.int .u32 0] 45 (0,0))) ⟨_,rfl,bL _ _ _,kH _ _ _,dK _ _ _⟩ ?_
 rintro W ⟨gi,egi,hb,hi,hr⟩
 rw [←egi]
 have x1:=ax hb c1
 have y0:=d9 hi 0
 have y3:=d9 hi 3
 have HB:=aa.mk hb
 have HI:=aa.mk hi
 have HR:=aa.mk hr
 have EG:=aa.mk egi
 clear hb hi hr c0 c1 egi
 go_quiet ((go_at_call 155;exact Calls.quiet_of ((HC.out _).mono fun _ _ ⟨he,⟨m,hm⟩⟩=>⟨he,m,hm⟩)))
 obtain ⟨z0,z1,z2,z3,t0,t1,t2,t3⟩:=cz4 ⟨HR.out⟩
 go_wp2
 have hq:=aj (Below.refl W.heap.size W) nq
 refine bodyPost_ret (results_cell_row rfl _ _ (gi+1) 45 (#[.int .u16 0,.int .u8 0,.int .u8 0,.int .u32 r]) (0,0) _ rfl (jh (ak HR.out hq) _ _ _ _) Try.underlying45 rfl (by kernel_rfl)) rfl ?_
 exact ⟨rfl,eU (au HB.out hq) (by have:=EG.out;omega) _ _ _ _⟩
theorem xk (w:World) (gs:Nat) (s:St) (y i1 i2 k:Int) (hS:w.heap[gs]?=some (.cells (aA s) 151 (0,0))) (hl:s.length=18) (e0:gS s 0=none) (e1:gS s 1=some y) (hy:decide (31<y)=false) (hz:(y==0)=false) :
 Calls Try.prog 166 #[.pointer (some ⟨gs,0,none⟩),.agg #[.int .u16 108,.int .u8 i1,.int .u8 i2,.int .u32 k]] w fun e w'=>e = .returned (.agg #[.int .u16 (Go.bits .andNot .u16 108 8),.int .u8 0,.int .u8 0,.int .u32 y])∧Below w.heap.size w w':=by
 have c0:=cN 0 hS e0
 have c2:=cY 2 hS e1
 have c3:=dY 3 hS e1
 have hlt:=ay hS
 have HS:=aa.mk hS
 clear hS
 go_enter Try.func166,Try.ntmps166
 go_wp2
 refine bodyPost_ret (results_cell_row rfl _ _ (w.heap.size+1) 45 (#[.int .u16 (Go.bits .andNot .u16 108 8),.int .u8 0,.int .u8 0,.int .u32 y]) (0,0) _ rfl (dK _ _ _) Try.underlying45 rfl (by kernel_rfl)) rfl ?_
 exact ⟨rfl,bL _ _ _⟩
theorem xw (w:World) (gs:Nat) (s:St) (v r i1 i2 k:Int) (hS:w.heap[gs]?=some (.cells (aA s) 151 (0,0))) (hl:s.length=18) (e0:gS s 0=some v) (e1:gS s 1=some 0) (hy:decide (31<0)=false) (hr:PA.aZ.f (Go.bits .andNot .u16 124 8) v 0=some (r,true)) :
 Calls Try.prog 166 #[.pointer (some ⟨gs,0,none⟩),.agg #[.int .u16 124,.int .u8 i1,.int .u8 i2,.int .u32 k]] w fun e w'=>e = .returned (.agg #[.int .u16 0,.int .u8 0,.int .u8 0,.int .u32 r])∧Below w.heap.size w w':=by
 have c0:=cY 0 hS e0
 have c1:=dY 1 hS e0
 have c2:=cY 2 hS e1
 have c3:=dY 3 hS e1
 have hlt:=ay hS
 have HS:=aa.mk hS
 have HC:=fun W=>PA.aZ.calls (Go.bits .andNot .u16 124 8) v 0 r true W hr
 have HC:=aa.mk HC
 clear hS hr
 go_enter Try.func166,Try.ntmps166
 go_upto_region 16 with (fail)
 refine forget (fun W=>∃ gi,gi=w.heap.size∧Below w.heap.size w W∧W.heap[gi]?=some (.cells #[.int .u16 ((Go.bits .andNot .u16 124 8)),.int .u8 0,.int .u8 0,.int .u32 0] 45 (0,0))∧W.heap[gi+1]?=some (.cells #[.int .u16 0,.int .u8 0,.int .u8 0,.int .u32 0] 45 (0,0))) ⟨_,rfl,bL _ _ _,kH _ _ _,dK _ _ _⟩ ?_
 rintro W ⟨gi,egi,hb,hi,hr⟩
 rw [←egi]
 have x1:=ax hb c1
 have y0:=d9 hi 0
 have y3:=d9 hi 3
 have HB:=aa.mk hb
 have HI:=aa.mk hi
 have HR:=aa.mk hr
 have EG:=aa.mk egi
 clear hb hi hr c0 c1 egi
 go_quiet ((go_at_call 155;exact Calls.quiet_of ((HC.out _).mono fun _ _ ⟨he,⟨m,hm⟩⟩=>⟨he,m,hm⟩)))
 obtain ⟨z0,z1,z2,z3,t0,t1,t2,t3⟩:=cz4 ⟨HR.out⟩
 go_wp2
 have hq:=aj (Below.refl W.heap.size W) nq
 refine bodyPost_ret (results_cell_row rfl _ _ (gi+1) 45 (#[.int .u16 0,.int .u8 0,.int .u8 0,.int .u32 r]) (0,0) _ rfl (jh (ak HR.out hq) _ _ _ _) Try.underlying45 rfl (by kernel_rfl)) rfl ?_
 exact ⟨rfl,eU (au HB.out hq) (by have:=EG.out;omega) _ _ _ _⟩
theorem xq (w:World) (gs:Nat) (s:St) (i1 i2 k:Int) (hS:w.heap[gs]?=some (.cells (aA s) 151 (0,0))) (hl:s.length=18) (e0:gS s 0=none) (e1:gS s 1=some 0) (hy:decide (31<0)=false) :
 Calls Try.prog 166 #[.pointer (some ⟨gs,0,none⟩),.agg #[.int .u16 124,.int .u8 i1,.int .u8 i2,.int .u32 k]] w fun e w'=>e = .returned (.agg #[.int .u16 (Go.bits .andNot .u16 124 8),.int .u8 0,.int .u8 0,.int .u32 0])∧Below w.heap.size w w':=by
 have c0:=cN 0 hS e0
 have c2:=cY 2 hS e1
 have c3:=dY 3 hS e1
 have hlt:=ay hS
 have HS:=aa.mk hS
 clear hS
 go_enter Try.func166,Try.ntmps166
 go_wp2
 refine bodyPost_ret (results_cell_row rfl _ _ (w.heap.size+1) 45 (#[.int .u16 (Go.bits .andNot .u16 124 8),.int .u8 0,.int .u8 0,.int .u32 0]) (0,0) _ rfl (dK _ _ _) Try.underlying45 rfl (by kernel_rfl)) rfl ?_
 exact ⟨rfl,bL _ _ _⟩
theorem xx (w:World) (gs:Nat) (s:St) (v y r i1 i2 k:Int) (hS:w.heap[gs]?=some (.cells (aA s) 151 (0,0))) (hl:s.length=18) (e0:gS s 0=some v) (e1:gS s 1=some y) (hy:decide (31<y)=false) (hz:(y==0)=false) (hr:PA.aZ.f (Go.bits .andNot .u16 124 8) v y=some (r,true)) :
 Calls Try.prog 166 #[.pointer (some ⟨gs,0,none⟩),.agg #[.int .u16 124,.int .u8 i1,.int .u8 i2,.int .u32 k]] w fun e w'=>e = .returned (.agg #[.int .u16 0,.int .u8 0,.int .u8 0,.int .u32 r])∧Below w.heap.size w w':=by
 have c0:=cY 0 hS e0
 have c1:=dY 1 hS e0
 have c2:=cY 2 hS e1
 have c3:=dY 3 hS e1
 have hlt:=ay hS
 have HS:=aa.mk hS
 have HC:=fun W=>PA.aZ.calls (Go.bits .andNot .u16 124 8) v y r true W hr
 have HC:=aa.mk HC
 clear hS hr
 go_enter Try.func166,Try.ntmps166
 go_upto_region 16 with (fail)
 refine forget (fun W=>∃ gi,gi=w.heap.size∧Below w.heap.size w W∧W.heap[gi]?=some (.cells #[.int .u16 ((Go.bits .andNot .u16 124 8)),.int .u8 0,.int .u8 0,.int .u32 y] 45 (0,0))∧W.heap[gi+1]?=some (.cells #[.int .u16 0,.int .u8 0,.int .u8 0,.int .u32 0] 45 (0,0))) ⟨_,rfl,bL _ _ _,kH _ _ _,dK _ _ _⟩ ?_
 rintro W ⟨gi,egi,hb,hi,hr⟩
 rw [←egi]
 have x1:=ax hb c1
 have y0:=d9 hi 0
 have y3:=d9 hi 3
 have HB:=aa.mk hb
 have HI:=aa.mk hi
 have HR:=aa.mk hr
 have EG:=aa.mk egi
 clear hb hi hr c0 c1 egi
 go_quiet ((go_at_call 155;exact Calls.quiet_of ((HC.out _).mono fun _ _ ⟨he,⟨m,hm⟩⟩=>⟨he,m,hm⟩)))
 obtain ⟨z0,z1,z2,z3,t0,t1,t2,t3⟩:=cz4 ⟨HR.out⟩
 go_wp2
 have hq:=aj (Below.refl W.heap.size W) nq
 refine bodyPost_ret (results_cell_row rfl _ _ (gi+1) 45 (#[.int .u16 0,.int .u8 0,.int .u8 0,.int .u32 r]) (0,0) _ rfl (jh (ak HR.out hq) _ _ _ _) Try.underlying45 rfl (by kernel_rfl)) rfl ?_
 exact ⟨rfl,eU (au HB.out hq) (by have:=EG.out;omega) _ _ _ _⟩
theorem xu (w:World) (gs:Nat) (s:St) (y i1 i2 k:Int) (hS:w.heap[gs]?=some (.cells (aA s) 151 (0,0))) (hl:s.length=18) (e0:gS s 0=none) (e1:gS s 1=some y) (hy:decide (31<y)=false) (hz:(y==0)=false) :
 Calls Try.prog 166 #[.pointer (some ⟨gs,0,none⟩),.agg #[.int .u16 124,.int .u8 i1,.int .u8 i2,.int .u32 k]] w fun e w'=>e = .returned (.agg #[.int .u16 (Go.bits .andNot .u16 124 8),.int .u8 0,.int .u8 0,.int .u32 y])∧Below w.heap.size w w':=by
 have c0:=cN 0 hS e0
 have c2:=cY 2 hS e1
 have c3:=dY 3 hS e1
 have hlt:=ay hS
 have HS:=aa.mk hS
 clear hS
 go_enter Try.func166,Try.ntmps166
 go_wp2
 refine bodyPost_ret (results_cell_row rfl _ _ (w.heap.size+1) 45 (#[.int .u16 (Go.bits .andNot .u16 124 8),.int .u8 0,.int .u8 0,.int .u32 y]) (0,0) _ rfl (dK _ _ _) Try.underlying45 rfl (by kernel_rfl)) rfl ?_
 exact ⟨rfl,bL _ _ _⟩
theorem wW (w:World) (gs:Nat) (s:St) (v y r i1 i2 k:Int) (hS:w.heap[gs]?=some (.cells (aA s) 151 (0,0))) (hl:s.length=18) (e0:gS s 0=some v) (e1:gS s 1=some y) (hz:(y==0)=false) (hr:PA.aZ.f (Go.bits .andNot .u16 60 8) v y=some (r,true)) :
 Calls Try.prog 166 #[.pointer (some ⟨gs,0,none⟩),.agg #[.int .u16 60,.int .u8 i1,.int .u8 i2,.int .u32 k]] w fun e w'=>e = .returned (.agg #[.int .u16 0,.int .u8 0,.int .u8 0,.int .u32 r])∧Below w.heap.size w w':=by
 have c0:=cY 0 hS e0
 have c1:=dY 1 hS e0
 have c2:=cY 2 hS e1
 have c3:=dY 3 hS e1
 have hlt:=ay hS
 have HS:=aa.mk hS
 have HC:=fun W=>PA.aZ.calls (Go.bits .andNot .u16 60 8) v y r true W hr
 have HC:=aa.mk HC
 clear hS hr
 go_enter Try.func166,Try.ntmps166
 go_upto_region 16 with (fail)
 refine forget (fun W=>∃ gi,gi=w.heap.size∧Below w.heap.size w W∧W.heap[gi]?=some (.cells #[.int .u16 ((Go.bits .andNot .u16 60 8)),.int .u8 0,.int .u8 0,.int .u32 y] 45 (0,0))∧W.heap[gi+1]?=some (.cells #[.int .u16 0,.int .u8 0,.int .u8 0,.int .u32 0] 45 (0,0))) ⟨_,rfl,bL _ _ _,kH _ _ _,dK _ _ _⟩ ?_
 rintro W ⟨gi,egi,hb,hi,hr⟩
 rw [←egi]
 have x1:=ax hb c1
 have y0:=d9 hi 0
 have y3:=d9 hi 3
 have HB:=aa.mk hb
 have HI:=aa.mk hi
 have HR:=aa.mk hr
 have EG:=aa.mk egi
 clear hb hi hr c0 c1 egi
 go_quiet ((go_at_call 155;exact Calls.quiet_of ((HC.out _).mono fun _ _ ⟨he,⟨m,hm⟩⟩=>⟨he,m,hm⟩)))
 obtain ⟨z0,z1,z2,z3,t0,t1,t2,t3⟩:=cz4 ⟨HR.out⟩
 go_wp2
 have hq:=aj (Below.refl W.heap.size W) nq
 refine bodyPost_ret (results_cell_row rfl _ _ (gi+1) 45 (#[.int .u16 0,.int .u8 0,.int .u8 0,.int .u32 r]) (0,0) _ rfl (jh (ak HR.out hq) _ _ _ _) Try.underlying45 rfl (by kernel_rfl)) rfl ?_
 exact ⟨rfl,eU (au HB.out hq) (by have:=EG.out;omega) _ _ _ _⟩
theorem wV (w:World) (gs:Nat) (s:St) (y i1 i2 k:Int) (hS:w.heap[gs]?=some (.cells (aA s) 151 (0,0))) (hl:s.length=18) (e0:gS s 0=none) (e1:gS s 1=some y) (hz:(y==0)=false) :
 Calls Try.prog 166 #[.pointer (some ⟨gs,0,none⟩),.agg #[.int .u16 60,.int .u8 i1,.int .u8 i2,.int .u32 k]] w fun e w'=>e = .returned (.agg #[.int .u16 (Go.bits .andNot .u16 60 8),.int .u8 0,.int .u8 0,.int .u32 y])∧Below w.heap.size w w':=by
 have c0:=cN 0 hS e0
 have c2:=cY 2 hS e1
 have c3:=dY 3 hS e1
 have hlt:=ay hS
 have HS:=aa.mk hS
 clear hS
 go_enter Try.func166,Try.ntmps166
 go_wp2
 refine bodyPost_ret (results_cell_row rfl _ _ (w.heap.size+1) 45 (#[.int .u16 (Go.bits .andNot .u16 60 8),.int .u8 0,.int .u8 0,.int .u32 y]) (0,0) _ rfl (dK _ _ _) Try.underlying45 rfl (by kernel_rfl)) rfl ?_
 exact ⟨rfl,bL _ _ _⟩
theorem xg (w:World) (gs:Nat) (s:St) (v y r i1 i2 k:Int) (hS:w.heap[gs]?=some (.cells (aA s) 151 (0,0))) (hl:s.length=18) (e0:gS s 0=some v) (e1:gS s 1=some y) (hz:(y==0)=false) (hr:PA.aZ.f (Go.bits .andNot .u16 156 8) v y=some (r,true)) :
 Calls Try.prog 166 #[.pointer (some ⟨gs,0,none⟩),.agg #[.int .u16 156,.int .u8 i1,.int .u8 i2,.int .u32 k]] w fun e w'=>e = .returned (.agg #[.int .u16 0,.int .u8 0,.int .u8 0,.int .u32 r])∧Below w.heap.size w w':=by
 have c0:=cY 0 hS e0
 have c1:=dY 1 hS e0
 have c2:=cY 2 hS e1
 have c3:=dY 3 hS e1
 have hlt:=ay hS
 have HS:=aa.mk hS
 have HC:=fun W=>PA.aZ.calls (Go.bits .andNot .u16 156 8) v y r true W hr
 have HC:=aa.mk HC
 clear hS hr
 go_enter Try.func166,Try.ntmps166
 go_upto_region 16 with (fail)
 refine forget (fun W=>∃ gi,gi=w.heap.size∧Below w.heap.size w W∧W.heap[gi]?=some (.cells #[.int .u16 ((Go.bits .andNot .u16 156 8)),.int .u8 0,.int .u8 0,.int .u32 y] 45 (0,0))∧W.heap[gi+1]?=some (.cells #[.int .u16 0,.int .u8 0,.int .u8 0,.int .u32 0] 45 (0,0))) ⟨_,rfl,bL _ _ _,kH _ _ _,dK _ _ _⟩ ?_
 rintro W ⟨gi,egi,hb,hi,hr⟩
 rw [←egi]
 have x1:=ax hb c1
 have y0:=d9 hi 0
 have y3:=d9 hi 3
 have HB:=aa.mk hb
 have HI:=aa.mk hi
 have HR:=aa.mk hr
 have EG:=aa.mk egi
 clear hb hi hr c0 c1 egi
 go_quiet ((go_at_call 155;exact Calls.quiet_of ((HC.out _).mono fun _ _ ⟨he,⟨m,hm⟩⟩=>⟨he,m,hm⟩)))
 obtain ⟨z0,z1,z2,z3,t0,t1,t2,t3⟩:=cz4 ⟨HR.out⟩
 go_wp2
 have hq:=aj (Below.refl W.heap.size W) nq
 refine bodyPost_ret (results_cell_row rfl _ _ (gi+1) 45 (#[.int .u16 0,.int .u8 0,.int .u8 0,.int .u32 r]) (0,0) _ rfl (jh (ak HR.out hq) _ _ _ _) Try.underlying45 rfl (by kernel_rfl)) rfl ?_
 exact ⟨rfl,eU (au HB.out hq) (by have:=EG.out;omega) _ _ _ _⟩
theorem xe (w:World) (gs:Nat) (s:St) (y i1 i2 k:Int) (hS:w.heap[gs]?=some (.cells (aA s) 151 (0,0))) (hl:s.length=18) (e0:gS s 0=none) (e1:gS s 1=some y) (hz:(y==0)=false) :
 Calls Try.prog 166 #[.pointer (some ⟨gs,0,none⟩),.agg #[.int .u16 156,.int .u8 i1,.int .u8 i2,.int .u32 k]] w fun e w'=>e = .returned (.agg #[.int .u16 (Go.bits .andNot .u16 156 8),.int .u8 0,.int .u8 0,.int .u32 y])∧Below w.heap.size w w':=by
 have c0:=cN 0 hS e0
 have c2:=cY 2 hS e1
 have c3:=dY 3 hS e1
 have hlt:=ay hS
 have HS:=aa.mk hS
 clear hS
 go_enter Try.func166,Try.ntmps166
 go_wp2
 refine bodyPost_ret (results_cell_row rfl _ _ (w.heap.size+1) 45 (#[.int .u16 (Go.bits .andNot .u16 156 8),.int .u8 0,.int .u8 0,.int .u32 y]) (0,0) _ rfl (dK _ _ _) Try.underlying45 rfl (by kernel_rfl)) rfl ?_
 exact ⟨rfl,bL _ _ _⟩
theorem alu_xdz (w:World) (gs:Nat) (s:St) (i1 i2 k:Int) (hS:w.heap[gs]?=some (.cells (aA s) 151 (0,0))) (hl:s.length=18) (e1:gS s 1=some 0) :
 Calls Try.prog 166 #[.pointer (some ⟨gs,0,none⟩),.agg #[.int .u16 60,.int .u8 i1,.int .u8 i2,.int .u32 k]] w fun e w'=>e = .returned (.agg #[.int .u16 60,.int .u8 i1,.int .u8 i2,.int .u32 k])∧Below w.heap.size w w':=by
 have c2:=cY 2 hS e1
 have c3:=dY 3 hS e1
 have hlt:=ay hS
 have HS:=aa.mk hS
 clear hS
 go_enter Try.func166,Try.ntmps166
 go_wp2
 refine bodyPost_ret (results_cell_row rfl _ _ (w.heap.size+1) 45 (#[.int .u16 60,.int .u8 i1,.int .u8 i2,.int .u32 k]) (0,0) _ rfl (dK _ _ _) Try.underlying45 rfl (by kernel_rfl)) rfl ?_
 exact ⟨rfl,bL _ _ _⟩
theorem alu_xmz (w:World) (gs:Nat) (s:St) (i1 i2 k:Int) (hS:w.heap[gs]?=some (.cells (aA s) 151 (0,0))) (hl:s.length=18) (e1:gS s 1=some 0) :
 Calls Try.prog 166 #[.pointer (some ⟨gs,0,none⟩),.agg #[.int .u16 156,.int .u8 i1,.int .u8 i2,.int .u32 k]] w fun e w'=>e = .returned (.agg #[.int .u16 156,.int .u8 i1,.int .u8 i2,.int .u32 k])∧Below w.heap.size w w':=by
 have c2:=cY 2 hS e1
 have c3:=dY 3 hS e1
 have hlt:=ay hS
 have HS:=aa.mk hS
 clear hS
 go_enter Try.func166,Try.ntmps166
 go_wp2
 refine bodyPost_ret (results_cell_row rfl _ _ (w.heap.size+1) 45 (#[.int .u16 156,.int .u8 i1,.int .u8 i2,.int .u32 k]) (0,0) _ rfl (dK _ _ _) Try.underlying45 rfl (by kernel_rfl)) rfl ?_
 exact ⟨rfl,bL _ _ _⟩
theorem alu_xa0 (w:World) (gs:Nat) (s:St) (i1 i2 k:Int) (hS:w.heap[gs]?=some (.cells (aA s) 151 (0,0))) (hl:s.length=18) (e0:gS s 0=none) (e1:gS s 1=some 0) :
 Calls Try.prog 166 #[.pointer (some ⟨gs,0,none⟩),.agg #[.int .u16 92,.int .u8 i1,.int .u8 i2,.int .u32 k]] w fun e w'=>e = .returned (.agg #[.int .u16 0,.int .u8 0,.int .u8 0,.int .u32 0])∧Below w.heap.size w w':=by
 have c0:=cN 0 hS e0
 have c2:=cY 2 hS e1
 have c3:=dY 3 hS e1
 have hlt:=ay hS
 have HS:=aa.mk hS
 clear hS
 go_enter Try.func166,Try.ntmps166
 go_wp2
 refine bodyPost_ret (results_cell_row rfl _ _ (w.heap.size+1) 45 (#[.int .u16 0,.int .u8 0,.int .u8 0,.int .u32 0]) (0,0) _ rfl (dK _ _ _) Try.underlying45 rfl (by kernel_rfl)) rfl ?_
 exact ⟨rfl,bL _ _ _⟩
theorem alu_xu0 (w:World) (gs:Nat) (s:St) (i1 i2 k:Int) (hS:w.heap[gs]?=some (.cells (aA s) 151 (0,0))) (hl:s.length=18) (e0:gS s 0=none) (e1:gS s 1=some 0) :
 Calls Try.prog 166 #[.pointer (some ⟨gs,0,none⟩),.agg #[.int .u16 44,.int .u8 i1,.int .u8 i2,.int .u32 k]] w fun e w'=>e = .returned (.agg #[.int .u16 0,.int .u8 0,.int .u8 0,.int .u32 0])∧Below w.heap.size w w':=by
 have c0:=cN 0 hS e0
 have c2:=cY 2 hS e1
 have c3:=dY 3 hS e1
 have hlt:=ay hS
 have HS:=aa.mk hS
 clear hS
 go_enter Try.func166,Try.ntmps166
 go_wp2
 refine bodyPost_ret (results_cell_row rfl _ _ (w.heap.size+1) 45 (#[.int .u16 0,.int .u8 0,.int .u8 0,.int .u32 0]) (0,0) _ rfl (dK _ _ _) Try.underlying45 rfl (by kernel_rfl)) rfl ?_
 exact ⟨rfl,bL _ _ _⟩
theorem aX {a b:Int} (h:a≠b):(a==b)=false:=beq_eq_false_iff_ne.mpr h
theorem alu_K (w:World) (gs:Nat) (s:St) (i:S45) (hS:w.heap[gs]?=some (.cells (aA s) 151 (0,0))) (hw:Wst s) (hc:i.f0∈dO) (hk:Rg i.f3) (h52:(i.f0=52∨i.f0=148)→i.f3≠0) (h31:(i.f0=100∨i.f0=116)→i.f3≤31) :
 Calls Try.prog 166 #[.pointer (some ⟨gs,0,none⟩),dQ i] w fun e w'=>e = .returned (dQ (iX s i))∧Below w.heap.size w w':=by
 obtain ⟨c,i1,i2,k⟩:=i
 dsimp only at hc hk h52 h31
 have H:∀ x∈dO,x≠132∧(Go.bits .and .u16 x 8 != 0)=false:=by decide +kernel
 obtain ⟨n1,n2⟩:=H c hc
 unfold iX
 cases e:gS s 0 with
 | some a=>exact alu_k1 w gs s c a (opP c a k).1 i1 i2 k hS hw.len e (aX n1) n2 (rT hc hk.1 h52 h31)
 | none=>
  dsimp only
  by_cases q:k=0∧(c=84∨c=36)
  · rw [if_pos q]
    obtain ⟨q0,rfl | rfl⟩:=q
    · exact alu_k84 w gs s i1 i2 k hS hw.len e q0
    exact alu_k36 w gs s i1 i2 k hS hw.len e q0
  rw [if_neg q]
  by_cases q0:k=0
  · subst q0
    exact alu_kz w gs s c i1 i2 0 hS hw.len e (aX n1) n2 rfl (aX (fun h=>q ⟨rfl,.inl h⟩)) (aX (fun h=>q ⟨rfl,.inr h⟩))
  exact alu_kn w gs s c i1 i2 k hS hw.len e (aX n1) n2 (aX q0)
theorem alu_X (w:World) (gs:Nat) (s:St) (c i1 i2 k y:Int) (hS:w.heap[gs]?=some (.cells (aA s) 151 (0,0))) (hw:Wst s) (hc:c∈eZ) (e1:gS s 1=some y) (hy:Rg y) (hf:¬((c=108∨c=124)∧y>31)) (hz:¬(y=0∧(c=60∨c=156))) :
 Calls Try.prog 166 #[.pointer (some ⟨gs,0,none⟩),dQ ⟨c,i1,i2,k⟩] w fun e w'=>e = .returned (dQ (iX s ⟨c - 8,0,0,y⟩))∧Below w.heap.size w w':=by
 have H:∀ x∈eZ,x≠132∧(Go.bits .and .u16 x 8 != 0)=true∧Go.bits .andNot .u16 x 8=x - 8∧x - 8∈dO∧(x - 8=52∨x - 8=148→x=60∨x=156)∧(x - 8=100∨x - 8=116→x=108∨x=124)∧(x - 8=84↔x=92)∧(x - 8=36↔x=44):=by decide +kernel
 obtain ⟨n1,n2,n3,n4,n5,n6,n7,n8⟩:=H c hc
 have hR:∀ a,PA.aZ.f (Go.bits .andNot .u16 c 8) a y=some ((opP (c - 8) a y).1,true):=fun a=>by
  rw [n3]
  exact rT n4 hy.1 (fun h h0=>hz ⟨h0,n5 h⟩) (fun h=>by have:=n6 h;omega)
 have hy31:(c=108∨c=124)→decide (31<y)=false:=fun h=>decide_eq_false (by omega)
 unfold iX
 dsimp only
 cases e:gS s 0 with
 | some a=>
  dsimp only
  by_cases q0:y=0
  · subst q0
    by_cases c1:c=108
    · subst c1;exact xm w gs s a _ i1 i2 k hS hw.len e e1 (hy31 (.inl rfl)) (hR a)
    by_cases c2:c=124
    · subst c2;exact xw w gs s a _ i1 i2 k hS hw.len e e1 (hy31 (.inr rfl)) (hR a)
    have c3:c≠60:=fun h=>hz ⟨rfl,.inl h⟩
    have c4:c≠156:=fun h=>hz ⟨rfl,.inr h⟩
    exact wZ w gs s c a _ i1 i2 k hS hw.len e e1 (aX n1) n2 (aX c1) (aX c2) (aX c3) (aX c4) (hR a)
  by_cases c1:c=108
  · subst c1;exact xn w gs s a y _ i1 i2 k hS hw.len e e1 (hy31 (.inl rfl)) (aX q0) (hR a)
  by_cases c2:c=124
  · subst c2;exact xx w gs s a y _ i1 i2 k hS hw.len e e1 (hy31 (.inr rfl)) (aX q0) (hR a)
  by_cases c3:c=60
  · subst c3;exact wW w gs s a y _ i1 i2 k hS hw.len e e1 (aX q0) (hR a)
  by_cases c4:c=156
  · subst c4;exact xg w gs s a y _ i1 i2 k hS hw.len e e1 (aX q0) (hR a)
  exact xc w gs s c a y _ i1 i2 k hS hw.len e e1 (aX n1) n2 (aX c1) (aX c2) (aX c3) (aX c4) (aX q0) (hR a)
 | none=>
  dsimp only
  by_cases q0:y=0
  · subst q0
    by_cases c5:c=92
    · subst c5
      rw [if_pos (by decide)]
      exact alu_xa0 w gs s i1 i2 k hS hw.len e e1
    by_cases c6:c=44
    · subst c6
      rw [if_pos (by decide)]
      exact alu_xu0 w gs s i1 i2 k hS hw.len e e1
    rw [if_neg (by rintro ⟨_,h | h⟩;exact c5 (n7.1 h);exact c6 (n8.1 h)),←n3]
    by_cases c1:c=108
    · subst c1;exact xh w gs s i1 i2 k hS hw.len e e1 (hy31 (.inl rfl))
    by_cases c2:c=124
    · subst c2;exact xq w gs s i1 i2 k hS hw.len e e1 (hy31 (.inr rfl))
    have c3:c≠60:=fun h=>hz ⟨rfl,.inl h⟩
    have c4:c≠156:=fun h=>hz ⟨rfl,.inr h⟩
    exact wX w gs s c i1 i2 k hS hw.len e e1 (aX n1) n2 (aX c1) (aX c2) (aX c3) (aX c4) (by rw [n3];exact aX (fun h=>c5 (n7.1 h))) (by rw [n3];exact aX (fun h=>c6 (n8.1 h)))
  rw [if_neg (fun h=>q0 h.1),←n3]
  by_cases c1:c=108
  · subst c1;exact xk w gs s y i1 i2 k hS hw.len e e1 (hy31 (.inl rfl)) (aX q0)
  by_cases c2:c=124
  · subst c2;exact xu w gs s y i1 i2 k hS hw.len e e1 (hy31 (.inr rfl)) (aX q0)
  by_cases c3:c=60
  · subst c3;exact wV w gs s y i1 i2 k hS hw.len e e1 (aX q0)
  by_cases c4:c=156
  · subst c4;exact xe w gs s y i1 i2 k hS hw.len e e1 (aX q0)
  exact wY w gs s c y i1 i2 k hS hw.len e e1 (aX n1) n2 (aX c1) (aX c2) (aX c3) (aX c4) (aX q0)
theorem vv (w:World) (gs:Nat) (s:St) (i:S45) (hS:w.heap[gs]?=some (.cells (aA s) 151 (0,0))) (hw:Wst s) (hc:stB i.f0 i.f3=true) (hk:Rg i.f3) (ha:i.f0=132∨i.f0∈dO∨i.f0∈eZ) :
 Calls Try.prog 166 #[.pointer (some ⟨gs,0,none⟩),dQ i] w fun e w'=>e = .returned (dQ (sw s i))∧Below w.heap.size w w':=by
 obtain ⟨hm,_,h52,h31⟩:=fM hc
 unfold sw
 by_cases c1:i.f0=132
 · rw [if_pos c1]
   obtain ⟨c,i1,i2,k⟩:=i
   dsimp only at c1
   subst c1
   cases e:gS s 0 with
   | some a=>exact alu_n1 w gs s a i1 i2 k hS hw.len e
   | none=>exact alu_n0 w gs s i1 i2 k hS hw.len e
 rw [if_neg c1]
 by_cases c2:i.f0∈eZ
 · rw [if_pos c2]
   obtain ⟨c,i1,i2,k⟩:=i
   dsimp only at c1 c2
   have H:∀ x∈eZ,(Go.bits .and .u16 x 8 != 0)=true:=by decide +kernel
   cases e:gS s 1 with
   | none=>exact alu_x0 w gs s c i1 i2 k hS hw.len e (aX c1) (H c c2)
   | some y=>
    dsimp only
    have hy:=hw.rg 1 y e
    by_cases d1:(c=108∨c=124)∧y>31
    · rw [if_pos d1]
      obtain ⟨rfl | rfl,d⟩:=d1
      · exact alu_xf1 w gs s y i1 i2 k hS hw.len e (decide_eq_true d)
      exact alu_xf2 w gs s y i1 i2 k hS hw.len e (decide_eq_true d)
    rw [if_neg d1]
    by_cases d2:y=0∧(c=60∨c=156)
    · rw [if_pos d2]
      obtain ⟨rfl,rfl | rfl⟩:=d2
      · exact alu_xdz w gs s i1 i2 k hS hw.len e
      exact alu_xmz w gs s i1 i2 k hS hw.len e
    rw [if_neg d2]
    exact alu_X w gs s c i1 i2 k y hS hw c2 e hy d1 d2
 rw [if_neg c2]
 exact alu_K w gs s i hS hw ((ha.resolve_left c1).resolve_right c2) hk h52 h31
theorem bQ {s:St} {i:Nat} (h:i<s.length):(aA s)[i*2]?=some (.bool (gS s i).isSome):=by rw [Nat.mul_comm];exact Ak h
theorem cu {s:St} {i:Nat} (h:i<s.length):(aA s)[i*2+1]?=some (.int .u32 ((gS s i).getD 0)):=by rw [Nat.mul_comm];exact sc_v h
theorem zq (w:World) (gs:Nat) (s:St) (v i1 i2:Int) (k:Nat) (hS:w.heap[gs]?=some (.cells (aA s) 151 (0,0))) (hl:s.length=18) (hk:k<16) (e0:gS s (2+k)=some v) :
 Calls Try.prog 165 #[.pointer (some ⟨gs,0,none⟩),.agg #[.int .u16 96,.int .u8 i1,.int .u8 i2,.int .u32 (k:Int)]] w fun e w'=>e = .returned (.agg #[.int .u16 0,.int .u8 0,.int .u8 0,.int .u32 v])∧Below w.heap.size w w':=by
 have c0:_=some (Value.bool true):=(ae hS ((2+k)*2)).trans ((bQ (s:=s) (i:=2+k) (by omega)).trans (by rw [e0];rfl))
 have c1:_=some (Value.int .u32 v):=(ae hS ((2+k)*2+1)).trans ((cu (s:=s) (i:=2+k) (by omega)).trans (by rw [e0];rfl))
 have hlt:=ay hS
 have hlt1:gs<w.heap.size+1:=by omega
 have hlt2:gs<w.heap.size+1+1:=by omega
 have HS:=aa.mk hS
 clear hS
 go_enter Try.func165,Try.ntmps165
 go_wp2
 go_region
 go_wp2
 refine bodyPost_ret (results_cell_row rfl _ _ (w.heap.size+1) 45 (#[.int .u16 0,.int .u8 0,.int .u8 0,.int .u32 v]) (0,0) _ rfl (ak (dK _ _ _) (af (ai (Below.refl _ _) _))) Try.underlying45 rfl (by kernel_rfl)) rfl ?_
 exact ⟨rfl,af (ai (bL _ _ _) _)⟩
theorem zo (w:World) (gs:Nat) (s:St) (i1 i2:Int) (k:Nat) (hS:w.heap[gs]?=some (.cells (aA s) 151 (0,0))) (hl:s.length=18) (hk:k<16) (e0:gS s (2+k)=none) :
 Calls Try.prog 165 #[.pointer (some ⟨gs,0,none⟩),.agg #[.int .u16 96,.int .u8 i1,.int .u8 i2,.int .u32 (k:Int)]] w fun e w'=>e = .returned (.agg #[.int .u16 96,.int .u8 i1,.int .u8 i2,.int .u32 (k:Int)])∧Below w.heap.size w w':=by
 have c0:_=some (Value.bool false):=(ae hS ((2+k)*2)).trans ((bQ (s:=s) (i:=2+k) (by omega)).trans (by rw [e0];rfl))
 have c1:_=some (Value.int .u32 0):=(ae hS ((2+k)*2+1)).trans ((cu (s:=s) (i:=2+k) (by omega)).trans (by rw [e0];rfl))
 have hlt:=ay hS
 have hlt1:gs<w.heap.size+1:=by omega
 have hlt2:gs<w.heap.size+1+1:=by omega
 have HS:=aa.mk hS
 clear hS
 go_enter Try.func165,Try.ntmps165
 go_wp2
 go_region
 go_wp2
 refine bodyPost_ret (results_cell_row rfl _ _ (w.heap.size+1) 45 (#[.int .u16 96,.int .u8 i1,.int .u8 i2,.int .u32 (k:Int)]) (0,0) _ rfl (ak (dK _ _ _) (af (ai (Below.refl _ _) _))) Try.underlying45 rfl (by kernel_rfl)) rfl ?_
 exact ⟨rfl,af (ai (bL _ _ _) _)⟩
theorem zu (w:World) (gs:Nat) (s:St) (v i1 i2:Int) (k:Nat) (hS:w.heap[gs]?=some (.cells (aA s) 151 (0,0))) (hl:s.length=18) (hk:k<16) (e0:gS s (2+k)=some v) :
 Calls Try.prog 165 #[.pointer (some ⟨gs,0,none⟩),.agg #[.int .u16 97,.int .u8 i1,.int .u8 i2,.int .u32 (k:Int)]] w fun e w'=>e = .returned (.agg #[.int .u16 1,.int .u8 0,.int .u8 0,.int .u32 v])∧Below w.heap.size w w':=by
 have c0:_=some (Value.bool true):=(ae hS ((2+k)*2)).trans ((bQ (s:=s) (i:=2+k) (by omega)).trans (by rw [e0];rfl))
 have c1:_=some (Value.int .u32 v):=(ae hS ((2+k)*2+1)).trans ((cu (s:=s) (i:=2+k) (by omega)).trans (by rw [e0];rfl))
 have hlt:=ay hS
 have hlt1:gs<w.heap.size+1:=by omega
 have hlt2:gs<w.heap.size+1+1:=by omega
 have HS:=aa.mk hS
 clear hS
 go_enter Try.func165,Try.ntmps165
 go_wp2
 go_region
 go_wp2
 refine bodyPost_ret (results_cell_row rfl _ _ (w.heap.size+1) 45 (#[.int .u16 1,.int .u8 0,.int .u8 0,.int .u32 v]) (0,0) _ rfl (ak (dK _ _ _) (af (ai (Below.refl _ _) _))) Try.underlying45 rfl (by kernel_rfl)) rfl ?_
 exact ⟨rfl,af (ai (bL _ _ _) _)⟩
theorem zt (w:World) (gs:Nat) (s:St) (i1 i2:Int) (k:Nat) (hS:w.heap[gs]?=some (.cells (aA s) 151 (0,0))) (hl:s.length=18) (hk:k<16) (e0:gS s (2+k)=none) :
 Calls Try.prog 165 #[.pointer (some ⟨gs,0,none⟩),.agg #[.int .u16 97,.int .u8 i1,.int .u8 i2,.int .u32 (k:Int)]] w fun e w'=>e = .returned (.agg #[.int .u16 97,.int .u8 i1,.int .u8 i2,.int .u32 (k:Int)])∧Below w.heap.size w w':=by
 have c0:_=some (Value.bool false):=(ae hS ((2+k)*2)).trans ((bQ (s:=s) (i:=2+k) (by omega)).trans (by rw [e0];rfl))
 have c1:_=some (Value.int .u32 0):=(ae hS ((2+k)*2+1)).trans ((cu (s:=s) (i:=2+k) (by omega)).trans (by rw [e0];rfl))
 have hlt:=ay hS
 have hlt1:gs<w.heap.size+1:=by omega
 have hlt2:gs<w.heap.size+1+1:=by omega
 have HS:=aa.mk hS
 clear hS
 go_enter Try.func165,Try.ntmps165
 go_wp2
 go_region
 go_wp2
 refine bodyPost_ret (results_cell_row rfl _ _ (w.heap.size+1) 45 (#[.int .u16 97,.int .u8 i1,.int .u8 i2,.int .u32 (k:Int)]) (0,0) _ rfl (ak (dK _ _ _) (af (ai (Below.refl _ _) _))) Try.underlying45 rfl (by kernel_rfl)) rfl ?_
 exact ⟨rfl,af (ai (bL _ _ _) _)⟩
theorem zf (w:World) (gs:Nat) (s:St) (i1 i2:Int) (k:Int) (hS:w.heap[gs]?=some (.cells (aA s) 151 (0,0))) (hl:s.length=18) (e0:gS s 1=none) :
 Calls Try.prog 165 #[.pointer (some ⟨gs,0,none⟩),.agg #[.int .u16 64,.int .u8 i1,.int .u8 i2,.int .u32 k]] w fun e w'=>e = .returned (.agg #[.int .u16 64,.int .u8 i1,.int .u8 i2,.int .u32 k])∧Below w.heap.size w w':=by
 have c0:_=some (Value.bool false):=(ae hS (2)).trans ((bQ (s:=s) (i:=1) (by omega)).trans (by rw [e0];rfl))
 have c1:_=some (Value.int .u32 0):=(ae hS (2+1)).trans ((cu (s:=s) (i:=1) (by omega)).trans (by rw [e0];rfl))
 have hlt:=ay hS
 have hlt1:gs<w.heap.size+1:=by omega
 have hlt2:gs<w.heap.size+1+1:=by omega
 have HS:=aa.mk hS
 clear hS
 go_enter Try.func165,Try.ntmps165
 go_wp2
 refine bodyPost_ret (results_cell_row rfl _ _ (w.heap.size+1) 45 (#[.int .u16 64,.int .u8 i1,.int .u8 i2,.int .u32 k]) (0,0) _ rfl (ak (dK _ _ _) (ai (Below.refl _ _) _)) Try.underlying45 rfl (by kernel_rfl)) rfl ?_
 exact ⟨rfl,ai (bL _ _ _) _⟩
theorem zg (w:World) (gs:Nat) (s:St) (y i1 i2:Int) (k:Int) (hS:w.heap[gs]?=some (.cells (aA s) 151 (0,0))) (hl:s.length=18) (e0:gS s 1=some y) (hle:decide (IntKind.u64.wrap (IntKind.u64.wrap y+IntKind.u64.wrap k)≤4294967295)=true) :
 Calls Try.prog 165 #[.pointer (some ⟨gs,0,none⟩),.agg #[.int .u16 64,.int .u8 i1,.int .u8 i2,.int .u32 k]] w fun e w'=>e = .returned (.agg #[.int .u16 32,.int .u8 0,.int .u8 0,.int .u32 (IntKind.u32.wrap (y+k))])∧Below w.heap.size w w':=by
 have c0:_=some (Value.bool true):=(ae hS (2)).trans ((bQ (s:=s) (i:=1) (by omega)).trans (by rw [e0];rfl))
 have c1:_=some (Value.int .u32 y):=(ae hS (2+1)).trans ((cu (s:=s) (i:=1) (by omega)).trans (by rw [e0];rfl))
 have hlt:=ay hS
 have hlt1:gs<w.heap.size+1:=by omega
 have hlt2:gs<w.heap.size+1+1:=by omega
 have HS:=aa.mk hS
 clear hS
 go_enter Try.func165,Try.ntmps165
 go_wp2
 refine bodyPost_ret (results_cell_row rfl _ _ (w.heap.size+1) 45 (#[.int .u16 32,.int .u8 0,.int .u8 0,.int .u32 (IntKind.u32.wrap (y+k))]) (0,0) _ rfl (ak (dK _ _ _) (ai (Below.refl _ _) _)) Try.underlying45 rfl (by kernel_rfl)) rfl ?_
 exact ⟨rfl,ai (bL _ _ _) _⟩
theorem ze (w:World) (gs:Nat) (s:St) (y i1 i2:Int) (k:Int) (hS:w.heap[gs]?=some (.cells (aA s) 151 (0,0))) (hl:s.length=18) (e0:gS s 1=some y) (hle:decide (IntKind.u64.wrap (IntKind.u64.wrap y+IntKind.u64.wrap k)≤4294967295)=false) :
 Calls Try.prog 165 #[.pointer (some ⟨gs,0,none⟩),.agg #[.int .u16 64,.int .u8 i1,.int .u8 i2,.int .u32 k]] w fun e w'=>e = .returned (.agg #[.int .u16 64,.int .u8 i1,.int .u8 i2,.int .u32 k])∧Below w.heap.size w w':=by
 have c0:_=some (Value.bool true):=(ae hS (2)).trans ((bQ (s:=s) (i:=1) (by omega)).trans (by rw [e0];rfl))
 have c1:_=some (Value.int .u32 y):=(ae hS (2+1)).trans ((cu (s:=s) (i:=1) (by omega)).trans (by rw [e0];rfl))
 have hlt:=ay hS
 have hlt1:gs<w.heap.size+1:=by omega
 have hlt2:gs<w.heap.size+1+1:=by omega
 have HS:=aa.mk hS
 clear hS
 go_enter Try.func165,Try.ntmps165
 go_wp2
 refine bodyPost_ret (results_cell_row rfl _ _ (w.heap.size+1) 45 (#[.int .u16 64,.int .u8 i1,.int .u8 i2,.int .u32 k]) (0,0) _ rfl (ak (dK _ _ _) (ai (Below.refl _ _) _)) Try.underlying45 rfl (by kernel_rfl)) rfl ?_
 exact ⟨rfl,ai (bL _ _ _) _⟩
theorem zi (w:World) (gs:Nat) (s:St) (i1 i2:Int) (k:Int) (hS:w.heap[gs]?=some (.cells (aA s) 151 (0,0))) (hl:s.length=18) (e0:gS s 1=none) :
 Calls Try.prog 165 #[.pointer (some ⟨gs,0,none⟩),.agg #[.int .u16 72,.int .u8 i1,.int .u8 i2,.int .u32 k]] w fun e w'=>e = .returned (.agg #[.int .u16 72,.int .u8 i1,.int .u8 i2,.int .u32 k])∧Below w.heap.size w w':=by
 have c0:_=some (Value.bool false):=(ae hS (2)).trans ((bQ (s:=s) (i:=1) (by omega)).trans (by rw [e0];rfl))
 have c1:_=some (Value.int .u32 0):=(ae hS (2+1)).trans ((cu (s:=s) (i:=1) (by omega)).trans (by rw [e0];rfl))
 have hlt:=ay hS
 have hlt1:gs<w.heap.size+1:=by omega
 have hlt2:gs<w.heap.size+1+1:=by omega
 have HS:=aa.mk hS
 clear hS
 go_enter Try.func165,Try.ntmps165
 go_wp2
 refine bodyPost_ret (results_cell_row rfl _ _ (w.heap.size+1) 45 (#[.int .u16 72,.int .u8 i1,.int .u8 i2,.int .u32 k]) (0,0) _ rfl (ak (dK _ _ _) (ai (Below.refl _ _) _)) Try.underlying45 rfl (by kernel_rfl)) rfl ?_
 exact ⟨rfl,ai (bL _ _ _) _⟩
theorem zk (w:World) (gs:Nat) (s:St) (y i1 i2:Int) (k:Int) (hS:w.heap[gs]?=some (.cells (aA s) 151 (0,0))) (hl:s.length=18) (e0:gS s 1=some y) (hle:decide (IntKind.u64.wrap (IntKind.u64.wrap y+IntKind.u64.wrap k)≤4294967295)=true) :
 Calls Try.prog 165 #[.pointer (some ⟨gs,0,none⟩),.agg #[.int .u16 72,.int .u8 i1,.int .u8 i2,.int .u32 k]] w fun e w'=>e = .returned (.agg #[.int .u16 40,.int .u8 0,.int .u8 0,.int .u32 (IntKind.u32.wrap (y+k))])∧Below w.heap.size w w':=by
 have c0:_=some (Value.bool true):=(ae hS (2)).trans ((bQ (s:=s) (i:=1) (by omega)).trans (by rw [e0];rfl))
 have c1:_=some (Value.int .u32 y):=(ae hS (2+1)).trans ((cu (s:=s) (i:=1) (by omega)).trans (by rw [e0];rfl))
 have hlt:=ay hS
 have hlt1:gs<w.heap.size+1:=by omega
 have hlt2:gs<w.heap.size+1+1:=by omega
 have HS:=aa.mk hS
 clear hS
 go_enter Try.func165,Try.ntmps165
 go_wp2
 refine bodyPost_ret (results_cell_row rfl _ _ (w.heap.size+1) 45 (#[.int .u16 40,.int .u8 0,.int .u8 0,.int .u32 (IntKind.u32.wrap (y+k))]) (0,0) _ rfl (ak (dK _ _ _) (ai (Below.refl _ _) _)) Try.underlying45 rfl (by kernel_rfl)) rfl ?_
 exact ⟨rfl,ai (bL _ _ _) _⟩
theorem zh (w:World) (gs:Nat) (s:St) (y i1 i2:Int) (k:Int) (hS:w.heap[gs]?=some (.cells (aA s) 151 (0,0))) (hl:s.length=18) (e0:gS s 1=some y) (hle:decide (IntKind.u64.wrap (IntKind.u64.wrap y+IntKind.u64.wrap k)≤4294967295)=false) :
 Calls Try.prog 165 #[.pointer (some ⟨gs,0,none⟩),.agg #[.int .u16 72,.int .u8 i1,.int .u8 i2,.int .u32 k]] w fun e w'=>e = .returned (.agg #[.int .u16 72,.int .u8 i1,.int .u8 i2,.int .u32 k])∧Below w.heap.size w w':=by
 have c0:_=some (Value.bool true):=(ae hS (2)).trans ((bQ (s:=s) (i:=1) (by omega)).trans (by rw [e0];rfl))
 have c1:_=some (Value.int .u32 y):=(ae hS (2+1)).trans ((cu (s:=s) (i:=1) (by omega)).trans (by rw [e0];rfl))
 have hlt:=ay hS
 have hlt1:gs<w.heap.size+1:=by omega
 have hlt2:gs<w.heap.size+1+1:=by omega
 have HS:=aa.mk hS
 clear hS
 go_enter Try.func165,Try.ntmps165
 go_wp2
 refine bodyPost_ret (results_cell_row rfl _ _ (w.heap.size+1) 45 (#[.int .u16 72,.int .u8 i1,.int .u8 i2,.int .u32 k]) (0,0) _ rfl (ak (dK _ _ _) (ai (Below.refl _ _) _)) Try.underlying45 rfl (by kernel_rfl)) rfl ?_
 exact ⟨rfl,ai (bL _ _ _) _⟩
theorem zm (w:World) (gs:Nat) (s:St) (i1 i2:Int) (k:Int) (hS:w.heap[gs]?=some (.cells (aA s) 151 (0,0))) (hl:s.length=18) (e0:gS s 1=none) :
 Calls Try.prog 165 #[.pointer (some ⟨gs,0,none⟩),.agg #[.int .u16 80,.int .u8 i1,.int .u8 i2,.int .u32 k]] w fun e w'=>e = .returned (.agg #[.int .u16 80,.int .u8 i1,.int .u8 i2,.int .u32 k])∧Below w.heap.size w w':=by
 have c0:_=some (Value.bool false):=(ae hS (2)).trans ((bQ (s:=s) (i:=1) (by omega)).trans (by rw [e0];rfl))
 have c1:_=some (Value.int .u32 0):=(ae hS (2+1)).trans ((cu (s:=s) (i:=1) (by omega)).trans (by rw [e0];rfl))
 have hlt:=ay hS
 have hlt1:gs<w.heap.size+1:=by omega
 have hlt2:gs<w.heap.size+1+1:=by omega
 have HS:=aa.mk hS
 clear hS
 go_enter Try.func165,Try.ntmps165
 go_wp2
 refine bodyPost_ret (results_cell_row rfl _ _ (w.heap.size+1) 45 (#[.int .u16 80,.int .u8 i1,.int .u8 i2,.int .u32 k]) (0,0) _ rfl (ak (dK _ _ _) (ai (Below.refl _ _) _)) Try.underlying45 rfl (by kernel_rfl)) rfl ?_
 exact ⟨rfl,ai (bL _ _ _) _⟩
theorem zn (w:World) (gs:Nat) (s:St) (y i1 i2:Int) (k:Int) (hS:w.heap[gs]?=some (.cells (aA s) 151 (0,0))) (hl:s.length=18) (e0:gS s 1=some y) (hle:decide (IntKind.u64.wrap (IntKind.u64.wrap y+IntKind.u64.wrap k)≤4294967295)=true) :
 Calls Try.prog 165 #[.pointer (some ⟨gs,0,none⟩),.agg #[.int .u16 80,.int .u8 i1,.int .u8 i2,.int .u32 k]] w fun e w'=>e = .returned (.agg #[.int .u16 48,.int .u8 0,.int .u8 0,.int .u32 (IntKind.u32.wrap (y+k))])∧Below w.heap.size w w':=by
 have c0:_=some (Value.bool true):=(ae hS (2)).trans ((bQ (s:=s) (i:=1) (by omega)).trans (by rw [e0];rfl))
 have c1:_=some (Value.int .u32 y):=(ae hS (2+1)).trans ((cu (s:=s) (i:=1) (by omega)).trans (by rw [e0];rfl))
 have hlt:=ay hS
 have hlt1:gs<w.heap.size+1:=by omega
 have hlt2:gs<w.heap.size+1+1:=by omega
 have HS:=aa.mk hS
 clear hS
 go_enter Try.func165,Try.ntmps165
 go_wp2
 refine bodyPost_ret (results_cell_row rfl _ _ (w.heap.size+1) 45 (#[.int .u16 48,.int .u8 0,.int .u8 0,.int .u32 (IntKind.u32.wrap (y+k))]) (0,0) _ rfl (ak (dK _ _ _) (ai (Below.refl _ _) _)) Try.underlying45 rfl (by kernel_rfl)) rfl ?_
 exact ⟨rfl,ai (bL _ _ _) _⟩
theorem zl (w:World) (gs:Nat) (s:St) (y i1 i2:Int) (k:Int) (hS:w.heap[gs]?=some (.cells (aA s) 151 (0,0))) (hl:s.length=18) (e0:gS s 1=some y) (hle:decide (IntKind.u64.wrap (IntKind.u64.wrap y+IntKind.u64.wrap k)≤4294967295)=false) :
 Calls Try.prog 165 #[.pointer (some ⟨gs,0,none⟩),.agg #[.int .u16 80,.int .u8 i1,.int .u8 i2,.int .u32 k]] w fun e w'=>e = .returned (.agg #[.int .u16 80,.int .u8 i1,.int .u8 i2,.int .u32 k])∧Below w.heap.size w w':=by
 have c0:_=some (Value.bool true):=(ae hS (2)).trans ((bQ (s:=s) (i:=1) (by omega)).trans (by rw [e0];rfl))
 have c1:_=some (Value.int .u32 y):=(ae hS (2+1)).trans ((cu (s:=s) (i:=1) (by omega)).trans (by rw [e0];rfl))
 have hlt:=ay hS
 have hlt1:gs<w.heap.size+1:=by omega
 have hlt2:gs<w.heap.size+1+1:=by omega
 have HS:=aa.mk hS
 clear hS
 go_enter Try.func165,Try.ntmps165
 go_wp2
 refine bodyPost_ret (results_cell_row rfl _ _ (w.heap.size+1) 45 (#[.int .u16 80,.int .u8 i1,.int .u8 i2,.int .u32 k]) (0,0) _ rfl (ak (dK _ _ _) (ai (Below.refl _ _) _)) Try.underlying45 rfl (by kernel_rfl)) rfl ?_
 exact ⟨rfl,ai (bL _ _ _) _⟩
theorem load_o (w:World) (gs:Nat) (s:St) (c i1 i2:Int) (k:Int) (hS:w.heap[gs]?=some (.cells (aA s) 151 (0,0))) (hl:s.length=18) (h1:(c==96)=false) (h2:(c==97)=false) (h3:(c==64)=false) (h4:(c==72)=false) (h5:(c==80)=false) :
 Calls Try.prog 165 #[.pointer (some ⟨gs,0,none⟩),.agg #[.int .u16 c,.int .u8 i1,.int .u8 i2,.int .u32 k]] w fun e w'=>e = .returned (.agg #[.int .u16 c,.int .u8 i1,.int .u8 i2,.int .u32 k])∧Below w.heap.size w w':=by
 have hlt:=ay hS
 have hlt1:gs<w.heap.size+1:=by omega
 have hlt2:gs<w.heap.size+1+1:=by omega
 have HS:=aa.mk hS
 clear hS
 go_enter Try.func165,Try.ntmps165
 go_wp2
 refine bodyPost_ret (results_cell_row rfl _ _ (w.heap.size+1) 45 (#[.int .u16 c,.int .u8 i1,.int .u8 i2,.int .u32 k]) (0,0) _ rfl (dK _ _ _) Try.underlying45 rfl (by kernel_rfl)) rfl ?_
 exact ⟨rfl,bL _ _ _⟩
theorem sW (w:World) (gs:Nat) (s:St) (i:S45) (hS:w.heap[gs]?=some (.cells (aA s) 151 (0,0))) (hw:Wst s) (hc:stB i.f0 i.f3=true) (hk:Rg i.f3) :
 Calls Try.prog 165 #[.pointer (some ⟨gs,0,none⟩),dQ i] w fun e w'=>e = .returned (dQ (mI s i))∧Below w.heap.size w w':=by
 obtain ⟨_,h16,_,_⟩:=fM hc
 obtain ⟨c,i1,i2,k⟩:=i
 dsimp only at h16 hk
 have hk0:=hk.1
 unfold mI
 dsimp only
 by_cases c1:c=96
 · rw [if_pos c1];subst c1
   have hk6:=h16 (by omega)
   obtain ⟨n,rfl⟩:∃ n:Nat,k=(n:Int):=⟨k.toNat,by omega⟩
   rw [Int.toNat_natCast]
   cases e:gS s (2+n) with
   | some v=>exact zq w gs s v i1 i2 n hS hw.len (by omega) e
   | none=>exact zo w gs s i1 i2 n hS hw.len (by omega) e
 rw [if_neg c1]
 by_cases c2:c=97
 · rw [if_pos c2];subst c2
   have hk6:=h16 (by omega)
   obtain ⟨n,rfl⟩:∃ n:Nat,k=(n:Int):=⟨k.toNat,by omega⟩
   rw [Int.toNat_natCast]
   cases e:gS s (2+n) with
   | some v=>exact zu w gs s v i1 i2 n hS hw.len (by omega) e
   | none=>exact zt w gs s i1 i2 n hS hw.len (by omega) e
 rw [if_neg c2]
 by_cases c3:c=64∨c=72∨c=80
 · rw [if_pos c3]
   cases e:gS s 1 with
   | none=>
    rcases c3 with rfl | rfl | rfl
    · exact zf w gs s i1 i2 k hS hw.len e
    · exact zi w gs s i1 i2 k hS hw.len e
    exact zm w gs s i1 i2 k hS hw.len e
   | some y=>
    dsimp only
    have hy:=hw.rg 1 y e
    have hy0:=hy.1
    have hy1:=hy.2
    have hk1:=hk.2
    have hwr:IntKind.u64.wrap (IntKind.u64.wrap y+IntKind.u64.wrap k)=y+k:=by simp only [IntKind.wrap_u64];omega
    by_cases q:y+k≤4294967295
    · rw [if_pos q]
      have hd:decide (IntKind.u64.wrap (IntKind.u64.wrap y+IntKind.u64.wrap k)≤4294967295)=true:=by rw [hwr];exact decide_eq_true q
      have hr:IntKind.u32.wrap (y+k)=y+k:=rV ⟨by omega,by omega⟩
      rcases c3 with rfl | rfl | rfl
      · have:=zg w gs s y i1 i2 k hS hw.len e hd
        rw [hr] at this;exact this
      · have:=zk w gs s y i1 i2 k hS hw.len e hd
        rw [hr] at this;exact this
      have:=zn w gs s y i1 i2 k hS hw.len e hd
      rw [hr] at this;exact this
    rw [if_neg q]
    have hd:decide (IntKind.u64.wrap (IntKind.u64.wrap y+IntKind.u64.wrap k)≤4294967295)=false:=by rw [hwr];exact decide_eq_false q
    rcases c3 with rfl | rfl | rfl
    · exact ze w gs s y i1 i2 k hS hw.len e hd
    · exact zh w gs s y i1 i2 k hS hw.len e hd
    exact zl w gs s y i1 i2 k hS hw.len e hd
 rw [if_neg c3]
 exact load_o w gs s c i1 i2 k hS hw.len (aX c1) (aX c2) (aX (fun h=>c3 (.inl h))) (aX (fun h=>c3 (.inr (.inl h)))) (aX (fun h=>c3 (.inr (.inr h))))
theorem idle_z4 (w:World) (gs:Nat) (s:St) (i1 i2:Int) (k:Int) (hS:w.heap[gs]?=some (.cells (aA s) 151 (0,0))) (hl:s.length=18) :
 Calls Try.prog 167 #[.pointer (some ⟨gs,0,none⟩),.agg #[.int .u16 4,.int .u8 i1,.int .u8 i2,.int .u32 k]] w fun e w'=>e = .returned (.bool (k==0))∧Below w.heap.size w w':=by
 have hlt:=ay hS
 have HS:=aa.mk hS
 clear hS
 go_enter Try.func167,Try.ntmps167
 go_wp2
 go_ret
 exact ⟨rfl,ai (Below.refl _ _) _⟩
theorem yT (w:World) (gs:Nat) (s:St) (i1 i2:Int) (k:Int) (hS:w.heap[gs]?=some (.cells (aA s) 151 (0,0))) (hl:s.length=18) :
 Calls Try.prog 167 #[.pointer (some ⟨gs,0,none⟩),.agg #[.int .u16 20,.int .u8 i1,.int .u8 i2,.int .u32 k]] w fun e w'=>e = .returned (.bool (k==0))∧Below w.heap.size w w':=by
 have hlt:=ay hS
 have HS:=aa.mk hS
 clear hS
 go_enter Try.func167,Try.ntmps167
 go_wp2
 go_ret
 exact ⟨rfl,ai (Below.refl _ _) _⟩
theorem yU (w:World) (gs:Nat) (s:St) (i1 i2:Int) (k:Int) (hS:w.heap[gs]?=some (.cells (aA s) 151 (0,0))) (hl:s.length=18) :
 Calls Try.prog 167 #[.pointer (some ⟨gs,0,none⟩),.agg #[.int .u16 68,.int .u8 i1,.int .u8 i2,.int .u32 k]] w fun e w'=>e = .returned (.bool (k==0))∧Below w.heap.size w w':=by
 have hlt:=ay hS
 have HS:=aa.mk hS
 clear hS
 go_enter Try.func167,Try.ntmps167
 go_wp2
 go_ret
 exact ⟨rfl,ai (Below.refl _ _) _⟩
theorem vO (w:World) (gs:Nat) (s:St) (i1 i2:Int) (k:Int) (hS:w.heap[gs]?=some (.cells (aA s) 151 (0,0))) (hl:s.length=18) :
 Calls Try.prog 167 #[.pointer (some ⟨gs,0,none⟩),.agg #[.int .u16 164,.int .u8 i1,.int .u8 i2,.int .u32 k]] w fun e w'=>e = .returned (.bool (k==0))∧Below w.heap.size w w':=by
 have hlt:=ay hS
 have HS:=aa.mk hS
 clear hS
 go_enter Try.func167,Try.ntmps167
 go_wp2
 go_ret
 exact ⟨rfl,ai (Below.refl _ _) _⟩
theorem vM (w:World) (gs:Nat) (s:St) (i1 i2:Int) (k:Int) (hS:w.heap[gs]?=some (.cells (aA s) 151 (0,0))) (hl:s.length=18) :
 Calls Try.prog 167 #[.pointer (some ⟨gs,0,none⟩),.agg #[.int .u16 100,.int .u8 i1,.int .u8 i2,.int .u32 k]] w fun e w'=>e = .returned (.bool (k==0))∧Below w.heap.size w w':=by
 have hlt:=ay hS
 have HS:=aa.mk hS
 clear hS
 go_enter Try.func167,Try.ntmps167
 go_wp2
 go_ret
 exact ⟨rfl,ai (Below.refl _ _) _⟩
theorem vN (w:World) (gs:Nat) (s:St) (i1 i2:Int) (k:Int) (hS:w.heap[gs]?=some (.cells (aA s) 151 (0,0))) (hl:s.length=18) :
 Calls Try.prog 167 #[.pointer (some ⟨gs,0,none⟩),.agg #[.int .u16 116,.int .u8 i1,.int .u8 i2,.int .u32 k]] w fun e w'=>e = .returned (.bool (k==0))∧Below w.heap.size w w':=by
 have hlt:=ay hS
 have HS:=aa.mk hS
 clear hS
 go_enter Try.func167,Try.ntmps167
 go_wp2
 go_ret
 exact ⟨rfl,ai (Below.refl _ _) _⟩
theorem yJ (w:World) (gs:Nat) (s:St) (i1 i2:Int) (k:Int) (hS:w.heap[gs]?=some (.cells (aA s) 151 (0,0))) (hl:s.length=18) :
 Calls Try.prog 167 #[.pointer (some ⟨gs,0,none⟩),.agg #[.int .u16 36,.int .u8 i1,.int .u8 i2,.int .u32 k]] w fun e w'=>e = .returned (.bool (k==1))∧Below w.heap.size w w':=by
 have hlt:=ay hS
 have HS:=aa.mk hS
 clear hS
 go_enter Try.func167,Try.ntmps167
 go_wp2
 go_ret
 exact ⟨rfl,ai (Below.refl _ _) _⟩
theorem yK (w:World) (gs:Nat) (s:St) (i1 i2:Int) (k:Int) (hS:w.heap[gs]?=some (.cells (aA s) 151 (0,0))) (hl:s.length=18) :
 Calls Try.prog 167 #[.pointer (some ⟨gs,0,none⟩),.agg #[.int .u16 52,.int .u8 i1,.int .u8 i2,.int .u32 k]] w fun e w'=>e = .returned (.bool (k==1))∧Below w.heap.size w w':=by
 have hlt:=ay hS
 have HS:=aa.mk hS
 clear hS
 go_enter Try.func167,Try.ntmps167
 go_wp2
 go_ret
 exact ⟨rfl,ai (Below.refl _ _) _⟩
theorem yI (w:World) (gs:Nat) (s:St) (i1 i2:Int) (k:Int) (hS:w.heap[gs]?=some (.cells (aA s) 151 (0,0))) (hl:s.length=18) :
 Calls Try.prog 167 #[.pointer (some ⟨gs,0,none⟩),.agg #[.int .u16 84,.int .u8 i1,.int .u8 i2,.int .u32 k]] w fun e w'=>e = .returned (.bool (k==4294967295))∧Below w.heap.size w w':=by
 have hlt:=ay hS
 have HS:=aa.mk hS
 clear hS
 go_enter Try.func167,Try.ntmps167
 go_wp2
 go_ret
 exact ⟨rfl,ai (Below.refl _ _) _⟩
theorem idle_no (w:World) (gs:Nat) (s:St) (c i1 i2:Int) (k:Int) (hS:w.heap[gs]?=some (.cells (aA s) 151 (0,0))) (hl:s.length=18) (n0:(c==0)=false) (n1:(c==1)=false) (n2:(c==2)=false) (n3:(c==3)=false) (n4:(c==4)=false) (n20:(c==20)=false) (n68:(c==68)=false) (n164:(c==164)=false) (n100:(c==100)=false) (n116:(c==116)=false) (n36:(c==36)=false) (n52:(c==52)=false) (n84:(c==84)=false) :
 Calls Try.prog 167 #[.pointer (some ⟨gs,0,none⟩),.agg #[.int .u16 c,.int .u8 i1,.int .u8 i2,.int .u32 k]] w fun e w'=>e = .returned (.bool false)∧Below w.heap.size w w':=by
 have hlt:=ay hS
 have HS:=aa.mk hS
 clear hS
 go_enter Try.func167,Try.ntmps167
 go_wp2
 go_ret
 exact ⟨rfl,ai (Below.refl _ _) _⟩
theorem yN (w:World) (gs:Nat) (s:St) (i1 i2:Int) (k:Nat) (hS:w.heap[gs]?=some (.cells (aA s) 151 (0,0))) (hl:s.length=18) (hk:k<16) (e0:gS s 0=none) :
 Calls Try.prog 167 #[.pointer (some ⟨gs,0,none⟩),.agg #[.int .u16 2,.int .u8 i1,.int .u8 i2,.int .u32 (k:Int)]] w fun e w'=>e = .returned (.bool false)∧Below w.heap.size w w':=by
 have c0a:_=some (Value.bool false):=(ae hS (0)).trans ((bQ (s:=s) (i:=0) (by omega)).trans (by rw [e0];rfl))
 have c0b:_=some (Value.int .u32 0):=(ae hS (1)).trans ((cu (s:=s) (i:=0) (by omega)).trans (by rw [e0];rfl))
 have hlt:=ay hS
 have HS:=aa.mk hS
 clear hS
 go_enter Try.func167,Try.ntmps167
 go_wp2
 go_region
 go_wp2
 go_ret
 exact ⟨rfl,af (ai (Below.refl _ _) _)⟩
theorem yM (w:World) (gs:Nat) (s:St) (v i1 i2:Int) (k:Nat) (hS:w.heap[gs]?=some (.cells (aA s) 151 (0,0))) (hl:s.length=18) (hk:k<16) (e0:gS s 0=some v) (e1:gS s (2+k)=none) :
 Calls Try.prog 167 #[.pointer (some ⟨gs,0,none⟩),.agg #[.int .u16 2,.int .u8 i1,.int .u8 i2,.int .u32 (k:Int)]] w fun e w'=>e = .returned (.bool false)∧Below w.heap.size w w':=by
 have c0a:_=some (Value.bool true):=(ae hS (0)).trans ((bQ (s:=s) (i:=0) (by omega)).trans (by rw [e0];rfl))
 have c0b:_=some (Value.int .u32 v):=(ae hS (1)).trans ((cu (s:=s) (i:=0) (by omega)).trans (by rw [e0];rfl))
 have c1a:_=some (Value.bool false):=(ae hS ((2+k)*2)).trans ((bQ (s:=s) (i:=2+k) (by omega)).trans (by rw [e1];rfl))
 have c1b:_=some (Value.int .u32 0):=(ae hS ((2+k)*2+1)).trans ((cu (s:=s) (i:=2+k) (by omega)).trans (by rw [e1];rfl))
 have hlt:=ay hS
 have HS:=aa.mk hS
 clear hS
 go_enter Try.func167,Try.ntmps167
 go_wp2
 go_region
 go_wp2
 go_ret
 exact ⟨rfl,af (ai (Below.refl _ _) _)⟩
theorem yO (w:World) (gs:Nat) (s:St) (v i1 i2:Int) (k:Nat) (hS:w.heap[gs]?=some (.cells (aA s) 151 (0,0))) (hl:s.length=18) (hk:k<16) (e0:gS s 0=some v) (e1:gS s (2+k)=some v) :
 Calls Try.prog 167 #[.pointer (some ⟨gs,0,none⟩),.agg #[.int .u16 2,.int .u8 i1,.int .u8 i2,.int .u32 (k:Int)]] w fun e w'=>e = .returned (.bool true)∧Below w.heap.size w w':=by
 have c0a:_=some (Value.bool true):=(ae hS (0)).trans ((bQ (s:=s) (i:=0) (by omega)).trans (by rw [e0];rfl))
 have c0b:_=some (Value.int .u32 v):=(ae hS (1)).trans ((cu (s:=s) (i:=0) (by omega)).trans (by rw [e0];rfl))
 have c1a:_=some (Value.bool true):=(ae hS ((2+k)*2)).trans ((bQ (s:=s) (i:=2+k) (by omega)).trans (by rw [e1];rfl))
 have c1b:_=some (Value.int .u32 v):=(ae hS ((2+k)*2+1)).trans ((cu (s:=s) (i:=2+k) (by omega)).trans (by rw [e1];rfl))
 have hlt:=ay hS
 have HS:=aa.mk hS
 clear hS
 go_enter Try.func167,Try.ntmps167
 go_wp2
 go_region
 go_wp2
 go_ret
 exact ⟨rfl,af (ai (Below.refl _ _) _)⟩
theorem yL (w:World) (gs:Nat) (s:St) (v u i1 i2:Int) (k:Nat) (hS:w.heap[gs]?=some (.cells (aA s) 151 (0,0))) (hl:s.length=18) (hk:k<16) (e0:gS s 0=some v) (e1:gS s (2+k)=some u) (hne:u≠v) :
 Calls Try.prog 167 #[.pointer (some ⟨gs,0,none⟩),.agg #[.int .u16 2,.int .u8 i1,.int .u8 i2,.int .u32 (k:Int)]] w fun e w'=>e = .returned (.bool false)∧Below w.heap.size w w':=by
 have c0a:_=some (Value.bool true):=(ae hS (0)).trans ((bQ (s:=s) (i:=0) (by omega)).trans (by rw [e0];rfl))
 have c0b:_=some (Value.int .u32 v):=(ae hS (1)).trans ((cu (s:=s) (i:=0) (by omega)).trans (by rw [e0];rfl))
 have c1a:_=some (Value.bool true):=(ae hS ((2+k)*2)).trans ((bQ (s:=s) (i:=2+k) (by omega)).trans (by rw [e1];rfl))
 have c1b:_=some (Value.int .u32 u):=(ae hS ((2+k)*2+1)).trans ((cu (s:=s) (i:=2+k) (by omega)).trans (by rw [e1];rfl))
 have hlt:=ay hS
 have HS:=aa.mk hS
 clear hS
 go_enter Try.func167,Try.ntmps167
 go_wp2
 go_region
 go_wp2
 go_ret
 exact ⟨rfl,af (ai (Below.refl _ _) _)⟩
theorem yR (w:World) (gs:Nat) (s:St) (i1 i2:Int) (k:Nat) (hS:w.heap[gs]?=some (.cells (aA s) 151 (0,0))) (hl:s.length=18) (hk:k<16) (e0:gS s 1=none) :
 Calls Try.prog 167 #[.pointer (some ⟨gs,0,none⟩),.agg #[.int .u16 3,.int .u8 i1,.int .u8 i2,.int .u32 (k:Int)]] w fun e w'=>e = .returned (.bool false)∧Below w.heap.size w w':=by
 have c0a:_=some (Value.bool false):=(ae hS (2)).trans ((bQ (s:=s) (i:=1) (by omega)).trans (by rw [e0];rfl))
 have c0b:_=some (Value.int .u32 0):=(ae hS (3)).trans ((cu (s:=s) (i:=1) (by omega)).trans (by rw [e0];rfl))
 have hlt:=ay hS
 have HS:=aa.mk hS
 clear hS
 go_enter Try.func167,Try.ntmps167
 go_wp2
 go_region
 go_wp2
 go_ret
 exact ⟨rfl,af (ai (Below.refl _ _) _)⟩
theorem yQ (w:World) (gs:Nat) (s:St) (v i1 i2:Int) (k:Nat) (hS:w.heap[gs]?=some (.cells (aA s) 151 (0,0))) (hl:s.length=18) (hk:k<16) (e0:gS s 1=some v) (e1:gS s (2+k)=none) :
 Calls Try.prog 167 #[.pointer (some ⟨gs,0,none⟩),.agg #[.int .u16 3,.int .u8 i1,.int .u8 i2,.int .u32 (k:Int)]] w fun e w'=>e = .returned (.bool false)∧Below w.heap.size w w':=by
 have c0a:_=some (Value.bool true):=(ae hS (2)).trans ((bQ (s:=s) (i:=1) (by omega)).trans (by rw [e0];rfl))
 have c0b:_=some (Value.int .u32 v):=(ae hS (3)).trans ((cu (s:=s) (i:=1) (by omega)).trans (by rw [e0];rfl))
 have c1a:_=some (Value.bool false):=(ae hS ((2+k)*2)).trans ((bQ (s:=s) (i:=2+k) (by omega)).trans (by rw [e1];rfl))
 have c1b:_=some (Value.int .u32 0):=(ae hS ((2+k)*2+1)).trans ((cu (s:=s) (i:=2+k) (by omega)).trans (by rw [e1];rfl))
 have hlt:=ay hS
 have HS:=aa.mk hS
 clear hS
 go_enter Try.func167,Try.ntmps167
 go_wp2
 go_region
 go_wp2
 go_ret
 exact ⟨rfl,af (ai (Below.refl _ _) _)⟩
theorem yS (w:World) (gs:Nat) (s:St) (v i1 i2:Int) (k:Nat) (hS:w.heap[gs]?=some (.cells (aA s) 151 (0,0))) (hl:s.length=18) (hk:k<16) (e0:gS s 1=some v) (e1:gS s (2+k)=some v) :
 Calls Try.prog 167 #[.pointer (some ⟨gs,0,none⟩),.agg #[.int .u16 3,.int .u8 i1,.int .u8 i2,.int .u32 (k:Int)]] w fun e w'=>e = .returned (.bool true)∧Below w.heap.size w w':=by
 have c0a:_=some (Value.bool true):=(ae hS (2)).trans ((bQ (s:=s) (i:=1) (by omega)).trans (by rw [e0];rfl))
 have c0b:_=some (Value.int .u32 v):=(ae hS (3)).trans ((cu (s:=s) (i:=1) (by omega)).trans (by rw [e0];rfl))
 have c1a:_=some (Value.bool true):=(ae hS ((2+k)*2)).trans ((bQ (s:=s) (i:=2+k) (by omega)).trans (by rw [e1];rfl))
 have c1b:_=some (Value.int .u32 v):=(ae hS ((2+k)*2+1)).trans ((cu (s:=s) (i:=2+k) (by omega)).trans (by rw [e1];rfl))
 have hlt:=ay hS
 have HS:=aa.mk hS
 clear hS
 go_enter Try.func167,Try.ntmps167
 go_wp2
 go_region
 go_wp2
 go_ret
 exact ⟨rfl,af (ai (Below.refl _ _) _)⟩
theorem yP (w:World) (gs:Nat) (s:St) (v u i1 i2:Int) (k:Nat) (hS:w.heap[gs]?=some (.cells (aA s) 151 (0,0))) (hl:s.length=18) (hk:k<16) (e0:gS s 1=some v) (e1:gS s (2+k)=some u) (hne:u≠v) :
 Calls Try.prog 167 #[.pointer (some ⟨gs,0,none⟩),.agg #[.int .u16 3,.int .u8 i1,.int .u8 i2,.int .u32 (k:Int)]] w fun e w'=>e = .returned (.bool false)∧Below w.heap.size w w':=by
 have c0a:_=some (Value.bool true):=(ae hS (2)).trans ((bQ (s:=s) (i:=1) (by omega)).trans (by rw [e0];rfl))
 have c0b:_=some (Value.int .u32 v):=(ae hS (3)).trans ((cu (s:=s) (i:=1) (by omega)).trans (by rw [e0];rfl))
 have c1a:_=some (Value.bool true):=(ae hS ((2+k)*2)).trans ((bQ (s:=s) (i:=2+k) (by omega)).trans (by rw [e1];rfl))
 have c1b:_=some (Value.int .u32 u):=(ae hS ((2+k)*2+1)).trans ((cu (s:=s) (i:=2+k) (by omega)).trans (by rw [e1];rfl))
 have hlt:=ay hS
 have HS:=aa.mk hS
 clear hS
 go_enter Try.func167,Try.ntmps167
 go_wp2
 go_region
 go_wp2
 go_ret
 exact ⟨rfl,af (ai (Below.refl _ _) _)⟩
theorem yD (w:World) (gs:Nat) (s:St) (i1 i2:Int) (k:Int) (hS:w.heap[gs]?=some (.cells (aA s) 151 (0,0))) (hl:s.length=18) (e0:gS s 0=none) :
 Calls Try.prog 167 #[.pointer (some ⟨gs,0,none⟩),.agg #[.int .u16 0,.int .u8 i1,.int .u8 i2,.int .u32 k]] w fun e w'=>e = .returned (.bool false)∧Below w.heap.size w w':=by
 have c0a:_=some (Value.bool false):=(ae hS (0)).trans ((bQ (s:=s) (i:=0) (by omega)).trans (by rw [e0];rfl))
 have c0b:_=some (Value.int .u32 0):=(ae hS (1)).trans ((cu (s:=s) (i:=0) (by omega)).trans (by rw [e0];rfl))
 have hlt:=ay hS
 have HS:=aa.mk hS
 clear hS
 go_enter Try.func167,Try.ntmps167
 go_upto_region 3 with (fail)
 refine forget (fun W=>∃ gi,gi=w.heap.size∧Below w.heap.size w W∧W.heap[gi]?=some (.cells #[.int .u16 0,.int .u8 i1,.int .u8 i2,.int .u32 k] 45 (0,0))) ⟨_,rfl,ai (Below.refl _ _) _,heap_alloc_new _ _⟩ ?_
 rintro W ⟨gi,egi,hb,hi⟩
 rw [←egi]
 have x0:=ax hb c0a
 have x1:=ax hb c0b
 have y3:=d9 hi 3
 have HB:=aa.mk hb
 have EG:=aa.mk egi
 have HCL:aa (∀ w3,Below W.drew.heap.size W.drew w3→w3.cell? ⟨gs,0,none⟩=some (.bool false)∧w3.cell? ⟨gs,1,none⟩=some (.int .u32 0)∧w3.cell? ⟨gi,3,none⟩=some (.int .u32 k)):=
  ⟨fun w3 h3=>⟨ax h3 (show W.drew.cell? _=_ from x0),ax h3 (show W.drew.cell? _=_ from x1),ax h3 (show W.drew.cell? _=_ from y3)⟩⟩
 clear hb hi egi c0a c0b
 go_region_held3 (fun w'=>w'.cell? ⟨gs,0,none⟩=some (.bool false)∧w'.cell? ⟨gs,1,none⟩=some (.int .u32 0)∧w'.cell? ⟨gi,3,none⟩=some (.int .u32 k)) (first | exact ⟨x0,x1,y3⟩ | exact HCL.out _ hk) ((go_at_call 125;refine (PA.fP.calls k true k W.drew rfl).mono ?_;rintro e w3 ⟨rfl,hk⟩))
 have HB3:=au HB.out (au (af (Below.refl W.heap.size W)) hk)
 go_wp2
 go_ret
 exact ⟨rfl,HB3⟩
theorem yE (w:World) (gs:Nat) (s:St) (i1 i2:Int) (k:Int) (hS:w.heap[gs]?=some (.cells (aA s) 151 (0,0))) (hl:s.length=18) (e0:gS s 0=some k) :
 Calls Try.prog 167 #[.pointer (some ⟨gs,0,none⟩),.agg #[.int .u16 0,.int .u8 i1,.int .u8 i2,.int .u32 k]] w fun e w'=>e = .returned (.bool true)∧Below w.heap.size w w':=by
 have c0a:_=some (Value.bool true):=(ae hS (0)).trans ((bQ (s:=s) (i:=0) (by omega)).trans (by rw [e0];rfl))
 have c0b:_=some (Value.int .u32 k):=(ae hS (1)).trans ((cu (s:=s) (i:=0) (by omega)).trans (by rw [e0];rfl))
 have hlt:=ay hS
 have HS:=aa.mk hS
 clear hS
 go_enter Try.func167,Try.ntmps167
 go_upto_region 3 with (fail)
 refine forget (fun W=>∃ gi,gi=w.heap.size∧Below w.heap.size w W∧W.heap[gi]?=some (.cells #[.int .u16 0,.int .u8 i1,.int .u8 i2,.int .u32 k] 45 (0,0))) ⟨_,rfl,ai (Below.refl _ _) _,heap_alloc_new _ _⟩ ?_
 rintro W ⟨gi,egi,hb,hi⟩
 rw [←egi]
 have x0:=ax hb c0a
 have x1:=ax hb c0b
 have y3:=d9 hi 3
 have HB:=aa.mk hb
 have EG:=aa.mk egi
 have HCL:aa (∀ w3,Below W.drew.heap.size W.drew w3→w3.cell? ⟨gs,0,none⟩=some (.bool true)∧w3.cell? ⟨gs,1,none⟩=some (.int .u32 k)∧w3.cell? ⟨gi,3,none⟩=some (.int .u32 k)):=
  ⟨fun w3 h3=>⟨ax h3 (show W.drew.cell? _=_ from x0),ax h3 (show W.drew.cell? _=_ from x1),ax h3 (show W.drew.cell? _=_ from y3)⟩⟩
 clear hb hi egi c0a c0b
 go_region_held3 (fun w'=>w'.cell? ⟨gs,0,none⟩=some (.bool true)∧w'.cell? ⟨gs,1,none⟩=some (.int .u32 k)∧w'.cell? ⟨gi,3,none⟩=some (.int .u32 k)) (first | exact ⟨x0,x1,y3⟩ | exact HCL.out _ hk) ((go_at_call 125;refine (PA.fP.calls k true k W.drew rfl).mono ?_;rintro e w3 ⟨rfl,hk⟩))
 have HB3:=au HB.out (au (af (Below.refl W.heap.size W)) hk)
 go_wp2
 go_ret
 exact ⟨rfl,HB3⟩
theorem yC (w:World) (gs:Nat) (s:St) (v i1 i2:Int) (k:Int) (hS:w.heap[gs]?=some (.cells (aA s) 151 (0,0))) (hl:s.length=18) (e0:gS s 0=some v) (hne:v≠k) :
 Calls Try.prog 167 #[.pointer (some ⟨gs,0,none⟩),.agg #[.int .u16 0,.int .u8 i1,.int .u8 i2,.int .u32 k]] w fun e w'=>e = .returned (.bool false)∧Below w.heap.size w w':=by
 have c0a:_=some (Value.bool true):=(ae hS (0)).trans ((bQ (s:=s) (i:=0) (by omega)).trans (by rw [e0];rfl))
 have c0b:_=some (Value.int .u32 v):=(ae hS (1)).trans ((cu (s:=s) (i:=0) (by omega)).trans (by rw [e0];rfl))
 have hlt:=ay hS
 have HS:=aa.mk hS
 clear hS
 go_enter Try.func167,Try.ntmps167
 go_upto_region 3 with (fail)
 refine forget (fun W=>∃ gi,gi=w.heap.size∧Below w.heap.size w W∧W.heap[gi]?=some (.cells #[.int .u16 0,.int .u8 i1,.int .u8 i2,.int .u32 k] 45 (0,0))) ⟨_,rfl,ai (Below.refl _ _) _,heap_alloc_new _ _⟩ ?_
 rintro W ⟨gi,egi,hb,hi⟩
 rw [←egi]
 have x0:=ax hb c0a
 have x1:=ax hb c0b
 have y3:=d9 hi 3
 have HB:=aa.mk hb
 have EG:=aa.mk egi
 have HCL:aa (∀ w3,Below W.drew.heap.size W.drew w3→w3.cell? ⟨gs,0,none⟩=some (.bool true)∧w3.cell? ⟨gs,1,none⟩=some (.int .u32 v)∧w3.cell? ⟨gi,3,none⟩=some (.int .u32 k)):=
  ⟨fun w3 h3=>⟨ax h3 (show W.drew.cell? _=_ from x0),ax h3 (show W.drew.cell? _=_ from x1),ax h3 (show W.drew.cell? _=_ from y3)⟩⟩
 clear hb hi egi c0a c0b
 go_region_held3 (fun w'=>w'.cell? ⟨gs,0,none⟩=some (.bool true)∧w'.cell? ⟨gs,1,none⟩=some (.int .u32 v)∧w'.cell? ⟨gi,3,none⟩=some (.int .u32 k)) (first | exact ⟨x0,x1,y3⟩ | exact HCL.out _ hk) ((go_at_call 125;refine (PA.fP.calls k true k W.drew rfl).mono ?_;rintro e w3 ⟨rfl,hk⟩))
 have HB3:=au HB.out (au (af (Below.refl W.heap.size W)) hk)
 go_wp2
 go_ret
 exact ⟨rfl,HB3⟩
theorem yG (w:World) (gs:Nat) (s:St) (i1 i2:Int) (k:Int) (hS:w.heap[gs]?=some (.cells (aA s) 151 (0,0))) (hl:s.length=18) (e0:gS s 1=none) :
 Calls Try.prog 167 #[.pointer (some ⟨gs,0,none⟩),.agg #[.int .u16 1,.int .u8 i1,.int .u8 i2,.int .u32 k]] w fun e w'=>e = .returned (.bool false)∧Below w.heap.size w w':=by
 have c0a:_=some (Value.bool false):=(ae hS (2)).trans ((bQ (s:=s) (i:=1) (by omega)).trans (by rw [e0];rfl))
 have c0b:_=some (Value.int .u32 0):=(ae hS (3)).trans ((cu (s:=s) (i:=1) (by omega)).trans (by rw [e0];rfl))
 have hlt:=ay hS
 have HS:=aa.mk hS
 clear hS
 go_enter Try.func167,Try.ntmps167
 go_upto_region 5 with (fail)
 refine forget (fun W=>∃ gi,gi=w.heap.size∧Below w.heap.size w W∧W.heap[gi]?=some (.cells #[.int .u16 1,.int .u8 i1,.int .u8 i2,.int .u32 k] 45 (0,0))) ⟨_,rfl,ai (Below.refl _ _) _,heap_alloc_new _ _⟩ ?_
 rintro W ⟨gi,egi,hb,hi⟩
 rw [←egi]
 have x0:=ax hb c0a
 have x1:=ax hb c0b
 have y3:=d9 hi 3
 have HB:=aa.mk hb
 have EG:=aa.mk egi
 have HCL:aa (∀ w3,Below W.drew.heap.size W.drew w3→w3.cell? ⟨gs,2,none⟩=some (.bool false)∧w3.cell? ⟨gs,3,none⟩=some (.int .u32 0)∧w3.cell? ⟨gi,3,none⟩=some (.int .u32 k)):=
  ⟨fun w3 h3=>⟨ax h3 (show W.drew.cell? _=_ from x0),ax h3 (show W.drew.cell? _=_ from x1),ax h3 (show W.drew.cell? _=_ from y3)⟩⟩
 clear hb hi egi c0a c0b
 go_region_held3 (fun w'=>w'.cell? ⟨gs,2,none⟩=some (.bool false)∧w'.cell? ⟨gs,3,none⟩=some (.int .u32 0)∧w'.cell? ⟨gi,3,none⟩=some (.int .u32 k)) (first | exact ⟨x0,x1,y3⟩ | exact HCL.out _ hk) ((go_at_call 125;refine (PA.fP.calls k true k W.drew rfl).mono ?_;rintro e w3 ⟨rfl,hk⟩))
 have HB3:=au HB.out (au (af (Below.refl W.heap.size W)) hk)
 go_wp2
 go_ret
 exact ⟨rfl,HB3⟩
theorem yH (w:World) (gs:Nat) (s:St) (i1 i2:Int) (k:Int) (hS:w.heap[gs]?=some (.cells (aA s) 151 (0,0))) (hl:s.length=18) (e0:gS s 1=some k) :
 Calls Try.prog 167 #[.pointer (some ⟨gs,0,none⟩),.agg #[.int .u16 1,.int .u8 i1,.int .u8 i2,.int .u32 k]] w fun e w'=>e = .returned (.bool true)∧Below w.heap.size w w':=by
 have c0a:_=some (Value.bool true):=(ae hS (2)).trans ((bQ (s:=s) (i:=1) (by omega)).trans (by rw [e0];rfl))
 have c0b:_=some (Value.int .u32 k):=(ae hS (3)).trans ((cu (s:=s) (i:=1) (by omega)).trans (by rw [e0];rfl))
 have hlt:=ay hS
 have HS:=aa.mk hS
 clear hS
 go_enter Try.func167,Try.ntmps167
 go_upto_region 5 with (fail)
 refine forget (fun W=>∃ gi,gi=w.heap.size∧Below w.heap.size w W∧W.heap[gi]?=some (.cells #[.int .u16 1,.int .u8 i1,.int .u8 i2,.int .u32 k] 45 (0,0))) ⟨_,rfl,ai (Below.refl _ _) _,heap_alloc_new _ _⟩ ?_
 rintro W ⟨gi,egi,hb,hi⟩
 rw [←egi]
 have x0:=ax hb c0a
 have x1:=ax hb c0b
 have y3:=d9 hi 3
 have HB:=aa.mk hb
 have EG:=aa.mk egi
 have HCL:aa (∀ w3,Below W.drew.heap.size W.drew w3→w3.cell? ⟨gs,2,none⟩=some (.bool true)∧w3.cell? ⟨gs,3,none⟩=some (.int .u32 k)∧w3.cell? ⟨gi,3,none⟩=some (.int .u32 k)):=
  ⟨fun w3 h3=>⟨ax h3 (show W.drew.cell? _=_ from x0),ax h3 (show W.drew.cell? _=_ from x1),ax h3 (show W.drew.cell? _=_ from y3)⟩⟩
 clear hb hi egi c0a c0b
 go_region_held3 (fun w'=>w'.cell? ⟨gs,2,none⟩=some (.bool true)∧w'.cell? ⟨gs,3,none⟩=some (.int .u32 k)∧w'.cell? ⟨gi,3,none⟩=some (.int .u32 k)) (first | exact ⟨x0,x1,y3⟩ | exact HCL.out _ hk) ((go_at_call 125;refine (PA.fP.calls k true k W.drew rfl).mono ?_;rintro e w3 ⟨rfl,hk⟩))
 have HB3:=au HB.out (au (af (Below.refl W.heap.size W)) hk)
 go_wp2
 go_ret
 exact ⟨rfl,HB3⟩
theorem yF (w:World) (gs:Nat) (s:St) (v i1 i2:Int) (k:Int) (hS:w.heap[gs]?=some (.cells (aA s) 151 (0,0))) (hl:s.length=18) (e0:gS s 1=some v) (hne:v≠k) :
 Calls Try.prog 167 #[.pointer (some ⟨gs,0,none⟩),.agg #[.int .u16 1,.int .u8 i1,.int .u8 i2,.int .u32 k]] w fun e w'=>e = .returned (.bool false)∧Below w.heap.size w w':=by
 have c0a:_=some (Value.bool true):=(ae hS (2)).trans ((bQ (s:=s) (i:=1) (by omega)).trans (by rw [e0];rfl))
 have c0b:_=some (Value.int .u32 v):=(ae hS (3)).trans ((cu (s:=s) (i:=1) (by omega)).trans (by rw [e0];rfl))
 have hlt:=ay hS
 have HS:=aa.mk hS
 clear hS
 go_enter Try.func167,Try.ntmps167
 go_upto_region 5 with (fail)
 refine forget (fun W=>∃ gi,gi=w.heap.size∧Below w.heap.size w W∧W.heap[gi]?=some (.cells #[.int .u16 1,.int .u8 i1,.int .u8 i2,.int .u32 k] 45 (0,0))) ⟨_,rfl,ai (Below.refl _ _) _,heap_alloc_new _ _⟩ ?_
 rintro W ⟨gi,egi,hb,hi⟩
 rw [←egi]
 have x0:=ax hb c0a
 have x1:=ax hb c0b
 have y3:=d9 hi 3
 have HB:=aa.mk hb
 have EG:=aa.mk egi
 have HCL:aa (∀ w3,Below W.drew.heap.size W.drew w3→w3.cell? ⟨gs,2,none⟩=some (.bool true)∧w3.cell? ⟨gs,3,none⟩=some (.int .u32 v)∧w3.cell? ⟨gi,3,none⟩=some (.int .u32 k)):=
  ⟨fun w3 h3=>⟨ax h3 (show W.drew.cell? _=_ from x0),ax h3 (show W.drew.cell? _=_ from x1),ax h3 (show W.drew.cell? _=_ from y3)⟩⟩
 clear hb hi egi c0a c0b
 go_region_held3 (fun w'=>w'.cell? ⟨gs,2,none⟩=some (.bool true)∧w'.cell? ⟨gs,3,none⟩=some (.int .u32 v)∧w'.cell? ⟨gi,3,none⟩=some (.int .u32 k)) (first | exact ⟨x0,x1,y3⟩ | exact HCL.out _ hk) ((go_at_call 125;refine (PA.fP.calls k true k W.drew rfl).mono ?_;rintro e w3 ⟨rfl,hk⟩))
 have HB3:=au HB.out (au (af (Below.refl W.heap.size W)) hk)
 go_wp2
 go_ret
 exact ⟨rfl,HB3⟩
theorem gz (w:World) (gs:Nat) (s:St) (i:S45) (hS:w.heap[gs]?=some (.cells (aA s) 151 (0,0))) (hw:Wst s) (hc:stB i.f0 i.f3=true) (hk:Rg i.f3) :
 Calls Try.prog 167 #[.pointer (some ⟨gs,0,none⟩),dQ i] w fun e w'=>e = .returned (.bool (gN s i))∧Below w.heap.size w w':=by
 obtain ⟨_,h16,_,_⟩:=fM hc
 obtain ⟨c,i1,i2,k⟩:=i
 dsimp only at h16 hk
 have hk0:=hk.1
 have hl:=hw.len
 unfold gN
 dsimp only
 by_cases c0:c=0
 · rw [if_pos c0];subst c0
   cases e:gS s 0 with
   | none=>exact yD w gs s i1 i2 k hS hl e
   | some v=>
    by_cases q:v=k
    · subst q
      rw [decide_eq_true rfl];exact yE w gs s i1 i2 v hS hl e
    rw [decide_eq_false (fun h=>q (Option.some.inj h))];exact yC w gs s v i1 i2 k hS hl e q
 rw [if_neg c0]
 by_cases c1:c=1
 · rw [if_pos c1];subst c1
   cases e:gS s 1 with
   | none=>exact yG w gs s i1 i2 k hS hl e
   | some v=>
    by_cases q:v=k
    · subst q
      rw [decide_eq_true rfl];exact yH w gs s i1 i2 v hS hl e
    rw [decide_eq_false (fun h=>q (Option.some.inj h))];exact yF w gs s v i1 i2 k hS hl e q
 rw [if_neg c1]
 by_cases c2:c=2
 · rw [if_pos c2];subst c2
   have hk6:=h16 (by omega)
   obtain ⟨n,rfl⟩:∃ n:Nat,k=(n:Int):=⟨k.toNat,by omega⟩
   rw [Int.toNat_natCast]
   cases e:gS s 0 with
   | none=>exact yN w gs s i1 i2 n hS hl (by omega) e
   | some v=>
    cases e1:gS s (2+n) with
    | none=>exact yM w gs s v i1 i2 n hS hl (by omega) e e1
    | some u=>
     by_cases q:u=v
     · subst q
       rw [decide_eq_true rfl];exact yO w gs s u i1 i2 n hS hl (by omega) e e1
     rw [decide_eq_false (fun h=>q (Option.some.inj h))];exact yL w gs s v u i1 i2 n hS hl (by omega) e e1 q
 rw [if_neg c2]
 by_cases c3:c=3
 · rw [if_pos c3];subst c3
   have hk6:=h16 (by omega)
   obtain ⟨n,rfl⟩:∃ n:Nat,k=(n:Int):=⟨k.toNat,by omega⟩
   rw [Int.toNat_natCast]
   cases e:gS s 1 with
   | none=>exact yR w gs s i1 i2 n hS hl (by omega) e
   | some v=>
    cases e1:gS s (2+n) with
    | none=>exact yQ w gs s v i1 i2 n hS hl (by omega) e e1
    | some u=>
     by_cases q:u=v
     · subst q
       rw [decide_eq_true rfl];exact yS w gs s u i1 i2 n hS hl (by omega) e e1
     rw [decide_eq_false (fun h=>q (Option.some.inj h))];exact yP w gs s v u i1 i2 n hS hl (by omega) e e1 q
 rw [if_neg c3]
 by_cases c4:c=4∨c=20∨c=68∨c=164∨c=100∨c=116
 · rw [if_pos c4]
   rcases c4 with rfl | rfl | rfl | rfl | rfl | rfl
   · exact idle_z4 w gs s i1 i2 k hS hl
   · exact yT w gs s i1 i2 k hS hl
   · exact yU w gs s i1 i2 k hS hl
   · exact vO w gs s i1 i2 k hS hl
   · exact vM w gs s i1 i2 k hS hl
   exact vN w gs s i1 i2 k hS hl
 rw [if_neg c4]
 by_cases c5:c=36∨c=52
 · rw [if_pos c5]
   rcases c5 with rfl | rfl
   · exact yJ w gs s i1 i2 k hS hl
   exact yK w gs s i1 i2 k hS hl
 rw [if_neg c5]
 by_cases c6:c=84
 · rw [if_pos c6];subst c6
   exact yI w gs s i1 i2 k hS hl
 rw [if_neg c6]
 exact idle_no w gs s c i1 i2 k hS hl (aX c0) (aX c1) (aX c2) (aX c3) (aX (by omega)) (aX (by omega)) (aX (by omega)) (aX (by omega)) (aX (by omega)) (aX (by omega)) (aX (by omega)) (aX (by omega)) (aX c6)
theorem simp_o (w:World) (gs:Nat) (s:St) (j:S45) (hS:w.heap[gs]?=some (.cells (aA s) 151 (0,0))) (hw:Wst s) (hc:stB j.f0 j.f3=true) (hk:Rg j.f3)
 (n0:(aJ j.f0==0)=false) (n1:(aJ j.f0==1)=false) (n7:(aJ j.f0==7)=false) (n4:(aJ j.f0==4)=false) :
 Calls Try.prog 159 #[.pointer (some ⟨gs,0,none⟩),dQ j] w fun e w'=>e = .returned (.tuple #[dQ j,.bool (!gN s j)])∧Below w.heap.size w w':=by
 have HS:=aa.mk hS
 have HW:=aa.mk hw
 have HJ:=aa.mk (And.intro hc hk)
 have HC:=aa.mk (fun W=>aC.calls (0+8) j.f0 (aJ j.f0) W (fU j.f0 0).1)
 clear hS hw hc hk
 unfold dQ at *
 go_enter Try.func159,Try.ntmps159
 go_upto_region 1 with (fail)
 refine forget (fun W=>∃ gi,gi=w.heap.size∧Below w.heap.size w W∧W.heap[gi]?=some (.cells #[.int .u16 j.f0,.int .u8 j.f1,.int .u8 j.f2,.int .u32 j.f3] 45 (0,0))∧W.heap[gi+1]?=some (.cells #[.int .u16 0,.int .u8 0,.int .u8 0,.int .u32 0] 45 (0,0))) ⟨_,rfl,bL _ _ _,kH _ _ _,dK _ _ _⟩ ?_
 rintro W ⟨gi,egi,hb,hi,hr⟩
 rw [←egi]
 have y0:=d9 hi 0
 have HB:=aa.mk hb
 have HI:=aa.mk hi
 have HR:=aa.mk hr
 have EG:=aa.mk egi
 clear hb hi hr egi
 go_upto_region 12 with (go_at_call 99;refine (HC.out _).mono ?_;rintro e w' ⟨rfl,⟨nd,rfl⟩⟩)
 have hq:=aj (Below.refl W.heap.size W) nd
 refine forget (fun V=>Below w.heap.size w V∧V.heap[gs]?=some (.cells (aA s) 151 (0,0))∧V.heap[gi]?=some (.cells #[.int .u16 j.f0,.int .u8 j.f1,.int .u8 j.f2,.int .u32 j.f3] 45 (0,0))∧V.heap[gi+1]?=some (.cells #[.int .u16 0,.int .u8 0,.int .u8 0,.int .u32 0] 45 (0,0)))
  ⟨au HB.out hq,ak (ak HS.out HB.out) hq,ak HI.out hq,ak HR.out hq⟩ ?_
 clear hq y0 HB HS HI HR
 rintro V ⟨hb,hs,hi,hr⟩
 obtain ⟨p0,p1,p2,p3,-,-,-,-⟩:=cz4 ⟨hi⟩
 obtain ⟨z0,z1,z2,z3,t0,t1,t2,t3⟩:=cz4 ⟨hr⟩
 have HSC:aa (∀ V',Below V.heap.size V V'→V'.heap[gs]?=some (.cells (aA s) 151 (0,0))):=⟨fun V' h=>ak hs h⟩
 have KC:=aa.mk (mD hi hr)
 have HB:=aa.mk hb
 have HR:=aa.mk hr
 clear hb hs hi hr
 refine fF 7 (SJ gi j) [5] ⟨p0,p1,p2,p3,z0,z1,z2,z3,t0,t1,t2,t3⟩ (fun hHeld=>?_)
 refine bi 1 55 ?_
 refine dn 0 54 hHeld ?_
 refine dn 2 56 hHeld ?_
 refine jD 3 (some 57) (fun K hK=>?_)
 refine iN Try.func167 #[.pointer (some ⟨gs,0,none⟩),dQ j] ?_
 with_reducible refine (gz _ gs s j (HSC.out _ jU) HW.out HJ.out.1 HJ.out.2).mono ?_
 rintro e w3 ⟨rfl,hk3⟩
 refine ⟨_,rfl,?_⟩
 refine hK.out _ _ (KC.out _ _ jU hk3) (fun hHeld=>?_)
 clear hK K
 refine gF 57 ?_
 refine bi 4 58 ?_
 refine gD 5 none (fun K hK=>?_)
 refine iD ?_
 refine hK.out _ _ ?_
 clear hK K
 refine bi 6 5 ?_
 refine fO (by kernel_rfl) ?_
 go_wp2
 have h1:=au (af (Below.refl V.heap.size V)) hk3
 refine bodyPost_ret (fK rfl _ _ (gi+1) 45 #[.int .u16 j.f0,.int .u8 j.f1,.int .u8 j.f2,.int .u32 j.f3] (0,0) _ rfl (jh (ak HR.out h1) _ _ _ _) Try.underlying45 rfl (by kernel_rfl)) rfl ?_
 exact ⟨rfl,eU (au HB.out h1) (by have:=EG.out;omega) _ _ _ _⟩
end Go.Proofs.Ytdkalnkplgfgoaa.Ln
