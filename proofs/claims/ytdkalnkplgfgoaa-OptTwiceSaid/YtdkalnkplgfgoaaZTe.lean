/- Lemmas and walks for the statements of the texts ZTZ..: the declarations that they need, taken together by a program of this session. Conditions: as each says. -/
import Derived.Test.YtdkalnkplgfgoaaZTd
set_option linter.unusedVariables false
set_option linter.unusedSimpArgs false
namespace Go.Proofs.Ytdkalnkplgfgoaa.Ln
open Go.RowKit Go.Maps Go.Proofs.YtdkalnkplgfgoaaW.PrintWords Go.Proofs.YtdkalnkplgfgoaaW.PrintLast Go.Proofs.YtdkalnkplgfgoaaW.PrintMore Go.Proofs.Ytdkalnkplgfgoaa.PA
def tX:List Int:=[29,45,61,77]
def hoK (c a k:Int):Bool:=if c=21 then a==k else if c=37 then decide (a>k) else if c=53 then decide (a≥k) else Go.bits .and .u32 a k != 0
def jg (s:St) (l:S45):Option Bool:=
 if l.f0∈tX then none
 else match gS s 0 with
  | some a=>some (hoK l.f0 a l.f3)
  | none=>if l.f0=53∧l.f3=0 then some true else if (l.f0=37∧l.f3=4294967295)∨(l.f0=69∧l.f3=0) then some false else none
def fV (s:St) (l:S45):S45 × Bool:=
 if l.f0∈tX then (match gS s 1 with | some x=>(⟨l.f0 - 8,0,0,x⟩,true) | none=>(l,false)) else (l,false)
def enF (s:St) (b:S47):S47 × Bool:=
 if b.f1=1∧b.f2.f0=22 then (match gS s 0 with | some a=>(⟨b.f0,b.f1,⟨6,0,0,a⟩,b.f3,b.f4⟩,true) | none=>(b,false))
 else if b.f1≠3 then (b,false)
 else match jg s (fV s b.f2).1 with
  | none=>(⟨b.f0,b.f1,(fV s b.f2).1,b.f3,b.f4⟩,(fV s b.f2).2)
  | some y=>(⟨b.f0,2,⟨0,0,0,0⟩,if y=true then b.f3 else b.f4,0⟩,true)
def bZ (s:St) (b:S47):S47 × St × Bool:=
 ((enF (bR s b.f0).2.1 ⟨(bR s b.f0).1,b.f1,b.f2,b.f3,b.f4⟩).1,(bR s b.f0).2.1,(bR s b.f0).2.2||(enF (bR s b.f0).2.1 ⟨(bR s b.f0).1,b.f1,b.f2,b.f3,b.f4⟩).2)
theorem qz (c jt jf k a x:Int) (b:Bool) (d:Int) (hb:eF.f 10 c=some b) (hd:Go.bits .andNot .u16 c 8=d):hoP ⟨c,jt,jf,k⟩ a x=hoK d a (if b=true then x else k):=by
 have hj:∀ y,(dF.j0 (9+1) a y c jt jf k).getD false=hoK d a y:=by
  intro y
  simp only [dF.j0,hd]
  unfold hoK
  by_cases h1:d=21
  · rw [if_pos h1,if_pos h1];rfl
  rw [if_neg h1,if_neg h1]
  by_cases h2:d=37
  · rw [if_pos h2,if_pos h2];rfl
  rw [if_neg h2,if_neg h2]
  by_cases h3:d=53
  · rw [if_pos h3,if_pos h3];rfl
  rw [if_neg h3,if_neg h3];rfl
 unfold hoP dF.f
 dsimp only
 rw [hb]
 cases b
 · exact hj k
 exact hj x
theorem rA (c jt jf k a x:Int) (hc:jmB c=true) (h:c ∉ tX):hoP ⟨c,jt,jf,k⟩ a x=hoK c a k:=by
 have hm:c∈([21,29,37,45,53,61,69,77]:List Int):=of_decide_eq_true hc
 simp only [tX,List.mem_cons,List.not_mem_nil,or_false] at hm h
 have H:c∈([21,37,53,69]:List Int):=by simp only [List.mem_cons,List.not_mem_nil,or_false];omega
 have G:∀ c∈([21,37,53,69]:List Int),eF.f 10 c=some false∧Go.bits .andNot .u16 c 8=c:=by decide +kernel
 exact qz c jt jf k a x false c (G c H).1 (G c H).2
theorem hoP_X (c jt jf k a x:Int) (h:c∈tX):hoP ⟨c,jt,jf,k⟩ a x=hoK (c - 8) a x∧jmB (c - 8)=true∧c - 8 ∉ tX∧usK (c - 8)=true:=by
 have G:∀ c∈tX,eF.f 10 c=some true∧Go.bits .andNot .u16 c 8=c - 8∧jmB (c - 8)=true∧c - 8 ∉ tX∧usK (c - 8)=true:=by decide +kernel
 exact ⟨qz c jt jf k a x true _ (G c h).1 (G c h).2.1,(G c h).2.2⟩
theorem qB {s:St} {l:S45} (hj:jmB l.f0=true) (hb:lu l=true) (hr:Rg l.f3) (hw:Wst s):jmB (fV s l).1.f0=true∧lu (fV s l).1=true∧Rg (fV s l).1.f3∧((fV s l).2=false→(fV s l).1=l):=by
 unfold fV
 by_cases h:l.f0∈tX
 · rw [if_pos h]
   cases e:gS s 1 with
   | none=>exact ⟨hj,hb,hr,fun _=>rfl⟩
   | some x=>
    obtain ⟨_,h1,h2,h3⟩:=hoP_X l.f0 0 0 0 0 0 h
    refine ⟨h1,?_,hw.rg 1 x e,fun h=>by cases h⟩
    show (decide ((0:Int)=0)&&decide ((0:Int)=0)&&(usK (l.f0 - 8)||decide (x=0)))=true
    rw [h3];rfl
 rw [if_neg h];exact ⟨hj,hb,hr,fun _=>rfl⟩
theorem last_ho {s:St} {M:bg} {l:S45} (hs:Snd s M) (hj:jmB l.f0=true):hoP (fV s l).1 M.a M.x=hoP l M.a M.x:=by
 unfold fV
 by_cases h:l.f0∈tX
 · rw [if_pos h]
   cases e:gS s 1 with
   | none=>rfl
   | some x=>
    have:=hs.at1 e
    subst this
    obtain ⟨c,jt,jf,k⟩:=l
    obtain ⟨h0,h1,h2,h3⟩:=hoP_X c jt jf k M.a M.x h
    show hoP ⟨c - 8,0,0,M.x⟩ M.a M.x=_
    rw [h0,rA _ _ _ _ _ _ h1 h2]
 rw [if_neg h]
theorem dec_ho {s:St} {M:bg} {l:S45} (hs:Snd s M) (hM:MB M) (hr:Rg l.f3) (hj:jmB l.f0=true) {y:Bool} (h:jg s l=some y):hoP l M.a M.x=y:=by
 obtain ⟨c,jt,jf,k⟩:=l
 dsimp only at hr hj
 unfold jg at h
 dsimp only at h
 by_cases hx:c∈tX
 · rw [if_pos hx] at h;cases h
 rw [if_neg hx] at h
 rw [rA c jt jf k M.a M.x hj hx]
 have ha:=hM.a
 cases e:gS s 0 with
 | some a=>
  rw [e] at h
  have:=hs.at0 e
  subst this
  exact Option.some.inj h
 | none=>
  rw [e] at h
  dsimp only at h
  by_cases q:c=53∧k=0
  · rw [if_pos q] at h
    obtain ⟨rfl,rfl⟩:=q
    rw [←Option.some.inj h]
    exact decide_eq_true ha.1
  rw [if_neg q] at h
  by_cases q2:(c=37∧k=4294967295)∨(c=69∧k=0)
  · rw [if_pos q2] at h
    rw [←Option.some.inj h]
    rcases q2 with ⟨rfl,rfl⟩ | ⟨rfl,rfl⟩
    · show decide (M.a>4294967295)=false
      exact decide_eq_false (by have:=ha.2;omega)
    show (Go.bits .and .u32 M.a 0 != 0)=false
    rw [and_z];rfl
  rw [if_neg q2] at h;cases h
inductive OL:Out→Out→Prop
 | fin {v f:Int} {s s':Nat}:s'≤s→OL (.fin v f s) (.fin v f s')
 | go {j:Nat} {M:bg} {s s':Nat}:s'≤s→OL (.go j M s) (.go j M s')
theorem en_out {s:St} {M:bg} {b:S47} (hs:Snd s M) (hM:MB M) (hw:Wst s) (he:iH b=true) (hr:Rg b.f2.f3) {k k':Nat} (hk:k'≤k):OL (eP b M k) (eP (enF s b).1 M k'):=by
 obtain ⟨c0,e1,l,y,n⟩:=b
 rcases eB he with ⟨h1,h2,h3,h4,h5⟩ | ⟨h1,h2,h3⟩ | ⟨h1,h2,h3⟩
 · dsimp only at h1 h2 h3 h4 h5 hr
   subst h1
   unfold enF
   dsimp only
   by_cases q:l.f0=22
   · rw [if_pos ⟨rfl,q⟩]
     cases e:gS s 0 with
     | none=>exact .fin (by omega)
     | some a=>
      have:=hs.at0 e
      subst this
      show OL (.fin (if l.f0=6 then l.f3 else M.a) 0 (k+1)) (.fin M.a 0 (k'+1))
      rw [if_neg (by omega)]
      exact .fin (by omega)
   rw [if_neg (fun h=>q h.2),if_pos (by decide)]
   exact .fin (by omega)
 · dsimp only at h1 h2 h3
   subst h1
   unfold enF
   dsimp only
   rw [if_neg (by omega),if_pos (by decide)]
   exact .go (by omega)
 dsimp only at h1 h2 h3 hr
 subst h1
 unfold enF
 dsimp only
 rw [if_neg (by omega),if_neg (by decide)]
 obtain ⟨q1,q2,q3,_⟩:=qB h2 h3 hr hw
 have hh:=last_ho hs h2
 cases e:jg s (fV s l).1 with
 | none=>
  show OL (.go (if hoP l M.a M.x=true then y.toNat else n.toNat) M (k+1)) (.go (if hoP (fV s l).1 M.a M.x=true then y.toNat else n.toNat) M (k'+1))
  rw [hh]
  exact .go (by omega)
 | some z=>
  have hz:=dec_ho hs hM q3 q1 e
  rw [hh] at hz
  show OL (.go (if hoP l M.a M.x=true then y.toNat else n.toNat) M (k+1)) (.go (if z=true then y else n).toNat M k')
  rw [hz]
  have:(if z=true then y else n).toNat=if z=true then y.toNat else n.toNat:=by split<;>rfl
  rw [this]
  exact .go (by omega)
theorem lK (s:St) (b:S47):(enF s b).1.f0=b.f0:=by
 unfold enF
 repeat' split
 all_goals rfl
theorem en_same {s:St} {b:S47} (h:(enF s b).2=false) (he:iH b=true) (hr:Rg b.f2.f3) (hw:Wst s):(enF s b).1=b:=by
 have hx:=eB he
 unfold enF at h ⊢
 by_cases q:b.f1=1∧b.f2.f0=22
 · rw [if_pos q] at h ⊢
   cases e:gS s 0 with
   | none=>rfl
   | some a=>rw [e] at h;cases h
 rw [if_neg q] at h ⊢
 by_cases q3:b.f1≠3
 · rw [if_pos q3]
 rw [if_neg q3] at h ⊢
 cases e:jg s (fV s b.f2).1 with
 | none=>
  rw [e] at h
  rcases hx with ⟨h1,_⟩ | ⟨h1,_⟩ | ⟨h1,h2,h3⟩
  · exact absurd (by omega) q3
  · exact absurd (by omega) q3
  show (⟨b.f0,b.f1,(fV s b.f2).1,b.f3,b.f4⟩:S47)=b
  rw [(qB h2 h3 hr hw).2.2.2 h]
 | some z=>rw [e] at h;cases h
theorem en_bok {s:St} {b:S47} {i n:Int} (h:BOk b i n) (hw:Wst s):BOk (enF s b).1 i n:=by
 have hc:=lK s b
 refine ⟨by rw [hc];exact h.code,?_,?_,by rw [hc];exact h.rg,?_⟩
 all_goals
  obtain ⟨c0,e1,l,y,z⟩:=b
  have hr:=h.rl
  have hg:=h.goal
  have he:=h.ends
  rcases eB h.ends with ⟨h1,h2,h3,h4,h5⟩ | ⟨h1,h2,h3⟩ | ⟨h1,h2,h3⟩
 any_goals
  dsimp only at h1 h2 h3 h4 h5 hr
  subst h1 h4 h5
  unfold enF
  dsimp only
  by_cases q:l.f0=22
  · rw [if_pos ⟨rfl,q⟩]
    cases e:gS s 0 with
    | none=>first | exact he | exact hg | exact hr
    | some a=>first | exact rfl | exact hg | exact hw.rg 0 a e
  rw [if_neg (fun h=>q h.2),if_pos (by decide)]
  first | exact he | exact hg | exact hr
 any_goals
  dsimp only at h1 h2 h3 hr
  subst h1 h2 h3
  unfold enF
  dsimp only
  rw [if_neg (by omega),if_pos (by decide)]
  first | exact he | exact hg | exact hr
 all_goals
  dsimp only at h1 h2 h3 hr
  subst h1
  have hy:=bE hg (show (3:Int)≠1 by decide)
  have hn:=dw hg rfl
  dsimp only at hy hn
  unfold enF
  dsimp only
  rw [if_neg (by omega),if_neg (by decide)]
  obtain ⟨q1,q2,q3,_⟩:=qB h2 h3 hr hw
  cases e:jg s (fV s l).1 with
  | none=>
   first
   | exact hg
   | exact q3
   | (show iH ⟨c0,3,(fV s l).1,y,z⟩=true
      unfold iH
      dsimp only
      rw [if_neg (by decide),if_neg (by decide),if_pos rfl,q1,q2];rfl)
  | some u=>
   first
   | exact rfl
   | exact Rg.z
   | (show gI ⟨c0,2,⟨0,0,0,0⟩,if u=true then y else z,0⟩ i n=true
      unfold gI
      dsimp only
      have:i<(if u=true then y else z)∧(if u=true then y else z)<n:=by split<;>assumption
      rw [decide_eq_true this]
      rfl)
theorem jN {s:St} {b:S47} {i n:Int} (h:BOk b i n) (hw:Wst s):BOk (bZ s b).1 i n∧Wst (bZ s b).2.1∧(bZ s b).1.f0.length≤b.f0.length:=by
 obtain ⟨a,c,d,e⟩:=kU b.f0 s hw h.code h.rg
 have:BOk ⟨(bR s b.f0).1,b.f1,b.f2,b.f3,b.f4⟩ i n:=⟨a,h.ends,h.goal,c,h.rl⟩
 refine ⟨en_bok this d,d,?_⟩
 show (enF _ _).1.f0.length≤_
 rw [lK]
 exact e
theorem mf {s:St} {b:S47} {i n:Int} (h:BOk b i n) (hw:Wst s) (hf:(bZ s b).2.2=false):(bZ s b).1=b:=by
 unfold bZ at hf ⊢
 rw [Bool.or_eq_false_iff] at hf
 obtain ⟨a,c,d,e⟩:=kU b.f0 s hw h.code h.rg
 rw [en_same hf.2 h.ends h.rl d,Az _ _ hf.1]
theorem xY {s:St} {M:bg} {b:S47} {i n:Int} (pk:List Int) (h:BOk b i n) (hs:Snd s M) (hM:MB M) (hw:Wst s) :
 OL (eD pk b M) (eD pk (bZ s b).1 M)∧((bq pk b.f0 M).2.1=0→Snd (bZ s b).2.1 (bq pk b.f0 M).1):=by
 obtain ⟨a,c,d,e⟩:=kU b.f0 s hw h.code h.rg
 obtain ⟨r1,r2,r3⟩:=str_run pk b.f0 s M hs hM h.code h.rg
 refine ⟨?_,fun h0=>(r3 h0).2⟩
 unfold eD
 rw [show (bZ s b).1.f0=(bR s b.f0).1 from lK _ _,r1]
 by_cases h0:(bq pk b.f0 M).2.1=0
 · rw [if_pos h0,if_pos h0,(r3 h0).1]
   exact en_out (b:=⟨(bR s b.f0).1,b.f1,b.f2,b.f3,b.f4⟩) (r3 h0).2 (lM pk _ M hM h.rg) d h.ends h.rl r2
 rw [if_neg h0,if_neg h0]
 exact .fin r2
def kG (s t:St):St:=List.zipWith (fun x y=>if x=y then x else none) s t
abbrev AC:=List St × List Bool
def kD (A:AC) (tg:Nat) (s:St):AC:=(A.1.set tg (if A.2.getD tg false=true then kG s (A.1.getD tg []) else s),A.2.set tg true)
def qW (b:S47) (s:St):St:=if b.f2.f0=21 then s.set 0 (some b.f2.f3) else s
def nxF (b:S47) (s:St) (A:AC):AC:=
 if b.f1=2 then kD A b.f3.toNat s else if b.f1=3 then kD (kD A b.f3.toNat (qW b s)) b.f4.toNat s else A
def fdL:List S47→Nat→AC→List S47 × Bool
 | [],_,_=>([],false)
 | b :: r,n,A=>
  if A.2.getD n false=true then ((bZ (A.1.getD n []) b).1 :: (fdL r (n+1) (nxF (bZ (A.1.getD n []) b).1 (bZ (A.1.getD n []) b).2.1 A)).1,
   (bZ (A.1.getD n []) b).2.2||(fdL r (n+1) (nxF (bZ (A.1.getD n []) b).1 (bZ (A.1.getD n []) b).2.1 A)).2)
  else (b :: (fdL r (n+1) A).1,(fdL r (n+1) A).2)
def iI (g:List S47):List S47 × Bool:=
 fdL g 0 ((List.replicate g.length (List.replicate 18 none)).set 0 (List.replicate 18 (some 0)),(List.replicate g.length false).set 0 true)
structure AOk (A:AC) (L:Nat):Prop where
 at_:A.1.length=L
 come:A.2.length=L
 wst:∀ j,A.2.getD j false=true→Wst (A.1.getD j [])
def Cov (A:AC) (j:Nat) (M:bg):Prop:=A.2.getD j false=true∧Snd (A.1.getD j []) M
theorem dm {α:Type} {l:List α} {i j:Nat} {o d:α} (hi:i<l.length):(l.set i o).getD j d=if i=j then o else l.getD j d:=by
 rw [List.getD_eq_getElem?_getD,List.getElem?_set]
 by_cases h:i=j
 · subst h;rw [if_pos rfl,if_pos hi,if_pos rfl];rfl
 rw [if_neg h,if_neg h,List.getD_eq_getElem?_getD]
theorem qD {s t:St} {i:Nat} {v:Int} (h:gS (kG s t) i=some v):gS s i=some v∧gS t i=some v:=by
 unfold gS kG at *
 rw [List.getD_eq_getElem?_getD] at *
 rw [List.getElem?_zipWith] at h
 rw [List.getD_eq_getElem?_getD]
 cases hs:s[i]? with
 | none=>rw [hs] at h;simp at h
 | some a=>
  cases ht:t[i]? with
  | none=>rw [hs,ht] at h;simp at h
  | some b=>
   rw [hs,ht] at h
   simp only [Option.getD_some] at h ⊢
   by_cases q:a=b
   · rw [if_pos q] at h;exact ⟨h,q ▸ h⟩
   rw [if_neg q] at h;cases h
theorem iV {s t:St} (h1:s.length=18) (h2:t.length=18):(kG s t).length=18:=by
 unfold kG;rw [List.length_zipWith,h1,h2];rfl
theorem kE {A:AC} {L:Nat} (h:AOk A L) {tg:Nat} (ht:tg<L) {s:St} (hs:Wst s):AOk (kD A tg s) L:=by
 refine ⟨(List.length_set ..).trans h.at_,(List.length_set ..).trans h.come,fun j hj=>?_⟩
 unfold kD at hj ⊢
 dsimp only at hj ⊢
 rw [dm (by rw [h.come];exact ht)] at hj
 rw [dm (by rw [h.at_];exact ht)]
 by_cases q:tg=j
 · rw [if_pos q]
   by_cases c:A.2.getD tg false=true
   · rw [if_pos c]
     have hw:=h.wst tg c
     exact ⟨iV hs.len hw.len,fun i v e=>hs.rg i v (qD e).1⟩
   rw [if_neg c];exact hs
 rw [if_neg q] at hj ⊢;exact h.wst j hj
theorem nG {A:AC} {L:Nat} (h:AOk A L) {tg:Nat} (ht:tg<L) {s:St} (hs:Wst s) {j:Nat} {M:bg} (hc:Cov A j M):Cov (kD A tg s) j M:=by
 unfold Cov kD
 dsimp only
 rw [dm (by rw [h.come];exact ht),dm (by rw [h.at_];exact ht)]
 by_cases q:tg=j
 · subst q
   rw [if_pos rfl,if_pos rfl,if_pos hc.1]
   exact ⟨rfl,iV hs.len hc.2.len,fun i v e=>hc.2.wd i v (qD e).2⟩
 rw [if_neg q,if_neg q];exact hc
theorem qx {A:AC} {L:Nat} (h:AOk A L) {tg:Nat} (ht:tg<L) {s:St} {M:bg} (hs:Snd s M):Cov (kD A tg s) tg M:=by
 unfold Cov kD
 dsimp only
 rw [dm (by rw [h.come];exact ht),dm (by rw [h.at_];exact ht),if_pos rfl,if_pos rfl]
 refine ⟨rfl,?_⟩
 by_cases c:A.2.getD tg false=true
 · rw [if_pos c]
   exact ⟨iV hs.len (h.wst tg c).len,fun i v e=>hs.wd i v (qD e).1⟩
 rw [if_neg c];exact hs
theorem nM {b:S47} {s:St} (h:Wst s) (hr:Rg b.f2.f3):Wst (qW b s):=by
 unfold qW
 exact gB (fun _=>h.set _ (fun v e=>by cases e;exact hr)) (fun _=>h)
theorem rJ {A:AC} {L:Nat} (h:AOk A L) {b:S47} {i:Nat} (hb:BOk b i L) {s:St} (hs:Wst s):AOk (nxF b s A) L:=by
 unfold nxF
 by_cases h2:b.f1=2
 · rw [if_pos h2]
   have:=bE hb.goal (by omega)
   exact kE h (by omega) hs
 rw [if_neg h2]
 by_cases h3:b.f1=3
 · rw [if_pos h3]
   have:=bE hb.goal (by omega)
   have:=dw hb.goal h3
   exact kE (kE h (by omega) (nM hs hb.rl)) (by omega) hs
 rw [if_neg h3];exact h
theorem nx_old {A:AC} {L:Nat} (h:AOk A L) {b:S47} {i:Nat} (hb:BOk b i L) {s:St} (hs:Wst s) {j:Nat} {M:bg} (hc:Cov A j M):Cov (nxF b s A) j M:=by
 unfold nxF
 by_cases h2:b.f1=2
 · rw [if_pos h2]
   have:=bE hb.goal (by omega)
   exact nG h (by omega) hs hc
 rw [if_neg h2]
 by_cases h3:b.f1=3
 · rw [if_pos h3]
   have:=bE hb.goal (by omega)
   have:=dw hb.goal h3
   have hy:=nM hs hb.rl
   exact nG (kE h (by omega) hy) (by omega) hs (nG h (by omega) hy hc)
 rw [if_neg h3];exact hc
theorem nx_new {A:AC} {L:Nat} (h:AOk A L) {b:S47} {i:Nat} (hb:BOk b i L) {s:St} (hw:Wst s) {pk:List Int} {M M1:bg} {j k:Nat} (e:eD pk b M = .go j M1 k) (hs:Snd s M1):Cov (nxF b s A) j M1:=by
 obtain ⟨_,_,q1,q2,q3⟩:=jE hb (by omega) e
 unfold nxF
 rcases q3 with ⟨h2,hj,_⟩ | ⟨h3,hj,_⟩
 · rw [if_pos h2]
   have:j=b.f3.toNat:=by omega
   subst this
   exact qx h (by omega) hs
 rw [if_neg (by omega),if_pos h3]
 have hy:=bE hb.goal (by omega)
 have hn:=dw hb.goal h3
 have hyw:=nM hw hb.rl
 by_cases ho:hoP b.f2 M1.a M1.x=true
 · rw [if_pos ho] at hj
   have:j=b.f3.toNat:=by omega
   subst this
   refine nG (kE h (by omega) hyw) (by omega) hw (qx h (by omega) ?_)
   unfold qW
   by_cases c:b.f2.f0=21
   · rw [if_pos c]
     have hk:=rA b.f2.f0 b.f2.f1 b.f2.f2 b.f2.f3 M1.a M1.x (by rw [c];rfl) (by rw [c];decide)
     have hk2:hoK b.f2.f0 M1.a b.f2.f3=true:=hk.symm.trans ho
     rw [c] at hk2
     have hae:M1.a=b.f2.f3:=by simpa [hoK] using hk2
     exact hs.setA (v:=M1.a) (fun x e=>by cases e;exact hae)
   rw [if_neg c];exact hs
 rw [if_neg ho] at hj
 have:j=b.f4.toNat:=by omega
 subst this
 exact qx (kE h (by omega) hyw) (by omega) hs
theorem xU:∀ (l:List S47) (n:Nat) (A:AC),(fdL l n A).1.length=l.length:=by
 intro l
 induction l with
 | nil=>intro n A;rfl
 | cons b r ih=>
  intro n A
  unfold fdL
  split
  · show _+1=_+1;rw [ih]
  show _+1=_+1;rw [ih]
theorem fd_at (L:Nat):∀ (l:List S47) (n:Nat) (A:AC),AOk A L→(∀ (j:Nat) (b:S47),l[j]?=some b→BOk b ((n+j:Nat):Int) L) →
 ∀ (j:Nat) (b':S47),(fdL l n A).1[j]?=some b'→∃ b,l[j]?=some b∧(b'=b∨∃ s,Wst s∧b'=(bZ s b).1):=by
 intro l
 induction l with
 | nil=>intro n A _ _ j b' h;simp [fdL] at h
 | cons b r ih=>
  intro n A hA hb j b' h
  have hb0:=hb 0 b rfl
  have hr:∀ (j:Nat) (b:S47),r[j]?=some b→BOk b ((n+1+j:Nat):Int) L:=fun j c hc=>by
   have:=hb (j+1) c hc
   rw [show n+1+j=n+(j+1) by omega];exact this
  unfold fdL at h
  by_cases c:A.2.getD n false=true
  · rw [if_pos c] at h
    have hw:=hA.wst n c
    obtain ⟨f1,f2,_⟩:=jN hb0 hw
    cases j with
    | zero=>
     have:(bZ (A.1.getD n []) b).1=b':=Option.some.inj h
     exact ⟨b,rfl,.inr ⟨_,hw,this.symm⟩⟩
    | succ j=>exact ih (n+1) _ (rJ hA f1 f2) hr j b' h
  rw [if_neg c] at h
  cases j with
  | zero=>exact ⟨b,rfl,.inl (Option.some.inj h).symm⟩
  | succ j=>exact ih (n+1) _ hA hr j b' h
theorem fd_same (L:Nat):∀ (l:List S47) (n:Nat) (A:AC),AOk A L→(∀ (j:Nat) (b:S47),l[j]?=some b→BOk b ((n+j:Nat):Int) L)→(fdL l n A).2=false→(fdL l n A).1=l:=by
 intro l
 induction l with
 | nil=>intro n A _ _ _;rfl
 | cons b r ih=>
  intro n A hA hb h
  have hb0:=hb 0 b rfl
  have hr:∀ (j:Nat) (b:S47),r[j]?=some b→BOk b ((n+1+j:Nat):Int) L:=fun j c hc=>by
   have:=hb (j+1) c hc
   rw [show n+1+j=n+(j+1) by omega];exact this
  unfold fdL at h ⊢
  by_cases c:A.2.getD n false=true
  · rw [if_pos c] at h ⊢
    have hw:=hA.wst n c
    obtain ⟨f1,f2,_⟩:=jN hb0 hw
    rw [Bool.or_eq_false_iff] at h
    show (bZ (A.1.getD n []) b).1 :: _=_
    rw [mf hb0 hw h.1]
    have:=h.2
    rw [mf hb0 hw h.1] at this
    rw [mf hb0 hw h.1] at f1
    rw [ih (n+1) _ (rJ hA f1 f2) hr this]
  rw [if_neg c] at h ⊢
  show b :: _=_
  rw [ih (n+1) _ hA hr h]
theorem fd_run {g:List S47} (hg:GOk g) (pk:List Int):∀ (d n:Nat) (A:AC),g.length - n=d→n≤g.length→AOk A g.length→∀ g',g'.drop n=(fdL (g.drop n) n A).1→∀ (j:Nat) (M:bg) (v f:Int) (t:Nat),n≤j→Cov A j M→MB M→Rn g pk j M v f t→∃ t',t'≤t∧Rn g' pk j M v f t':=by
 intro d
 induction d with
 | zero=>
  intro n A hd hn hA g' hg' j M v f t hj hc hM hr
  have:g[j]?=none:=List.getElem?_eq_none (by omega)
  cases hr with
  | fin hb _=>rw [this] at hb;cases hb
  | go hb _ _=>rw [this] at hb;cases hb
 | succ d ih=>
  intro n A hd hn hA g' hg' j M v f t hj hc hM hr
  have hlt:n<g.length:=by omega
  have hb:=List.getElem?_eq_getElem hlt
  have hok:=hg.all n _ hb
  rw [List.drop_eq_getElem_cons hlt] at hg'
  generalize hbe:g[n]=b at hb hok hg'
  unfold fdL at hg'
  have hhead:g'[n]?=(g'.drop n)[0]?:=by rw [List.getElem?_drop,Nat.add_zero]
  have htail:g'.drop (n+1)=(g'.drop n).drop 1:=by rw [List.drop_drop]
  by_cases cn:A.2.getD n false=true
  · rw [if_pos cn] at hg'
    have hw:=hA.wst n cn
    obtain ⟨f1,f2,_⟩:=jN hok hw
    rw [hg'] at hhead htail
    have hA':=rJ hA f1 f2
    by_cases hjn:j=n
    · subst hjn
      obtain ⟨o1,o2⟩:=xY pk hok hc.2 hM hw
      cases hr with
      | fin hb' e=>
       rw [hb] at hb';cases hb'
       rw [e] at o1
       generalize e':eD pk (bZ (A.1.getD j []) b).1 M=o' at o1
       cases o1 with
       | fin hle=>exact ⟨_,hle,.fin hhead e'⟩
      | @go _ _ _ j1 M1 s1 _ _ t1 hb' e hr1=>
       rw [hb] at hb';cases hb'
       obtain ⟨q0,q1,q2,q3,_⟩:=jE hok (by omega) e
       rw [e] at o1
       generalize e':eD pk (bZ (A.1.getD j []) b).1 M=o' at o1
       cases o1 with
       | @go _ _ _ s1' hle=>
        have hs1:Snd (bZ (A.1.getD j []) b).2.1 M1:=by rw [q1];exact o2 q0
        have hM1:MB M1:=by rw [q1];exact lM pk _ M hM hok.rg
        obtain ⟨t',ht',hr'⟩:=ih (j+1) _ (by omega) (by omega) hA' g' htail j1 M1 v f t1 (by omega) (nx_new hA f1 f2 e' hs1) hM1 hr1
        exact ⟨s1'+t',by omega,.go hhead e' hr'⟩
    exact ih (n+1) _ (by omega) (by omega) hA' g' htail j M v f t (by omega) (nx_old hA f1 f2 hc) hM hr
  rw [if_neg cn] at hg'
  rw [hg'] at hhead htail
  have hjn:j≠n:=fun h=>cn (h ▸ hc.1)
  exact ih (n+1) _ (by omega) (by omega) hA g' htail j M v f t (by omega) hc hM hr
theorem wT {g:List S47} (h:0<g.length):AOk ((List.replicate g.length (List.replicate 18 none)).set 0 (List.replicate 18 (some 0)),(List.replicate g.length false).set 0 true) g.length∧Cov ((List.replicate g.length (List.replicate 18 none)).set 0 (List.replicate 18 (some 0)),(List.replicate g.length false).set 0 true) 0 z16:=by
 have e1:((List.replicate g.length (List.replicate 18 (none:Option Int))).set 0 (List.replicate 18 (some 0))).getD 0 []=List.replicate 18 (some 0):=by
  rw [dm (by rw [List.length_replicate];exact h),if_pos rfl]
 have hs:∀ i v,gS (List.replicate 18 (some 0)) i=some v→v=0:=by
  intro i v e
  unfold gS at e
  rw [List.getD_eq_getElem?_getD,List.getElem?_replicate] at e
  split at e
  · exact (Option.some.inj e).symm
  cases e
 refine ⟨⟨by rw [List.length_set,List.length_replicate],by rw [List.length_set,List.length_replicate],fun j hj=>?_⟩,?_,?_⟩
 · dsimp only at hj ⊢
   rw [dm (by rw [List.length_replicate];exact h)] at hj
   by_cases q:0=j
   · subst q
     rw [e1]
     exact ⟨by rw [List.length_replicate],fun i v e=>hs i v e ▸ Rg.z⟩
   rw [if_neg q,List.getD_eq_getElem?_getD,List.getElem?_replicate] at hj
   split at hj<;>cases hj
 · dsimp only
   rw [dm (by rw [List.length_replicate];exact h),if_pos rfl]
 dsimp only
 rw [e1]
 refine ⟨by rw [List.length_replicate],fun i v e=>?_⟩
 rw [hs i v e]
 match i with
 | 0=>rfl
 | 1=>rfl
 | n+2=>
  show (List.replicate 16 (0:Int)).getD n 0=0
  rw [List.getD_eq_getElem?_getD,List.getElem?_replicate]
  split<;>rfl
def wI (i:S45):Nat:=if i.f0∈eZ∨i.f0=64∨i.f0=72∨i.f0=80 then 3 else if i.f0∈dO∨i.f0=96∨i.f0=97∨i.f0=7∨i.f0=135∨i.f0=132 then 2 else 1
def wC (c:List S45):Nat:=(c.map wI).sum
def wE (n:Int) (b:S47):Nat:=
 if b.f1=1 then (if b.f2.f0=22 then 2 else 1) else if b.f1=2 then 1+(n - b.f3).toNat else (if b.f2.f0∈tX then 3 else 2)+(n - b.f3).toNat+(n - b.f4).toNat
def phB (n:Int) (b:S47):Nat:=1+wC b.f0+wE n b
def szB (b:S47):Nat:=b.f0.length+(if b.f1=2 then 0 else 1)
def phG (g:List S47):Nat:=(g.map (phB g.length)).sum
def szG (g:List S47):Nat:=(g.map szB).sum
def msG (g:List S47):Nat:=(g.map msB).sum
theorem ul (i:S45):1≤wI i:=by unfold wI;split;omega;split<;>omega
structure iM (g g':List S47) (found:Bool):Prop where
 gok:GOk g'
 run:∀ pk v f t,Rn g pk 0 z16 v f t→∃ t',t'≤t∧Rn g' pk 0 z16 v f t'
 ms:msG g'≤msG g
 ph:phG g'≤phG g
 less:found=true→phG g'<phG g
 same:found=false→g'=g
theorem simp_w (s:St) (i:S45) (hc:stB i.f0 i.f3=true):bW s i=i∨wI (bW s i)<wI i:=by
 obtain ⟨c,jt,jf,k⟩:=i
 have one:∀ a,wI ⟨0,0,0,a⟩=1:=fun a=>rfl
 have onx:∀ a,wI ⟨1,0,0,a⟩=1:=fun a=>rfl
 have kf:∀ c jt jf k,c∈dO→wI (iX s ⟨c,jt,jf,k⟩)≤2∧(iX s ⟨c,jt,jf,k⟩=⟨c,jt,jf,k⟩∨wI (iX s ⟨c,jt,jf,k⟩)<2):=by
  intro c jt jf k hc
  have H:∀ x∈dO,x ∉ eZ∧x≠64∧x≠72∧x≠80:=by decide
  have h2:wI ⟨c,jt,jf,k⟩=2:=by
   have:=H c hc
   unfold wI
   dsimp only
   rw [if_neg (by rintro (h | h | h | h);exact this.1 h;exact this.2.1 h;exact this.2.2.1 h;exact this.2.2.2 h),if_pos (.inl hc)]
  unfold iX
  cases gS s 0 with
  | some a=>dsimp only;rw [one];exact ⟨by omega,.inr (by omega)⟩
  | none=>
   dsimp only
   split
   · rw [one];exact ⟨by omega,.inr (by omega)⟩
   rw [h2];exact ⟨Nat.le_refl _,.inl rfl⟩
 unfold bW
 dsimp only
 by_cases q1:c∈ldL
 · rw [if_pos q1]
   unfold mI
   dsimp only
   by_cases c1:c=96
   · rw [if_pos c1];subst c1
     cases gS s (2+k.toNat) with
     | none=>exact .inl rfl
     | some v=>exact .inr (show (1:Nat)<2 by decide)
   rw [if_neg c1]
   by_cases c2:c=97
   · rw [if_pos c2];subst c2
     cases gS s (2+k.toNat) with
     | none=>exact .inl rfl
     | some v=>exact .inr (show (1:Nat)<2 by decide)
   rw [if_neg c2]
   by_cases c3:c=64∨c=72∨c=80
   · rw [if_pos c3]
     cases gS s 1 with
     | none=>exact .inl rfl
     | some x=>
      dsimp only
      by_cases q:x+k≤4294967295
      · rw [if_pos q]
        rcases c3 with rfl | rfl | rfl<;>exact .inr (show (1:Nat)<3 by decide)
      rw [if_neg q];exact .inl rfl
   rw [if_neg c3];exact .inl rfl
 rw [if_neg q1]
 by_cases q2:c=7∨c=135
 · rw [if_pos q2]
   unfold mK
   dsimp only
   by_cases c1:c=7
   · rw [if_pos c1];subst c1
     cases gS s 0 with
     | none=>exact .inl rfl
     | some v=>exact .inr (show (1:Nat)<2 by decide)
   rw [if_neg c1]
   obtain rfl:=q2.resolve_left c1
   cases gS s 1 with
   | none=>exact .inl rfl
   | some v=>exact .inr (show (1:Nat)<2 by decide)
 rw [if_neg q2]
 by_cases q3:c=132∨c∈dO∨c∈eZ
 · rw [if_pos q3]
   unfold sw
   dsimp only
   by_cases c1:c=132
   · rw [if_pos c1];subst c1
     cases gS s 0 with
     | none=>exact .inl rfl
     | some v=>exact .inr (show (1:Nat)<2 by decide)
   rw [if_neg c1]
   by_cases c2:c∈eZ
   · rw [if_pos c2]
     have h3:wI ⟨c,jt,jf,k⟩=3:=by unfold wI;exact if_pos (.inl c2)
     have H:∀ x∈eZ,x - 8∈dO:=by decide
     cases gS s 1 with
     | none=>exact .inl rfl
     | some y=>
      dsimp only
      rw [h3]
      by_cases d1:(c=108∨c=124)∧y>31
      · rw [if_pos d1,one];exact .inr (by omega)
      rw [if_neg d1]
      by_cases d2:y=0∧(c=60∨c=156)
      · rw [if_pos d2];exact .inl rfl
      rw [if_neg d2]
      have:=(kf (c - 8) 0 0 y (H c c2)).1
      exact .inr (by omega)
   rw [if_neg c2]
   have hk:=(q3.resolve_left c1).resolve_right c2
   rcases (kf c jt jf k hk).2 with h | h
   · exact .inl h
   refine .inr ?_
   have H:∀ x∈dO,x ∉ eZ∧x≠64∧x≠72∧x≠80:=by decide
   have h2:wI ⟨c,jt,jf,k⟩=2:=by
    have:=H c hk
    unfold wI
    dsimp only
    rw [if_neg (by rintro (h | h | h | h);exact this.1 h;exact this.2.1 h;exact this.2.2.1 h;exact this.2.2.2 h),if_pos (.inl hk)]
   omega
 rw [if_neg q3];exact .inl rfl
theorem rH (a:S45):neI a a=false:=by
 unfold neI
 rw [decide_eq_true rfl,decide_eq_true rfl,decide_eq_true rfl,decide_eq_true rfl];rfl
theorem str_w:∀ (c:List S45) (s:St),Wst s→fB c=true→(∀ x∈c,Rg x.f3)→wC (bR s c).1≤wC c∧((bR s c).2.2=true→wC (bR s c).1<wC c):=by
 intro c
 induction c with
 | nil=>intro s _ _ _;exact ⟨Nat.le_refl _,fun h=>by cases h⟩
 | cons i r ih=>
  intro s hw hc hk
  unfold fB at hc
  rw [List.all_cons,Bool.and_eq_true] at hc
  have hk1:=hk i (List.mem_cons_self ..)
  have hk2:∀ x∈r,Rg x.f3:=fun x hx=>hk x (List.mem_cons_of_mem _ hx)
  have hj:=nK hw hc.1 hk1
  have e:wC (i :: r)=wI i+wC r:=by unfold wC;rw [List.map_cons,List.sum_cons]
  have hp:=ul i
  unfold bR
  by_cases q:gN s (bW s i)=true
  · rw [if_pos q,e]
    have:=(ih s hw hc.2 hk2).1
    dsimp only
    exact ⟨by omega,fun _=>by omega⟩
  rw [if_neg q,e]
  obtain ⟨a,b⟩:=ih _ (l5 hw hj.2) hc.2 hk2
  have e2:wC (bW s i :: (bR (dW s (bW s i)) r).1)=wI (bW s i)+wC (bR (dW s (bW s i)) r).1:=by unfold wC;rw [List.map_cons,List.sum_cons]
  dsimp only
  rw [e2]
  rcases simp_w s i hc.1 with h | h
  · rw [h] at a b ⊢
    refine ⟨by omega,fun hf=>?_⟩
    rw [rH,Bool.false_or] at hf
    have:=b hf
    omega
  exact ⟨by omega,fun _=>by omega⟩
theorem en_w {n:Int} {s:St} {b:S47} {i:Int} (h:BOk b i n) (hw:Wst s):wE n (enF s b).1≤wE n b∧((enF s b).2=true→wE n (enF s b).1<wE n b)∧msB (enF s b).1≤msB b∧szB (enF s b).1≤szB b:=by
 obtain ⟨c0,e1,l,y,z⟩:=b
 have hg:=h.goal
 rcases eB h.ends with ⟨h1,h2,h3,h4,h5⟩ | ⟨h1,h2,h3⟩ | ⟨h1,h2,h3⟩
 · dsimp only at h1
   subst h1
   unfold enF
   dsimp only
   by_cases q:l.f0=22
   · rw [if_pos ⟨rfl,q⟩]
     cases gS s 0 with
     | none=>exact ⟨Nat.le_refl _,(fun h=>by cases h),Nat.le_refl _,Nat.le_refl _⟩
     | some a=>
      have h1:wE n ⟨c0,1,⟨6,0,0,a⟩,y,z⟩=1:=rfl
      have h2:wE n ⟨c0,1,l,y,z⟩=2:=by unfold wE;dsimp only;rw [if_pos rfl,if_pos q]
      dsimp only
      rw [h1,h2]
      exact ⟨by omega,fun _=>by omega,Nat.le_refl _,Nat.le_refl _⟩
   rw [if_neg (fun h=>q h.2),if_pos (by decide)]
   exact ⟨Nat.le_refl _,(fun h=>by cases h),Nat.le_refl _,Nat.le_refl _⟩
 · dsimp only at h1
   subst h1
   unfold enF
   dsimp only
   rw [if_neg (by omega),if_pos (by decide)]
   exact ⟨Nat.le_refl _,(fun h=>by cases h),Nat.le_refl _,Nat.le_refl _⟩
 dsimp only at h1 h2
 subst h1
 unfold enF
 dsimp only
 have hy:=bE hg (show (3:Int)≠1 by decide)
 have hn:=dw hg rfl
 dsimp only at hy hn
 rw [if_neg (by omega),if_neg (by decide)]
 have e0:∀ l,wE n ⟨c0,3,l,y,z⟩=(if l.f0∈tX then 3 else 2)+(n - y).toNat+(n - z).toNat:=fun l=>rfl
 have H:∀ x∈tX,x - 8 ∉ tX:=by decide
 have hl:(if (fV s l).1.f0∈tX then 3 else 2)≤(if l.f0∈tX then 3 else 2)∧((fV s l).2=true→(if (fV s l).1.f0∈tX then 3 else 2)<(if l.f0∈tX then 3 else 2)):=by
  unfold fV
  by_cases q:l.f0∈tX
  · rw [if_pos q]
    cases gS s 1 with
    | none=>exact ⟨Nat.le_refl _,fun h=>by cases h⟩
    | some x=>
     dsimp only
     rw [if_neg (H _ q),if_pos q]
     exact ⟨by omega,fun _=>by omega⟩
  rw [if_neg q];exact ⟨Nat.le_refl _,fun h=>by cases h⟩
 cases jg s (fV s l).1 with
 | none=>
  dsimp only
  rw [e0,e0]
  exact ⟨by omega,fun h=>by have:=hl.2 h;omega,Nat.le_refl _,Nat.le_refl _⟩
 | some u=>
  dsimp only
  rw [e0]
  have e2:wE n ⟨c0,2,⟨0,0,0,0⟩,if u=true then y else z,0⟩=1+(n - (if u=true then y else z)).toNat:=rfl
  rw [e2]
  have:(n - (if u=true then y else z)).toNat≤(n - y).toNat+(n - z).toNat:=by split<;>omega
  have:2≤(if l.f0∈tX then 3 else 2):=by split<;>omega
  refine ⟨by omega,fun _=>by omega,?_,?_⟩
  · unfold msB;dsimp only;rw [if_neg (by decide)];omega
  unfold szB;dsimp only;rw [if_pos rfl];omega
theorem xZ {n:Int} {s:St} {b:S47} {i:Int} (h:BOk b i n) (hw:Wst s):phB n (bZ s b).1≤phB n b∧((bZ s b).2.2=true→phB n (bZ s b).1<phB n b)∧msB (bZ s b).1≤msB b∧szB (bZ s b).1≤szB b:=by
 obtain ⟨a,c,d,e⟩:=kU b.f0 s hw h.code h.rg
 obtain ⟨w1,w2⟩:=str_w b.f0 s hw h.code h.rg
 have hb:BOk ⟨(bR s b.f0).1,b.f1,b.f2,b.f3,b.f4⟩ i n:=⟨a,h.ends,h.goal,c,h.rl⟩
 obtain ⟨u1,u2,u3,u4⟩:=en_w hb d
 have ec:(bZ s b).1.f0=(bR s b.f0).1:=lK _ _
 have ee:wE n ⟨(bR s b.f0).1,b.f1,b.f2,b.f3,b.f4⟩=wE n b:=rfl
 have p1:phB n (bZ s b).1=1+wC (bR s b.f0).1+wE n (bZ s b).1:=by unfold phB;rw [ec]
 have p2:phB n b=1+wC b.f0+wE n b:=rfl
 rw [ee] at u1 u2
 have u1':wE n (bZ s b).1≤wE n b:=u1
 have m1:msB ⟨(bR s b.f0).1,b.f1,b.f2,b.f3,b.f4⟩≤msB b:=by unfold msB;dsimp only;omega
 have m2:szB ⟨(bR s b.f0).1,b.f1,b.f2,b.f3,b.f4⟩≤szB b:=by unfold szB;dsimp only;omega
 refine ⟨by omega,fun hf=>?_,Nat.le_trans u3 m1,Nat.le_trans u4 m2⟩
 rcases Bool.or_eq_true_iff.1 (show ((bR s b.f0).2.2||(enF (bR s b.f0).2.1 ⟨(bR s b.f0).1,b.f1,b.f2,b.f3,b.f4⟩).2)=true from hf) with hf | hf
 · have:=w2 hf;omega
 have:wE n (bZ s b).1<wE n b:=u2 hf
 omega
theorem fd_w (L:Nat):∀ (l:List S47) (n:Nat) (A:AC),AOk A L→(∀ (j:Nat) (b:S47),l[j]?=some b→BOk b ((n+j:Nat):Int) L) →
 ((fdL l n A).1.map (phB L)).sum≤(l.map (phB L)).sum∧((fdL l n A).2=true→((fdL l n A).1.map (phB L)).sum<(l.map (phB L)).sum)∧((fdL l n A).1.map msB).sum≤(l.map msB).sum∧((fdL l n A).1.map szB).sum≤(l.map szB).sum
   ∧ ((fdL l n A).1.map (fun b=>b.f0.length)).sum≤(l.map (fun b=>b.f0.length)).sum:=by
 intro l
 induction l with
 | nil=>intro n A _ _;exact ⟨Nat.le_refl _,(fun h=>by cases h),Nat.le_refl _,Nat.le_refl _,Nat.le_refl _⟩
 | cons b r ih=>
  intro n A hA hb
  have hb0:BOk b ((n:Nat):Int) L:=hb 0 b rfl
  have hr:∀ (j:Nat) (b:S47),r[j]?=some b→BOk b ((n+1+j:Nat):Int) L:=fun j c hc=>by
   have:=hb (j+1) c hc
   rw [show n+1+j=n+(j+1) by omega];exact this
  unfold fdL
  by_cases c:A.2.getD n false=true
  · rw [if_pos c]
    have hw:=hA.wst n c
    obtain ⟨f1,f2,f3⟩:=jN hb0 hw
    obtain ⟨w1,w2,w3,w4⟩:=xZ hb0 hw
    obtain ⟨i1,i2,i3,i4,i5⟩:=ih (n+1) _ (rJ hA f1 f2) hr
    simp only [List.map_cons,List.sum_cons]
    refine ⟨by omega,fun hf=>?_,by omega,by omega,by omega⟩
    rcases Bool.or_eq_true_iff.1 hf with hf | hf
    · have:=w2 hf;omega
    have:=i2 hf;omega
  rw [if_neg c]
  obtain ⟨i1,i2,i3,i4,i5⟩:=ih (n+1) _ hA hr
  simp only [List.map_cons,List.sum_cons]
  exact ⟨by omega,fun hf=>by have:=i2 hf;omega,by omega,by omega,by omega⟩
theorem jy {g:List S47} (hg:GOk g):iM g (iI g).1 (iI g).2:=by
 obtain ⟨a1,a2⟩:=wT hg.some_
 have hb:∀ (j:Nat) (b:S47),g[j]?=some b→BOk b ((0+j:Nat):Int) g.length:=fun j b h=>by rw [Nat.zero_add];exact hg.all j b h
 have hlen:(iI g).1.length=g.length:=xU g 0 _
 obtain ⟨i1,i2,i3,i4,i5⟩:=fd_w g.length g 0 _ a1 hb
 refine ⟨⟨by rw [hlen];exact hg.some_,by rw [hlen];exact hg.few,fun j b' h=>?_,Nat.le_trans i5 hg.sum⟩,?_,i3,?_,?_,?_⟩
 · rw [hlen]
   obtain ⟨b,hb1,h | ⟨s,hs,h⟩⟩:=fd_at g.length g 0 _ a1 hb j b' h
   · subst h;exact hg.all j _ hb1
   subst h;exact (jN (hg.all j _ hb1) hs).1
 · intro pk v f t hr
   exact fd_run hg pk g.length 0 _ (Nat.sub_zero _) (Nat.zero_le _) a1 (iI g).1 rfl 0 z16 v f t (Nat.le_refl _) a2 MB_z hr
 · unfold phG;rw [hlen];exact i1
 · intro h;unfold phG;rw [hlen];exact i2 h
 intro h;exact fd_same g.length g 0 _ a1 hb h
def setW (M:bg) (j:Nat) (v:Int):bg:=match j with
 | 0=>{M with a:=v}
 | 1=>{M with x:=v}
 | n+2=>{M with m:=M.m.set n v}
def wrF (i:S45):Nat:=if i.f0=1∨i.f0=97∨i.f0=129∨i.f0=177∨i.f0=7 then 1 else if i.f0=2∨i.f0=3 then 2+i.f3.toNat else 0
def mvF (i:S45):Option (Nat × Nat):=
 if i.f0=96 then some (2+i.f3.toNat,0) else if i.f0=97 then some (2+i.f3.toNat,1) else if i.f0=2 then some (0,2+i.f3.toNat)
 else if i.f0=3 then some (1,2+i.f3.toNat) else if i.f0=7 then some (0,1) else if i.f0=135 then some (1,0) else none
def flL:List Int:=[32,40,48,64,72,80,177,60,156]
def rdB (i:S45) (j:Nat):Bool:=
 (decide (j=0)&&decide (i.f0=2∨i.f0=132∨i.f0∈dO∨i.f0∈eZ∨i.f0=7∨jmB i.f0=true∨i.f0=22))
 || (decide (j=1)&&decide (i.f0=64∨i.f0=72∨i.f0=80∨i.f0=3∨i.f0∈eZ∨i.f0=135∨i.f0∈tX))
 || (decide (j=2+i.f3.toNat)&&decide (i.f0=96∨i.f0=97))
theorem lm {M:bg} {i j:Nat} {v:Int} (hi:i<18) (hm:M.m.length=16):wd (setW M i v) j=if i=j then v else wd M j:=by
 match i,j with
 | 0,0=>rfl
 | 0,1=>rfl
 | 0,j+2=>rfl
 | 1,0=>rfl
 | 1,1=>rfl
 | 1,j+2=>show M.m.getD j 0=_;rw [if_neg (by omega)];rfl
 | i+2,0=>rfl
 | i+2,1=>show M.x=_;rw [if_neg (by omega)];rfl
 | i+2,j+2=>
  show (M.m.set i v).getD j 0=_
  rw [dm (by omega)]
  by_cases q:i=j
  · rw [if_pos q,if_pos (by omega)]
  rw [if_neg q,if_neg (by omega)];rfl
theorem u7 {i:S45} (hc:stB i.f0 i.f3=true) (hk:Rg i.f3):wrF i<18:=by
 have:=(fM hc).2.1
 have:=hk.1
 unfold wrF
 split
 · omega
 split
 · have:=this;have:=(fM hc).2.1 (by omega);omega
 omega
def vfF (i:S45) (pk:List Int) (M:bg):Int × Int:=(wd (bH i pk M).1 (wrF i),(bH i pk M).2)
theorem Ay {i:S45} (pk:List Int) (M:bg) (hm:M.m.length=16) (hc:stB i.f0 i.f3=true) (hk:Rg i.f3):(bH i pk M).1=setW M (wrF i) (vfF i pk M).1:=by
 obtain ⟨hmem,h16,h52,h31⟩:=fM hc
 obtain ⟨c,jt,jf,k⟩:=i
 dsimp only at hmem h16 hk
 have al:∀ c,c∈dO∨c∈eZ→(bH ⟨c,jt,jf,k⟩ pk M).1=setW M (wrF ⟨c,jt,jf,k⟩) (vfF ⟨c,jt,jf,k⟩ pk M).1:=by
  intro c h
  have e:wrF ⟨c,jt,jf,k⟩=0:=by
   simp only [dO,eZ,List.mem_cons,List.not_mem_nil,or_false] at h
   rcases h with h | h<;>rcases h with rfl | rfl | rfl | rfl | rfl | rfl | rfl | rfl | rfl | rfl<;>rfl
  unfold vfF
  rw [e,oO c jt jf k h]
  rfl
 simp only [stL,List.mem_cons,List.not_mem_nil,or_false] at hmem
 rcases hmem with rfl | rfl | rfl | rfl | rfl | rfl | rfl | rfl | rfl | rfl | rfl | rfl | rfl | rfl | rfl | rfl | rfl | rfl | hmem
 · rfl
 · rfl
 · rfl
 · rfl
 · rfl
 · rfl
 · rfl
 · rfl
 · rfl
 · rfl
 · rfl
 · rfl
 · rfl
 · have:=h16 (by omega)
   have hix:=jO hk.1 this
   show {M with m:=M.m.set (ix k) M.a}=setW M (2+k.toNat) (wd {M with m:=M.m.set (ix k) M.a} (2+k.toNat))
   rw [hix,Nat.add_comm]
   show {M with m:=M.m.set k.toNat M.a}={M with m:=M.m.set k.toNat ((M.m.set k.toNat M.a).getD k.toNat 0)}
   rw [dm (by omega),if_pos rfl]
 · have:=h16 (by omega)
   have hix:=jO hk.1 this
   show {M with m:=M.m.set (ix k) M.x}=setW M (2+k.toNat) (wd {M with m:=M.m.set (ix k) M.x} (2+k.toNat))
   rw [hix,Nat.add_comm]
   show {M with m:=M.m.set k.toNat M.x}={M with m:=M.m.set k.toNat ((M.m.set k.toNat M.x).getD k.toNat 0)}
   rw [dm (by omega),if_pos rfl]
 · rfl
 · rfl
 · rfl
 refine al c ?_
 simp only [dO,eZ,List.mem_cons,List.not_mem_nil,or_false]
 omega
theorem jb {i:S45} (pk:List Int) (M:bg) (hm:M.m.length=16) (hc:stB i.f0 i.f3=true) (hk:Rg i.f3) {f t:Nat} (h:mvF i=some (f,t)):wrF i=t∧f<18∧t<18∧vfF i pk M=(wd M f,0):=by
 have h16:=(fM hc).2.1
 obtain ⟨c,jt,jf,k⟩:=i
 dsimp only at h16 hk
 have hk0:=hk.1
 unfold mvF at h
 dsimp only at h
 by_cases c1:c=96
 · rw [if_pos c1] at h;subst c1;cases h
   have:=h16 (by omega)
   refine ⟨rfl,by omega,by omega,?_⟩
   show (M.m.getD (ix k) 0,(0:Int))=(wd M (2+k.toNat),0)
   rw [jO hk0 this,Nat.add_comm];rfl
 rw [if_neg c1] at h
 by_cases c2:c=97
 · rw [if_pos c2] at h;subst c2;cases h
   have:=h16 (by omega)
   refine ⟨rfl,by omega,by omega,?_⟩
   show (M.m.getD (ix k) 0,(0:Int))=(wd M (2+k.toNat),0)
   rw [jO hk0 this,Nat.add_comm];rfl
 rw [if_neg c2] at h
 by_cases c3:c=2
 · rw [if_pos c3] at h;subst c3;cases h
   have:=h16 (by omega)
   refine ⟨rfl,by omega,by omega,?_⟩
   show (wd {M with m:=M.m.set (ix k) M.a} (2+k.toNat),(0:Int))=(M.a,0)
   rw [jO hk0 this,Nat.add_comm]
   show ((M.m.set k.toNat M.a).getD k.toNat 0,(0:Int))=_
   rw [dm (by omega),if_pos rfl]
 rw [if_neg c3] at h
 by_cases c4:c=3
 · rw [if_pos c4] at h;subst c4;cases h
   have:=h16 (by omega)
   refine ⟨rfl,by omega,by omega,?_⟩
   show (wd {M with m:=M.m.set (ix k) M.x} (2+k.toNat),(0:Int))=(M.x,0)
   rw [jO hk0 this,Nat.add_comm]
   show ((M.m.set k.toNat M.x).getD k.toNat 0,(0:Int))=_
   rw [dm (by omega),if_pos rfl]
 rw [if_neg c4] at h
 by_cases c5:c=7
 · rw [if_pos c5] at h;subst c5;cases h;exact ⟨rfl,by omega,by omega,rfl⟩
 rw [if_neg c5] at h
 by_cases c6:c=135
 · rw [if_pos c6] at h;subst c6;cases h;exact ⟨rfl,by omega,by omega,rfl⟩
 rw [if_neg c6] at h;cases h
theorem nofault {i:S45} (pk:List Int) (M:bg) (hM:MB M) (hc:stB i.f0 i.f3=true) (hk:Rg i.f3) (h:i.f0 ∉ flL):(bH i pk M).2=0:=by
 obtain ⟨hmem,h16,h52,h31⟩:=fM hc
 obtain ⟨c,jt,jf,k⟩:=i
 dsimp only at hmem h52 hk h
 have h60:c≠60∧c≠156:=by simp only [flL,List.mem_cons,List.not_mem_nil,or_false] at h;omega
 by_cases ha:c∈dO
 · rw [rZ c jt jf k ha];exact tL ha hk.1 h52
 by_cases hx:c∈eZ
 · obtain ⟨e,e1,e2,e3⟩:=stepX c jt jf k hx pk M
   rw [e]
   exact tL e1 hM.x.1 (fun q=>by omega)
 have:c∈([0,96,128,1,97,129,2,3,132,7,135]:List Int):=by
  have H:∀ x∈stL,x∈flL∨x∈dO∨x∈eZ∨x∈([0,96,128,1,97,129,2,3,132,7,135]:List Int):=by decide
  rcases H c hmem with q | q | q | q
  · exact absurd q h
  · exact absurd q ha
  · exact absurd q hx
  exact q
 simp only [List.mem_cons,List.not_mem_nil,or_false] at this
 rcases this with rfl | rfl | rfl | rfl | rfl | rfl | rfl | rfl | rfl | rfl | rfl<;>rfl
theorem vf_rd {i:S45} (pk:List Int) {M N:bg} (hm:M.m.length=16) (hn:N.m.length=16) (hc:stB i.f0 i.f3=true) (hk:Rg i.f3) (h:∀ j,rdB i j=true→wd M j=wd N j):vfF i pk M=vfF i pk N:=by
 obtain ⟨hmem,h16,h52,h31⟩:=fM hc
 have hk0:=hk.1
 obtain ⟨c,jt,jf,k⟩:=i
 dsimp only at hmem h16 hk hk0
 have al:∀ c,c∈dO∨c∈eZ→(∀ j,rdB ⟨c,jt,jf,k⟩ j=true→wd M j=wd N j)→vfF ⟨c,jt,jf,k⟩ pk M=vfF ⟨c,jt,jf,k⟩ pk N:=by
  intro c h hj
  have e:wrF ⟨c,jt,jf,k⟩=0:=by
   simp only [dO,eZ,List.mem_cons,List.not_mem_nil,or_false] at h
   rcases h with h | h<;>rcases h with rfl | rfl | rfl | rfl | rfl | rfl | rfl | rfl | rfl | rfl<;>rfl
  have ha:M.a=N.a:=hj 0 (by
   unfold rdB;dsimp only
   rw [decide_eq_true (rfl:0=0),decide_eq_true (by rcases h with h | h;exact .inr (.inr (.inl h));exact .inr (.inr (.inr (.inl h))))];rfl)
  unfold vfF
  rw [e,oO c jt jf k h,oO c jt jf k h]
  rcases h with h | h
  · have H:∀ x∈dO,byX x=false:=by decide +kernel
    rw [H c h,ha];rfl
  have hx:M.x=N.x:=hj 1 (by
   unfold rdB;dsimp only
   rw [decide_eq_true (rfl:1=1),decide_eq_true (show c=64∨c=72∨c=80∨c=3∨c∈eZ∨c=135∨c∈tX from .inr (.inr (.inr (.inr (.inl h)))))]
   simp)
  rw [ha,hx];rfl
 simp only [stL,List.mem_cons,List.not_mem_nil,or_false] at hmem
 have g0:rdB ⟨c,jt,jf,k⟩ 0=true→M.a=N.a:=h 0
 have g1:rdB ⟨c,jt,jf,k⟩ 1=true→M.x=N.x:=h 1
 rcases hmem with rfl | rfl | rfl | rfl | rfl | rfl | rfl | rfl | rfl | rfl | rfl | rfl | rfl | rfl | rfl | rfl | rfl | rfl | hmem
 · rfl
 · rfl
 · rfl
 · rfl
 · have hx:=g1 rfl
   show ((rdP pk (IntKind.u64.wrap (IntKind.u64.wrap k+IntKind.u64.wrap M.x)) (szP 64)).1,_)=((rdP pk (IntKind.u64.wrap (IntKind.u64.wrap k+IntKind.u64.wrap N.x)) (szP 64)).1,_)
   rw [hx]
   show _=(_,(rdP pk (IntKind.u64.wrap (IntKind.u64.wrap k+IntKind.u64.wrap N.x)) (szP 64)).2)
   rw [←hx];rfl
 · have hx:=g1 rfl
   show ((rdP pk (IntKind.u64.wrap (IntKind.u64.wrap k+IntKind.u64.wrap M.x)) (szP 72)).1,_)=((rdP pk (IntKind.u64.wrap (IntKind.u64.wrap k+IntKind.u64.wrap N.x)) (szP 72)).1,_)
   rw [hx]
   show _=(_,(rdP pk (IntKind.u64.wrap (IntKind.u64.wrap k+IntKind.u64.wrap N.x)) (szP 72)).2)
   rw [←hx];rfl
 · have hx:=g1 rfl
   show ((rdP pk (IntKind.u64.wrap (IntKind.u64.wrap k+IntKind.u64.wrap M.x)) (szP 80)).1,_)=((rdP pk (IntKind.u64.wrap (IntKind.u64.wrap k+IntKind.u64.wrap N.x)) (szP 80)).1,_)
   rw [hx]
   show _=(_,(rdP pk (IntKind.u64.wrap (IntKind.u64.wrap k+IntKind.u64.wrap N.x)) (szP 80)).2)
   rw [←hx];rfl
 · obtain ⟨_,_,_,e⟩:=jb (i:=⟨96,jt,jf,k⟩) (f:=2+k.toNat) (t:=0) pk M hm hc hk rfl
   obtain ⟨_,_,_,e2⟩:=jb (i:=⟨96,jt,jf,k⟩) (f:=2+k.toNat) (t:=0) pk N hn hc hk rfl
   rw [e,e2,h (2+k.toNat) (by unfold rdB;simp)]
 · rfl
 · rfl
 · obtain ⟨_,_,_,e⟩:=jb (i:=⟨97,jt,jf,k⟩) (f:=2+k.toNat) (t:=1) pk M hm hc hk rfl
   obtain ⟨_,_,_,e2⟩:=jb (i:=⟨97,jt,jf,k⟩) (f:=2+k.toNat) (t:=1) pk N hn hc hk rfl
   rw [e,e2,h (2+k.toNat) (by unfold rdB;simp)]
 · rfl
 · rfl
 · obtain ⟨_,_,_,e⟩:=jb (i:=⟨2,jt,jf,k⟩) (f:=0) (t:=2+k.toNat) pk M hm hc hk rfl
   obtain ⟨_,_,_,e2⟩:=jb (i:=⟨2,jt,jf,k⟩) (f:=0) (t:=2+k.toNat) pk N hn hc hk rfl
   rw [e,e2,h 0 (by unfold rdB;simp)]
 · obtain ⟨_,_,_,e⟩:=jb (i:=⟨3,jt,jf,k⟩) (f:=1) (t:=2+k.toNat) pk M hm hc hk rfl
   obtain ⟨_,_,_,e2⟩:=jb (i:=⟨3,jt,jf,k⟩) (f:=1) (t:=2+k.toNat) pk N hn hc hk rfl
   rw [e,e2,h 1 (by unfold rdB;simp)]
 · have:=g0 rfl
   show (IntKind.u32.wrap (-M.a),(0:Int))=(IntKind.u32.wrap (-N.a),0)
   rw [this]
 · have:=g0 rfl
   show (M.a,(0:Int))=(N.a,0)
   rw [this]
 · have:=g1 rfl
   show (M.x,(0:Int))=(N.x,0)
   rw [this]
 refine al c ?_ h
 simp only [dO,eZ,List.mem_cons,List.not_mem_nil,or_false]
 omega
def cpF:List Int→Int→List S45→List S45 × Bool
 | _,_,[]=>([],false)
 | of,nx,i :: r=>
  match mvF i with
  | some (f,t)=>if of.getD t 0≠of.getD f 0 then (i :: (cpF (of.set t (of.getD f 0)) nx r).1,(cpF (of.set t (of.getD f 0)) nx r).2) else ((cpF of nx r).1,true)
  | none=>(i :: (cpF (of.set (wrF i) (nx+1)) (nx+1) r).1,(cpF (of.set (wrF i) (nx+1)) (nx+1) r).2)
def gP:List Int:=[1,2,3,4,5,6,7,8,9,10,11,12,13,14,15,16,17,18]
def fo (b:S47):S47 × Bool:=(⟨(cpF gP 18 b.f0).1,b.f1,b.f2,b.f3,b.f4⟩,(cpF gP 18 b.f0).2)
def iq (g:List S47):List S47 × Bool:=(g.map (fun b=>(fo b).1),g.any (fun b=>(fo b).2))
structure CI (of:List Int) (nx:Int) (M:bg):Prop where
 len:of.length=18
 low:∀ a,a<18→of.getD a 0≤nx
 eq:∀ a b,a<18→b<18→of.getD a 0=of.getD b 0→wd M a=wd M b
theorem ci_0 (M:bg):CI gP 18 M:=by
 have H:∀ a<18,gP.getD a 0≤18∧∀ b<18,gP.getD a 0=gP.getD b 0→a=b:=by decide
 exact ⟨rfl,fun a h=>(H a h).1,fun a b ha hb e=>by rw [(H a ha).2 b hb e]⟩
theorem ci_mv {of:List Int} {nx:Int} {M:bg} (h:CI of nx M) (hm:M.m.length=16) {f t:Nat} (hf:f<18) (ht:t<18):CI (of.set t (of.getD f 0)) nx (setW M t (wd M f)):=by
 have hl:=h.len
 have G:∀ a,(of.set t (of.getD f 0)).getD a 0=if t=a then of.getD f 0 else of.getD a 0:=fun a=>dm (by omega)
 refine ⟨(List.length_set ..).trans hl,fun a ha=>?_,fun a b ha hb e=>?_⟩
 · rw [G];split
   · exact h.low f hf
   exact h.low a ha
 rw [G,G] at e
 rw [lm ht hm,lm ht hm]
 by_cases qa:t=a<;>by_cases qb:t=b
 · rw [if_pos qa,if_pos qb]
 · rw [if_pos qa,if_neg qb] at e ⊢;exact h.eq f b hf hb e
 · rw [if_neg qa,if_pos qb] at e ⊢;exact h.eq a f ha hf e
 rw [if_neg qa,if_neg qb] at e ⊢;exact h.eq a b ha hb e
theorem ci_fr {of:List Int} {nx:Int} {M:bg} (h:CI of nx M) (hm:M.m.length=16) {t:Nat} (ht:t<18) (v:Int):CI (of.set t (nx+1)) (nx+1) (setW M t v):=by
 have hl:=h.len
 have G:∀ a,(of.set t (nx+1)).getD a 0=if t=a then nx+1 else of.getD a 0:=fun a=>dm (by omega)
 refine ⟨(List.length_set ..).trans hl,fun a ha=>?_,fun a b ha hb e=>?_⟩
 · rw [G];split
   · omega
   have:=h.low a ha;omega
 rw [G,G] at e
 rw [lm ht hm,lm ht hm]
 have la:=h.low a ha
 have lb:=h.low b hb
 by_cases qa:t=a<;>by_cases qb:t=b
 · rw [if_pos qa,if_pos qb]
 · rw [if_pos qa,if_neg qb] at e;omega
 · rw [if_neg qa,if_pos qb] at e;omega
 rw [if_neg qa,if_neg qb] at e ⊢;exact h.eq a b ha hb e
theorem setW_wd {M:bg} {t:Nat} {v:Int} (ht:t<18) (hm:M.m.length=16) (h:wd M t=v):setW M t v=M:=by
 match t with
 | 0=>subst h;rfl
 | 1=>subst h;rfl
 | n+2=>
  show ({M with m:=M.m.set n v}:bg)=M
  rw [lV (l:=M.m) (by omega) h]
theorem mq {i:S45} (pk:List Int) (M:bg) (hm:M.m.length=16) (hc:stB i.f0 i.f3=true) (hk:Rg i.f3):bH i pk M=(setW M (wrF i) (vfF i pk M).1,(vfF i pk M).2):=by
 rw [←Ay pk M hm hc hk];rfl
theorem cp_run (pk:List Int):∀ (c:List S45) (of:List Int) (nx:Int) (M:bg),CI of nx M→MB M→fB c=true→(∀ x∈c,Rg x.f3) →
 (bq pk (cpF of nx c).1 M).1=(bq pk c M).1∧(bq pk (cpF of nx c).1 M).2.1=(bq pk c M).2.1∧(bq pk (cpF of nx c).1 M).2.2≤(bq pk c M).2.2:=by
 intro c
 induction c with
 | nil=>intro of nx M _ _ _ _;exact ⟨rfl,rfl,Nat.le_refl _⟩
 | cons i r ih=>
  intro of nx M h hM hc hk
  unfold fB at hc
  rw [List.all_cons,Bool.and_eq_true] at hc
  have hk1:=hk i (List.mem_cons_self ..)
  have hk2:∀ x∈r,Rg x.f3:=fun x hx=>hk x (List.mem_cons_of_mem _ hx)
  have hM1:=jS i pk M hM hk1
  have hp:=mq pk M hM.len hc.1 hk1
  have kept:∀ of1 nx1,((bH i pk M).2=0→CI of1 nx1 (bH i pk M).1)→(bq pk (i :: (cpF of1 nx1 r).1) M).1=(bq pk (i :: r) M).1∧(bq pk (i :: (cpF of1 nx1 r).1) M).2.1=(bq pk (i :: r) M).2.1∧(bq pk (i :: (cpF of1 nx1 r).1) M).2.2≤(bq pk (i :: r) M).2.2:=by
   intro of1 nx1 h1
   unfold bq
   by_cases f0:(bH i pk M).2=0
   · obtain ⟨a,b,d⟩:=ih of1 nx1 (bH i pk M).1 (h1 f0) hM1 hc.2 hk2
     rw [if_pos f0,if_pos f0]
     exact ⟨a,b,Nat.succ_le_succ d⟩
   rw [if_neg f0,if_neg f0];exact ⟨rfl,rfl,Nat.le_refl _⟩
  unfold cpF
  cases e:mvF i with
  | none=>
   dsimp only
   refine kept _ _ (fun f0=>?_)
   rw [hp]
   exact ci_fr h hM.len (u7 hc.1 hk1) _
  | some ft=>
   obtain ⟨f,t⟩:=ft
   obtain ⟨m1,m2,m3,m4⟩:=jb pk M hM.len hc.1 hk1 e
   rw [m4,m1] at hp
   dsimp only
   by_cases q:of.getD t 0≠of.getD f 0
   · rw [if_pos q]
     refine kept _ _ (fun f0=>?_)
     rw [hp]
     exact ci_mv h hM.len m2 m3
   rw [if_neg q]
   have heq:=h.eq t f m3 m2 (by omega)
   rw [setW_wd m3 hM.len heq] at hp
   obtain ⟨a,b,d⟩:=ih of nx M h hM hc.2 hk2
   have:bq pk (i :: r) M=((bq pk r M).1,(bq pk r M).2.1,(bq pk r M).2.2+1):=by
    show (if (bH i pk M).2=0 then _ else _)=_
    rw [hp];exact if_pos rfl
   rw [this]
   exact ⟨a,b,Nat.le_succ_of_le d⟩
theorem l7:∀ (c:List S45) (of:List Int) (nx:Int),List.Sublist (cpF of nx c).1 c∧wC (cpF of nx c).1≤wC c∧((cpF of nx c).2=true→wC (cpF of nx c).1<wC c)∧((cpF of nx c).2=false→(cpF of nx c).1=c):=by
 intro c
 induction c with
 | nil=>intro of nx;exact ⟨List.Sublist.refl _,Nat.le_refl _,(fun h=>by cases h),fun _=>rfl⟩
 | cons i r ih=>
  intro of nx
  have e0:∀ r,wC (i :: r)=wI i+wC r:=fun r=>by unfold wC;rw [List.map_cons,List.sum_cons]
  have hp:=ul i
  have kept:∀ of nx,List.Sublist (i :: (cpF of nx r).1) (i :: r)∧wC (i :: (cpF of nx r).1)≤wC (i :: r)∧((cpF of nx r).2=true→wC (i :: (cpF of nx r).1)<wC (i :: r))∧((cpF of nx r).2=false→i :: (cpF of nx r).1=i :: r):=by
   intro of nx
   obtain ⟨a,b,d,e⟩:=ih of nx
   rw [e0,e0]
   exact ⟨a.cons_cons i,by omega,(fun h=>by have:=d h;omega),fun h=>by rw [e h]⟩
  unfold cpF
  cases e:mvF i with
  | none=>exact kept _ _
  | some ft=>
   obtain ⟨f,t⟩:=ft
   dsimp only
   by_cases q:of.getD t 0≠of.getD f 0
   · rw [if_pos q];exact kept _ _
   rw [if_neg q]
   obtain ⟨a,b,d,e⟩:=ih of nx
   dsimp only
   rw [e0]
   exact ⟨a.cons i,by omega,(fun _=>by omega),fun h=>by cases h⟩
theorem vP {g g':List S47} (hg:GOk g) (pk:List Int) (H:∀ (j:Nat) (b:S47),g[j]?=some b→∃ b',g'[j]?=some b'∧∀ M,MB M→OL (eD pk b M) (eD pk b' M)) :
 ∀ {j:Nat} {M:bg} {v f:Int} {t:Nat},Rn g pk j M v f t→MB M→∃ t',t'≤t∧Rn g' pk j M v f t':=by
 intro j M v f t hr
 induction hr with
 | @fin j M b v f s hb e=>
  intro hM
  obtain ⟨b',hb',ho⟩:=H j b hb
  have o1:=ho M hM
  rw [e] at o1
  generalize e':eD pk b' M=o' at o1
  cases o1 with
  | fin hle=>exact ⟨_,hle,.fin hb' e'⟩
 | @go j M b j1 M1 s1 v f t1 hb e _ ih=>
  intro hM
  obtain ⟨b',hb',ho⟩:=H j b hb
  have o1:=ho M hM
  obtain ⟨_,q1,_⟩:=jE (hg.all j b hb) (by omega) e
  rw [e] at o1
  generalize e':eD pk b' M=o' at o1
  cases o1 with
  | @go _ _ _ s1' hle=>
   obtain ⟨t',ht',hr'⟩:=ih (by rw [q1];exact lM pk _ M hM (hg.all j b hb).rg)
   exact ⟨s1'+t',by omega,.go hb' e' hr'⟩
theorem uU {b:S47} {i n:Int} (h:BOk b i n) {c:List S45} (hs:List.Sublist c b.f0):BOk ⟨c,b.f1,b.f2,b.f3,b.f4⟩ i n:=by
 refine ⟨?_,h.ends,h.goal,fun x hx=>h.rg x (hs.subset hx),h.rl⟩
 unfold fB
 rw [List.all_eq_true]
 intro x hx
 have:=h.code
 unfold fB at this
 rw [List.all_eq_true] at this
 exact this x (hs.subset hx)
theorem mr {α:Type} (f h:α→Nat):∀ (l:List α),(∀ x∈l,f x≤h x)→(l.map f).sum≤(l.map h).sum:=by
 intro l
 induction l with
 | nil=>intro _;exact Nat.le_refl _
 | cons a r ih=>
  intro H
  simp only [List.map_cons,List.sum_cons]
  have:=H a (List.mem_cons_self ..)
  have:=ih (fun x hx=>H x (List.mem_cons_of_mem _ hx))
  omega
theorem sum_lt {α:Type} (f h:α→Nat):∀ (l:List α),(∀ x∈l,f x≤h x)→(∃ x∈l,f x<h x)→(l.map f).sum<(l.map h).sum:=by
 intro l
 induction l with
 | nil=>rintro _ ⟨x,hx,_⟩;cases hx
 | cons a r ih=>
  rintro H ⟨x,hx,hlt⟩
  simp only [List.map_cons,List.sum_cons]
  have h1:=H a (List.mem_cons_self ..)
  have h2:=mr f h r (fun x hx=>H x (List.mem_cons_of_mem _ hx))
  rcases List.mem_cons.1 hx with rfl | hx
  · omega
  have:=ih (fun x hx=>H x (List.mem_cons_of_mem _ hx)) ⟨x,hx,hlt⟩
  omega
theorem jo {g:List S47} (hg:GOk g):iM g (iq g).1 (iq g).2:=by
 have hlen:(iq g).1.length=g.length:=List.length_map ..
 have hget:∀ (j:Nat) (b:S47),g[j]?=some b→(iq g).1[j]?=some (fo b).1:=fun j b h=>by
  show (g.map _)[j]?=_
  rw [List.getElem?_map,h];rfl
 have hmap:∀ {β:Type} (f:S47→β),(iq g).1.map f=g.map (fun b=>f (fo b).1):=fun f=>by
  show (g.map _).map f=_
  rw [List.map_map];rfl
 have hm:∀ b∈g,∃ j,g[j]?=some b:=fun b h=>List.getElem?_of_mem h
 have ph1:∀ b,phB g.length (fo b).1≤phB g.length b:=fun b=>by
  have:=(l7 b.f0 gP 18).2.1
  show 1+wC (cpF gP 18 b.f0).1+wE _ b≤1+wC b.f0+wE _ b
  omega
 have ln1:∀ b,(fo b).1.f0.length≤b.f0.length:=fun b=>(l7 b.f0 gP 18).1.length_le
 refine ⟨⟨by rw [hlen];exact hg.some_,by rw [hlen];exact hg.few,fun j b' h=>?_,?_⟩,?_,?_,?_,?_,?_⟩
 · rw [hlen]
   have h':g[j]?.map (fun b=>(fo b).1)=some b':=by rw [←List.getElem?_map];exact h
   cases hb:g[j]? with
   | none=>rw [hb] at h';cases h'
   | some b=>
    rw [hb] at h'
    obtain rfl:=Option.some.inj h'
    exact uU (hg.all j b hb) (l7 b.f0 gP 18).1
 · rw [hmap]
   exact Nat.le_trans (mr _ _ g (fun b _=>ln1 b)) hg.sum
 · intro pk v f t hr
   refine vP hg pk (fun j b hb=>⟨_,hget j b hb,fun M hM=>?_⟩) hr MB_z
   have hok:=hg.all j b hb
   obtain ⟨a,c,d⟩:=cp_run pk b.f0 gP 18 M (ci_0 M) hM hok.code hok.rg
   unfold eD
   show OL _ (if (bq pk (cpF gP 18 b.f0).1 M).2.1=0 then eP (fo b).1 (bq pk (cpF gP 18 b.f0).1 M).1 (bq pk (cpF gP 18 b.f0).1 M).2.2 else .fin 0 (bq pk (cpF gP 18 b.f0).1 M).2.1 (bq pk (cpF gP 18 b.f0).1 M).2.2)
   rw [c,a]
   by_cases h0:(bq pk b.f0 M).2.1=0
   · rw [if_pos h0,if_pos h0]
     unfold eP
     show OL _ (if b.f1=1 then _ else if b.f1=2 then _ else _)
     by_cases e1:b.f1=1
     · rw [if_pos e1,if_pos e1];exact .fin (Nat.succ_le_succ d)
     rw [if_neg e1,if_neg e1]
     by_cases e2:b.f1=2
     · rw [if_pos e2,if_pos e2];exact .go d
     rw [if_neg e2,if_neg e2];exact .go (Nat.succ_le_succ d)
   rw [if_neg h0,if_neg h0];exact .fin d
 · unfold msG;rw [hmap]
   refine mr _ _ g (fun b _=>?_)
   have:=ln1 b
   show (fo b).1.f0.length+1+(if b.f1=3 then 2 else 0)≤b.f0.length+1+(if b.f1=3 then 2 else 0)
   omega
 · unfold phG;rw [hmap,hlen]
   exact mr _ _ g (fun b _=>ph1 b)
 · intro h
   unfold phG;rw [hmap,hlen]
   refine sum_lt _ _ g (fun b _=>ph1 b) ?_
   obtain ⟨b,hb,hf⟩:=List.any_eq_true.1 (show g.any (fun b=>(fo b).2)=true from h)
   refine ⟨b,hb,?_⟩
   have:=(l7 b.f0 gP 18).2.2.1 hf
   show 1+wC (cpF gP 18 b.f0).1+wE _ b<1+wC b.f0+wE _ b
   omega
 intro h
 have h2:g.any (fun b=>(fo b).2)=false:=h
 rw [List.any_eq_false] at h2
 show g.map (fun b=>(fo b).1)=g
 have:g.map (fun b=>(fo b).1)=g.map id:=List.map_congr_left (fun b hb=>by
  have hf:(cpF gP 18 b.f0).2=false:=by simpa [fo] using h2 b hb
  show (⟨(cpF gP 18 b.f0).1,b.f1,b.f2,b.f3,b.f4⟩:S47)=b
  rw [(l7 b.f0 gP 18).2.2.2 hf])
 rw [this,List.map_id]
abbrev Lw:=List Bool
def inW (l:Lw) (j:Nat):Bool:=l.getD j false
def rdF (l:Lw) (i:S45):Lw:=(List.range 18).map (fun j=>inW l j||rdB i j)
def noW:Lw:=List.replicate 18 false
def bkF (l:Lw):List S45→List S45 × Lw × Bool
 | []=>([],l,false)
 | i :: r=>
  if inW (bkF l r).2.1 (wrF i)=false∧i.f0 ∉ flL then ((bkF l r).1,(bkF l r).2.1,true)
  else (i :: (bkF l r).1,rdF ((bkF l r).2.1.set (wrF i) false) i,(bkF l r).2.2)
def lvF (b:S47) (y n:Lw):Lw:=
 if b.f1=1 then rdF noW b.f2 else if b.f1=2 then y else rdF ((List.range 18).map (fun j=>inW y j||inW n j)) b.f2
def ddL:List S47→Nat→List S47 × List Lw × Bool
 | [],_=>([],[],false)
 | b :: r,n=>
  let q:=ddL r (n+1)
  let l:=lvF b (q.2.1.getD (b.f3.toNat - (n+1)) noW) (q.2.1.getD (b.f4.toNat - (n+1)) noW)
  (⟨(bkF l b.f0).1,b.f1,b.f2,b.f3,b.f4⟩ :: q.1,(bkF l b.f0).2.1 :: q.2.1,(bkF l b.f0).2.2||q.2.2)
def iZ (g:List S47):List S47 × Bool:=((ddL g 0).1,(ddL g 0).2.2)
theorem ib (f:Nat→Bool) (j:Nat):inW ((List.range 18).map f) j=(decide (j<18)&&f j):=by
 unfold inW
 rw [List.getD_eq_getElem?_getD,List.getElem?_map]
 by_cases h:j<18
 · rw [List.getElem?_range h,decide_eq_true h];rfl
 rw [List.getElem?_eq_none (by rw [List.length_range];omega),decide_eq_false h];rfl
theorem rd_lt {i:S45} (hc:stB i.f0 i.f3=true) (hk:Rg i.f3) {j:Nat} (h:rdB i j=true):j<18:=by
 have h16:=(fM hc).2.1
 have:=hk.1
 unfold rdB at h
 simp only [Bool.or_eq_true,Bool.and_eq_true,decide_eq_true_eq] at h
 rcases h with (⟨rfl,_⟩ | ⟨rfl,_⟩) | ⟨rfl,e⟩
 · omega
 · omega
 have:=h16 (by omega);omega
def Agr (l:Lw) (M N:bg):Prop:=∀ j,j<18→inW l j=true→wd M j=wd N j
theorem sF (l:Lw) (hl:l.length=18):∀ c,(bkF l c).2.1.length=18:=by
 intro c
 induction c with
 | nil=>exact hl
 | cons i r ih=>
  unfold bkF
  split
  · exact ih
  show (rdF _ i).length=18
  unfold rdF;rw [List.length_map,List.length_range]
theorem qg (l:Lw):∀ c,List.Sublist (bkF l c).1 c∧wC (bkF l c).1≤wC c∧((bkF l c).2.2=true→wC (bkF l c).1<wC c)∧((bkF l c).2.2=false→(bkF l c).1=c):=by
 intro c
 induction c with
 | nil=>exact ⟨List.Sublist.refl _,Nat.le_refl _,(fun h=>by cases h),fun _=>rfl⟩
 | cons i r ih=>
  obtain ⟨a,b,d,e⟩:=ih
  have e0:∀ r,wC (i :: r)=wI i+wC r:=fun r=>by unfold wC;rw [List.map_cons,List.sum_cons]
  have hp:=ul i
  unfold bkF
  split
  · dsimp only;rw [e0];exact ⟨a.cons i,by omega,(fun _=>by omega),fun h=>by cases h⟩
  dsimp only;rw [e0,e0];exact ⟨a.cons_cons i,by omega,(fun h=>by have:=d h;omega),fun h=>by rw [e h]⟩
theorem xE (pk:List Int) (l:Lw) (hl:l.length=18):∀ (c:List S45) (M N:bg),MB M→MB N→fB c=true→(∀ x∈c,Rg x.f3)→Agr (bkF l c).2.1 M N →
 (bq pk (bkF l c).1 N).2.1=(bq pk c M).2.1∧(bq pk (bkF l c).1 N).2.2≤(bq pk c M).2.2∧((bq pk c M).2.1=0→Agr l (bq pk c M).1 (bq pk (bkF l c).1 N).1):=by
 intro c
 induction c with
 | nil=>intro M N _ _ _ _ h;exact ⟨rfl,Nat.le_refl _,fun _=>h⟩
 | cons i r ih=>
  intro M N hM hN hc hk h
  unfold fB at hc
  rw [List.all_cons,Bool.and_eq_true] at hc
  have hk1:=hk i (List.mem_cons_self ..)
  have hk2:∀ x∈r,Rg x.f3:=fun x hx=>hk x (List.mem_cons_of_mem _ hx)
  have hM1:=jS i pk M hM hk1
  have hN1:=jS i pk N hN hk1
  have hpM:=mq pk M hM.len hc.1 hk1
  have hpN:=mq pk N hN.len hc.1 hk1
  have hw:=u7 hc.1 hk1
  have hlr:=sF l hl r
  unfold bkF at h ⊢
  by_cases q:inW (bkF l r).2.1 (wrF i)=false∧i.f0 ∉ flL
  · rw [if_pos q] at h ⊢
    have f0:=nofault pk M hM hc.1 hk1 q.2
    have ag:Agr (bkF l r).2.1 (bH i pk M).1 N:=by
     intro j hj hin
     rw [hpM]
     show wd (setW M (wrF i) _) j=_
     rw [lm hw hM.len,if_neg (by rintro rfl;rw [q.1] at hin;cases hin)]
     exact h j hj hin
    obtain ⟨a,b,d⟩:=ih (bH i pk M).1 N hM1 hN hc.2 hk2 ag
    have:bq pk (i :: r) M=((bq pk r (bH i pk M).1).1,(bq pk r (bH i pk M).1).2.1,(bq pk r (bH i pk M).1).2.2+1):=if_pos f0
    rw [this]
    exact ⟨a,Nat.le_succ_of_le b,d⟩
  rw [if_neg q] at h ⊢
  have hv:vfF i pk M=vfF i pk N:=vf_rd pk hM.len hN.len hc.1 hk1 (fun j hj=>by
   have hlt:=rd_lt hc.1 hk1 hj
   refine h j hlt ?_
   show inW (rdF _ i) j=true
   unfold rdF
   rw [ib,decide_eq_true hlt,hj,Bool.or_true];rfl)
  have hf:(bH i pk N).2=(bH i pk M).2:=by rw [hpM,hpN,hv]
  have ag:Agr (bkF l r).2.1 (bH i pk M).1 (bH i pk N).1:=by
   intro j hj hin
   rw [hpM,hpN]
   show wd (setW M (wrF i) _) j=wd (setW N (wrF i) _) j
   rw [lm hw hM.len,lm hw hN.len,hv]
   by_cases e:wrF i=j
   · rw [if_pos e,if_pos e]
   rw [if_neg e,if_neg e]
   refine h j hj ?_
   show inW (rdF _ i) j=true
   unfold rdF
   rw [ib,decide_eq_true hj]
   have:inW ((bkF l r).2.1.set (wrF i) false) j=true:=by
    unfold inW
    rw [dm (by omega),if_neg e]
    exact hin
   rw [this];rfl
  obtain ⟨a,b,d⟩:=ih (bH i pk M).1 (bH i pk N).1 hM1 hN1 hc.2 hk2 ag
  show (bq pk (i :: (bkF l r).1) N).2.1=_∧(bq pk (i :: (bkF l r).1) N).2.2≤_∧(_→Agr l _ (bq pk (i :: (bkF l r).1) N).1)
  unfold bq
  rw [hf]
  by_cases f0:(bH i pk M).2=0
  · rw [if_pos f0,if_pos f0];exact ⟨a,Nat.succ_le_succ b,d⟩
  rw [if_neg f0,if_neg f0];exact ⟨rfl,Nat.le_refl _,fun h=>absurd h f0⟩
theorem zw {b:S47} {i n:Int} (h:BOk b i n) (y z:Lw) {M N:bg} (ha:Agr (lvF b y z) M N) (k k':Nat) (hk:k'≤k) :
 (∃ v s s',eP b M k = .fin v 0 s∧eP b N k' = .fin v 0 s'∧s'≤s)∨(∃ j s s',eP b M k = .go j M s∧eP b N k' = .go j N s'∧s'≤s∧((j=b.f3.toNat∧b.f1≠1∧Agr y M N)∨(j=b.f4.toNat∧b.f1=3∧Agr z M N))):=by
 rcases eB h.ends with ⟨h1,h2,h3,h4,h5⟩ | ⟨h1,h2,h3⟩ | ⟨h1,h2,h3⟩
 · left
   unfold eP
   rw [if_pos h1,if_pos h1]
   unfold lvF at ha
   rw [if_pos h1] at ha
   by_cases e:b.f2.f0=6
   · rw [if_pos e,if_pos e];exact ⟨_,_,_,rfl,rfl,Nat.succ_le_succ hk⟩
   rw [if_neg e,if_neg e]
   have e22:b.f2.f0=22:=by
    have:b.f2.f0=6∨b.f2.f0=22:=of_decide_eq_true h2
    omega
   have:M.a=N.a:=ha 0 (by omega) (by
    unfold rdF
    rw [ib]
    have:rdB b.f2 0=true:=by
     unfold rdB
     rw [decide_eq_true (rfl:0=0),decide_eq_true (show b.f2.f0=2∨b.f2.f0=132∨b.f2.f0∈dO∨b.f2.f0∈eZ∨b.f2.f0=7∨jmB b.f2.f0=true∨b.f2.f0=22 from .inr (.inr (.inr (.inr (.inr (.inr e22))))))];rfl
    rw [this,Bool.or_true];rfl)
   rw [this]
   exact ⟨_,_,_,rfl,rfl,Nat.succ_le_succ hk⟩
 · right
   unfold eP
   unfold lvF at ha
   rw [if_neg (by omega),if_pos h1] at ha
   rw [if_neg (by omega),if_pos h1,if_neg (by omega),if_pos h1]
   exact ⟨_,_,_,rfl,rfl,hk,.inl ⟨rfl,by omega,ha⟩⟩
 right
 unfold lvF at ha
 rw [if_neg (by omega),if_neg (by omega)] at ha
 have E:∀ M k,eP b M k = .go (if hoP b.f2 M.a M.x=true then b.f3.toNat else b.f4.toNat) M (k+1):=fun M k=>by
  unfold eP;rw [if_neg (by omega),if_neg (by omega)]
 rw [E,E]
 have hr:∀ j,j<18→rdB b.f2 j=true→wd M j=wd N j:=fun j hj hr=>ha j hj (by
  unfold rdF
  rw [ib,hr,decide_eq_true hj,Bool.or_true];rfl)
 have ho:hoP b.f2 M.a M.x=hoP b.f2 N.a N.x:=by
  have h0:M.a=N.a:=hr 0 (by omega) (by
   unfold rdB
   rw [decide_eq_true (rfl:0=0),decide_eq_true (show b.f2.f0=2∨b.f2.f0=132∨b.f2.f0∈dO∨b.f2.f0∈eZ∨b.f2.f0=7∨jmB b.f2.f0=true∨b.f2.f0=22 from .inr (.inr (.inr (.inr (.inr (.inl h2))))))];rfl)
  by_cases hx:b.f2.f0∈tX
  · have h1:M.x=N.x:=hr 1 (by omega) (by
     unfold rdB
     rw [decide_eq_true (rfl:1=1),decide_eq_true (show b.f2.f0=64∨b.f2.f0=72∨b.f2.f0=80∨b.f2.f0=3∨b.f2.f0∈eZ∨b.f2.f0=135∨b.f2.f0∈tX from .inr (.inr (.inr (.inr (.inr (.inr hx))))))]
     simp)
    rw [h0,h1]
  have e1:=rA b.f2.f0 b.f2.f1 b.f2.f2 b.f2.f3 M.a M.x h2 hx
  have e2:=rA b.f2.f0 b.f2.f1 b.f2.f2 b.f2.f3 N.a N.x h2 hx
  have e1':hoP b.f2 M.a M.x=hoK b.f2.f0 M.a b.f2.f3:=e1
  have e2':hoP b.f2 N.a N.x=hoK b.f2.f0 N.a b.f2.f3:=e2
  rw [e1',e2',h0]
 rw [ho]
 refine ⟨_,_,_,rfl,rfl,Nat.succ_le_succ hk,?_⟩
 have hy:Agr y M N:=fun j hj hin=>ha j hj (by
  unfold rdF
  rw [ib,ib,hin,decide_eq_true hj];rfl)
 have hz:Agr z M N:=fun j hj hin=>ha j hj (by
  unfold rdF
  rw [ib,ib,hin,decide_eq_true hj];simp)
 by_cases q:hoP b.f2 N.a N.x=true
 · rw [if_pos q];exact .inl ⟨rfl,by omega,hy⟩
 rw [if_neg q];exact .inr ⟨rfl,h1,hz⟩
theorem tq (b:S47) {y z:Lw} (hy:y.length=18):(lvF b y z).length=18:=by
 unfold lvF
 split
 · unfold rdF;rw [List.length_map,List.length_range]
 split
 · exact hy
 unfold rdF;rw [List.length_map,List.length_range]
theorem xM:∀ (l:List S47) (n:Nat),(ddL l n).1.length=l.length∧(ddL l n).2.1.length=l.length:=by
 intro l
 induction l with
 | nil=>intro n;exact ⟨rfl,rfl⟩
 | cons b r ih=>
  intro n
  unfold ddL
  obtain ⟨a,c⟩:=ih (n+1)
  exact ⟨by show _+1=_+1;rw [a],by show _+1=_+1;rw [c]⟩
structure DdAt (lv:List Lw) (b b':S47) (l:Lw):Prop where
 blk:b'=⟨(bkF (lvF b (lv.getD b.f3.toNat noW) (lv.getD b.f4.toNat noW)) b.f0).1,b.f1,b.f2,b.f3,b.f4⟩
 set:l=(bkF (lvF b (lv.getD b.f3.toNat noW) (lv.getD b.f4.toNat noW)) b.f0).2.1
theorem xK:∀ (l:List S47) (n:Nat),∀ x∈(ddL l n).2.1,x.length=18:=by
 intro l
 induction l with
 | nil=>intro n x hx;cases hx
 | cons b r ih=>
  intro n x hx
  unfold ddL at hx
  rcases List.mem_cons.1 hx with rfl | hx
  · refine sF _ (tq b ?_) _
    rw [List.getD_eq_getElem?_getD]
    cases e:(ddL r (n+1)).2.1[b.f3.toNat - (n+1)]? with
    | none=>rfl
    | some u=>exact ih (n+1) u (List.mem_of_getElem? e)
  exact ih (n+1) x hx
theorem xL (L:Nat) (lv:List Lw):∀ (l:List S47) (n:Nat),(∀ (j:Nat) (b:S47),l[j]?=some b→BOk b ((n+j:Nat):Int) L)→(∀ j,n≤j→lv.getD j noW=(ddL l n).2.1.getD (j - n) noW) →
 ∀ (j:Nat) (b:S47),l[j]?=some b→∃ b',(ddL l n).1[j]?=some b'∧DdAt lv b b' ((ddL l n).2.1.getD j noW):=by
 intro l
 induction l with
 | nil=>intro n _ _ j b h;simp at h
 | cons b0 r ih=>
  intro n hb hlv j b h
  have hr:∀ (j:Nat) (b:S47),r[j]?=some b→BOk b ((n+1+j:Nat):Int) L:=fun j c hc=>by
   have:=hb (j+1) c hc
   rw [show n+1+j=n+(j+1) by omega];exact this
  have hlv1:∀ j,n+1≤j→lv.getD j noW=(ddL r (n+1)).2.1.getD (j - (n+1)) noW:=by
   intro j hj
   rw [hlv j (by omega),show j - n=(j - (n+1))+1 by omega]
   rfl
  cases j with
  | zero=>
   cases h
   have hok:BOk b0 ((n:Nat):Int) L:=hb 0 b0 rfl
   have key:lvF b0 ((ddL r (n+1)).2.1.getD (b0.f3.toNat - (n+1)) noW) ((ddL r (n+1)).2.1.getD (b0.f4.toNat - (n+1)) noW)=lvF b0 (lv.getD b0.f3.toNat noW) (lv.getD b0.f4.toNat noW):=by
    unfold lvF
    by_cases e1:b0.f1=1
    · rw [if_pos e1,if_pos e1]
    rw [if_neg e1,if_neg e1]
    have hy:=bE hok.goal e1
    by_cases e2:b0.f1=2
    · rw [if_pos e2,if_pos e2,hlv1 _ (by omega)]
    rw [if_neg e2,if_neg e2]
    have e3:b0.f1=3:=by rcases eB hok.ends with ⟨h,_⟩ | ⟨h,_⟩ | ⟨h,_⟩<;>omega
    have hn:=dw hok.goal e3
    rw [hlv1 _ (by omega),hlv1 _ (by omega)]
   refine ⟨_,rfl,⟨?_,?_⟩⟩
   · rw [←key]
   rw [←key];rfl
  | succ j=>exact ih (n+1) hr hlv1 j b h
theorem uM (b:S47) (c:List S45) (M:bg) (k:Nat):eP ⟨c,b.f1,b.f2,b.f3,b.f4⟩ M k=eP b M k:=rfl
theorem dd_run {g:List S47} (hg:GOk g) (pk:List Int):∀ {j:Nat} {M:bg} {v f:Int} {t:Nat},Rn g pk j M v f t→∀ N,MB M→MB N→Agr ((ddL g 0).2.1.getD j noW) M N→∃ t',t'≤t∧Rn (iZ g).1 pk j N v f t':=by
 have H:=xL g.length (ddL g 0).2.1 g 0 (fun j b h=>by rw [Nat.zero_add];exact hg.all j b h) (fun j _=>rfl)
 have hset:∀ j,((ddL g 0).2.1.getD j noW).length=18:=fun j=>by
  rw [List.getD_eq_getElem?_getD]
  cases e:(ddL g 0).2.1[j]? with
  | none=>rfl
  | some u=>exact xK g 0 u (List.mem_of_getElem? e)
 intro j M v f t hr
 induction hr with
 | @fin j M b v f s hb e=>
  intro N hM hN ha
  obtain ⟨b',hb',hd⟩:=H j b hb
  have hok:=hg.all j b hb
  rw [hd.set] at ha
  obtain ⟨r1,r2,r3⟩:=xE pk _ (tq b (hset _)) b.f0 M N hM hN hok.code hok.rg ha
  have e':eD pk b' N=if (bq pk b'.f0 N).2.1=0 then eP b' (bq pk b'.f0 N).1 (bq pk b'.f0 N).2.2 else .fin 0 (bq pk b'.f0 N).2.1 (bq pk b'.f0 N).2.2:=rfl
  rw [hd.blk] at e'
  rw [r1,uM] at e'
  unfold eD at e
  by_cases h0:(bq pk b.f0 M).2.1=0
  · rw [if_pos h0] at e e'
    rcases zw hok _ _ (r3 h0) _ _ r2 with ⟨v1,s1,s2,x1,x2,x3⟩ | ⟨j1,s1,s2,x1,_⟩
    · rw [x1] at e
      injection e with a1 a2 a3
      subst a1 a2 a3
      refine ⟨s2,x3,.fin hb' ?_⟩
      rw [hd.blk];rw [x2] at e';exact e'
    rw [x1] at e;cases e
  rw [if_neg h0] at e e'
  injection e with a1 a2 a3
  subst a1 a2 a3
  refine ⟨_,r2,.fin hb' ?_⟩
  rw [hd.blk];exact e'
 | @go j M b j1 M1 s1 v f t1 hb e _ ih=>
  intro N hM hN ha
  obtain ⟨b',hb',hd⟩:=H j b hb
  have hok:=hg.all j b hb
  rw [hd.set] at ha
  obtain ⟨r1,r2,r3⟩:=xE pk _ (tq b (hset _)) b.f0 M N hM hN hok.code hok.rg ha
  have e':eD pk b' N=if (bq pk b'.f0 N).2.1=0 then eP b' (bq pk b'.f0 N).1 (bq pk b'.f0 N).2.2 else .fin 0 (bq pk b'.f0 N).2.1 (bq pk b'.f0 N).2.2:=rfl
  rw [hd.blk] at e'
  rw [r1,uM] at e'
  obtain ⟨h0,q1,_⟩:=jE hok (by omega) e
  unfold eD at e
  rw [if_pos h0] at e e'
  rcases zw hok _ _ (r3 h0) _ _ r2 with ⟨v1,s2,s3,x1,_⟩ | ⟨j2,s2,s3,x1,x2,x3,x4⟩
  · rw [x1] at e;cases e
  rw [x1] at e
  injection e with a1 a2 a3
  subst a1 a3
  have hsub:∀ x∈(bkF (lvF b ((ddL g 0).2.1.getD b.f3.toNat noW) ((ddL g 0).2.1.getD b.f4.toNat noW)) b.f0).1,Rg x.f3:=fun x hx=>hok.rg x ((qg _ b.f0).1.subset hx)
  have ag:Agr ((ddL g 0).2.1.getD j2 noW) M1 (bq pk (bkF (lvF b ((ddL g 0).2.1.getD b.f3.toNat noW) ((ddL g 0).2.1.getD b.f4.toNat noW)) b.f0).1 N).1:=by
   rw [q1]
   rcases x4 with ⟨rfl,_,x4⟩ | ⟨rfl,_,x4⟩<;>exact x4
  obtain ⟨t',ht',hr'⟩:=ih _ (by rw [q1];exact lM pk _ M hM hok.rg) (lM pk _ N hN hsub) ag
  refine ⟨s3+t',by omega,.go hb' ?_ hr'⟩
  rw [hd.blk];rw [x2] at e';exact e'
theorem dd_w (L:Int):∀ (l:List S47) (n:Nat),((ddL l n).1.map (phB L)).sum≤(l.map (phB L)).sum∧((ddL l n).2.2=true→((ddL l n).1.map (phB L)).sum<(l.map (phB L)).sum)∧((ddL l n).2.2=false→(ddL l n).1=l)
 ∧ ((ddL l n).1.map msB).sum≤(l.map msB).sum∧((ddL l n).1.map szB).sum≤(l.map szB).sum∧((ddL l n).1.map (fun b=>b.f0.length)).sum≤(l.map (fun b=>b.f0.length)).sum:=by
 intro l
 induction l with
 | nil=>intro n;exact ⟨Nat.le_refl _,(fun h=>by cases h),(fun _=>rfl),Nat.le_refl _,Nat.le_refl _,Nat.le_refl _⟩
 | cons b r ih=>
  intro n
  obtain ⟨i1,i2,i3,i4,i5,i6⟩:=ih (n+1)
  unfold ddL
  dsimp only
  generalize lvF b _ _=l0
  obtain ⟨a,c,d,e⟩:=qg l0 b.f0
  have hl:=a.length_le
  simp only [List.map_cons,List.sum_cons]
  have p1:phB L ⟨(bkF l0 b.f0).1,b.f1,b.f2,b.f3,b.f4⟩=1+wC (bkF l0 b.f0).1+wE L b:=rfl
  have p2:phB L b=1+wC b.f0+wE L b:=rfl
  have p3:msB ⟨(bkF l0 b.f0).1,b.f1,b.f2,b.f3,b.f4⟩=(bkF l0 b.f0).1.length+1+(if b.f1=3 then 2 else 0):=rfl
  have p4:msB b=b.f0.length+1+(if b.f1=3 then 2 else 0):=rfl
  have p5:szB ⟨(bkF l0 b.f0).1,b.f1,b.f2,b.f3,b.f4⟩=(bkF l0 b.f0).1.length+(if b.f1=2 then 0 else 1):=rfl
  have p6:szB b=b.f0.length+(if b.f1=2 then 0 else 1):=rfl
  rw [p1,p2,p3,p4,p5,p6]
  refine ⟨by omega,fun h=>?_,fun h=>?_,by omega,by omega,by omega⟩
  · rcases Bool.or_eq_true_iff.1 h with h | h
    · have:=d h;omega
    have:=i2 h;omega
  rw [Bool.or_eq_false_iff] at h
  rw [e h.1,i3 h.2]
theorem jq {g:List S47} (hg:GOk g):iM g (iZ g).1 (iZ g).2:=by
 have hlen:(iZ g).1.length=g.length:=(xM g 0).1
 obtain ⟨i1,i2,i3,i4,i5,i6⟩:=dd_w g.length g 0
 have H:=xL g.length (ddL g 0).2.1 g 0 (fun j b h=>by rw [Nat.zero_add];exact hg.all j b h) (fun j _=>rfl)
 refine ⟨⟨by rw [hlen];exact hg.some_,by rw [hlen];exact hg.few,fun j b' h=>?_,Nat.le_trans i6 hg.sum⟩,?_,i4,?_,?_,i3⟩
 · rw [hlen]
   have hj:j<g.length:=by rw [←hlen];exact (List.getElem?_eq_some_iff.1 h).1
   obtain ⟨b,hb,hok⟩:=hg.at_ hj
   obtain ⟨b2,hb2,hd⟩:=H j b hb
   have:some b2=some b':=hb2.symm.trans h
   cases this
   rw [hd.blk]
   exact uU hok (qg _ b.f0).1
 · intro pk v f t hr
   exact dd_run hg pk hr z16 MB_z MB_z (fun _ _ _=>rfl)
 · unfold phG;rw [hlen];exact i1
 intro h;unfold phG;rw [hlen];exact i2 h
def fw (b:S47):Bool:=decide (b.f1=2)&&decide (b.f0.length=0)
def onF (g:List S47):Nat→Nat→Nat
 | 0,j=>j
 | k+1,j=>match g[j]? with
  | some b=>if fw b=true then onF g k b.f3.toNat else j
  | none=>j
def onG (g:List S47) (j:Nat):Nat:=onF g g.length j
def goB (g:List S47) (b:S47):S47 × Bool:=
 if b.f1=1 then (b,false)
 else if b.f1=2 then (⟨b.f0,b.f1,b.f2,(onG g b.f3.toNat:Int),b.f4⟩,decide ((onG g b.f3.toNat:Int)≠b.f3))
 else if onG g b.f3.toNat=onG g b.f4.toNat then (⟨b.f0,2,⟨0,0,0,0⟩,(onG g b.f3.toNat:Int),0⟩,true)
 else (⟨b.f0,b.f1,b.f2,(onG g b.f3.toNat:Int),(onG g b.f4.toNat:Int)⟩,decide ((onG g b.f3.toNat:Int)≠b.f3)||decide ((onG g b.f4.toNat:Int)≠b.f4))
def gJ (g:List S47):List S47 × Bool:=(g.map (fun b=>(goB g b).1),g.any (fun b=>(goB g b).2))
theorem iY {b:S47}:fw b=true↔b.f1=2∧b.f0=[]:=by
 unfold fw
 rw [Bool.and_eq_true,decide_eq_true_eq,decide_eq_true_eq,List.length_eq_zero_iff]
theorem lC {pk:List Int} {b:S47} {M:bg} (h:fw b=true):eD pk b M = .go b.f3.toNat M 0:=by
 obtain ⟨h1,h2⟩:=iY.1 h
 unfold eD
 rw [h2]
 show eP b M 0=_
 unfold eP
 rw [if_neg (by omega),if_pos h1]
theorem mM {g:List S47} (hg:GOk g):∀ (k j:Nat),j<g.length→j≤onF g k j∧onF g k j<g.length:=by
 intro k
 induction k with
 | zero=>intro j hj;exact ⟨Nat.le_refl _,hj⟩
 | succ k ih=>
  intro j hj
  obtain ⟨b,hb,hok⟩:=hg.at_ hj
  unfold onF
  rw [hb]
  dsimp only
  by_cases q:fw b=true
  · rw [if_pos q]
    have:=bE hok.goal (by have:=(iY.1 q).1;omega)
    have:=ih b.f3.toNat (by omega)
    omega
  rw [if_neg q];exact ⟨Nat.le_refl _,hj⟩
theorem on_more {g:List S47} (hg:GOk g):∀ (d j k:Nat),g.length - j≤d→d≤k→onF g k j=onF g d j:=by
 intro d
 induction d with
 | zero=>
  intro j k hd hk
  cases k with
  | zero=>rfl
  | succ k=>
   unfold onF
   rw [List.getElem?_eq_none (by omega)]
 | succ d ih=>
  intro j k hd hk
  cases k with
  | zero=>omega
  | succ k=>
   by_cases hj:j<g.length
   · obtain ⟨b,hb,hok⟩:=hg.at_ hj
     unfold onF
     rw [hb]
     dsimp only
     by_cases q:fw b=true
     · rw [if_pos q,if_pos q]
       have:=bE hok.goal (by have:=(iY.1 q).1;omega)
       exact ih _ k (by omega) (by omega)
     rw [if_neg q,if_neg q]
   unfold onF
   rw [List.getElem?_eq_none (by omega)]
theorem qF {g:List S47} (hg:GOk g) {j:Nat} {b:S47} (hb:g[j]?=some b) (q:fw b=true):onG g j=onG g b.f3.toNat:=by
 have hj:j<g.length:=(List.getElem?_eq_some_iff.1 hb).1
 have hok:=hg.all j b hb
 have:=bE hok.goal (by have:=(iY.1 q).1;omega)
 unfold onG
 obtain ⟨L,hL⟩:∃ L,g.length=L+1:=⟨g.length - 1,by omega⟩
 rw [hL]
 show (match g[j]? with | some b=>if fw b=true then onF g L b.f3.toNat else j | none=>j)=_
 rw [hb]
 dsimp only
 rw [if_pos q,on_more hg L b.f3.toNat (L+1) (by omega) (by omega)]
theorem oz {g:List S47} {j:Nat} {b:S47} (hb:g[j]?=some b) (q:¬fw b=true):onG g j=j:=by
 have hj:j<g.length:=(List.getElem?_eq_some_iff.1 hb).1
 unfold onG
 obtain ⟨L,hL⟩:∃ L,g.length=L+1:=⟨g.length - 1,by omega⟩
 rw [hL]
 show (match g[j]? with | some b=>if fw b=true then onF g L b.f3.toNat else j | none=>j)=_
 rw [hb]
 dsimp only
 rw [if_neg q]
theorem nE (g:List S47) (b:S47):(goB g b).1.f0=b.f0:=by
 unfold goB;split;rfl;split;rfl;split<;>rfl
theorem go_bok {g:List S47} (hg:GOk g) {b:S47} {i:Nat} (h:BOk b i g.length):BOk (goB g b).1 i g.length:=by
 have hc:=nE g b
 have hgoal:=h.goal
 have hrl:=h.rl
 refine ⟨by rw [hc];exact h.code,?_,?_,by rw [hc];exact h.rg,?_⟩
 all_goals
  unfold goB
  rcases eB h.ends with ⟨h1,h2,h3,h4,h5⟩ | ⟨h1,h2,h3⟩ | ⟨h1,h2,h3⟩
 · rw [if_pos h1];exact h.ends
 · rw [if_neg (by omega),if_pos h1]
   have he:=h.ends
   unfold iH at he ⊢
   dsimp only
   rw [if_neg (by omega),if_pos h1] at he ⊢
   exact he
 · rw [if_neg (by omega),if_neg (by omega)]
   split
   · exact rfl
   have he:=h.ends
   unfold iH at he ⊢
   dsimp only
   rw [if_neg (by omega),if_neg (by omega),if_pos h1] at he ⊢
   exact he
 · rw [if_pos h1];exact h.goal
 · rw [if_neg (by omega),if_pos h1]
   have hy:=bE hgoal (by omega)
   have:=mM hg g.length b.f3.toNat (by omega)
   unfold gI
   dsimp only
   have e:(i:Int)<(onG g b.f3.toNat:Int)∧(onG g b.f3.toNat:Int)<g.length:=by unfold onG;omega
   rw [decide_eq_true e,decide_eq_false (show ¬b.f1=3 by omega),Bool.or_true];rfl
 · rw [if_neg (by omega),if_neg (by omega)]
   have hy:=bE hgoal (by omega)
   have hn:=dw hgoal h1
   have:=mM hg g.length b.f3.toNat (by omega)
   have:=mM hg g.length b.f4.toNat (by omega)
   have e:(i:Int)<(onG g b.f3.toNat:Int)∧(onG g b.f3.toNat:Int)<g.length:=by unfold onG;omega
   have e2:(i:Int)<(onG g b.f4.toNat:Int)∧(onG g b.f4.toNat:Int)<g.length:=by unfold onG;omega
   split
   · unfold gI;dsimp only;rw [decide_eq_true e];rfl
   unfold gI;dsimp only;rw [decide_eq_true e,decide_eq_true e2,Bool.or_true,Bool.or_true];rfl
 · rw [if_pos h1];exact hrl
 · rw [if_neg (by omega),if_pos h1];exact hrl
 rw [if_neg (by omega),if_neg (by omega)]
 split
 · exact Rg.z
 exact hrl
theorem sO {g:List S47} (pk:List Int) {b:S47} {i:Nat} {n:Int} (h:BOk b i n) (M:bg) :
 (∀ v f s,eD pk b M = .fin v f s→eD pk (goB g b).1 M = .fin v f s)∧(∀ j M1 s,eD pk b M = .go j M1 s→∃ s',s'≤s∧eD pk (goB g b).1 M = .go (onG g j) M1 s'):=by
 have ec:=nE g b
 have eo:eD pk (goB g b).1 M=if (bq pk b.f0 M).2.1=0 then eP (goB g b).1 (bq pk b.f0 M).1 (bq pk b.f0 M).2.2 else .fin 0 (bq pk b.f0 M).2.1 (bq pk b.f0 M).2.2:=by
  unfold eD;rw [ec]
 rw [eo]
 unfold eD
 by_cases h0:(bq pk b.f0 M).2.1=0
 · rw [if_pos h0,if_pos h0]
   unfold goB
   rcases eB h.ends with ⟨h1,h2,h3,h4,h5⟩ | ⟨h1,h2,h3⟩ | ⟨h1,h2,h3⟩
   · rw [if_pos h1]
     refine ⟨fun v f s e=>e,fun j M1 s e=>?_⟩
     unfold eP at e;rw [if_pos h1] at e;cases e
   · rw [if_neg (by omega),if_pos h1]
     have e1:∀ M k,eP b M k = .go b.f3.toNat M k:=fun M k=>by unfold eP;rw [if_neg (by omega),if_pos h1]
     have e2:∀ y M k,eP ⟨b.f0,b.f1,b.f2,(y:Nat),b.f4⟩ M k = .go y M k:=fun y M k=>by
      unfold eP;dsimp only;rw [if_neg (by omega),if_pos h1,Int.toNat_natCast]
     rw [e1,e2]
     refine ⟨(fun v f s e=>by cases e),fun j M1 s e=>?_⟩
     injection e with a1 a2 a3
     subst a1 a2 a3
     exact ⟨_,Nat.le_refl _,rfl⟩
   rw [if_neg (by omega),if_neg (by omega)]
   have e1:∀ M k,eP b M k = .go (if hoP b.f2 M.a M.x=true then b.f3.toNat else b.f4.toNat) M (k+1):=fun M k=>by unfold eP;rw [if_neg (by omega),if_neg (by omega)]
   rw [e1]
   refine ⟨(fun v f s e=>by cases e),fun j M1 s e=>?_⟩
   injection e with a1 a2 a3
   subst a1 a2 a3
   by_cases q:onG g b.f3.toNat=onG g b.f4.toNat
   · rw [if_pos q]
     refine ⟨(bq pk b.f0 M).2.2,Nat.le_succ _,?_⟩
     show Out.go (onG g b.f3.toNat:Int).toNat _ _=_
     rw [Int.toNat_natCast]
     split
     · rfl
     rw [q]
   rw [if_neg q]
   refine ⟨(bq pk b.f0 M).2.2+1,Nat.le_refl _,?_⟩
   show (if b.f1=1 then _ else if b.f1=2 then _ else Out.go (if hoP b.f2 _ _=true then (onG g b.f3.toNat:Int).toNat else (onG g b.f4.toNat:Int).toNat) _ _)=_
   rw [if_neg (by omega),if_neg (by omega),Int.toNat_natCast,Int.toNat_natCast]
   split<;>rfl
 rw [if_neg h0,if_neg h0]
 exact ⟨fun v f s e=>e,fun j M1 s e=>by cases e⟩
theorem kC {g:List S47} {j:Nat} {b:S47} (hb:g[j]?=some b):(gJ g).1[j]?=some (goB g b).1:=by
 show (g.map _)[j]?=_
 rw [List.getElem?_map,hb];rfl
theorem yx {g:List S47} (hg:GOk g) (pk:List Int):∀ {j:Nat} {M:bg} {v f:Int} {t:Nat},Rn g pk j M v f t→∃ t',t'≤t∧Rn (gJ g).1 pk (onG g j) M v f t':=by
 intro j M v f t hr
 induction hr with
 | @fin j M b v f s hb e=>
  have hok:=hg.all j b hb
  have q:¬fw b=true:=fun q=>by rw [lC q] at e;cases e
  rw [oz hb q]
  exact ⟨s,Nat.le_refl _,.fin (kC hb) ((sO pk hok M).1 v f s e)⟩
 | @go j M b j1 M1 s1 v f t1 hb e _ ih=>
  have hok:=hg.all j b hb
  obtain ⟨t',ht',hr'⟩:=ih
  by_cases q:fw b=true
  · rw [qF hg hb q]
    rw [lC q] at e
    injection e with a1 a2 a3
    subst a1 a2 a3
    exact ⟨t',by omega,hr'⟩
  rw [oz hb q]
  obtain ⟨s',hs',e'⟩:=(sO (g:=g) pk hok M).2 j1 M1 s1 e
  exact ⟨s'+t',by omega,.go (kC hb) e' hr'⟩
theorem vL {g:List S47} (hg:GOk g) (pk:List Int) {j:Nat} (hj:j<g.length) {M:bg} {v f:Int} {t:Nat} (h:Rn (gJ g).1 pk (onG g j) M v f t):Rn (gJ g).1 pk j M v f t:=by
 obtain ⟨b,hb,hok⟩:=hg.at_ hj
 by_cases q:fw b=true
 · rw [qF hg hb q] at h
   obtain ⟨s',hs',e'⟩:=(sO (g:=g) pk hok M).2 _ _ _ (lC q)
   have:s'=0:=by omega
   subst this
   have:=Rn.go (kC hb) e' h
   rwa [Nat.zero_add] at this
 rw [oz hb q] at h;exact h
theorem vK {g:List S47} (hg:GOk g) {b:S47} {i:Nat} (h:BOk b i g.length):phB g.length (goB g b).1≤phB g.length b∧((goB g b).2=true→phB g.length (goB g b).1<phB g.length b)∧((goB g b).2=false→(goB g b).1=b)
 ∧ msB (goB g b).1≤msB b∧szB (goB g b).1≤szB b:=by
 have ph:∀ c:S47,phB g.length c=1+wC c.f0+wE g.length c:=fun c=>rfl
 have hgoal:=h.goal
 rw [ph,ph,nE]
 unfold goB
 rcases eB h.ends with ⟨h1,h2,h3,h4,h5⟩ | ⟨h1,h2,h3⟩ | ⟨h1,h2,h3⟩
 · rw [if_pos h1];exact ⟨Nat.le_refl _,(fun h=>by cases h),(fun _=>rfl),Nat.le_refl _,Nat.le_refl _⟩
 · rw [if_neg (by omega),if_pos h1]
   have hy:=bE hgoal (by omega)
   have ho:=mM hg g.length b.f3.toNat (by omega)
   have e1:wE g.length b=1+((g.length:Int) - b.f3).toNat:=by unfold wE;rw [if_neg (by omega),if_pos h1]
   have e2:∀ y,wE g.length ⟨b.f0,b.f1,b.f2,y,b.f4⟩=1+((g.length:Int) - y).toNat:=fun y=>by unfold wE;dsimp only;rw [if_neg (by omega),if_pos h1]
   dsimp only
   rw [e1,e2]
   unfold onG at *
   refine ⟨by omega,fun hf=>?_,fun hf=>?_,Nat.le_refl _,Nat.le_refl _⟩
   · have:=of_decide_eq_true hf;omega
   have:=of_decide_eq_false hf
   have e:(onF g g.length b.f3.toNat:Int)=b.f3:=by omega
   rw [e]
 rw [if_neg (by omega),if_neg (by omega)]
 have hy:=bE hgoal (by omega)
 have hn:=dw hgoal h1
 have ho:=mM hg g.length b.f3.toNat (by omega)
 have ho2:=mM hg g.length b.f4.toNat (by omega)
 have e1:wE g.length b=(if b.f2.f0∈tX then 3 else 2)+((g.length:Int) - b.f3).toNat+((g.length:Int) - b.f4).toNat:=by unfold wE;rw [if_neg (by omega),if_neg (by omega)]
 have e2:∀ y z,wE g.length ⟨b.f0,b.f1,b.f2,y,z⟩=(if b.f2.f0∈tX then 3 else 2)+((g.length:Int) - y).toNat+((g.length:Int) - z).toNat:=fun y z=>by unfold wE;dsimp only;rw [if_neg (by omega),if_neg (by omega)]
 have e3:∀ y,wE g.length ⟨b.f0,2,⟨0,0,0,0⟩,y,0⟩=1+((g.length:Int) - y).toNat:=fun y=>rfl
 have h2':2≤(if b.f2.f0∈tX then 3 else 2):=by split<;>omega
 rw [e1]
 unfold onG at *
 by_cases q:onF g g.length b.f3.toNat=onF g g.length b.f4.toNat
 · rw [if_pos q]
   dsimp only
   rw [e3]
   refine ⟨by omega,fun _=>by omega,(fun h=>by cases h),?_,?_⟩
   · unfold msB;dsimp only;rw [if_neg (by decide)];omega
   unfold szB;dsimp only;rw [if_pos rfl];omega
 rw [if_neg q]
 dsimp only
 rw [e2]
 refine ⟨by omega,fun hf=>?_,fun hf=>?_,Nat.le_refl _,Nat.le_refl _⟩
 · simp only [Bool.or_eq_true,decide_eq_true_eq] at hf
   rcases hf with hf | hf<;>omega
 simp only [Bool.or_eq_false_iff,decide_eq_false_iff_not] at hf
 have ea:(onF g g.length b.f3.toNat:Int)=b.f3:=by omega
 have eb:(onF g g.length b.f4.toNat:Int)=b.f4:=by omega
 rw [ea,eb]
theorem jA {g:List S47} (hg:GOk g):iM g (gJ g).1 (gJ g).2:=by
 have hlen:(gJ g).1.length=g.length:=List.length_map ..
 have hmap:∀ {β:Type} (f:S47→β),(gJ g).1.map f=g.map (fun b=>f (goB g b).1):=fun f=>by
  show (g.map _).map f=_
  rw [List.map_map];rfl
 have hm:∀ b∈g,∃ j:Nat,BOk b j g.length:=fun b h=>by
  obtain ⟨j,hj⟩:=List.getElem?_of_mem h
  exact ⟨j,hg.all j b hj⟩
 refine ⟨⟨by rw [hlen];exact hg.some_,by rw [hlen];exact hg.few,fun j b' h=>?_,?_⟩,?_,?_,?_,?_,?_⟩
 · rw [hlen]
   have hj:j<g.length:=by rw [←hlen];exact (List.getElem?_eq_some_iff.1 h).1
   obtain ⟨b,hb,hok⟩:=hg.at_ hj
   have:some (goB g b).1=some b':=(kC hb).symm.trans h
   cases this
   exact go_bok hg hok
 · rw [hmap]
   have:(fun b:S47=>(goB g b).1.f0.length)=(fun b=>b.f0.length):=funext (fun b=>by rw [nE])
   rw [this];exact hg.sum
 · intro pk v f t hr
   obtain ⟨t',ht',hr'⟩:=yx hg pk hr
   exact ⟨t',ht',vL hg pk hg.some_ hr'⟩
 · unfold msG;rw [hmap]
   exact mr _ _ g (fun b hb=>by obtain ⟨j,hj⟩:=hm b hb;exact (vK hg hj).2.2.2.1)
 · unfold phG;rw [hmap,hlen]
   exact mr _ _ g (fun b hb=>by obtain ⟨j,hj⟩:=hm b hb;exact (vK hg hj).1)
 · intro h
   unfold phG;rw [hmap,hlen]
   refine sum_lt _ _ g (fun b hb=>by obtain ⟨j,hj⟩:=hm b hb;exact (vK hg hj).1) ?_
   obtain ⟨b,hb,hf⟩:=List.any_eq_true.1 (show g.any (fun b=>(goB g b).2)=true from h)
   obtain ⟨j,hj⟩:=hm b hb
   exact ⟨b,hb,(vK hg hj).2.1 hf⟩
 intro h
 have h2:g.any (fun b=>(goB g b).2)=false:=h
 rw [List.any_eq_false] at h2
 show g.map (fun b=>(goB g b).1)=g
 have:g.map (fun b=>(goB g b).1)=g.map id:=List.map_congr_left (fun b hb=>by
  obtain ⟨j,hj⟩:=hm b hb
  exact (vK hg hj).2.2.1 (by simpa using h2 b hb))
 rw [this,List.map_id]
def mkC (b:S47) (c:List Bool):List Bool:=if b.f1=1 then c else if b.f1=3 then (c.set b.f3.toNat true).set b.f4.toNat true else c.set b.f3.toNat true
def cmF:List S47→Nat→List Bool→List Bool
 | [],_,c=>c
 | b :: r,n,c=>cmF r (n+1) (if c.getD n false=true then mkC b c else c)
def gX (g:List S47) (first:Nat):List Bool:=cmF g 0 ((List.replicate g.length false).set first true)
def bM (c:List Bool):Nat→Nat
 | 0=>0
 | j+1=>bM c j+(if c.getD j false=true then 1 else 0)
def fG (c:List Bool) (b:S47):S47:=⟨b.f0,b.f1,b.f2,if b.f1=1 then b.f3 else (bM c b.f3.toNat:Int),if b.f1=3 then (bM c b.f4.toNat:Int) else b.f4⟩
def dpL (c:List Bool):List S47→Nat→List S47
 | [],_=>[]
 | b :: r,n=>if c.getD n false=true then fG c b :: dpL c r (n+1) else dpL c r (n+1)
def gY (g:List S47):List S47 × Bool:=
 if bM (gX g (onG g 0)) g.length=g.length then (g,false) else (dpL (gX g (onG g 0)) g 0,true)
theorem zy (b:S47) (c:List Bool):(mkC b c).length=c.length:=by
 unfold mkC;split;rfl;split<;>simp
theorem cm_len:∀ (l:List S47) (n:Nat) (c:List Bool),(cmF l n c).length=c.length:=by
 intro l
 induction l with
 | nil=>intro n c;rfl
 | cons b r ih=>
  intro n c
  unfold cmF
  rw [ih]
  split
  · exact zy b c
  rfl
theorem uR {c:List Bool} {i j:Nat} (h:c.getD j false=true):(c.set i true).getD j false=true:=by
 by_cases hi:i<c.length
 · rw [dm hi];split
   · rfl
   exact h
 rw [List.set_eq_of_length_le (by omega)];exact h
theorem pV {c:List Bool} {i j:Nat} (h:i≠j):(c.set i true).getD j false=c.getD j false:=by
 by_cases hi:i<c.length
 · rw [dm hi,if_neg h]
 rw [List.set_eq_of_length_le (by omega)]
theorem mk_t {b:S47} {c:List Bool} {j:Nat} (h:c.getD j false=true):(mkC b c).getD j false=true:=by
 unfold mkC;split
 · exact h
 split
 · exact uR (uR h)
 exact uR h
theorem mk_o {b:S47} {i:Nat} {n:Int} (h:BOk b i n) {c:List Bool} {j:Nat} (hj:j≤i):(mkC b c).getD j false=c.getD j false:=by
 unfold mkC
 by_cases e1:b.f1=1
 · rw [if_pos e1]
 rw [if_neg e1]
 have hy:=bE h.goal e1
 by_cases e3:b.f1=3
 · rw [if_pos e3]
   have hn:=dw h.goal e3
   rw [pV (by omega),pV (by omega)]
 rw [if_neg e3,pV (by omega)]
theorem cm_t:∀ (l:List S47) (n:Nat) (c:List Bool) (j:Nat),c.getD j false=true→(cmF l n c).getD j false=true:=by
 intro l
 induction l with
 | nil=>intro n c j h;exact h
 | cons b r ih=>
  intro n c j h
  unfold cmF
  refine ih _ _ _ ?_
  split
  · exact mk_t h
  exact h
theorem cm_o (L:Int):∀ (l:List S47) (n:Nat) (c:List Bool),(∀ (j:Nat) (b:S47),l[j]?=some b→BOk b ((n+j:Nat):Int) L)→∀ j,j≤n→(cmF l n c).getD j false=c.getD j false:=by
 intro l
 induction l with
 | nil=>intro n c _ j h;rfl
 | cons b r ih=>
  intro n c hb j h
  have hb0:BOk b ((n:Nat):Int) L:=hb 0 b rfl
  have hr:∀ (j:Nat) (b:S47),r[j]?=some b→BOk b ((n+1+j:Nat):Int) L:=fun j c hc=>by
   have:=hb (j+1) c hc
   rw [show n+1+j=n+(j+1) by omega];exact this
  unfold cmF
  rw [ih (n+1) _ hr j (by omega)]
  split
  · exact mk_o hb0 h
  rfl
theorem cm_low (L:Int) (m:Nat):∀ (l:List S47) (n:Nat) (c:List Bool),(∀ (j:Nat) (b:S47),l[j]?=some b→BOk b ((n+j:Nat):Int) L)→(∀ j,j<m→c.getD j false=false)→∀ j,j<m→(cmF l n c).getD j false=false:=by
 intro l
 induction l with
 | nil=>intro n c _ h;exact h
 | cons b r ih=>
  intro n c hb h
  have hb0:BOk b ((n:Nat):Int) L:=hb 0 b rfl
  have hr:∀ (j:Nat) (b:S47),r[j]?=some b→BOk b ((n+1+j:Nat):Int) L:=fun j c hc=>by
   have:=hb (j+1) c hc
   rw [show n+1+j=n+(j+1) by omega];exact this
  unfold cmF
  refine ih (n+1) _ hr ?_
  intro j hj
  by_cases q:c.getD n false=true
  · rw [if_pos q]
    have hmn:m≤n:=by
     refine Nat.le_of_not_lt fun hlt=>?_
     rw [h n hlt] at q;cases q
    rw [mk_o hb0 (by omega)]
    exact h j hj
  rw [if_neg q];exact h j hj
theorem cm_cl (L:Nat):∀ (l:List S47) (n:Nat) (c:List Bool),(∀ (j:Nat) (b:S47),l[j]?=some b→BOk b ((n+j:Nat):Int) L)→c.length=L →
 ∀ (j:Nat) (b:S47),l[j]?=some b→(cmF l n c).getD (n+j) false=true→(b.f1≠1→(cmF l n c).getD b.f3.toNat false=true)∧(b.f1=3→(cmF l n c).getD b.f4.toNat false=true):=by
 intro l
 induction l with
 | nil=>intro n c _ _ j b h;simp at h
 | cons b0 r ih=>
  intro n c hb hc j b h hin
  have hb0:BOk b0 ((n:Nat):Int) L:=hb 0 b0 rfl
  have hr:∀ (j:Nat) (b:S47),r[j]?=some b→BOk b ((n+1+j:Nat):Int) L:=fun j c hc=>by
   have:=hb (j+1) c hc
   rw [show n+1+j=n+(j+1) by omega];exact this
  cases j with
  | zero=>
   cases h
   have e:=cm_o L (b0 :: r) n c hb n (Nat.le_refl n)
   rw [Nat.add_zero,e] at hin
   unfold cmF
   rw [if_pos hin]
   refine ⟨fun h1=>cm_t _ _ _ _ ?_,fun h3=>cm_t _ _ _ _ ?_⟩
   · have hy:=bE hb0.goal h1
     unfold mkC
     rw [if_neg h1]
     have e1:(c.set b0.f3.toNat true).getD b0.f3.toNat false=true:=by rw [dm (by omega),if_pos rfl]
     split
     · exact uR e1
     exact e1
   have hn:=dw hb0.goal h3
   unfold mkC
   rw [if_neg (by omega),if_pos h3,dm (by rw [List.length_set];omega),if_pos rfl]
  | succ j=>
   unfold cmF at hin ⊢
   have:=ih (n+1) (if c.getD n false=true then mkC b0 c else c) hr (by split;rw [zy];exact hc;exact hc) j b h
   rw [show n+1+j=n+(j+1) by omega] at this
   exact this hin
theorem num_le (c:List Bool):∀ (d j:Nat),bM c j≤bM c (j+d)∧bM c (j+d)≤bM c j+d:=by
 intro d
 induction d with
 | zero=>intro j;exact ⟨Nat.le_refl _,Nat.le_refl _⟩
 | succ d ih=>
  intro j
  have:=ih j
  show bM c j≤bM c (j+d)+_∧bM c (j+d)+_≤_
  split<;>omega
theorem ic {c:List Bool} {i j:Nat} (h:i≤j):bM c i≤bM c j∧bM c j≤bM c i+(j - i):=by
 obtain ⟨d,rfl⟩:∃ d,j=i+d:=⟨j - i,by omega⟩
 have:=num_le c d i
 omega
theorem kJ {c:List Bool} {i j:Nat} (h:i<j) (hc:c.getD i false=true):bM c i<bM c j:=by
 have h1:=(ic (c:=c) (i:=i+1) (j:=j) h).1
 have:bM c (i+1)=bM c i+1:=by show bM c i+_=_;rw [if_pos hc]
 omega
theorem num_z {c:List Bool}:∀ {m:Nat},(∀ j,j<m→c.getD j false=false)→bM c m=0:=by
 intro m
 induction m with
 | zero=>intro _;rfl
 | succ m ih=>
  intro h
  show bM c m+_=0
  rw [ih (fun j hj=>h j (by omega)),h m (by omega)];rfl
theorem l8 {c:List Bool} {b:S47} {r:List S47} {n:Nat} (q:c.getD n false=true):dpL c (b :: r) n=fG c b :: dpL c r (n+1):=by
 show (if c.getD n false=true then _ else _)=_
 rw [if_pos q]
theorem ru {c:List Bool} {b:S47} {r:List S47} {n:Nat} (q:¬c.getD n false=true):dpL c (b :: r) n=dpL c r (n+1):=by
 show (if c.getD n false=true then _ else _)=_
 rw [if_neg q]
theorem lS {c:List Bool} {n:Nat} (q:c.getD n false=true):bM c (n+1)=bM c n+1:=by
 show bM c n+_=_;rw [if_pos q]
theorem mi {c:List Bool} {n:Nat} (q:¬c.getD n false=true):bM c (n+1)=bM c n:=by
 show bM c n+_=_;rw [if_neg q];rfl
theorem db1 {c:List Bool} {b:S47} (h:b.f1=1):fG c b=b:=by
 unfold fG;rw [if_pos h,if_neg (by omega)]
theorem db2 {c:List Bool} {b:S47} (h:b.f1=2):fG c b=⟨b.f0,b.f1,b.f2,(bM c b.f3.toNat:Int),b.f4⟩:=by
 unfold fG;rw [if_neg (show ¬b.f1=1 by omega),if_neg (show ¬b.f1=3 by omega)]
theorem db3 {c:List Bool} {b:S47} (h:b.f1=3):fG c b=⟨b.f0,b.f1,b.f2,(bM c b.f3.toNat:Int),(bM c b.f4.toNat:Int)⟩:=by
 unfold fG;rw [if_neg (show ¬b.f1=1 by omega),if_pos h]
theorem dp_get (c:List Bool):∀ (l:List S47) (n j:Nat) (b:S47),l[j]?=some b→c.getD (n+j) false=true→(dpL c l n)[bM c (n+j) - bM c n]?=some (fG c b):=by
 intro l
 induction l with
 | nil=>intro n j b h;simp at h
 | cons b0 r ih=>
  intro n j b h hc
  cases j with
  | zero=>
   cases h
   have hc':c.getD n false=true:=hc
   rw [l8 hc']
   show (fG c b0 :: _)[bM c n - bM c n]?=_
   rw [Nat.sub_self];rfl
  | succ j=>
   have h2:=ih (n+1) j b h (by rw [show n+1+j=n+(j+1) by omega];exact hc)
   rw [show n+1+j=n+(j+1) by omega] at h2
   have hm:=(ic (c:=c) (i:=n+1) (j:=n+(j+1)) (by omega)).1
   by_cases q:c.getD n false=true
   · have e:=lS q
     rw [l8 q,show bM c (n+(j+1)) - bM c n=(bM c (n+(j+1)) - bM c (n+1))+1 by omega]
     exact h2
   rw [ru q,←mi q];exact h2
theorem dp_at (c:List Bool):∀ (l:List S47) (n k:Nat) (b':S47),(dpL c l n)[k]?=some b'→∃ j b,l[j]?=some b∧c.getD (n+j) false=true∧b'=fG c b∧bM c (n+j)=bM c n+k:=by
 intro l
 induction l with
 | nil=>intro n k b' h;simp [dpL] at h
 | cons b0 r ih=>
  intro n k b' h
  by_cases q:c.getD n false=true
  · have e:=lS q
    rw [l8 q] at h
    cases k with
    | zero=>exact ⟨0,b0,rfl,q,(Option.some.inj h).symm,rfl⟩
    | succ k=>
     obtain ⟨j,b,h1,h2,h3,h4⟩:=ih (n+1) k b' h
     rw [show n+1+j=n+(j+1) by omega] at h2 h4
     exact ⟨j+1,b,h1,h2,h3,by omega⟩
  have e:=mi q
  rw [ru q] at h
  obtain ⟨j,b,h1,h2,h3,h4⟩:=ih (n+1) k b' h
  rw [show n+1+j=n+(j+1) by omega] at h2 h4
  exact ⟨j+1,b,h1,h2,h3,by omega⟩
theorem xN (c:List Bool):∀ (l:List S47) (n:Nat),(dpL c l n).length+bM c n=bM c (n+l.length):=by
 intro l
 induction l with
 | nil=>intro n;exact Nat.zero_add _
 | cons b r ih=>
  intro n
  have:=ih (n+1)
  rw [show n+1+r.length=n+(b :: r).length by rw [List.length_cons];omega] at this
  by_cases q:c.getD n false=true
  · have e:=lS q
    rw [l8 q,List.length_cons];omega
  have e:=mi q
  rw [ru q];omega
theorem qo (c:List Bool) (F G:S47→Nat) (one:Nat) (h1:∀ b,one≤G b):∀ (l:List S47) (n:Nat),(∀ (j:Nat) (b:S47),l[j]?=some b→c.getD (n+j) false=true→F (fG c b)≤G b) →
 ((dpL c l n).map F).sum+one*l.length+one*bM c n≤(l.map G).sum+one*bM c (n+l.length):=by
 intro l
 induction l with
 | nil=>intro n _;simp [dpL]
 | cons b r ih=>
  intro n h
  have i1:=ih (n+1) (fun j b hb hc=>h (j+1) b hb (by rw [show n+(j+1)=n+1+j by omega];exact hc))
  rw [show n+1+r.length=n+(b :: r).length by rw [List.length_cons];omega] at i1
  have e1:one*(b :: r).length=one*r.length+one:=by rw [List.length_cons,Nat.mul_add,Nat.mul_one]
  have hg:=h1 b
  rw [e1,List.map_cons,List.sum_cons]
  by_cases q:c.getD n false=true
  · have h0:=h 0 b rfl q
    rw [lS q,Nat.mul_add,Nat.mul_one] at i1
    rw [l8 q,List.map_cons,List.sum_cons]
    omega
  rw [mi q] at i1
  rw [ru q]
  omega
theorem on_rn {g:List S47} {pk:List Int}:∀ (k:Nat) {j:Nat} {M:bg} {v f:Int} {t:Nat},Rn g pk j M v f t→Rn g pk (onF g k j) M v f t:=by
 intro k
 induction k with
 | zero=>intro j M v f t h;exact h
 | succ k ih=>
  intro j M v f t h
  unfold onF
  cases hb:g[j]? with
  | none=>exact h
  | some b=>
   dsimp only
   by_cases q:fw b=true
   · rw [if_pos q]
     refine ih ?_
     have e:=lC (pk:=pk) (M:=M) q
     cases h with
     | fin hb' e'=>rw [hb] at hb';cases hb';rw [e] at e';cases e'
     | go hb' e' hr=>
      rw [hb] at hb';cases hb'
      rw [e] at e'
      injection e' with a1 a2 a3
      subst a1 a2 a3
      rw [Nat.zero_add];exact hr
   rw [if_neg q];exact h
theorem jv {g:List S47} (hg:GOk g):iM g (gY g).1 (gY g).2:=by
 have hb0:∀ (j:Nat) (b:S47),g[j]?=some b→BOk b ((0+j:Nat):Int) g.length:=fun j b h=>by rw [Nat.zero_add];exact hg.all j b h
 unfold gY
 by_cases q:bM (gX g (onG g 0)) g.length=g.length
 · rw [if_pos q]
   exact ⟨hg,fun pk v f t h=>⟨t,Nat.le_refl _,h⟩,Nat.le_refl _,Nat.le_refl _,(fun h=>by cases h),fun _=>rfl⟩
 rw [if_neg q]
 have hfirst:onG g 0<g.length:=(mM hg g.length 0 hg.some_).2
 have hcl:=cm_cl g.length g 0 ((List.replicate g.length false).set (onG g 0) true) hb0 (by rw [List.length_set,List.length_replicate])
 have hlow:=cm_low g.length (onG g 0) g 0 ((List.replicate g.length false).set (onG g 0) true) hb0 (fun j hj=>by
  rw [pV (by omega),List.getD_eq_getElem?_getD,List.getElem?_replicate];split<;>rfl)
 have hst:(gX g (onG g 0)).getD (onG g 0) false=true:=cm_t _ _ _ _ (by rw [dm (by rw [List.length_replicate];exact hfirst),if_pos rfl])
 change ∀ j b,g[j]?=some b→(gX g (onG g 0)).getD (0+j) false=true→(b.f1≠1→(gX g (onG g 0)).getD b.f3.toNat false=true)∧(b.f1=3→(gX g (onG g 0)).getD b.f4.toNat false=true) at hcl
 change ∀ j,j<onG g 0→(gX g (onG g 0)).getD j false=false at hlow
 generalize gX g (onG g 0)=c at *
 have hn0:bM c (onG g 0)=0:=num_z hlow
 have hlen:(dpL c g 0).length=bM c g.length:=by have:=xN c g 0;rw [Nat.zero_add] at this;exact this
 have hnl:bM c g.length≤g.length:=by have:=(ic (c:=c) (Nat.zero_le g.length)).2;have e:bM c 0=0:=rfl;omega
 have hpos:=kJ hfirst hst
 have cl:∀ (j:Nat) (b:S47),g[j]?=some b→c.getD j false=true→(b.f1≠1→c.getD b.f3.toNat false=true)∧(b.f1=3→c.getD b.f4.toNat false=true):=fun j b hb hj=>hcl j b hb (by rw [Nat.zero_add];exact hj)
 -- a block in its new place
 have bok:∀ (j:Nat) (b:S47),g[j]?=some b→c.getD j false=true→BOk (fG c b) (bM c j) (bM c g.length):=by
  intro j b hb hj
  have hok:=hg.all j b hb
  have hc:=cl j b hb hj
  refine ⟨hok.code,?_,?_,hok.rg,hok.rl⟩
  · have he:=hok.ends
    rcases eB hok.ends with ⟨h1,_⟩ | ⟨h1,_⟩ | ⟨h1,_⟩
    · rw [db1 h1];exact he
    · rw [db2 h1]
      unfold iH at he ⊢
      dsimp only
      rw [if_neg (show ¬b.f1=1 by omega),if_pos h1] at he ⊢
      exact he
    rw [db3 h1]
    unfold iH at he ⊢
    dsimp only
    rw [if_neg (show ¬b.f1=1 by omega),if_neg (show ¬b.f1=2 by omega),if_pos h1] at he ⊢
    exact he
  rcases eB hok.ends with ⟨h1,_⟩ | ⟨h1,_⟩ | ⟨h1,_⟩
  · rw [db1 h1]
    unfold gI
    rw [decide_eq_true h1,decide_eq_false (show ¬b.f1=3 by omega)];rfl
  · have hy:=bE hok.goal (by omega)
    have hyc:=hc.1 (by omega)
    rw [db2 h1]
    unfold gI
    dsimp only
    have a1:=kJ (c:=c) (i:=j) (j:=b.f3.toNat) (by omega) hj
    have a2:=kJ (c:=c) (i:=b.f3.toNat) (j:=g.length) (by omega) hyc
    rw [decide_eq_true (show ((bM c j:Nat):Int)<((bM c b.f3.toNat:Nat):Int)∧((bM c b.f3.toNat:Nat):Int)<((bM c g.length:Nat):Int) by omega),decide_eq_false (show ¬b.f1=3 by omega),Bool.or_true];rfl
  have hy:=bE hok.goal (by omega)
  have hn:=dw hok.goal h1
  have hyc:=hc.1 (by omega)
  have hnc:=hc.2 h1
  rw [db3 h1]
  unfold gI
  dsimp only
  have a1:=kJ (c:=c) (i:=j) (j:=b.f3.toNat) (by omega) hj
  have a2:=kJ (c:=c) (i:=b.f3.toNat) (j:=g.length) (by omega) hyc
  have a3:=kJ (c:=c) (i:=j) (j:=b.f4.toNat) (by omega) hj
  have a4:=kJ (c:=c) (i:=b.f4.toNat) (j:=g.length) (by omega) hnc
  rw [decide_eq_true (show ((bM c j:Nat):Int)<((bM c b.f3.toNat:Nat):Int)∧((bM c b.f3.toNat:Nat):Int)<((bM c g.length:Nat):Int) by omega),decide_eq_true (show ((bM c j:Nat):Int)<((bM c b.f4.toNat:Nat):Int)∧((bM c b.f4.toNat:Nat):Int)<((bM c g.length:Nat):Int) by omega),Bool.or_true,Bool.or_true];rfl
 have get:∀ (j:Nat) (b:S47),g[j]?=some b→c.getD j false=true→(dpL c g 0)[bM c j]?=some (fG c b):=by
  intro j b hb hj
  have:=dp_get c g 0 j b hb (by rw [Nat.zero_add];exact hj)
  rw [Nat.zero_add] at this
  exact this
 have hout:∀ (pk:List Int) (j:Nat) (b:S47),g[j]?=some b→∀ M,(∀ v f s,eD pk b M = .fin v f s→eD pk (fG c b) M = .fin v f s)∧(∀ j1 M1 s,eD pk b M = .go j1 M1 s→eD pk (fG c b) M = .go (bM c j1) M1 s):=by
  intro pk j b hb M
  have hok:=hg.all j b hb
  unfold eD
  show (∀ v f s,_→(if (bq pk b.f0 M).2.1=0 then eP (fG c b) (bq pk b.f0 M).1 (bq pk b.f0 M).2.2 else .fin 0 (bq pk b.f0 M).2.1 (bq pk b.f0 M).2.2)=_)∧(∀ j1 M1 s,_→(if (bq pk b.f0 M).2.1=0 then eP (fG c b) (bq pk b.f0 M).1 (bq pk b.f0 M).2.2 else .fin 0 (bq pk b.f0 M).2.1 (bq pk b.f0 M).2.2)=_)
  by_cases h0:(bq pk b.f0 M).2.1=0
  · rw [if_pos h0,if_pos h0]
    rcases eB hok.ends with ⟨h1,_⟩ | ⟨h1,_⟩ | ⟨h1,_⟩
    · rw [db1 h1]
      refine ⟨(fun v f s e=>e),fun j1 M1 s e=>?_⟩
      unfold eP at e;rw [if_pos h1] at e;cases e
    · have E:∀ M k,eP b M k = .go b.f3.toNat M k:=fun M k=>by unfold eP;rw [if_neg (show ¬b.f1=1 by omega),if_pos h1]
      have E2:∀ M k,eP (fG c b) M k = .go (bM c b.f3.toNat) M k:=fun M k=>by
       rw [db2 h1]
       unfold eP
       dsimp only
       rw [if_neg (show ¬b.f1=1 by omega),if_pos h1,Int.toNat_natCast]
      rw [E,E2]
      refine ⟨(fun v f s e=>by cases e),fun j1 M1 s e=>?_⟩
      injection e with a1 a2 a3
      subst a1 a2 a3
      rfl
    have E:∀ M k,eP b M k = .go (if hoP b.f2 M.a M.x=true then b.f3.toNat else b.f4.toNat) M (k+1):=fun M k=>by unfold eP;rw [if_neg (show ¬b.f1=1 by omega),if_neg (show ¬b.f1=2 by omega)]
    have E2:∀ M k,eP (fG c b) M k = .go (if hoP b.f2 M.a M.x=true then bM c b.f3.toNat else bM c b.f4.toNat) M (k+1):=fun M k=>by
     rw [db3 h1]
     unfold eP
     dsimp only
     rw [if_neg (show ¬b.f1=1 by omega),if_neg (show ¬b.f1=2 by omega),Int.toNat_natCast,Int.toNat_natCast]
    rw [E,E2]
    refine ⟨(fun v f s e=>by cases e),fun j1 M1 s e=>?_⟩
    injection e with a1 a2 a3
    subst a1 a2 a3
    split<;>rfl
  rw [if_neg h0,if_neg h0]
  exact ⟨fun v f s e=>e,fun j1 M1 s e=>by cases e⟩
 have run:∀ (pk:List Int) {j:Nat} {M:bg} {v f:Int} {t:Nat},Rn g pk j M v f t→c.getD j false=true→Rn (dpL c g 0) pk (bM c j) M v f t:=by
  intro pk j M v f t hr
  induction hr with
  | @fin j M b v f s hb e=>intro hj;exact .fin (get j b hb hj) ((hout pk j b hb M).1 v f s e)
  | @go j M b j1 M1 s1 v f t1 hb e _ ih=>
   intro hj
   have hok:=hg.all j b hb
   obtain ⟨_,_,_,_,q3⟩:=jE hok (by omega) e
   have hc1:c.getD j1 false=true:=by
    have hc:=cl j b hb hj
    rcases q3 with ⟨e2,ej,_⟩ | ⟨e3,ej,_⟩
    · have:=hc.1 (by omega)
      rw [show j1=b.f3.toNat by omega];exact this
    have hy:=hc.1 (by omega)
    have hn:=hc.2 e3
    by_cases ho:hoP b.f2 M1.a M1.x=true
    · rw [if_pos ho] at ej;rw [show j1=b.f3.toNat by omega];exact hy
    rw [if_neg ho] at ej;rw [show j1=b.f4.toNat by omega];exact hn
   exact .go (get j b hb hj) ((hout pk j b hb M).2 j1 M1 s1 e) (ih hc1)
 have ph1:∀ b:S47,1≤phB g.length b:=fun b=>by unfold phB;omega
 have phw:∀ (j:Nat) (b:S47),g[j]?=some b→c.getD (0+j) false=true→phB (bM c g.length:Nat) (fG c b)≤phB g.length b:=by
  intro j b hb hj
  have hok:=hg.all j b hb
  show 1+wC b.f0+wE _ (fG c b)≤1+wC b.f0+wE _ b
  have:wE (bM c g.length:Nat) (fG c b)≤wE g.length b:=by
   rcases eB hok.ends with ⟨h1,_⟩ | ⟨h1,_⟩ | ⟨h1,_⟩
   · rw [db1 h1]
     unfold wE
     rw [if_pos h1,if_pos h1];exact Nat.le_refl _
   · have hy:=bE hok.goal (by omega)
     have:=(ic (c:=c) (i:=b.f3.toNat) (j:=g.length) (by omega)).2
     rw [db2 h1]
     unfold wE
     dsimp only
     rw [if_neg (show ¬b.f1=1 by omega),if_pos h1,if_neg (show ¬b.f1=1 by omega),if_pos h1]
     omega
   have hy:=bE hok.goal (by omega)
   have hn:=dw hok.goal h1
   have:=(ic (c:=c) (i:=b.f3.toNat) (j:=g.length) (by omega)).2
   have:=(ic (c:=c) (i:=b.f4.toNat) (j:=g.length) (by omega)).2
   rw [db3 h1]
   unfold wE
   dsimp only
   rw [if_neg (show ¬b.f1=1 by omega),if_neg (show ¬b.f1=2 by omega),if_neg (show ¬b.f1=1 by omega),if_neg (show ¬b.f1=2 by omega)]
   omega
  omega
 have sph:=qo c (phB (bM c g.length:Nat)) (phB g.length) 1 ph1 g 0 phw
 have sms:=qo c msB msB 0 (fun b=>Nat.zero_le _) g 0 (fun j b _ _=>Nat.le_refl _)
 have ssz:=qo c szB szB 0 (fun b=>Nat.zero_le _) g 0 (fun j b _ _=>Nat.le_refl _)
 have sln:=qo c (fun b=>b.f0.length) (fun b=>b.f0.length) 0 (fun b=>Nat.zero_le _) g 0 (fun j b _ _=>Nat.le_refl _)
 rw [Nat.zero_add] at sph
 simp only [Nat.zero_mul,Nat.add_zero] at sms ssz sln
 have en:bM c 0=0:=rfl
 refine ⟨⟨by rw [hlen];omega,by rw [hlen];have:=hg.few;omega,fun k b' h=>?_,Nat.le_trans sln hg.sum⟩,?_,sms,?_,?_,fun h=>by cases h⟩
 · obtain ⟨j,b,h1,h2,h3,h4⟩:=dp_at c g 0 k b' h
   rw [Nat.zero_add] at h2 h4
   rw [en,Nat.zero_add] at h4
   rw [hlen,h3,←h4]
   exact bok j b h1 h2
 · intro pk v f t hr
   have:=run pk (on_rn g.length hr) hst
   change Rn _ pk (bM c (onG g 0)) _ _ _ _ at this
   rw [hn0] at this
   exact ⟨t,Nat.le_refl _,this⟩
 · unfold phG;dsimp only;rw [hlen];omega
 intro _;unfold phG;dsimp only;rw [hlen];omega
def ji:S47:=⟨[],1,⟨6,0,0,0⟩,0,0⟩
def mgB (b nx:S47):S47:=⟨b.f0++nx.f0,nx.f1,nx.f2,nx.f3,nx.f4⟩
def jn1 (g:List S47) (a y:Nat) (b nx:S47):List S47:=(g.set a (mgB b nx)).set y ji
def cE (t:Nat) (b:S47):Nat:=(if b.f1≠1∧b.f3.toNat=t then 1 else 0)+(if b.f1=3∧b.f4.toNat=t then 1 else 0)
def jV (g:List S47) (t:Nat):Nat:=(g.map (cE t)).sum
theorem qV (f:S47→Nat):∀ (g:List S47) (i:Nat) (b c:S47),g[i]?=some b→((g.set i c).map f).sum+f b=(g.map f).sum+f c:=by
 intro g
 induction g with
 | nil=>intro i b c h;simp at h
 | cons a r ih=>
  intro i b c h
  cases i with
  | zero=>cases h;simp only [List.set_cons_zero,List.map_cons,List.sum_cons];omega
  | succ i=>
   have:=ih i b c h
   simp only [List.set_cons_succ,List.map_cons,List.sum_cons]
   omega
theorem uJ {g:List S47} {i j:Nat} {c:S47}:(g.set i c)[j]?=if i=j then (if i<g.length then some c else none) else g[j]?:=by
 rw [List.getElem?_set]
theorem iy {g:List S47} {i j:Nat} {c:S47} (h:i≠j):(g.set i c)[j]?=g[j]?:=by
 rw [uJ,if_neg h]
theorem nY {g:List S47} {i:Nat} {c:S47} (h:i<g.length):(g.set i c)[i]?=some c:=by
 rw [uJ,if_pos rfl,if_pos h]
theorem xH (t:Nat):cE t ji=0:=rfl
theorem uF {g:List S47} {i j t:Nat} {b c:S47} (hb:g[i]?=some b) (hc:g[j]?=some c) (h:i≠j):cE t b+cE t c≤jV g t:=by
 have h1:=qV (cE t) g i b ji hb
 have h2:cE t c≤((g.set i ji).map (cE t)).sum:=uV (List.mem_map_of_mem (List.mem_of_getElem? (by rw [iy h];exact hc)))
 rw [xH] at h1
 unfold jV
 omega
theorem nS {b:S47} {t:Nat} (h1:b.f1≠1) (h:b.f3.toNat=t):1≤cE t b:=by
 unfold cE;rw [if_pos ⟨h1,h⟩];omega
theorem cE_no {b:S47} {t:Nat} (h1:b.f1=3) (h:b.f4.toNat=t):1≤cE t b:=by
 unfold cE;rw [if_pos (show b.f1=3∧b.f4.toNat=t from ⟨h1,h⟩)];omega
structure Mg (g:List S47) (a y:Nat) (b nx:S47):Prop where
 gok:GOk g
 at_:g[a]?=some b
 goes:b.f1=2
 goal:b.f3.toNat=y
 nx:g[y]?=some nx
 one:jV g y=1
theorem Mg.lt {g:List S47} {a y:Nat} {b nx:S47} (h:Mg g a y b nx):a<y∧y<g.length∧a<g.length:=by
 have hy:=bE (h.gok.all a b h.at_).goal (by have:=h.goes;omega)
 have:=h.goal
 have:y<g.length:=(List.getElem?_eq_some_iff.1 h.nx).1
 omega
theorem Mg.len {g:List S47} {a y:Nat} {b nx:S47} (h:Mg g a y b nx):(jn1 g a y b nx).length=g.length:=by
 unfold jn1;rw [List.length_set,List.length_set]
theorem Mg.get {g:List S47} {a y:Nat} {b nx:S47} (h:Mg g a y b nx):(jn1 g a y b nx)[a]?=some (mgB b nx)∧(jn1 g a y b nx)[y]?=some ji∧∀ j,j≠a→j≠y→(jn1 g a y b nx)[j]?=g[j]?:=by
 obtain ⟨l1,l2,l3⟩:=h.lt
 unfold jn1
 refine ⟨?_,?_,fun j h1 h2=>?_⟩
 · rw [iy (by omega),nY l3]
 · rw [nY (by rw [List.length_set];exact l2)]
 rw [iy (by omega),iy (by omega)]
theorem Mg.sum {g:List S47} {a y:Nat} {b nx:S47} (h:Mg g a y b nx) (f:S47→Nat):((jn1 g a y b nx).map f).sum+f b+f nx=(g.map f).sum+f (mgB b nx)+f ji:=by
 obtain ⟨l1,l2,l3⟩:=h.lt
 have h1:=qV f g a b (mgB b nx) h.at_
 have h2:=qV f (g.set a (mgB b nx)) y nx ji (by rw [iy (by omega)];exact h.nx)
 unfold jn1
 omega
theorem Mg.cnt {g:List S47} {a y:Nat} {b nx:S47} (h:Mg g a y b nx) (t:Nat):jV (jn1 g a y b nx) t=if t=y then 0 else jV g t:=by
 have hs:=h.sum (cE t)
 have e1:cE t (mgB b nx)=cE t nx:=rfl
 have e2:cE t b=if y=t then 1 else 0:=by
  unfold cE
  have h2:=h.goes
  have h3:=h.goal
  rw [if_neg (show ¬(b.f1=3∧_) by omega),h3]
  by_cases q:y=t
  · rw [if_pos ⟨by omega,q⟩,if_pos q]
  rw [if_neg (fun h=>q h.2),if_neg q]
 rw [e1,xH,e2] at hs
 unfold jV at *
 by_cases q:t=y
 · subst q
   rw [if_pos rfl] at hs ⊢
   have:=h.one
   unfold jV at this
   omega
 rw [if_neg (fun h=>q h.symm)] at hs
 rw [if_neg q]
 omega
theorem vE {c d:List S45} (h1:fB c=true) (h2:fB d=true):fB (c++d)=true:=by
 unfold fB at *;rw [List.all_append,h1,h2];rfl
theorem Mg.gok' {g:List S47} {a y:Nat} {b nx:S47} (h:Mg g a y b nx):GOk (jn1 g a y b nx):=by
 obtain ⟨l1,l2,l3⟩:=h.lt
 obtain ⟨g1,g2,g3⟩:=h.get
 have ha:=h.gok.all a b h.at_
 have hy:=h.gok.all y nx h.nx
 refine ⟨by rw [h.len];exact h.gok.some_,by rw [h.len];exact h.gok.few,fun j c hc=>?_,?_⟩
 · rw [h.len]
   by_cases qa:j=a
   · subst qa
     rw [g1] at hc
     cases hc
     refine ⟨vE ha.code hy.code,hy.ends,?_,?_,hy.rl⟩
     · have hg:=hy.goal
       unfold gI at hg ⊢
       simp only [Bool.and_eq_true,Bool.or_eq_true,decide_eq_true_eq,Bool.not_eq_true',decide_eq_false_iff_not] at hg ⊢
       show (nx.f1=1∨_<nx.f3∧nx.f3<_)∧(¬nx.f1=3∨_<nx.f4∧nx.f4<_)
       omega
     intro x hx
     rcases List.mem_append.1 hx with hx | hx
     · exact ha.rg x hx
     exact hy.rg x hx
   by_cases qy:j=y
   · subst qy
     rw [g2] at hc
     cases hc
     exact ⟨rfl,rfl,rfl,(fun x hx=>absurd hx List.not_mem_nil),Rg.z⟩
   rw [g3 j qa qy] at hc
   exact h.gok.all j c hc
 have:=h.sum (fun b=>b.f0.length)
 have e:(mgB b nx).f0.length=b.f0.length+nx.f0.length:=List.length_append
 have e2:ji.f0.length=0:=rfl
 have:=h.gok.sum
 omega
theorem yX (pk:List Int):∀ (c d:List S45) (M:bg),bq pk (c++d) M=if (bq pk c M).2.1=0 then ((bq pk d (bq pk c M).1).1,(bq pk d (bq pk c M).1).2.1,(bq pk c M).2.2+(bq pk d (bq pk c M).1).2.2) else bq pk c M:=by
 intro c
 induction c with
 | nil=>intro d M;show bq pk d M=(if (0:Int)=0 then _ else _);rw [if_pos rfl];show _=(_,_,0+_);rw [Nat.zero_add];rfl
 | cons i r ih=>
  intro d M
  show (if (bH i pk M).2=0 then ((bq pk (r++d) (bH i pk M).1).1,(bq pk (r++d) (bH i pk M).1).2.1,(bq pk (r++d) (bH i pk M).1).2.2+1) else ((bH i pk M).1,(bH i pk M).2,1))=_
  have e:bq pk (i :: r) M=(if (bH i pk M).2=0 then ((bq pk r (bH i pk M).1).1,(bq pk r (bH i pk M).1).2.1,(bq pk r (bH i pk M).1).2.2+1) else ((bH i pk M).1,(bH i pk M).2,1)):=rfl
  rw [e]
  by_cases f0:(bH i pk M).2=0
  · rw [if_pos f0,if_pos f0,ih]
    dsimp only
    by_cases q:(bq pk r (bH i pk M).1).2.1=0
    · rw [if_pos q,if_pos q]
      simp only [Prod.mk.injEq,true_and]
      omega
    rw [if_neg q,if_neg q]
  rw [if_neg f0,if_neg f0]
  dsimp only
  rw [if_neg f0]
def shO (k:Nat):Out→Out
 | .fin v f s => .fin v f (k+s)
 | .go j M s => .go j M (k+s)
theorem endO_sh (b:S47) (M:bg) (k s:Nat):eP b M (k+s)=shO k (eP b M s):=by
 unfold eP
 split
 · rfl
 split<;>rfl
theorem zx (pk:List Int) {b nx:S47} (h:b.f1=2) (M:bg):((bq pk b.f0 M).2.1=0→eD pk (mgB b nx) M=shO (bq pk b.f0 M).2.2 (eD pk nx (bq pk b.f0 M).1))∧((bq pk b.f0 M).2.1≠0→eD pk (mgB b nx) M=eD pk b M):=by
 have e:eD pk (mgB b nx) M=if (bq pk (b.f0++nx.f0) M).2.1=0 then eP nx (bq pk (b.f0++nx.f0) M).1 (bq pk (b.f0++nx.f0) M).2.2 else .fin 0 (bq pk (b.f0++nx.f0) M).2.1 (bq pk (b.f0++nx.f0) M).2.2:=rfl
 rw [e,yX]
 refine ⟨fun h0=>?_,fun h0=>?_⟩
 · rw [if_pos h0]
   dsimp only
   unfold eD
   split
   · exact endO_sh _ _ _ _
   rfl
 rw [if_neg h0,if_neg h0]
 unfold eD
 rw [if_neg h0]
theorem Mg.run {g:List S47} {a y:Nat} {b nx:S47} (h:Mg g a y b nx) (pk:List Int):∀ {j:Nat} {M:bg} {v f:Int} {t:Nat},Rn g pk j M v f t →
 (j≠y→Rn (jn1 g a y b nx) pk j M v f t)∧(j=y→eD pk nx M = .fin v f t∨∃ j1 M1 s t1,eD pk nx M = .go j1 M1 s∧t=s+t1∧Rn (jn1 g a y b nx) pk j1 M1 v f t1):=by
 obtain ⟨l1,l2,l3⟩:=h.lt
 obtain ⟨g1,g2,g3⟩:=h.get
 intro j M v f t hr
 induction hr with
 | @fin j M c v f s hb e=>
  refine ⟨fun hy=>?_,fun hy=>?_⟩
  · by_cases qa:j=a
    · subst qa
      rw [h.at_] at hb;cases hb
      have h0:(bq pk b.f0 M).2.1≠0:=by
       intro h0
       unfold eD at e
       rw [if_pos h0] at e
       unfold eP at e
       have:=h.goes
       rw [if_neg (by omega),if_pos this] at e
       cases e
      exact .fin g1 (by rw [(zx pk h.goes M).2 h0];exact e)
    exact .fin (by rw [g3 j qa hy];exact hb) e
  subst hy
  rw [h.nx] at hb;cases hb
  exact .inl e
 | @go j M c j1 M1 s1 v f t1 hb e _ ih=>
  have hok:=h.gok.all j c hb
  obtain ⟨h0,q1,q2,q3,q4⟩:=jE hok (by omega) e
  refine ⟨fun hy=>?_,fun hy=>?_⟩
  · by_cases qa:j=a
    · subst qa
      rw [h.at_] at hb;cases hb
      have hj1:j1=y∧s1=(bq pk b.f0 M).2.2:=by
       have:=h.goes
       have:=h.goal
       rcases q4 with ⟨_,ej,es⟩ | ⟨e3,_⟩
       · exact ⟨by omega,es⟩
       omega
      have em:=(zx pk (nx:=nx) h.goes M).1 h0
      rw [←q1,←hj1.2] at em
      rcases ih.2 hj1.1 with e2 | ⟨j2,M2,s2,t2,e2,rfl,hr2⟩
      · rw [e2] at em
        exact .fin g1 em
      rw [e2] at em
      rw [←Nat.add_assoc]
      exact .go g1 em hr2
    have hj1:j1≠y:=by
     rintro rfl
     have c1:=nS (b:=b) (t:=j1) (by have:=h.goes;omega) h.goal
     have c2:=uF (t:=j1) h.at_ hb (Ne.symm qa)
     have:=h.one
     rcases q4 with ⟨e2,ej,_⟩ | ⟨e3,ej,_⟩
     · have:=nS (b:=c) (t:=j1) (by omega) (by omega)
       omega
     by_cases ho:hoP c.f2 M1.a M1.x=true
     · rw [if_pos ho] at ej
       have:=nS (b:=c) (t:=j1) (by omega) (by omega)
       omega
     rw [if_neg ho] at ej
     have:=cE_no (b:=c) (t:=j1) e3 (by omega)
     omega
    exact .go (by rw [g3 j qa hy];exact hb) e (ih.1 hj1)
  subst hy
  rw [h.nx] at hb;cases hb
  exact .inr ⟨j1,M1,s1,t1,e,rfl,ih.1 (by omega)⟩
theorem wC_app (c d:List S45):wC (c++d)=wC c+wC d:=by
 unfold wC;rw [List.map_append,List.sum_append]
theorem Mg.w {g:List S47} {a y:Nat} {b nx:S47} (h:Mg g a y b nx):phG (jn1 g a y b nx)<phG g∧msG (jn1 g a y b nx)≤msG g:=by
 have h1:=h.sum (phB g.length)
 have h2:=h.sum msB
 have hg:=h.goes
 have hy:=bE (h.gok.all a b h.at_).goal (by omega)
 have p1:phB g.length b=1+wC b.f0+(1+((g.length:Int) - b.f3).toNat):=by
  unfold phB wE;rw [if_neg (by omega),if_pos hg]
 have p2:phB g.length nx=1+wC nx.f0+wE g.length nx:=rfl
 have p3:phB g.length (mgB b nx)=1+(wC b.f0+wC nx.f0)+wE g.length nx:=by rw [←wC_app];rfl
 have p4:phB g.length ji=2:=rfl
 have m1:msB b=b.f0.length+1:=by unfold msB;rw [if_neg (by omega)]
 have m2:msB (mgB b nx)+1=b.f0.length+msB nx+1:=by
  have e:(mgB b nx).f0.length=b.f0.length+nx.f0.length:=List.length_append
  show (mgB b nx).f0.length+1+(if nx.f1=3 then 2 else 0)+1=b.f0.length+(nx.f0.length+1+(if nx.f1=3 then 2 else 0))+1
  omega
 have m3:msB ji=1:=rfl
 refine ⟨?_,?_⟩
 · unfold phG
   rw [h.len]
   omega
 unfold msG
 omega
def jnY (g:List S47) (fr:List Nat) (a:Nat):Option (S47 × S47):=
 match g[a]? with
 | some b=>if b.f1=2∧fr.getD b.f3.toNat 0=1 then (match g[b.f3.toNat]? with | some nx=>some (b,nx) | none=>none) else none
 | none=>none
def jnW:Nat→List S47→List Nat→Nat→List S47 × List Nat × Bool
 | 0,g,fr,_=>(g,fr,false)
 | k+1,g,fr,a=>
  match jnY g fr a with
  | some (b,nx)=>((jnW k (jn1 g a b.f3.toNat b nx) (fr.set b.f3.toNat 0) a).1,(jnW k (jn1 g a b.f3.toNat b nx) (fr.set b.f3.toNat 0) a).2.1,true)
  | none=>(g,fr,false)
def jnL:Nat→List S47→List Nat→Nat→List S47 × Bool
 | 0,g,_,_=>(g,false)
 | d+1,g,fr,a=>((jnL d (jnW g.length g fr a).1 (jnW g.length g fr a).2.1 (a+1)).1,(jnW g.length g fr a).2.2||(jnL d (jnW g.length g fr a).1 (jnW g.length g fr a).2.1 (a+1)).2)
def frG (g:List S47):List Nat:=(List.range g.length).map (jV g)
def jC (g:List S47):List S47 × Bool:=jnL g.length g (frG g) 0
structure qY (g:List S47) (fr:List Nat):Prop where
 len:fr.length=g.length
 eq:∀ t,t<g.length→fr.getD t 0=jV g t
theorem fr_0 (g:List S47):qY g (frG g):=by
 refine ⟨by unfold frG;rw [List.length_map,List.length_range],fun t ht=>?_⟩
 unfold frG
 rw [List.getD_eq_getElem?_getD,List.getElem?_map,List.getElem?_range ht]
 rfl
theorem y8 {g:List S47} (hg:GOk g) {fr:List Nat} (hf:qY g fr) {a:Nat} {b nx:S47} (h:jnY g fr a=some (b,nx)):Mg g a b.f3.toNat b nx:=by
 unfold jnY at h
 cases e:g[a]? with
 | none=>rw [e] at h;cases h
 | some c=>
  rw [e] at h
  dsimp only at h
  by_cases q:c.f1=2∧fr.getD c.f3.toNat 0=1
  · rw [if_pos q] at h
    cases e2:g[c.f3.toNat]? with
    | none=>rw [e2] at h;cases h
    | some d=>
     rw [e2] at h
     cases h
     have hlt:b.f3.toNat<g.length:=(List.getElem?_eq_some_iff.1 e2).1
     exact ⟨hg,e,q.1,rfl,e2,by rw [←hf.eq _ hlt];exact q.2⟩
  rw [if_neg q] at h;cases h
theorem fr_mg {g:List S47} {fr:List Nat} (hf:qY g fr) {a y:Nat} {b nx:S47} (h:Mg g a y b nx):qY (jn1 g a y b nx) (fr.set y 0):=by
 obtain ⟨l1,l2,l3⟩:=h.lt
 refine ⟨by rw [List.length_set,h.len];exact hf.len,fun t ht=>?_⟩
 rw [h.len] at ht
 rw [dm (by rw [hf.len];exact l2),h.cnt]
 by_cases q:y=t
 · rw [if_pos q,if_pos q.symm]
 rw [if_neg q,if_neg (fun h=>q h.symm)];exact hf.eq t ht
structure lg (g g':List S47) (found:Bool):Prop where
 gok:GOk g'
 len:g'.length=g.length
 run:∀ pk v f t,Rn g pk 0 z16 v f t→Rn g' pk 0 z16 v f t
 ms:msG g'≤msG g
 ph:phG g'≤phG g
 less:found=true→phG g'<phG g
 same:found=false→g'=g
theorem lg.refl {g:List S47} (hg:GOk g):lg g g false:=⟨hg,rfl,(fun _ _ _ _ h=>h),Nat.le_refl _,Nat.le_refl _,(fun h=>by cases h),fun _=>rfl⟩
theorem lg.one {g:List S47} {a y:Nat} {b nx:S47} (h:Mg g a y b nx):lg g (jn1 g a y b nx) true:=by
 obtain ⟨w1,w2⟩:=h.w
 obtain ⟨l1,l2,l3⟩:=h.lt
 exact ⟨h.gok',h.len,fun pk v f t hr=>(h.run pk hr).1 (by omega),w2,Nat.le_of_lt w1,fun _=>w1,fun h=>by cases h⟩
theorem lg.trans {g g1 g2:List S47} {f1 f2:Bool} (h:lg g g1 f1) (h2:lg g1 g2 f2):lg g g2 (f1||f2):=by
 refine ⟨h2.gok,h2.len.trans h.len,fun pk v f t hr=>h2.run pk v f t (h.run pk v f t hr),Nat.le_trans h2.ms h.ms,Nat.le_trans h2.ph h.ph,fun hf=>?_,fun hf=>?_⟩
 · have:=h.ph
   have:=h2.ph
   rcases Bool.or_eq_true_iff.1 hf with hf | hf
   · have:=h.less hf;omega
   have:=h2.less hf;omega
 rw [Bool.or_eq_false_iff] at hf
 rw [h2.same hf.2,h.same hf.1]
theorem jnW_ok (P:List S47→Prop) (hP:∀ g a y b nx,Mg g a y b nx→P g→P (jn1 g a y b nx)):∀ (k:Nat) (g:List S47) (fr:List Nat) (a:Nat),GOk g→qY g fr→P g →
 lg g (jnW k g fr a).1 (jnW k g fr a).2.2∧qY (jnW k g fr a).1 (jnW k g fr a).2.1∧P (jnW k g fr a).1:=by
 intro k
 induction k with
 | zero=>intro g fr a hg hf hp;exact ⟨lg.refl hg,hf,hp⟩
 | succ k ih=>
  intro g fr a hg hf hp
  unfold jnW
  cases e:jnY g fr a with
  | none=>exact ⟨lg.refl hg,hf,hp⟩
  | some q=>
   obtain ⟨b,nx⟩:=q
   have hm:=y8 hg hf e
   obtain ⟨i1,i2,i3⟩:=ih (jn1 g a b.f3.toNat b nx) (fr.set b.f3.toNat 0) a hm.gok' (fr_mg hf hm) (hP _ _ _ _ _ hm hp)
   dsimp only
   have:=(lg.one hm).trans i1
   rw [Bool.true_or] at this
   exact ⟨this,i2,i3⟩
theorem yZ (P:List S47→Prop) (hP:∀ g a y b nx,Mg g a y b nx→P g→P (jn1 g a y b nx)):∀ (d:Nat) (g:List S47) (fr:List Nat) (a:Nat),GOk g→qY g fr→P g →
 lg g (jnL d g fr a).1 (jnL d g fr a).2∧P (jnL d g fr a).1:=by
 intro d
 induction d with
 | zero=>intro g fr a hg hf hp;exact ⟨lg.refl hg,hp⟩
 | succ d ih=>
  intro g fr a hg hf hp
  unfold jnL
  dsimp only
  obtain ⟨w1,w2,w3⟩:=jnW_ok P hP g.length g fr a hg hf hp
  obtain ⟨i1,i2⟩:=ih _ _ (a+1) w1.gok w2 w3
  exact ⟨w1.trans i1,i2⟩
theorem mH {g:List S47} (hg:GOk g):iM g (jC g).1 (jC g).2:=by
 obtain ⟨h,_⟩:=yZ (fun _=>True) (fun _ _ _ _ _ _ _=>trivial) g.length g (frG g) 0 hg (fr_0 g) trivial
 exact ⟨h.gok,fun pk v f t hr=>⟨t,Nat.le_refl _,h.run pk v f t hr⟩,h.ms,h.ph,h.less,h.same⟩
theorem sV (P:List S47→Prop) (hP:∀ g a y b nx,Mg g a y b nx→P g→P (jn1 g a y b nx)) {g:List S47} (hg:GOk g) (hp:P g):P (jC g).1:=
 (yZ P hP g.length g (frG g) 0 hg (fr_0 g) hp).2
end Go.Proofs.Ytdkalnkplgfgoaa.Ln
