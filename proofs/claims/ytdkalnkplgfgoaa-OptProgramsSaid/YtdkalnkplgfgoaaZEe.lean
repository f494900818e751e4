/- Lemmas and walks for the statements of the texts ZEZ..: the declarations that they need, taken together by a program of this session. Conditions: as each says. -/
import Derived.Test.YtdkalnkplgfgoaaZEd
set_option linter.unusedVariables false
set_option linter.unusedSimpArgs false
namespace Go.Proofs.Ytdkalnkplgfgoaa.Ln
open Go.RowKit Go.Maps Go.Proofs.YtdkalnkplgfgoaaW.PrintWords Go.Proofs.YtdkalnkplgfgoaaW.PrintLast Go.Proofs.YtdkalnkplgfgoaaW.PrintMore Go.Proofs.Ytdkalnkplgfgoaa.PA
def okJ (p:List S45) (t:Nat) (i:S45):Prop:=
 flF i.f0 i.f3=0∧(i.f0=5→i.f3<(p.length:Int) - 1 - t)∧(jmB i.f0=true→i.f1<(p.length:Int) - 1 - t∧i.f2<(p.length:Int) - 1 - t)
structure PrW (p:List S45):Prop where
 w:∀ i∈p,0≤i.f1∧i.f1<256∧0≤i.f2∧i.f2<256∧0≤i.f3∧i.f3<4294967296
theorem chk_l (p:List S45) (hw:PrW p) (hp:p.length≤4096) (h0:0<p.length):∀ (d t:Nat),p.length - t=d→t≤p.length→∀ k,d+10≤k →
 ∃ r,bD.l0 k p (p.length:Int) (t:Int)=some r∧(r.2=0→(∀ (s:Nat) (h:s<p.length),t≤s→okJ p s p[s])∧reB (p[p.length - 1]'(by omega)).f0=true):=by
 intro d
 induction d with
 | zero=>
  intro t hd ht k hk
  obtain ⟨k,rfl⟩:∃ m,k=m+1:=⟨k - 1,by omega⟩
  have hl:aV p ((p.length:Int) - 1)=p[p.length - 1]'(by omega):=by
   have:=kw (c:=p) (j:=p.length - 1) (by omega)
   rw [show ((p.length - 1:Nat):Int)=(p.length:Int) - 1 by omega] at this
   exact this
  rw [bD.l0,if_neg (by omega),w64 (n:=(p.length:Int) - 1) (by omega) (by omega),if_pos (by omega),if_pos (by omega),hl,ll,Option.bind_some]
  cases hr:reB (p[p.length - 1]'(by omega)).f0
  · exact ⟨_,rfl,fun h=>by cases h⟩
  exact ⟨_,rfl,fun _=>⟨fun s h1 h2=>by omega,rfl⟩⟩
 | succ d ih=>
  intro t hd ht k hk
  obtain ⟨k,rfl⟩:∃ m,k=m+9:=⟨k - 9,by omega⟩
  have hlt:t<p.length:=by omega
  obtain ⟨r,hr,hr2⟩:=ih (t+1) (by omega) (by omega) (k+8) (by omega)
  rw [show ((t+1:Nat):Int)=(t:Int)+1 by omega] at hr
  have hwt:=hw.w p[t] (List.getElem_mem hlt)
  have hall:r.2=0→okJ p t p[t]→(∀ (s:Nat) (h:s<p.length),t≤s→okJ p s p[s])∧reB (p[p.length - 1]'(by omega)).f0=true:=fun h1 h2=>⟨fun s hs hts=>by
   by_cases e:s=t
   · subst e;exact h2
   exact (hr2 h1).1 s hs (by omega),(hr2 h1).2⟩
  rw [bD.l0,if_pos (by omega),if_pos (by omega),if_pos (by omega),kw hlt,wm,Option.bind_some,uJ,Option.bind_some,w64 (n:=(p.length:Int) - 1) (by omega) (by omega),w64 (n:=(p.length:Int) - 1 - t) (by omega) (by omega),w64 (n:=(t:Int)+1) (by omega) (by omega),hr]
  generalize hi:p[t]=i at *
  by_cases c0:flF i.f0 i.f3=0
  · rw [if_pos c0]
    by_cases c5:i.f0=5
    · have hj:jmB i.f0=false:=by rw [c5];rfl
      rw [if_pos c5]
      by_cases c6:i.f3≥((p.length:Int) - 1 - t) % 4294967296
      · rw [if_pos c6];exact ⟨_,rfl,fun h=>by cases h⟩
      rw [if_neg c6,hj,if_neg (by decide)];exact ⟨r,rfl,fun h=>hall h ⟨c0,fun _=>by omega,fun h2=>by rw [hj] at h2;cases h2⟩⟩
    rw [if_neg c5]
    cases hj:jmB i.f0
    · rw [if_neg (by decide)];exact ⟨r,rfl,fun h=>hall h ⟨c0,fun h2=>absurd h2 c5,fun h2=>by rw [hj] at h2;cases h2⟩⟩
    rw [if_pos rfl,w64 (n:=i.f1) (by omega) (by omega),w64 (n:=i.f2) (by omega) (by omega)]
    by_cases c7:i.f1≥(p.length:Int) - 1 - t
    · rw [if_pos c7];exact ⟨_,rfl,fun h=>by cases h⟩
    rw [if_neg c7]
    by_cases c8:i.f2≥(p.length:Int) - 1 - t
    · rw [if_pos c8];exact ⟨_,rfl,fun h=>by cases h⟩
    rw [if_neg c8];exact ⟨r,rfl,fun h=>hall h ⟨c0,fun h2=>absurd h2 c5,fun _=>⟨by omega,by omega⟩⟩⟩
  rw [if_neg c0]
  exact ⟨_,rfl,fun h=>absurd h c0⟩
theorem chk_f (p:List S45) (hw:PrW p) (k:Nat) (hk:10000≤k):∃ r,bD.f k p=some r∧(r.2=0→∃ h0:0<p.length,p.length≤4096∧(∀ (s:Nat) (h:s<p.length),okJ p s p[s])∧reB (p[p.length - 1]'(by omega)).f0=true):=by
 unfold bD.f
 by_cases h0:(p.length:Int)=0
 · rw [if_pos h0];exact ⟨_,rfl,fun h=>by cases h⟩
 rw [if_neg h0]
 by_cases h1:(p.length:Int)>4096
 · rw [if_pos h1];exact ⟨_,rfl,fun h=>by cases h⟩
 rw [if_neg h1]
 obtain ⟨r,hr,hr2⟩:=chk_l p hw (by omega) (by omega) p.length 0 rfl (by omega) k (by omega)
 exact ⟨r,hr,fun h=>⟨by omega,by omega,fun s hs=>(hr2 h).1 s hs (by omega),(hr2 h).2⟩⟩
theorem yU {a:Int} (h:Rg a):((BitVec.ofInt 32 a).toNat:Int)=a:=by
 rw [BitVec.toNat_ofInt]
 have h1:=h.1
 have h2:=h.2
 have:(2 ^ 32:Nat)=4294967296:=by decide
 rw [this]
 omega
theorem or_z {a:Int} (h:Rg a):Go.bits .or .u32 a 0=a:=by
 show IntKind.u32.wrap ((BitVec.ofInt 32 a ||| BitVec.ofInt 32 0).toNat:Int)=a
 rw [show BitVec.ofInt 32 0=0#32 from rfl,BitVec.or_zero,yU h,uh h]
theorem xor_z {a:Int} (h:Rg a):Go.bits .xor .u32 a 0=a:=by
 show IntKind.u32.wrap ((BitVec.ofInt 32 a ^^^ BitVec.ofInt 32 0).toNat:Int)=a
 rw [show BitVec.ofInt 32 0=0#32 from rfl,BitVec.xor_zero,yU h,uh h]
theorem and_z (a:Int):Go.bits .and .u32 a 0=0:=by
 show IntKind.u32.wrap ((BitVec.ofInt 32 a &&& BitVec.ofInt 32 0).toNat:Int)=0
 rw [show BitVec.ofInt 32 0=0#32 from rfl,BitVec.and_zero]
 rfl
theorem and_o {a:Int} (h:Rg a):Go.bits .and .u32 a 4294967295=a:=by
 show IntKind.u32.wrap ((BitVec.ofInt 32 a &&& BitVec.ofInt 32 4294967295).toNat:Int)=a
 rw [show BitVec.ofInt 32 4294967295=BitVec.allOnes 32 from by decide,BitVec.and_allOnes,yU h,uh h]
theorem uS {c d:Int} (h:Go.bits .andNot .u16 c 8=Go.bits .andNot .u16 d 8) (a b:Int):opP c a b=opP d a b:=by
 unfold opP bX.f
 rw [h]
theorem op_4 (a b:Int):opP 4 a b=((a+b) % 4294967296,0):=rfl
theorem op_20 (a b:Int):opP 20 a b=((a - b) % 4294967296,0):=rfl
theorem op_36 (a b:Int):opP 36 a b=((a*b) % 4294967296,0):=rfl
theorem op_68 (a b:Int):opP 68 a b=(Go.bits .or .u32 a b,0):=rfl
theorem op_84 (a b:Int):opP 84 a b=(Go.bits .and .u32 a b,0):=rfl
theorem op_164 (a b:Int):opP 164 a b=(Go.bits .xor .u32 a b,0):=rfl
theorem si {a b:Int} (hb:0≤b):opP 100 a b=(if b>31 then 0 else shl .u32 a b,0):=by
 show ((bQ.f a b true).bind fun t=>some (t,(0:Int))).getD (0,0)=_
 unfold bQ.f
 by_cases h:b>31
 · rw [if_pos h,if_pos h];rfl
 rw [if_neg h,if_neg h,if_pos rfl,if_pos hb];rfl
theorem sj {a b:Int} (hb:0≤b):opP 116 a b=(if b>31 then 0 else shr .u32 a b,0):=by
 show ((bQ.f a b false).bind fun t=>some (t,(0:Int))).getD (0,0)=_
 unfold bQ.f
 by_cases h:b>31
 · rw [if_pos h,if_pos h];rfl
 rw [if_neg h,if_neg h,if_neg (by decide),if_pos hb];rfl
theorem Bd (a b:Int):opP 52 a b=(if b=0 then (0,2) else ((Int.tdiv a b) % 4294967296,0)):=by
 show (if b=0 then some ((0:Int),(2:Int)) else some ((Int.tdiv a b) % 4294967296,0)).getD (0,0)=_
 by_cases h:b=0
 · rw [if_pos h,if_pos h];rfl
 rw [if_neg h,if_neg h];rfl
theorem Bc (a b:Int):opP 148 a b=(if b=0 then (0,2) else (Int.tmod a b,0)):=by
 show (if b=0 then some ((0:Int),(2:Int)) else some (Int.tmod a b,0)).getD (0,0)=_
 by_cases h:b=0
 · rw [if_pos h,if_pos h];rfl
 rw [if_neg h,if_neg h];rfl
def eQ:List Int:=[4,20,36,52,68,84,100,116,148,164]
def gH:List Int:=[12,28,44,60,76,92,108,124,156,172]
theorem uT {c a b:Int} (hc:c∈eQ) (hb:0≤b) (h:(c=52∨c=148)→b≠0):(opP c a b).2=0:=by
 simp only [eQ,List.mem_cons,List.not_mem_nil,or_false] at hc
 rcases hc with rfl | rfl | rfl | rfl | rfl | rfl | rfl | rfl | rfl | rfl
 · rfl
 · rfl
 · rfl
 · rw [Bd,if_neg (h (.inl rfl))]
 · rfl
 · rfl
 · rw [si hb]
 · rw [sj hb]
 · rw [Bc,if_neg (h (.inr rfl))]
 rfl
theorem op_idle {c a k:Int} (ha:Rg a) (h:((c=4∨c=20∨c=68∨c=164∨c=100∨c=116)∧k=0)∨((c=36∨c=52)∧k=1)∨(c=84∧k=4294967295)):opP c a k=(a,0):=by
 have h1:=ha.1
 have h2:=ha.2
 rcases h with ⟨h,rfl⟩ | ⟨h,rfl⟩ | ⟨rfl,rfl⟩
 · rcases h with rfl | rfl | rfl | rfl | rfl | rfl
   · rw [op_4,Int.add_zero,Int.emod_eq_of_lt h1 h2]
   · rw [op_20,Int.sub_zero,Int.emod_eq_of_lt h1 h2]
   · rw [op_68,or_z ha]
   · rw [op_164,xor_z ha]
   · rw [si (Int.le_refl 0),if_neg (by decide)]
     have:shl .u32 a 0=IntKind.u32.wrap (a*1):=rfl
     rw [this,Int.mul_one,uh ha]
   rw [sj (Int.le_refl 0),if_neg (by decide)]
   have:shr .u32 a 0=a / 1:=rfl
   rw [this,Int.ediv_one]
 · rcases h with rfl | rfl
   · rw [op_36,Int.mul_one,Int.emod_eq_of_lt h1 h2]
   rw [Bd,if_neg (by decide),Int.tdiv_one,Int.emod_eq_of_lt h1 h2]
 rw [op_84,and_o ha]
theorem qQ (a:Int):opP 84 a 0=(0,0)∧opP 36 a 0=(0,0):=by
 rw [op_84,op_36,and_z,Int.mul_zero];exact ⟨rfl,rfl⟩
theorem Be {a y:Int} (h:y>31):opP 108 a y=(0,0)∧opP 124 a y=(0,0):=by
 rw [uS (c:=108) (d:=100) (by decide),uS (c:=124) (d:=116) (by decide),si (by omega),sj (by omega),if_pos h]
 exact ⟨rfl,by rw [if_pos h]⟩
abbrev St:=List (Option Int)
def gS (s:St) (i:Nat):Option Int:=s.getD i none
def wd (M:bH):Nat→Int
 | 0=>M.a
 | 1=>M.x
 | n+2=>M.m.getD n 0
structure Snd (s:St) (M:bH):Prop where
 len:s.length=18
 wd:∀ i v,gS s i=some v→wd M i=v
def ldL:List Int:=[0,32,40,48,64,72,80,96,128,1,97,129,177]
def stL:List Int:=[0,32,40,48,64,72,80,96,128,1,97,129,177,2,3,132,7,135,4,20,36,52,68,84,100,116,148,164,12,28,44,60,76,92,108,124,156,172]
def oh (s:St) (i:S45):S45:=
 if i.f0=96 then (match gS s (2+i.f3.toNat) with | some v=>⟨0,0,0,v⟩ | none=>i)
 else if i.f0=97 then (match gS s (2+i.f3.toNat) with | some v=>⟨1,0,0,v⟩ | none=>i)
 else if i.f0=64∨i.f0=72∨i.f0=80 then (match gS s 1 with | some x=>if x+i.f3≤4294967295 then ⟨i.f0 - 32,0,0,x+i.f3⟩ else i | none=>i)
 else i
def jF (s:St) (i:S45):S45:=
 match gS s 0 with
 | some a=>⟨0,0,0,(opP i.f0 a i.f3).1⟩
 | none=>if i.f3=0∧(i.f0=84∨i.f0=36) then ⟨0,0,0,0⟩ else i
def ru (s:St) (i:S45):S45:=
 if i.f0=132 then (match gS s 0 with | some a=>⟨0,0,0,IntKind.u32.wrap (-a)⟩ | none=>i)
 else if i.f0∈gH then (match gS s 1 with
  | none=>i
  | some y=>if (i.f0=108∨i.f0=124)∧y>31 then ⟨0,0,0,0⟩ else if y=0∧(i.f0=60∨i.f0=156) then i else jF s ⟨i.f0 - 8,0,0,y⟩)
 else jF s i
def om (s:St) (i:S45):S45:=
 if i.f0=7 then (match gS s 0 with | some a=>⟨1,0,0,a⟩ | none=>i)
 else (match gS s 1 with | some x=>⟨0,0,0,x⟩ | none=>i)
def dn (s:St) (i:S45):S45:=
 if i.f0∈ldL then oh s i
 else if i.f0=7∨i.f0=135 then om s i
 else if i.f0=132∨i.f0∈eQ∨i.f0∈gH then ru s i
 else i
def iq (s:St) (i:S45):Bool:=
 if i.f0=0 then decide (gS s 0=some i.f3)
 else if i.f0=1 then decide (gS s 1=some i.f3)
 else if i.f0=2 then (gS s 0).isSome&&decide (gS s (2+i.f3.toNat)=gS s 0)
 else if i.f0=3 then (gS s 1).isSome&&decide (gS s (2+i.f3.toNat)=gS s 1)
 else if i.f0=4∨i.f0=20∨i.f0=68∨i.f0=164∨i.f0=100∨i.f0=116 then decide (i.f3=0)
 else if i.f0=36∨i.f0=52 then decide (i.f3=1)
 else if i.f0=84 then decide (i.f3=4294967295)
 else false
def dK (s:St) (i:S45):St:=
 if i.f0=0 then s.set 0 (some i.f3)
 else if i.f0=1 then s.set 1 (some i.f3)
 else if i.f0=2 then s.set (2+i.f3.toNat) (gS s 0)
 else if i.f0=3 then s.set (2+i.f3.toNat) (gS s 1)
 else if i.f0=7 then s.set 1 (gS s 0)
 else if i.f0=135 then s.set 0 (gS s 1)
 else if i.f0=97∨i.f0=129∨i.f0=177 then s.set 1 none
 else s.set 0 none
theorem gQ {c K:Int} (h:stB c K=true):c∈stL∧((c=2∨c=3∨c=96∨c=97)→K<16)∧((c=52∨c=148)→K≠0)∧((c=100∨c=116)→K≤31):=by
 have hn:=stB_not h
 unfold stB at h
 simp only [Bool.and_eq_true,Bool.or_eq_true,Bool.not_eq_true',decide_eq_true_eq,decide_eq_false_iff_not] at h
 obtain ⟨⟨⟨⟨⟨⟨h1,h2⟩,h3⟩,h4⟩,h5⟩,h6⟩,h7⟩:=h
 refine ⟨?_,?_,?_,?_⟩
 · have H:∀ x∈knL,x=6∨x=22∨x=5∨jmB x=true∨x∈stL:=by decide
   rcases Ae (P:=fun x=>x=6∨x=22∨x=5∨jmB x=true∨x∈stL) h1 H with e | e | e | e | e
   · exact absurd e hn.1
   · exact absurd e hn.2.1
   · exact absurd e hn.2.2.1
   · rw [h2] at e;cases e
   exact e
 · intro e;rcases h5 with h5 | h5
   · exact absurd e h5
   exact h5
 · intro e;rcases h6 with h6 | h6
   · exact absurd e h6
   exact h6
 intro e;rcases h7 with h7 | h7
 · exact absurd e h7
 exact h7
theorem kM {c K:Int} (hm:c∈stL) (h1:(c=2∨c=3∨c=96∨c=97)→K<16) (h2:(c=52∨c=148)→K≠0) (h3:(c=100∨c=116)→K≤31):stB c K=true:=by
 have H:∀ x∈stL,kn x=true∧jmB x=false∧reB x=false∧x≠5:=by decide
 obtain ⟨a,b,d,e⟩:=H c hm
 have e5:decide (c=5)=false:=decide_eq_false e
 have e6:(!decide (c=2∨c=3∨c=96∨c=97)||decide (K<16))=true:=by
  by_cases q:c=2∨c=3∨c=96∨c=97
  · rw [decide_eq_true (h1 q),Bool.or_true]
  rw [decide_eq_false q];rfl
 have e7:(!decide (c=52∨c=148)||decide (K≠0))=true:=by
  by_cases q:c=52∨c=148
  · rw [decide_eq_true (h2 q),Bool.or_true]
  rw [decide_eq_false q];rfl
 have e8:(!decide (c=100∨c=116)||decide (K≤31))=true:=by
  by_cases q:c=100∨c=116
  · rw [decide_eq_true (h3 q),Bool.or_true]
  rw [decide_eq_false q];rfl
 unfold stB
 rw [a,b,d,e5,e6,e7,e8]
 rfl
theorem kL {k:Int} (h0:0≤k) (h1:k<16):ix k=k.toNat:=by
 have:k=0∨k=1∨k=2∨k=3∨k=4∨k=5∨k=6∨k=7∨k=8∨k=9∨k=10∨k=11∨k=12∨k=13∨k=14∨k=15:=by omega
 rcases this with rfl | rfl | rfl | rfl | rfl | rfl | rfl | rfl | rfl | rfl | rfl | rfl | rfl | rfl | rfl | rfl<;>decide
theorem qX (c jt jf k:Int) (hc:c∈eQ∨c∈gH) (pk:List Int) (M:bH):bY ⟨c,jt,jf,k⟩ pk M=({M with a:=(opP c M.a (if byX c then M.x else k)).1},(opP c M.a (if byX c then M.x else k)).2):=by
 simp only [eQ,gH,List.mem_cons,List.not_mem_nil,or_false] at hc
 rcases hc with h | h<;>rcases h with rfl | rfl | rfl | rfl | rfl | rfl | rfl | rfl | rfl | rfl<;>rfl
theorem uj (c jt jf k:Int) (hc:c∈eQ) (pk:List Int) (M:bH):bY ⟨c,jt,jf,k⟩ pk M=({M with a:=(opP c M.a k).1},(opP c M.a k).2):=by
 have H:∀ x∈eQ,byX x=false:=by decide +kernel
 rw [qX c jt jf k (.inl hc),H c hc]
 rfl
theorem stepX (c jt jf k:Int) (hc:c∈gH) (pk:List Int) (M:bH):bY ⟨c,jt,jf,k⟩ pk M=({M with a:=(opP (c - 8) M.a M.x).1},(opP (c - 8) M.a M.x).2)∧c - 8∈eQ∧(c=60∨c=156∨(c - 8≠52∧c - 8≠148))∧opP c M.a M.x=opP (c - 8) M.a M.x:=by
 have H:∀ x∈gH,byX x=true∧Go.bits .andNot .u16 x 8=Go.bits .andNot .u16 (x - 8) 8∧x - 8∈eQ∧(x=60∨x=156∨(x - 8≠52∧x - 8≠148)):=by decide +kernel
 obtain ⟨h1,h2,h3,h4⟩:=H c hc
 rw [qX c jt jf k (.inr hc),h1,if_pos rfl,uS h2]
 exact ⟨rfl,h3,h4,rfl⟩
theorem Snd.at0 {s:St} {M:bH} (h:Snd s M) {v:Int} (e:gS s 0=some v):M.a=v:=h.wd 0 v e
theorem Snd.at1 {s:St} {M:bH} (h:Snd s M) {v:Int} (e:gS s 1=some v):M.x=v:=h.wd 1 v e
theorem Snd.atM {s:St} {M:bH} (h:Snd s M) {n:Nat} {v:Int} (e:gS s (2+n)=some v):M.m.getD n 0=v:=by
 rw [Nat.add_comm] at e;exact h.wd (n+2) v e
theorem o7 (s:St) (M:bH) (i:S45) (pk:List Int) (hs:Snd s M) (hM:MB M) (hc:i.f0∈eQ) (hk:Rg i.f3) (h52:(i.f0=52∨i.f0=148)→i.f3≠0) (h31:(i.f0=100∨i.f0=116)→i.f3≤31) :
 bY (jF s i) pk M=bY i pk M∧stB (jF s i).f0 (jF s i).f3=true∧Rg (jF s i).f3:=by
 obtain ⟨c,jt,jf,k⟩:=i
 dsimp only at hc hk h52 h31
 have hsub:c∈stL∧c≠2∧c≠3∧c≠96∧c≠97:=by
  have:∀ x∈eQ,x∈stL∧x≠2∧x≠3∧x≠96∧x≠97:=by decide
  exact this c hc
 rw [uj c jt jf k hc]
 unfold jF
 cases e:gS s 0 with
 | some a=>
  have ha:=hs.at0 e
  subst ha
  dsimp only
  refine ⟨?_,kM (by decide) (by omega) (by omega) (by omega),Bb c _ k hM.a hk⟩
  rw [uT hc hk.1 h52]
  rfl
 | none=>
  dsimp only
  by_cases q:k=0∧(c=84∨c=36)
  · rw [if_pos q]
    obtain ⟨rfl,q⟩:=q
    refine ⟨?_,kM (by decide) (by decide) (by decide) (by decide),Rg.z⟩
    rcases q with rfl | rfl
    · rw [(qQ M.a).1];rfl
    rw [(qQ M.a).2];rfl
  rw [if_neg q]
  refine ⟨uj c jt jf k hc pk M,kM hsub.1 (fun h=>by rcases h with h | h | h | h<;>simp_all) h52 h31,hk⟩
theorem qV (s:St) (M:bH) (i:S45) (pk:List Int) (hs:Snd s M) (hM:MB M) (hc:stB i.f0 i.f3=true) (hk:Rg i.f3) :
 bY (dn s i) pk M=bY i pk M∧stB (dn s i).f0 (dn s i).f3=true∧Rg (dn s i).f3:=by
 obtain ⟨hm,h16,h52,h31⟩:=gQ hc
 have same:bY i pk M=bY i pk M∧stB i.f0 i.f3=true∧Rg i.f3:=⟨rfl,hc,hk⟩
 unfold dn
 by_cases q1:i.f0∈ldL
 · rw [if_pos q1]
   unfold oh
   by_cases c1:i.f0=96
   · rw [if_pos c1]
     cases e:gS s (2+i.f3.toNat) with
     | none=>exact same
     | some v=>
      have hv:=hs.atM e
      obtain ⟨c,jt,jf,k⟩:=i
      dsimp only at c1 hk h16 hv ⊢
      subst c1
      have hix:=kL hk.1 (h16 (by omega))
      refine ⟨?_,kM (by decide) (by omega) (by omega) (by omega),hv ▸ hM.m _⟩
      show ({M with a:=v},(0:Int))=({M with a:=M.m.getD (ix k) 0},0)
      rw [hix,hv]
   rw [if_neg c1]
   by_cases c2:i.f0=97
   · rw [if_pos c2]
     cases e:gS s (2+i.f3.toNat) with
     | none=>exact same
     | some v=>
      have hv:=hs.atM e
      obtain ⟨c,jt,jf,k⟩:=i
      dsimp only at c2 hk h16 hv ⊢
      subst c2
      have hix:=kL hk.1 (h16 (by omega))
      refine ⟨?_,kM (by decide) (by omega) (by omega) (by omega),hv ▸ hM.m _⟩
      show ({M with x:=v},(0:Int))=({M with x:=M.m.getD (ix k) 0},0)
      rw [hix,hv]
   rw [if_neg c2]
   by_cases c3:i.f0=64∨i.f0=72∨i.f0=80
   · rw [if_pos c3]
     cases e:gS s 1 with
     | none=>exact same
     | some x=>
      have hv:=hs.at1 e
      subst hv
      dsimp only
      by_cases q:M.x+i.f3≤4294967295
      · rw [if_pos q]
        obtain ⟨c,jt,jf,k⟩:=i
        dsimp only at c3 hk q ⊢
        have hx:=hM.x
        have hr:Rg (M.x+k):=⟨by have:=hx.1;have:=hk.1;omega,by omega⟩
        have hw:IntKind.u64.wrap (IntKind.u64.wrap k+IntKind.u64.wrap M.x)=IntKind.u64.wrap (M.x+k):=by
         simp only [IntKind.wrap_u64];omega
        rcases c3 with rfl | rfl | rfl
        · refine ⟨?_,kM (by decide) (by omega) (by omega) (by omega),hr⟩
          show ({M with a:=(rdP pk (IntKind.u64.wrap (M.x+k)) (szP 32)).1},(rdP pk (IntKind.u64.wrap (M.x+k)) (szP 32)).2)=({M with a:=(rdP pk (IntKind.u64.wrap (IntKind.u64.wrap k+IntKind.u64.wrap M.x)) (szP 64)).1},(rdP pk (IntKind.u64.wrap (IntKind.u64.wrap k+IntKind.u64.wrap M.x)) (szP 64)).2)
          rw [hw,show szP 32=szP 64 from rfl]
        · refine ⟨?_,kM (by decide) (by omega) (by omega) (by omega),hr⟩
          show ({M with a:=(rdP pk (IntKind.u64.wrap (M.x+k)) (szP 40)).1},(rdP pk (IntKind.u64.wrap (M.x+k)) (szP 40)).2)=({M with a:=(rdP pk (IntKind.u64.wrap (IntKind.u64.wrap k+IntKind.u64.wrap M.x)) (szP 72)).1},(rdP pk (IntKind.u64.wrap (IntKind.u64.wrap k+IntKind.u64.wrap M.x)) (szP 72)).2)
          rw [hw,show szP 40=szP 72 from rfl]
        refine ⟨?_,kM (by decide) (by omega) (by omega) (by omega),hr⟩
        show ({M with a:=(rdP pk (IntKind.u64.wrap (M.x+k)) (szP 48)).1},(rdP pk (IntKind.u64.wrap (M.x+k)) (szP 48)).2)=({M with a:=(rdP pk (IntKind.u64.wrap (IntKind.u64.wrap k+IntKind.u64.wrap M.x)) (szP 80)).1},(rdP pk (IntKind.u64.wrap (IntKind.u64.wrap k+IntKind.u64.wrap M.x)) (szP 80)).2)
        rw [hw,show szP 48=szP 80 from rfl]
      rw [if_neg q];exact same
   rw [if_neg c3]
   exact same
 rw [if_neg q1]
 by_cases q2:i.f0=7∨i.f0=135
 · rw [if_pos q2]
   unfold om
   by_cases c1:i.f0=7
   · rw [if_pos c1]
     cases e:gS s 0 with
     | none=>exact same
     | some v=>
      have hv:=hs.at0 e
      subst hv
      obtain ⟨c,jt,jf,k⟩:=i
      dsimp only at c1 ⊢
      subst c1
      exact ⟨rfl,kM (by decide) (by omega) (by omega) (by omega),hM.a⟩
   rw [if_neg c1]
   cases e:gS s 1 with
   | none=>exact same
   | some v=>
    have hv:=hs.at1 e
    subst hv
    obtain ⟨c,jt,jf,k⟩:=i
    dsimp only at c1 q2 ⊢
    obtain rfl:=q2.resolve_left c1
    exact ⟨rfl,kM (by decide) (by omega) (by omega) (by omega),hM.x⟩
 rw [if_neg q2]
 by_cases q3:i.f0=132∨i.f0∈eQ∨i.f0∈gH
 · rw [if_pos q3]
   unfold ru
   by_cases c1:i.f0=132
   · rw [if_pos c1]
     cases e:gS s 0 with
     | none=>exact same
     | some v=>
      have hv:=hs.at0 e
      subst hv
      obtain ⟨c,jt,jf,k⟩:=i
      dsimp only at c1 ⊢
      subst c1
      exact ⟨rfl,kM (by decide) (by omega) (by omega) (by omega),kH _⟩
   rw [if_neg c1]
   by_cases c2:i.f0∈gH
   · rw [if_pos c2]
     cases e:gS s 1 with
     | none=>exact same
     | some y=>
      have hv:=hs.at1 e
      subst hv
      obtain ⟨c,jt,jf,k⟩:=i
      dsimp only at c2 ⊢
      obtain ⟨sx,s8,s5,so⟩:=stepX c jt jf k c2 pk M
      by_cases d1:(c=108∨c=124)∧M.x>31
      · rw [if_pos d1,sx]
        refine ⟨?_,kM (by decide) (by decide) (by decide) (by decide),Rg.z⟩
        rw [←so]
        rcases d1 with ⟨rfl | rfl,d⟩
        · rw [(Be d).1];rfl
        rw [(Be d).2];rfl
      rw [if_neg d1]
      by_cases d2:M.x=0∧(c=60∨c=156)
      · rw [if_pos d2];exact same
      rw [if_neg d2]
      have:=o7 s M ⟨c - 8,0,0,M.x⟩ pk hs hM s8 hM.x (fun h h0=>d2 ⟨h0,by dsimp only at h;omega⟩) (fun h=>by dsimp only at h ⊢;omega)
      rw [this.1,sx,uj _ _ _ _ s8]
      exact ⟨rfl,this.2⟩
   rw [if_neg c2]
   exact o7 s M i pk hs hM ((q3.resolve_left c1).resolve_right c2) hk h52 h31
 rw [if_neg q3];exact same
theorem nH {s:St} {i j:Nat} {o:Option Int} (hi:i<s.length):gS (s.set i o) j=if i=j then o else gS s j:=by
 unfold gS
 rw [List.getD_eq_getElem?_getD,List.getElem?_set]
 by_cases h:i=j
 · subst h;rw [if_pos rfl,if_pos hi,if_pos rfl];rfl
 rw [if_neg h,if_neg h,List.getD_eq_getElem?_getD]
theorem Snd.setA {s:St} {M:bH} (h:Snd s M) {o:Option Int} {v:Int} (ho:∀ x,o=some x→v=x):Snd (s.set 0 o) {M with a:=v}:=by
 have hl:=h.len
 refine ⟨by rw [List.length_set];exact hl,fun i x e=>?_⟩
 rw [nH (by omega)] at e
 by_cases q:0=i
 · subst q;rw [if_pos rfl] at e;exact ho x e
 rw [if_neg q] at e
 have:=h.wd i x e
 match i,q with
 | 1,_=>exact this
 | n+2,_=>exact this
theorem Snd.setX {s:St} {M:bH} (h:Snd s M) {o:Option Int} {v:Int} (ho:∀ x,o=some x→v=x):Snd (s.set 1 o) {M with x:=v}:=by
 have hl:=h.len
 refine ⟨by rw [List.length_set];exact hl,fun i x e=>?_⟩
 rw [nH (by omega)] at e
 by_cases q:1=i
 · subst q;rw [if_pos rfl] at e;exact ho x e
 rw [if_neg q] at e
 have:=h.wd i x e
 match i,q with
 | 0,_=>exact this
 | n+2,_=>exact this
theorem Snd.setM {s:St} {M:bH} (h:Snd s M) {o:Option Int} {v:Int} {n:Nat} (hn:n<16) (hm:M.m.length=16) (ho:∀ x,o=some x→v=x):Snd (s.set (2+n) o) {M with m:=M.m.set n v}:=by
 have hl:=h.len
 refine ⟨by rw [List.length_set];exact hl,fun i x e=>?_⟩
 rw [nH (by omega)] at e
 by_cases q:2+n=i
 · subst q
   rw [if_pos rfl] at e
   have:=ho x e
   rw [Nat.add_comm]
   show (M.m.set n v).getD n 0=x
   rw [List.getD_eq_getElem?_getD,List.getElem?_set,if_pos rfl,if_pos (by omega)]
   exact this
 rw [if_neg q] at e
 have:=h.wd i x e
 match i,q with
 | 0,_=>exact this
 | 1,_=>exact this
 | j+2,q=>
  show (M.m.set n v).getD j 0=x
  rw [List.getD_eq_getElem?_getD,List.getElem?_set,if_neg (by omega),←List.getD_eq_getElem?_getD]
  exact this
structure Wst (s:St):Prop where
 len:s.length=18
 rg:∀ i v,gS s i=some v→Rg v
theorem Wst.set {s:St} (h:Wst s) (i:Nat) {o:Option Int} (ho:∀ v,o=some v→Rg v):Wst (s.set i o):=by
 refine ⟨by rw [List.length_set];exact h.len,fun j v e=>?_⟩
 by_cases hi:i<s.length
 · rw [nH hi] at e
   by_cases q:i=j
   · rw [if_pos q] at e;exact ho v e
   rw [if_neg q] at e;exact h.rg j v e
 rw [List.set_eq_of_length_le (by omega)] at e;exact h.rg j v e
def mkM (s:St):bH:=⟨(gS s 0).getD 0,(gS s 1).getD 0,(List.range 16).map (fun i=>(gS s (i+2)).getD 0)⟩
theorem Wst.get {s:St} (h:Wst s) (i:Nat):Rg ((gS s i).getD 0):=by
 cases e:gS s i with
 | none=>exact Rg.z
 | some v=>exact h.rg i v e
theorem mkM_m (s:St) (j:Nat) (hj:j<16):(mkM s).m.getD j 0=(gS s (j+2)).getD 0:=by
 unfold mkM
 rw [List.getD_eq_getElem?_getD,List.getElem?_map,List.getElem?_range hj]
 rfl
theorem Wst.mb {s:St} (h:Wst s):MB (mkM s):=by
 refine ⟨h.get 0,h.get 1,fun j=>?_,by unfold mkM;rw [List.length_map,List.length_range]⟩
 by_cases hj:j<16
 · rw [mkM_m s j hj];exact h.get _
 have:(mkM s).m.length=16:=by unfold mkM;rw [List.length_map,List.length_range]
 rw [List.getD_eq_getElem?_getD,List.getElem?_eq_none (by omega)]
 exact Rg.z
theorem Wst.snd {s:St} (h:Wst s):Snd s (mkM s):=by
 refine ⟨h.len,fun i v e=>?_⟩
 match i with
 | 0=>show (gS s 0).getD 0=v;rw [e];rfl
 | 1=>show (gS s 1).getD 0=v;rw [e];rfl
 | j+2=>
  have hj:j<16:=by
   refine Nat.lt_of_not_le fun hj=>?_
   have hl:=h.len
   unfold gS at e
   rw [List.getD_eq_getElem?_getD,List.getElem?_eq_none (by omega)] at e
   cases e
  show (mkM s).m.getD j 0=v
  rw [mkM_m s j hj,e];rfl
theorem oW {s:St} (h:Wst s) {i:S45} (hc:stB i.f0 i.f3=true) (hk:Rg i.f3):stB (dn s i).f0 (dn s i).f3=true∧Rg (dn s i).f3:=
 (qV s (mkM s) i [] h.snd h.mb hc hk).2
theorem ny {s:St} (h:Wst s) {i:S45} (hk:Rg i.f3):Wst (dK s i):=by
 have H:∀ n v,gS s n=some v→Rg v:=h.rg
 unfold dK
 refine eF (fun _=>h.set _ (fun v e=>by cases e;exact hk)) (fun _=>?_)
 refine eF (fun _=>h.set _ (fun v e=>by cases e;exact hk)) (fun _=>?_)
 refine eF (fun _=>h.set _ (fun v e=>H _ _ e)) (fun _=>?_)
 refine eF (fun _=>h.set _ (fun v e=>H _ _ e)) (fun _=>?_)
 refine eF (fun _=>h.set _ (fun v e=>H _ _ e)) (fun _=>?_)
 refine eF (fun _=>h.set _ (fun v e=>H _ _ e)) (fun _=>?_)
 exact eF (fun _=>h.set _ (fun v e=>by cases e)) (fun _=>h.set _ (fun v e=>by cases e))
theorem wV {s:St} {M:bH} (hs:Snd s M) (hM:MB M) {i:S45} (pk:List Int) (hc:stB i.f0 i.f3=true) (hk:Rg i.f3):Snd (dK s i) (bY i pk M).1:=by
 obtain ⟨hm,h16,h52,h31⟩:=gQ hc
 obtain ⟨c,jt,jf,k⟩:=i
 dsimp only at hm h16 hk
 have nA:∀ v:Int,Snd (s.set 0 none) {M with a:=v}:=fun v=>hs.setA (fun x e=>by cases e)
 have nX:∀ v:Int,Snd (s.set 1 none) {M with x:=v}:=fun v=>hs.setX (fun x e=>by cases e)
 have al:∀ c,c∈eQ∨c∈gH→Snd (dK s ⟨c,jt,jf,k⟩) (bY ⟨c,jt,jf,k⟩ pk M).1:=by
  intro c h
  have e:dK s ⟨c,jt,jf,k⟩=s.set 0 none:=by
   simp only [eQ,gH,List.mem_cons,List.not_mem_nil,or_false] at h
   rcases h with h | h<;>rcases h with rfl | rfl | rfl | rfl | rfl | rfl | rfl | rfl | rfl | rfl<;>rfl
  rw [qX c jt jf k h,e]
  exact nA _
 simp only [stL,List.mem_cons,List.not_mem_nil,or_false] at hm
 rcases hm with rfl | rfl | rfl | rfl | rfl | rfl | rfl | rfl | rfl | rfl | rfl | rfl | rfl | rfl | rfl | rfl | rfl | rfl | hm
 · exact hs.setA (fun x e=>by cases e;rfl)
 · exact nA _
 · exact nA _
 · exact nA _
 · exact nA _
 · exact nA _
 · exact nA _
 · exact nA _
 · exact nA _
 · exact hs.setX (fun x e=>by cases e;rfl)
 · exact nX _
 · exact nX _
 · exact nX _
 · show Snd (s.set (2+k.toNat) (gS s 0)) {M with m:=M.m.set (ix k) M.a}
   have:=h16 (by omega)
   rw [kL hk.1 this]
   exact hs.setM (by omega) hM.len (fun x e=>hs.at0 e)
 · show Snd (s.set (2+k.toNat) (gS s 1)) {M with m:=M.m.set (ix k) M.x}
   have:=h16 (by omega)
   rw [kL hk.1 this]
   exact hs.setM (by omega) hM.len (fun x e=>hs.at1 e)
 · exact nA _
 · exact hs.setX (fun x e=>hs.at0 e)
 · exact hs.setA (fun x e=>hs.at1 e)
 refine al c ?_
 simp only [eQ,gH,List.mem_cons,List.not_mem_nil,or_false]
 omega
theorem mX {l:List Int} {n:Nat} {v:Int} (hn:n<l.length) (h:l.getD n 0=v):l.set n v=l:=by
 have:l[n]=v:=by
  rw [List.getD_eq_getElem?_getD,List.getElem?_eq_getElem hn] at h;exact h
 rw [←this,List.set_getElem_self]
theorem idle_ok {s:St} {M:bH} (hs:Snd s M) (hM:MB M) {i:S45} (pk:List Int) (hc:stB i.f0 i.f3=true) (hk:Rg i.f3) (h:iq s i=true):bY i pk M=(M,0):=by
 obtain ⟨hm,h16,h52,h31⟩:=gQ hc
 have hlen:=hM.len
 obtain ⟨c,jt,jf,k⟩:=i
 dsimp only at hm h16 hk
 unfold iq at h
 dsimp only at h
 by_cases c0:c=0
 · subst c0
   rw [if_pos rfl] at h
   have:=hs.at0 (of_decide_eq_true h)
   subst this;rfl
 rw [if_neg c0] at h
 by_cases c1:c=1
 · subst c1
   rw [if_pos rfl] at h
   have:=hs.at1 (of_decide_eq_true h)
   subst this;rfl
 rw [if_neg c1] at h
 by_cases c2:c=2
 · subst c2
   rw [if_pos rfl] at h
   simp only [Bool.and_eq_true,decide_eq_true_eq] at h
   have hk6:=h16 (by omega)
   obtain ⟨v,hv⟩:=Option.isSome_iff_exists.1 h.1
   have ha:=hs.at0 hv
   have hmm:=hs.atM (h.2.trans hv)
   show ({M with m:=M.m.set (ix k) M.a},(0:Int))=(M,0)
   rw [kL hk.1 hk6,mX (by omega) (hmm.trans ha.symm)]
 rw [if_neg c2] at h
 by_cases c3:c=3
 · subst c3
   rw [if_pos rfl] at h
   simp only [Bool.and_eq_true,decide_eq_true_eq] at h
   have hk6:=h16 (by omega)
   obtain ⟨v,hv⟩:=Option.isSome_iff_exists.1 h.1
   have ha:=hs.at1 hv
   have hmm:=hs.atM (h.2.trans hv)
   show ({M with m:=M.m.set (ix k) M.x},(0:Int))=(M,0)
   rw [kL hk.1 hk6,mX (by omega) (hmm.trans ha.symm)]
 rw [if_neg c3] at h
 have al:c∈eQ→((c=4∨c=20∨c=68∨c=164∨c=100∨c=116)∧k=0)∨((c=36∨c=52)∧k=1)∨(c=84∧k=4294967295)→bY ⟨c,jt,jf,k⟩ pk M=(M,0):=by
  intro hc h
  rw [uj c jt jf k hc,op_idle hM.a h]
 by_cases c4:c=4∨c=20∨c=68∨c=164∨c=100∨c=116
 · rw [if_pos c4] at h
   refine al ?_ (.inl ⟨c4,of_decide_eq_true h⟩)
   simp only [eQ,List.mem_cons,List.not_mem_nil,or_false];omega
 rw [if_neg c4] at h
 by_cases c5:c=36∨c=52
 · rw [if_pos c5] at h
   refine al ?_ (.inr (.inl ⟨c5,of_decide_eq_true h⟩))
   simp only [eQ,List.mem_cons,List.not_mem_nil,or_false];omega
 rw [if_neg c5] at h
 by_cases c6:c=84
 · rw [if_pos c6] at h
   refine al ?_ (.inr (.inr ⟨c6,of_decide_eq_true h⟩))
   simp only [eQ,List.mem_cons,List.not_mem_nil,or_false];omega
 rw [if_neg c6] at h
 cases h
def neI (a b:S45):Bool:=!(decide (a.f0=b.f0)&&decide (a.f1=b.f1)&&decide (a.f2=b.f2)&&decide (a.f3=b.f3))
theorem AV {a b:S45} (h:neI a b=false):a=b:=by
 unfold neI at h
 simp only [Bool.not_eq_false',Bool.and_eq_true,decide_eq_true_eq] at h
 obtain ⟨a0,a1,a2,a3⟩:=a
 obtain ⟨b0,b1,b2,b3⟩:=b
 obtain ⟨⟨⟨rfl,rfl⟩,rfl⟩,rfl⟩:=h
 rfl
def cu:St→List S45→List S45 × St × Bool
 | s,[]=>([],s,false)
 | s,i :: r=>
  if iq s (dn s i)=true then ((cu s r).1,(cu s r).2.1,true)
  else (dn s i :: (cu (dK s (dn s i)) r).1,(cu (dK s (dn s i)) r).2.1,neI (dn s i) i||(cu (dK s (dn s i)) r).2.2)
theorem lU:∀ (c:List S45) (s:St),Wst s→fE c=true→(∀ x∈c,Rg x.f3)→fE (cu s c).1=true∧(∀ x∈(cu s c).1,Rg x.f3)∧Wst (cu s c).2.1∧(cu s c).1.length≤c.length:=by
 intro c
 induction c with
 | nil=>intro s h _ _;exact ⟨rfl,(fun x hx=>absurd hx List.not_mem_nil),h,Nat.le_refl _⟩
 | cons i r ih=>
  intro s h hc hk
  unfold fE at hc
  rw [List.all_cons,Bool.and_eq_true] at hc
  have hk1:=hk i (List.mem_cons_self ..)
  have hk2:∀ x∈r,Rg x.f3:=fun x hx=>hk x (List.mem_cons_of_mem _ hx)
  have hj:=oW h hc.1 hk1
  unfold cu
  by_cases q:iq s (dn s i)=true
  · rw [if_pos q]
    obtain ⟨a,b,d,e⟩:=ih s h hc.2 hk2
    exact ⟨a,b,d,Nat.le_succ_of_le e⟩
  rw [if_neg q]
  obtain ⟨a,b,d,e⟩:=ih _ (ny h hj.2) hc.2 hk2
  refine ⟨?_,?_,d,Nat.succ_le_succ e⟩
  · unfold fE
    rw [List.all_cons,Bool.and_eq_true]
    exact ⟨hj.1,a⟩
  intro x hx
  rcases List.mem_cons.1 hx with rfl | hx
  · exact hj.2
  exact b x hx
theorem Cj:∀ (c:List S45) (s:St),(cu s c).2.2=false→(cu s c).1=c:=by
 intro c
 induction c with
 | nil=>intro s _;rfl
 | cons i r ih=>
  intro s h
  unfold cu at h ⊢
  by_cases q:iq s (dn s i)=true
  · rw [if_pos q] at h;cases h
  rw [if_neg q] at h ⊢
  simp only [Bool.or_eq_false_iff] at h
  rw [ih _ h.2,AV h.1]
theorem str_run (pk:List Int):∀ (c:List S45) (s:St) (M:bH),Snd s M→MB M→fE c=true→(∀ x∈c,Rg x.f3) →
 (bF pk (cu s c).1 M).2.1=(bF pk c M).2.1∧(bF pk (cu s c).1 M).2.2≤(bF pk c M).2.2∧((bF pk c M).2.1=0→(bF pk (cu s c).1 M).1=(bF pk c M).1∧Snd (cu s c).2.1 (bF pk c M).1):=by
 intro c
 induction c with
 | nil=>intro s M hs _ _ _;exact ⟨rfl,Nat.le_refl _,fun _=>⟨rfl,hs⟩⟩
 | cons i r ih=>
  intro s M hs hM hc hk
  unfold fE at hc
  rw [List.all_cons,Bool.and_eq_true] at hc
  have hk1:=hk i (List.mem_cons_self ..)
  have hk2:∀ x∈r,Rg x.f3:=fun x hx=>hk x (List.mem_cons_of_mem _ hx)
  obtain ⟨j1,j2,j3⟩:=qV s M i pk hs hM hc.1 hk1
  have hM1:=lq i pk M hM hk1
  have hs1:=wV hs hM pk j2 j3
  rw [j1] at hs1
  unfold cu
  by_cases q:iq s (dn s i)=true
  · rw [if_pos q]
    have hi:=idle_ok hs hM pk j2 j3 q
    rw [j1] at hi
    obtain ⟨a,b,d⟩:=ih s M hs hM hc.2 hk2
    show (bF pk (cu s r).1 M).2.1=_∧(bF pk (cu s r).1 M).2.2≤_∧(_→(bF pk (cu s r).1 M).1=_∧Snd (cu s r).2.1 _)
    rw [show bF pk (i :: r) M=((bF pk r M).1,(bF pk r M).2.1,(bF pk r M).2.2+1) by
     show (if (bY i pk M).2=0 then _ else _)=_
     rw [hi];exact if_pos rfl]
    exact ⟨a,Nat.le_succ_of_le b,d⟩
  rw [if_neg q]
  obtain ⟨a,b,d⟩:=ih (dK s (dn s i)) (bY i pk M).1 hs1 hM1 hc.2 hk2
  show (bF pk (dn s i :: (cu (dK s (dn s i)) r).1) M).2.1=_∧(bF pk (dn s i :: (cu (dK s (dn s i)) r).1) M).2.2≤_∧(_→(bF pk (dn s i :: (cu (dK s (dn s i)) r).1) M).1=_∧Snd (cu (dK s (dn s i)) r).2.1 _)
  unfold bF
  rw [j1]
  by_cases f:(bY i pk M).2=0
  · rw [if_pos f,if_pos f]
    exact ⟨a,Nat.succ_le_succ b,d⟩
  rw [if_neg f,if_neg f]
  exact ⟨rfl,Nat.le_refl _,fun h=>absurd h f⟩
def tX:List Int:=[29,45,61,77]
def hoK (c a k:Int):Bool:=if c=21 then a==k else if c=37 then decide (a>k) else if c=53 then decide (a≥k) else Go.bits .and .u32 a k != 0
def jI (s:St) (l:S45):Option Bool:=
 if l.f0∈tX then none
 else match gS s 0 with
  | some a=>some (hoK l.f0 a l.f3)
  | none=>if l.f0=53∧l.f3=0 then some true else if (l.f0=37∧l.f3=4294967295)∨(l.f0=69∧l.f3=0) then some false else none
def gN (s:St) (l:S45):S45 × Bool:=
 if l.f0∈tX then (match gS s 1 with | some x=>(⟨l.f0 - 8,0,0,x⟩,true) | none=>(l,false)) else (l,false)
def enF (s:St) (b:S47):S47 × Bool:=
 if b.f1=1∧b.f2.f0=22 then (match gS s 0 with | some a=>(⟨b.f0,b.f1,⟨6,0,0,a⟩,b.f3,b.f4⟩,true) | none=>(b,false))
 else if b.f1≠3 then (b,false)
 else match jI s (gN s b.f2).1 with
  | none=>(⟨b.f0,b.f1,(gN s b.f2).1,b.f3,b.f4⟩,(gN s b.f2).2)
  | some y=>(⟨b.f0,2,⟨0,0,0,0⟩,if y=true then b.f3 else b.f4,0⟩,true)
def dH (s:St) (b:S47):S47 × St × Bool:=
 ((enF (cu s b.f0).2.1 ⟨(cu s b.f0).1,b.f1,b.f2,b.f3,b.f4⟩).1,(cu s b.f0).2.1,(cu s b.f0).2.2||(enF (cu s b.f0).2.1 ⟨(cu s b.f0).1,b.f1,b.f2,b.f3,b.f4⟩).2)
theorem ww (c jt jf k a x:Int) (b:Bool) (d:Int) (hb:bI.f 10 c=some b) (hd:Go.bits .andNot .u16 c 8=d):hoP ⟨c,jt,jf,k⟩ a x=hoK d a (if b=true then x else k):=by
 have hj:∀ y,(bM.j0 (9+1) a y c jt jf k).getD false=hoK d a y:=by
  intro y
  simp only [bM.j0,hd]
  unfold hoK
  by_cases h1:d=21
  · rw [if_pos h1,if_pos h1];rfl
  rw [if_neg h1,if_neg h1]
  by_cases h2:d=37
  · rw [if_pos h2,if_pos h2];rfl
  rw [if_neg h2,if_neg h2]
  by_cases h3:d=53
  · rw [if_pos h3,if_pos h3];rfl
  rw [if_neg h3,if_neg h3];rfl
 unfold hoP bM.f
 dsimp only
 rw [hb]
 cases b
 · exact hj k
 exact hj x
theorem tL (c jt jf k a x:Int) (hc:jmB c=true) (h:c ∉ tX):hoP ⟨c,jt,jf,k⟩ a x=hoK c a k:=by
 have hm:c∈([21,29,37,45,53,61,69,77]:List Int):=of_decide_eq_true hc
 simp only [tX,List.mem_cons,List.not_mem_nil,or_false] at hm h
 have H:c∈([21,37,53,69]:List Int):=by simp only [List.mem_cons,List.not_mem_nil,or_false];omega
 have G:∀ c∈([21,37,53,69]:List Int),bI.f 10 c=some false∧Go.bits .andNot .u16 c 8=c:=by decide +kernel
 exact ww c jt jf k a x false c (G c H).1 (G c H).2
theorem hoP_X (c jt jf k a x:Int) (h:c∈tX):hoP ⟨c,jt,jf,k⟩ a x=hoK (c - 8) a x∧jmB (c - 8)=true∧c - 8 ∉ tX∧usK (c - 8)=true:=by
 have G:∀ c∈tX,bI.f 10 c=some true∧Go.bits .andNot .u16 c 8=c - 8∧jmB (c - 8)=true∧c - 8 ∉ tX∧usK (c - 8)=true:=by decide +kernel
 exact ⟨ww c jt jf k a x true _ (G c h).1 (G c h).2.1,(G c h).2.2⟩
theorem rV {s:St} {l:S45} (hj:jmB l.f0=true) (hb:jW l=true) (hr:Rg l.f3) (hw:Wst s):jmB (gN s l).1.f0=true∧jW (gN s l).1=true∧Rg (gN s l).1.f3∧((gN s l).2=false→(gN s l).1=l):=by
 unfold gN
 by_cases h:l.f0∈tX
 · rw [if_pos h]
   cases e:gS s 1 with
   | none=>exact ⟨hj,hb,hr,fun _=>rfl⟩
   | some x=>
    obtain ⟨_,h1,h2,h3⟩:=hoP_X l.f0 0 0 0 0 0 h
    refine ⟨h1,?_,hw.rg 1 x e,fun h=>by cases h⟩
    show (decide ((0:Int)=0)&&decide ((0:Int)=0)&&(usK (l.f0 - 8)||decide (x=0)))=true
    rw [h3];rfl
 rw [if_neg h];exact ⟨hj,hb,hr,fun _=>rfl⟩
theorem last_ho {s:St} {M:bH} {l:S45} (hs:Snd s M) (hj:jmB l.f0=true):hoP (gN s l).1 M.a M.x=hoP l M.a M.x:=by
 unfold gN
 by_cases h:l.f0∈tX
 · rw [if_pos h]
   cases e:gS s 1 with
   | none=>rfl
   | some x=>
    have:=hs.at1 e
    subst this
    obtain ⟨c,jt,jf,k⟩:=l
    obtain ⟨h0,h1,h2,h3⟩:=hoP_X c jt jf k M.a M.x h
    show hoP ⟨c - 8,0,0,M.x⟩ M.a M.x=_
    rw [h0,tL _ _ _ _ _ _ h1 h2]
 rw [if_neg h]
theorem dec_ho {s:St} {M:bH} {l:S45} (hs:Snd s M) (hM:MB M) (hr:Rg l.f3) (hj:jmB l.f0=true) {y:Bool} (h:jI s l=some y):hoP l M.a M.x=y:=by
 obtain ⟨c,jt,jf,k⟩:=l
 dsimp only at hr hj
 unfold jI at h
 dsimp only at h
 by_cases hx:c∈tX
 · rw [if_pos hx] at h;cases h
 rw [if_neg hx] at h
 rw [tL c jt jf k M.a M.x hj hx]
 have ha:=hM.a
 cases e:gS s 0 with
 | some a=>
  rw [e] at h
  have:=hs.at0 e
  subst this
  exact Option.some.inj h
 | none=>
  rw [e] at h
  dsimp only at h
  by_cases q:c=53∧k=0
  · rw [if_pos q] at h
    obtain ⟨rfl,rfl⟩:=q
    rw [←Option.some.inj h]
    exact decide_eq_true ha.1
  rw [if_neg q] at h
  by_cases q2:(c=37∧k=4294967295)∨(c=69∧k=0)
  · rw [if_pos q2] at h
    rw [←Option.some.inj h]
    rcases q2 with ⟨rfl,rfl⟩ | ⟨rfl,rfl⟩
    · show decide (M.a>4294967295)=false
      exact decide_eq_false (by have:=ha.2;omega)
    show (Go.bits .and .u32 M.a 0 != 0)=false
    rw [and_z];rfl
  rw [if_neg q2] at h;cases h
inductive OL:Out→Out→Prop
 | fin {v f:Int} {s s':Nat}:s'≤s→OL (.fin v f s) (.fin v f s')
 | go {j:Nat} {M:bH} {s s':Nat}:s'≤s→OL (.go j M s) (.go j M s')
theorem en_out {s:St} {M:bH} {b:S47} (hs:Snd s M) (hM:MB M) (hw:Wst s) (he:jB b=true) (hr:Rg b.f2.f3) {k k':Nat} (hk:k'≤k):OL (fT b M k) (fT (enF s b).1 M k'):=by
 obtain ⟨c0,e1,l,y,n⟩:=b
 rcases eO he with ⟨h1,h2,h3,h4,h5⟩ | ⟨h1,h2,h3⟩ | ⟨h1,h2,h3⟩
 · dsimp only at h1 h2 h3 h4 h5 hr
   subst h1
   unfold enF
   dsimp only
   by_cases q:l.f0=22
   · rw [if_pos ⟨rfl,q⟩]
     cases e:gS s 0 with
     | none=>exact .fin (by omega)
     | some a=>
      have:=hs.at0 e
      subst this
      show OL (.fin (if l.f0=6 then l.f3 else M.a) 0 (k+1)) (.fin M.a 0 (k'+1))
      rw [if_neg (by omega)]
      exact .fin (by omega)
   rw [if_neg (fun h=>q h.2),if_pos (by decide)]
   exact .fin (by omega)
 · dsimp only at h1 h2 h3
   subst h1
   unfold enF
   dsimp only
   rw [if_neg (by omega),if_pos (by decide)]
   exact .go (by omega)
 dsimp only at h1 h2 h3 hr
 subst h1
 unfold enF
 dsimp only
 rw [if_neg (by omega),if_neg (by decide)]
 obtain ⟨q1,q2,q3,_⟩:=rV h2 h3 hr hw
 have hh:=last_ho hs h2
 cases e:jI s (gN s l).1 with
 | none=>
  show OL (.go (if hoP l M.a M.x=true then y.toNat else n.toNat) M (k+1)) (.go (if hoP (gN s l).1 M.a M.x=true then y.toNat else n.toNat) M (k'+1))
  rw [hh]
  exact .go (by omega)
 | some z=>
  have hz:=dec_ho hs hM q3 q1 e
  rw [hh] at hz
  show OL (.go (if hoP l M.a M.x=true then y.toNat else n.toNat) M (k+1)) (.go (if z=true then y else n).toNat M k')
  rw [hz]
  have:(if z=true then y else n).toNat=if z=true then y.toNat else n.toNat:=by split<;>rfl
  rw [this]
  exact .go (by omega)
theorem mG (s:St) (b:S47):(enF s b).1.f0=b.f0:=by
 unfold enF
 repeat' split
 all_goals rfl
theorem en_same {s:St} {b:S47} (h:(enF s b).2=false) (he:jB b=true) (hr:Rg b.f2.f3) (hw:Wst s):(enF s b).1=b:=by
 have hx:=eO he
 unfold enF at h ⊢
 by_cases q:b.f1=1∧b.f2.f0=22
 · rw [if_pos q] at h ⊢
   cases e:gS s 0 with
   | none=>rfl
   | some a=>rw [e] at h;cases h
 rw [if_neg q] at h ⊢
 by_cases q3:b.f1≠3
 · rw [if_pos q3]
 rw [if_neg q3] at h ⊢
 cases e:jI s (gN s b.f2).1 with
 | none=>
  rw [e] at h
  rcases hx with ⟨h1,_⟩ | ⟨h1,_⟩ | ⟨h1,h2,h3⟩
  · exact absurd (by omega) q3
  · exact absurd (by omega) q3
  show (⟨b.f0,b.f1,(gN s b.f2).1,b.f3,b.f4⟩:S47)=b
  rw [(rV h2 h3 hr hw).2.2.2 h]
 | some z=>rw [e] at h;cases h
theorem en_bok {s:St} {b:S47} {i n:Int} (h:BOk b i n) (hw:Wst s):BOk (enF s b).1 i n:=by
 have hc:=mG s b
 refine ⟨by rw [hc];exact h.code,?_,?_,by rw [hc];exact h.rg,?_⟩
 all_goals
  obtain ⟨c0,e1,l,y,z⟩:=b
  have hr:=h.rl
  have hg:=h.goal
  have he:=h.ends
  rcases eO h.ends with ⟨h1,h2,h3,h4,h5⟩ | ⟨h1,h2,h3⟩ | ⟨h1,h2,h3⟩
 any_goals
  dsimp only at h1 h2 h3 h4 h5 hr
  subst h1 h4 h5
  unfold enF
  dsimp only
  by_cases q:l.f0=22
  · rw [if_pos ⟨rfl,q⟩]
    cases e:gS s 0 with
    | none=>first | exact he | exact hg | exact hr
    | some a=>first | exact rfl | exact hg | exact hw.rg 0 a e
  rw [if_neg (fun h=>q h.2),if_pos (by decide)]
  first | exact he | exact hg | exact hr
 any_goals
  dsimp only at h1 h2 h3 hr
  subst h1 h2 h3
  unfold enF
  dsimp only
  rw [if_neg (by omega),if_pos (by decide)]
  first | exact he | exact hg | exact hr
 all_goals
  dsimp only at h1 h2 h3 hr
  subst h1
  have hy:=bB hg (show (3:Int)≠1 by decide)
  have hn:=dM hg rfl
  dsimp only at hy hn
  unfold enF
  dsimp only
  rw [if_neg (by omega),if_neg (by decide)]
  obtain ⟨q1,q2,q3,_⟩:=rV h2 h3 hr hw
  cases e:jI s (gN s l).1 with
  | none=>
   first
   | exact hg
   | exact q3
   | (show jB ⟨c0,3,(gN s l).1,y,z⟩=true
      unfold jB
      dsimp only
      rw [if_neg (by decide),if_neg (by decide),if_pos rfl,q1,q2];rfl)
  | some u=>
   first
   | exact rfl
   | exact Rg.z
   | (show gT ⟨c0,2,⟨0,0,0,0⟩,if u=true then y else z,0⟩ i n=true
      unfold gT
      dsimp only
      have:i<(if u=true then y else z)∧(if u=true then y else z)<n:=by split<;>assumption
      rw [decide_eq_true this]
      rfl)
theorem jO {s:St} {b:S47} {i n:Int} (h:BOk b i n) (hw:Wst s):BOk (dH s b).1 i n∧Wst (dH s b).2.1∧(dH s b).1.f0.length≤b.f0.length:=by
 obtain ⟨a,c,d,e⟩:=lU b.f0 s hw h.code h.rg
 have:BOk ⟨(cu s b.f0).1,b.f1,b.f2,b.f3,b.f4⟩ i n:=⟨a,h.ends,h.goal,c,h.rl⟩
 refine ⟨en_bok this d,d,?_⟩
 show (enF _ _).1.f0.length≤_
 rw [mG]
 exact e
theorem lK {s:St} {b:S47} {i n:Int} (h:BOk b i n) (hw:Wst s) (hf:(dH s b).2.2=false):(dH s b).1=b:=by
 unfold dH at hf ⊢
 rw [Bool.or_eq_false_iff] at hf
 obtain ⟨a,c,d,e⟩:=lU b.f0 s hw h.code h.rg
 rw [en_same hf.2 h.ends h.rl d,Cj _ _ hf.1]
theorem zw {s:St} {M:bH} {b:S47} {i n:Int} (pk:List Int) (h:BOk b i n) (hs:Snd s M) (hM:MB M) (hw:Wst s) :
 OL (fO pk b M) (fO pk (dH s b).1 M)∧((bF pk b.f0 M).2.1=0→Snd (dH s b).2.1 (bF pk b.f0 M).1):=by
 obtain ⟨a,c,d,e⟩:=lU b.f0 s hw h.code h.rg
 obtain ⟨r1,r2,r3⟩:=str_run pk b.f0 s M hs hM h.code h.rg
 refine ⟨?_,fun h0=>(r3 h0).2⟩
 unfold fO
 rw [show (dH s b).1.f0=(cu s b.f0).1 from mG _ _,r1]
 by_cases h0:(bF pk b.f0 M).2.1=0
 · rw [if_pos h0,if_pos h0,(r3 h0).1]
   exact en_out (b:=⟨(cu s b.f0).1,b.f1,b.f2,b.f3,b.f4⟩) (r3 h0).2 (mI pk _ M hM h.rg) d h.ends h.rl r2
 rw [if_neg h0,if_neg h0]
 exact .fin r2
def lg (s t:St):St:=List.zipWith (fun x y=>if x=y then x else none) s t
abbrev AC:=List St × List Bool
def kU (A:AC) (tg:Nat) (s:St):AC:=(A.1.set tg (if A.2.getD tg false=true then lg s (A.1.getD tg []) else s),A.2.set tg true)
def sQ (b:S47) (s:St):St:=if b.f2.f0=21 then s.set 0 (some b.f2.f3) else s
def nxF (b:S47) (s:St) (A:AC):AC:=
 if b.f1=2 then kU A b.f3.toNat s else if b.f1=3 then kU (kU A b.f3.toNat (sQ b s)) b.f4.toNat s else A
def fdL:List S47→Nat→AC→List S47 × Bool
 | [],_,_=>([],false)
 | b :: r,n,A=>
  if A.2.getD n false=true then ((dH (A.1.getD n []) b).1 :: (fdL r (n+1) (nxF (dH (A.1.getD n []) b).1 (dH (A.1.getD n []) b).2.1 A)).1,
   (dH (A.1.getD n []) b).2.2||(fdL r (n+1) (nxF (dH (A.1.getD n []) b).1 (dH (A.1.getD n []) b).2.1 A)).2)
  else (b :: (fdL r (n+1) A).1,(fdL r (n+1) A).2)
def jq (g:List S47):List S47 × Bool:=
 fdL g 0 ((List.replicate g.length (List.replicate 18 none)).set 0 (List.replicate 18 (some 0)),(List.replicate g.length false).set 0 true)
structure AOk (A:AC) (L:Nat):Prop where
 at_:A.1.length=L
 come:A.2.length=L
 wst:∀ j,A.2.getD j false=true→Wst (A.1.getD j [])
def Cov (A:AC) (j:Nat) (M:bH):Prop:=A.2.getD j false=true∧Snd (A.1.getD j []) M
theorem dL {α:Type} {l:List α} {i j:Nat} {o d:α} (hi:i<l.length):(l.set i o).getD j d=if i=j then o else l.getD j d:=by
 rw [List.getD_eq_getElem?_getD,List.getElem?_set]
 by_cases h:i=j
 · subst h;rw [if_pos rfl,if_pos hi,if_pos rfl];rfl
 rw [if_neg h,if_neg h,List.getD_eq_getElem?_getD]
theorem rZ {s t:St} {i:Nat} {v:Int} (h:gS (lg s t) i=some v):gS s i=some v∧gS t i=some v:=by
 unfold gS lg at *
 rw [List.getD_eq_getElem?_getD] at *
 rw [List.getElem?_zipWith] at h
 rw [List.getD_eq_getElem?_getD]
 cases hs:s[i]? with
 | none=>rw [hs] at h;simp at h
 | some a=>
  cases ht:t[i]? with
  | none=>rw [hs,ht] at h;simp at h
  | some b=>
   rw [hs,ht] at h
   simp only [Option.getD_some] at h ⊢
   by_cases q:a=b
   · rw [if_pos q] at h;exact ⟨h,q ▸ h⟩
   rw [if_neg q] at h;cases h
theorem jK {s t:St} (h1:s.length=18) (h2:t.length=18):(lg s t).length=18:=by
 unfold lg;rw [List.length_zipWith,h1,h2];rfl
theorem kV {A:AC} {L:Nat} (h:AOk A L) {tg:Nat} (ht:tg<L) {s:St} (hs:Wst s):AOk (kU A tg s) L:=by
 refine ⟨(List.length_set ..).trans h.at_,(List.length_set ..).trans h.come,fun j hj=>?_⟩
 unfold kU at hj ⊢
 dsimp only at hj ⊢
 rw [dL (by rw [h.come];exact ht)] at hj
 rw [dL (by rw [h.at_];exact ht)]
 by_cases q:tg=j
 · rw [if_pos q]
   by_cases c:A.2.getD tg false=true
   · rw [if_pos c]
     have hw:=h.wst tg c
     exact ⟨jK hs.len hw.len,fun i v e=>hs.rg i v (rZ e).1⟩
   rw [if_neg c];exact hs
 rw [if_neg q] at hj ⊢;exact h.wst j hj
theorem oO {A:AC} {L:Nat} (h:AOk A L) {tg:Nat} (ht:tg<L) {s:St} (hs:Wst s) {j:Nat} {M:bH} (hc:Cov A j M):Cov (kU A tg s) j M:=by
 unfold Cov kU
 dsimp only
 rw [dL (by rw [h.come];exact ht),dL (by rw [h.at_];exact ht)]
 by_cases q:tg=j
 · subst q
   rw [if_pos rfl,if_pos rfl,if_pos hc.1]
   exact ⟨rfl,jK hs.len hc.2.len,fun i v e=>hc.2.wd i v (rZ e).2⟩
 rw [if_neg q,if_neg q];exact hc
theorem rT {A:AC} {L:Nat} (h:AOk A L) {tg:Nat} (ht:tg<L) {s:St} {M:bH} (hs:Snd s M):Cov (kU A tg s) tg M:=by
 unfold Cov kU
 dsimp only
 rw [dL (by rw [h.come];exact ht),dL (by rw [h.at_];exact ht),if_pos rfl,if_pos rfl]
 refine ⟨rfl,?_⟩
 by_cases c:A.2.getD tg false=true
 · rw [if_pos c]
   exact ⟨jK hs.len (h.wst tg c).len,fun i v e=>hs.wd i v (rZ e).1⟩
 rw [if_neg c];exact hs
theorem oZ {b:S47} {s:St} (h:Wst s) (hr:Rg b.f2.f3):Wst (sQ b s):=by
 unfold sQ
 exact eF (fun _=>h.set _ (fun v e=>by cases e;exact hr)) (fun _=>h)
theorem qP {A:AC} {L:Nat} (h:AOk A L) {b:S47} {i:Nat} (hb:BOk b i L) {s:St} (hs:Wst s):AOk (nxF b s A) L:=by
 unfold nxF
 by_cases h2:b.f1=2
 · rw [if_pos h2]
   have:=bB hb.goal (by omega)
   exact kV h (by omega) hs
 rw [if_neg h2]
 by_cases h3:b.f1=3
 · rw [if_pos h3]
   have:=bB hb.goal (by omega)
   have:=dM hb.goal h3
   exact kV (kV h (by omega) (oZ hs hb.rl)) (by omega) hs
 rw [if_neg h3];exact h
theorem nx_old {A:AC} {L:Nat} (h:AOk A L) {b:S47} {i:Nat} (hb:BOk b i L) {s:St} (hs:Wst s) {j:Nat} {M:bH} (hc:Cov A j M):Cov (nxF b s A) j M:=by
 unfold nxF
 by_cases h2:b.f1=2
 · rw [if_pos h2]
   have:=bB hb.goal (by omega)
   exact oO h (by omega) hs hc
 rw [if_neg h2]
 by_cases h3:b.f1=3
 · rw [if_pos h3]
   have:=bB hb.goal (by omega)
   have:=dM hb.goal h3
   have hy:=oZ hs hb.rl
   exact oO (kV h (by omega) hy) (by omega) hs (oO h (by omega) hy hc)
 rw [if_neg h3];exact hc
theorem nx_new {A:AC} {L:Nat} (h:AOk A L) {b:S47} {i:Nat} (hb:BOk b i L) {s:St} (hw:Wst s) {pk:List Int} {M M1:bH} {j k:Nat} (e:fO pk b M = .go j M1 k) (hs:Snd s M1):Cov (nxF b s A) j M1:=by
 obtain ⟨_,_,q1,q2,q3⟩:=kg hb (by omega) e
 unfold nxF
 rcases q3 with ⟨h2,hj,_⟩ | ⟨h3,hj,_⟩
 · rw [if_pos h2]
   have:j=b.f3.toNat:=by omega
   subst this
   exact rT h (by omega) hs
 rw [if_neg (by omega),if_pos h3]
 have hy:=bB hb.goal (by omega)
 have hn:=dM hb.goal h3
 have hyw:=oZ hw hb.rl
 by_cases ho:hoP b.f2 M1.a M1.x=true
 · rw [if_pos ho] at hj
   have:j=b.f3.toNat:=by omega
   subst this
   refine oO (kV h (by omega) hyw) (by omega) hw (rT h (by omega) ?_)
   unfold sQ
   by_cases c:b.f2.f0=21
   · rw [if_pos c]
     have hk:=tL b.f2.f0 b.f2.f1 b.f2.f2 b.f2.f3 M1.a M1.x (by rw [c];rfl) (by rw [c];decide)
     have hk2:hoK b.f2.f0 M1.a b.f2.f3=true:=hk.symm.trans ho
     rw [c] at hk2
     have hae:M1.a=b.f2.f3:=by simpa [hoK] using hk2
     exact hs.setA (v:=M1.a) (fun x e=>by cases e;exact hae)
   rw [if_neg c];exact hs
 rw [if_neg ho] at hj
 have:j=b.f4.toNat:=by omega
 subst this
 exact rT (kV h (by omega) hyw) (by omega) hs
theorem zo:∀ (l:List S47) (n:Nat) (A:AC),(fdL l n A).1.length=l.length:=by
 intro l
 induction l with
 | nil=>intro n A;rfl
 | cons b r ih=>
  intro n A
  unfold fdL
  split
  · show _+1=_+1;rw [ih]
  show _+1=_+1;rw [ih]
theorem fd_at (L:Nat):∀ (l:List S47) (n:Nat) (A:AC),AOk A L→(∀ (j:Nat) (b:S47),l[j]?=some b→BOk b ((n+j:Nat):Int) L) →
 ∀ (j:Nat) (b':S47),(fdL l n A).1[j]?=some b'→∃ b,l[j]?=some b∧(b'=b∨∃ s,Wst s∧b'=(dH s b).1):=by
 intro l
 induction l with
 | nil=>intro n A _ _ j b' h;simp [fdL] at h
 | cons b r ih=>
  intro n A hA hb j b' h
  have hb0:=hb 0 b rfl
  have hr:∀ (j:Nat) (b:S47),r[j]?=some b→BOk b ((n+1+j:Nat):Int) L:=fun j c hc=>by
   have:=hb (j+1) c hc
   rw [show n+1+j=n+(j+1) by omega];exact this
  unfold fdL at h
  by_cases c:A.2.getD n false=true
  · rw [if_pos c] at h
    have hw:=hA.wst n c
    obtain ⟨f1,f2,_⟩:=jO hb0 hw
    cases j with
    | zero=>
     have:(dH (A.1.getD n []) b).1=b':=Option.some.inj h
     exact ⟨b,rfl,.inr ⟨_,hw,this.symm⟩⟩
    | succ j=>exact ih (n+1) _ (qP hA f1 f2) hr j b' h
  rw [if_neg c] at h
  cases j with
  | zero=>exact ⟨b,rfl,.inl (Option.some.inj h).symm⟩
  | succ j=>exact ih (n+1) _ hA hr j b' h
theorem fd_same (L:Nat):∀ (l:List S47) (n:Nat) (A:AC),AOk A L→(∀ (j:Nat) (b:S47),l[j]?=some b→BOk b ((n+j:Nat):Int) L)→(fdL l n A).2=false→(fdL l n A).1=l:=by
 intro l
 induction l with
 | nil=>intro n A _ _ _;rfl
 | cons b r ih=>
  intro n A hA hb h
  have hb0:=hb 0 b rfl
  have hr:∀ (j:Nat) (b:S47),r[j]?=some b→BOk b ((n+1+j:Nat):Int) L:=fun j c hc=>by
   have:=hb (j+1) c hc
   rw [show n+1+j=n+(j+1) by omega];exact this
  unfold fdL at h ⊢
  by_cases c:A.2.getD n false=true
  · rw [if_pos c] at h ⊢
    have hw:=hA.wst n c
    obtain ⟨f1,f2,_⟩:=jO hb0 hw
    rw [Bool.or_eq_false_iff] at h
    show (dH (A.1.getD n []) b).1 :: _=_
    rw [lK hb0 hw h.1]
    have:=h.2
    rw [lK hb0 hw h.1] at this
    rw [lK hb0 hw h.1] at f1
    rw [ih (n+1) _ (qP hA f1 f2) hr this]
  rw [if_neg c] at h ⊢
  show b :: _=_
  rw [ih (n+1) _ hA hr h]
theorem fd_run {g:List S47} (hg:GOk g) (pk:List Int):∀ (d n:Nat) (A:AC),g.length - n=d→n≤g.length→AOk A g.length→∀ g',g'.drop n=(fdL (g.drop n) n A).1→∀ (j:Nat) (M:bH) (v f:Int) (t:Nat),n≤j→Cov A j M→MB M→Rn g pk j M v f t→∃ t',t'≤t∧Rn g' pk j M v f t':=by
 intro d
 induction d with
 | zero=>
  intro n A hd hn hA g' hg' j M v f t hj hc hM hr
  have:g[j]?=none:=List.getElem?_eq_none (by omega)
  cases hr with
  | fin hb _=>rw [this] at hb;cases hb
  | go hb _ _=>rw [this] at hb;cases hb
 | succ d ih=>
  intro n A hd hn hA g' hg' j M v f t hj hc hM hr
  have hlt:n<g.length:=by omega
  have hb:=List.getElem?_eq_getElem hlt
  have hok:=hg.all n _ hb
  rw [List.drop_eq_getElem_cons hlt] at hg'
  generalize hbe:g[n]=b at hb hok hg'
  unfold fdL at hg'
  have hhead:g'[n]?=(g'.drop n)[0]?:=by rw [List.getElem?_drop,Nat.add_zero]
  have htail:g'.drop (n+1)=(g'.drop n).drop 1:=by rw [List.drop_drop]
  by_cases cn:A.2.getD n false=true
  · rw [if_pos cn] at hg'
    have hw:=hA.wst n cn
    obtain ⟨f1,f2,_⟩:=jO hok hw
    rw [hg'] at hhead htail
    have hA':=qP hA f1 f2
    by_cases hjn:j=n
    · subst hjn
      obtain ⟨o1,o2⟩:=zw pk hok hc.2 hM hw
      cases hr with
      | fin hb' e=>
       rw [hb] at hb';cases hb'
       rw [e] at o1
       generalize e':fO pk (dH (A.1.getD j []) b).1 M=o' at o1
       cases o1 with
       | fin hle=>exact ⟨_,hle,.fin hhead e'⟩
      | @go _ _ _ j1 M1 s1 _ _ t1 hb' e hr1=>
       rw [hb] at hb';cases hb'
       obtain ⟨q0,q1,q2,q3,_⟩:=kg hok (by omega) e
       rw [e] at o1
       generalize e':fO pk (dH (A.1.getD j []) b).1 M=o' at o1
       cases o1 with
       | @go _ _ _ s1' hle=>
        have hs1:Snd (dH (A.1.getD j []) b).2.1 M1:=by rw [q1];exact o2 q0
        have hM1:MB M1:=by rw [q1];exact mI pk _ M hM hok.rg
        obtain ⟨t',ht',hr'⟩:=ih (j+1) _ (by omega) (by omega) hA' g' htail j1 M1 v f t1 (by omega) (nx_new hA f1 f2 e' hs1) hM1 hr1
        exact ⟨s1'+t',by omega,.go hhead e' hr'⟩
    exact ih (n+1) _ (by omega) (by omega) hA' g' htail j M v f t (by omega) (nx_old hA f1 f2 hc) hM hr
  rw [if_neg cn] at hg'
  rw [hg'] at hhead htail
  have hjn:j≠n:=fun h=>cn (h ▸ hc.1)
  exact ih (n+1) _ (by omega) (by omega) hA g' htail j M v f t (by omega) hc hM hr
theorem vS {g:List S47} (h:0<g.length):AOk ((List.replicate g.length (List.replicate 18 none)).set 0 (List.replicate 18 (some 0)),(List.replicate g.length false).set 0 true) g.length∧Cov ((List.replicate g.length (List.replicate 18 none)).set 0 (List.replicate 18 (some 0)),(List.replicate g.length false).set 0 true) 0 z16:=by
 have e1:((List.replicate g.length (List.replicate 18 (none:Option Int))).set 0 (List.replicate 18 (some 0))).getD 0 []=List.replicate 18 (some 0):=by
  rw [dL (by rw [List.length_replicate];exact h),if_pos rfl]
 have hs:∀ i v,gS (List.replicate 18 (some 0)) i=some v→v=0:=by
  intro i v e
  unfold gS at e
  rw [List.getD_eq_getElem?_getD,List.getElem?_replicate] at e
  split at e
  · exact (Option.some.inj e).symm
  cases e
 refine ⟨⟨by rw [List.length_set,List.length_replicate],by rw [List.length_set,List.length_replicate],fun j hj=>?_⟩,?_,?_⟩
 · dsimp only at hj ⊢
   rw [dL (by rw [List.length_replicate];exact h)] at hj
   by_cases q:0=j
   · subst q
     rw [e1]
     exact ⟨by rw [List.length_replicate],fun i v e=>hs i v e ▸ Rg.z⟩
   rw [if_neg q,List.getD_eq_getElem?_getD,List.getElem?_replicate] at hj
   split at hj<;>cases hj
 · dsimp only
   rw [dL (by rw [List.length_replicate];exact h),if_pos rfl]
 dsimp only
 rw [e1]
 refine ⟨by rw [List.length_replicate],fun i v e=>?_⟩
 rw [hs i v e]
 match i with
 | 0=>rfl
 | 1=>rfl
 | n+2=>
  show (List.replicate 16 (0:Int)).getD n 0=0
  rw [List.getD_eq_getElem?_getD,List.getElem?_replicate]
  split<;>rfl
def wI (i:S45):Nat:=if i.f0∈gH∨i.f0=64∨i.f0=72∨i.f0=80 then 3 else if i.f0∈eQ∨i.f0=96∨i.f0=97∨i.f0=7∨i.f0=135∨i.f0=132 then 2 else 1
def wC (c:List S45):Nat:=(c.map wI).sum
def wE (n:Int) (b:S47):Nat:=
 if b.f1=1 then (if b.f2.f0=22 then 2 else 1) else if b.f1=2 then 1+(n - b.f3).toNat else (if b.f2.f0∈tX then 3 else 2)+(n - b.f3).toNat+(n - b.f4).toNat
def phB (n:Int) (b:S47):Nat:=1+wC b.f0+wE n b
def szB (b:S47):Nat:=b.f0.length+(if b.f1=2 then 0 else 1)
def phG (g:List S47):Nat:=(g.map (phB g.length)).sum
def szG (g:List S47):Nat:=(g.map szB).sum
def msG (g:List S47):Nat:=(g.map msB).sum
theorem vK (i:S45):1≤wI i:=by unfold wI;split;omega;split<;>omega
structure jA (g g':List S47) (found:Bool):Prop where
 gok:GOk g'
 run:∀ pk v f t,Rn g pk 0 z16 v f t→∃ t',t'≤t∧Rn g' pk 0 z16 v f t'
 ms:msG g'≤msG g
 ph:phG g'≤phG g
 less:found=true→phG g'<phG g
 same:found=false→g'=g
theorem simp_w (s:St) (i:S45) (hc:stB i.f0 i.f3=true):dn s i=i∨wI (dn s i)<wI i:=by
 obtain ⟨c,jt,jf,k⟩:=i
 have one:∀ a,wI ⟨0,0,0,a⟩=1:=fun a=>rfl
 have onx:∀ a,wI ⟨1,0,0,a⟩=1:=fun a=>rfl
 have kf:∀ c jt jf k,c∈eQ→wI (jF s ⟨c,jt,jf,k⟩)≤2∧(jF s ⟨c,jt,jf,k⟩=⟨c,jt,jf,k⟩∨wI (jF s ⟨c,jt,jf,k⟩)<2):=by
  intro c jt jf k hc
  have H:∀ x∈eQ,x ∉ gH∧x≠64∧x≠72∧x≠80:=by decide
  have h2:wI ⟨c,jt,jf,k⟩=2:=by
   have:=H c hc
   unfold wI
   dsimp only
   rw [if_neg (by rintro (h | h | h | h);exact this.1 h;exact this.2.1 h;exact this.2.2.1 h;exact this.2.2.2 h),if_pos (.inl hc)]
  unfold jF
  cases gS s 0 with
  | some a=>dsimp only;rw [one];exact ⟨by omega,.inr (by omega)⟩
  | none=>
   dsimp only
   split
   · rw [one];exact ⟨by omega,.inr (by omega)⟩
   rw [h2];exact ⟨Nat.le_refl _,.inl rfl⟩
 unfold dn
 dsimp only
 by_cases q1:c∈ldL
 · rw [if_pos q1]
   unfold oh
   dsimp only
   by_cases c1:c=96
   · rw [if_pos c1];subst c1
     cases gS s (2+k.toNat) with
     | none=>exact .inl rfl
     | some v=>exact .inr (show (1:Nat)<2 by decide)
   rw [if_neg c1]
   by_cases c2:c=97
   · rw [if_pos c2];subst c2
     cases gS s (2+k.toNat) with
     | none=>exact .inl rfl
     | some v=>exact .inr (show (1:Nat)<2 by decide)
   rw [if_neg c2]
   by_cases c3:c=64∨c=72∨c=80
   · rw [if_pos c3]
     cases gS s 1 with
     | none=>exact .inl rfl
     | some x=>
      dsimp only
      by_cases q:x+k≤4294967295
      · rw [if_pos q]
        rcases c3 with rfl | rfl | rfl<;>exact .inr (show (1:Nat)<3 by decide)
      rw [if_neg q];exact .inl rfl
   rw [if_neg c3];exact .inl rfl
 rw [if_neg q1]
 by_cases q2:c=7∨c=135
 · rw [if_pos q2]
   unfold om
   dsimp only
   by_cases c1:c=7
   · rw [if_pos c1];subst c1
     cases gS s 0 with
     | none=>exact .inl rfl
     | some v=>exact .inr (show (1:Nat)<2 by decide)
   rw [if_neg c1]
   obtain rfl:=q2.resolve_left c1
   cases gS s 1 with
   | none=>exact .inl rfl
   | some v=>exact .inr (show (1:Nat)<2 by decide)
 rw [if_neg q2]
 by_cases q3:c=132∨c∈eQ∨c∈gH
 · rw [if_pos q3]
   unfold ru
   dsimp only
   by_cases c1:c=132
   · rw [if_pos c1];subst c1
     cases gS s 0 with
     | none=>exact .inl rfl
     | some v=>exact .inr (show (1:Nat)<2 by decide)
   rw [if_neg c1]
   by_cases c2:c∈gH
   · rw [if_pos c2]
     have h3:wI ⟨c,jt,jf,k⟩=3:=by unfold wI;exact if_pos (.inl c2)
     have H:∀ x∈gH,x - 8∈eQ:=by decide
     cases gS s 1 with
     | none=>exact .inl rfl
     | some y=>
      dsimp only
      rw [h3]
      by_cases d1:(c=108∨c=124)∧y>31
      · rw [if_pos d1,one];exact .inr (by omega)
      rw [if_neg d1]
      by_cases d2:y=0∧(c=60∨c=156)
      · rw [if_pos d2];exact .inl rfl
      rw [if_neg d2]
      have:=(kf (c - 8) 0 0 y (H c c2)).1
      exact .inr (by omega)
   rw [if_neg c2]
   have hk:=(q3.resolve_left c1).resolve_right c2
   rcases (kf c jt jf k hk).2 with h | h
   · exact .inl h
   refine .inr ?_
   have H:∀ x∈eQ,x ∉ gH∧x≠64∧x≠72∧x≠80:=by decide
   have h2:wI ⟨c,jt,jf,k⟩=2:=by
    have:=H c hk
    unfold wI
    dsimp only
    rw [if_neg (by rintro (h | h | h | h);exact this.1 h;exact this.2.1 h;exact this.2.2.1 h;exact this.2.2.2 h),if_pos (.inl hk)]
   omega
 rw [if_neg q3];exact .inl rfl
theorem tV (a:S45):neI a a=false:=by
 unfold neI
 rw [decide_eq_true rfl,decide_eq_true rfl,decide_eq_true rfl,decide_eq_true rfl];rfl
theorem str_w:∀ (c:List S45) (s:St),Wst s→fE c=true→(∀ x∈c,Rg x.f3)→wC (cu s c).1≤wC c∧((cu s c).2.2=true→wC (cu s c).1<wC c):=by
 intro c
 induction c with
 | nil=>intro s _ _ _;exact ⟨Nat.le_refl _,fun h=>by cases h⟩
 | cons i r ih=>
  intro s hw hc hk
  unfold fE at hc
  rw [List.all_cons,Bool.and_eq_true] at hc
  have hk1:=hk i (List.mem_cons_self ..)
  have hk2:∀ x∈r,Rg x.f3:=fun x hx=>hk x (List.mem_cons_of_mem _ hx)
  have hj:=oW hw hc.1 hk1
  have e:wC (i :: r)=wI i+wC r:=by unfold wC;rw [List.map_cons,List.sum_cons]
  have hp:=vK i
  unfold cu
  by_cases q:iq s (dn s i)=true
  · rw [if_pos q,e]
    have:=(ih s hw hc.2 hk2).1
    dsimp only
    exact ⟨by omega,fun _=>by omega⟩
  rw [if_neg q,e]
  obtain ⟨a,b⟩:=ih _ (ny hw hj.2) hc.2 hk2
  have e2:wC (dn s i :: (cu (dK s (dn s i)) r).1)=wI (dn s i)+wC (cu (dK s (dn s i)) r).1:=by unfold wC;rw [List.map_cons,List.sum_cons]
  dsimp only
  rw [e2]
  rcases simp_w s i hc.1 with h | h
  · rw [h] at a b ⊢
    refine ⟨by omega,fun hf=>?_⟩
    rw [tV,Bool.false_or] at hf
    have:=b hf
    omega
  exact ⟨by omega,fun _=>by omega⟩
theorem en_w {n:Int} {s:St} {b:S47} {i:Int} (h:BOk b i n) (hw:Wst s):wE n (enF s b).1≤wE n b∧((enF s b).2=true→wE n (enF s b).1<wE n b)∧msB (enF s b).1≤msB b∧szB (enF s b).1≤szB b:=by
 obtain ⟨c0,e1,l,y,z⟩:=b
 have hg:=h.goal
 rcases eO h.ends with ⟨h1,h2,h3,h4,h5⟩ | ⟨h1,h2,h3⟩ | ⟨h1,h2,h3⟩
 · dsimp only at h1
   subst h1
   unfold enF
   dsimp only
   by_cases q:l.f0=22
   · rw [if_pos ⟨rfl,q⟩]
     cases gS s 0 with
     | none=>exact ⟨Nat.le_refl _,(fun h=>by cases h),Nat.le_refl _,Nat.le_refl _⟩
     | some a=>
      have h1:wE n ⟨c0,1,⟨6,0,0,a⟩,y,z⟩=1:=rfl
      have h2:wE n ⟨c0,1,l,y,z⟩=2:=by unfold wE;dsimp only;rw [if_pos rfl,if_pos q]
      dsimp only
      rw [h1,h2]
      exact ⟨by omega,fun _=>by omega,Nat.le_refl _,Nat.le_refl _⟩
   rw [if_neg (fun h=>q h.2),if_pos (by decide)]
   exact ⟨Nat.le_refl _,(fun h=>by cases h),Nat.le_refl _,Nat.le_refl _⟩
 · dsimp only at h1
   subst h1
   unfold enF
   dsimp only
   rw [if_neg (by omega),if_pos (by decide)]
   exact ⟨Nat.le_refl _,(fun h=>by cases h),Nat.le_refl _,Nat.le_refl _⟩
 dsimp only at h1 h2
 subst h1
 unfold enF
 dsimp only
 have hy:=bB hg (show (3:Int)≠1 by decide)
 have hn:=dM hg rfl
 dsimp only at hy hn
 rw [if_neg (by omega),if_neg (by decide)]
 have e0:∀ l,wE n ⟨c0,3,l,y,z⟩=(if l.f0∈tX then 3 else 2)+(n - y).toNat+(n - z).toNat:=fun l=>rfl
 have H:∀ x∈tX,x - 8 ∉ tX:=by decide
 have hl:(if (gN s l).1.f0∈tX then 3 else 2)≤(if l.f0∈tX then 3 else 2)∧((gN s l).2=true→(if (gN s l).1.f0∈tX then 3 else 2)<(if l.f0∈tX then 3 else 2)):=by
  unfold gN
  by_cases q:l.f0∈tX
  · rw [if_pos q]
    cases gS s 1 with
    | none=>exact ⟨Nat.le_refl _,fun h=>by cases h⟩
    | some x=>
     dsimp only
     rw [if_neg (H _ q),if_pos q]
     exact ⟨by omega,fun _=>by omega⟩
  rw [if_neg q];exact ⟨Nat.le_refl _,fun h=>by cases h⟩
 cases jI s (gN s l).1 with
 | none=>
  dsimp only
  rw [e0,e0]
  exact ⟨by omega,fun h=>by have:=hl.2 h;omega,Nat.le_refl _,Nat.le_refl _⟩
 | some u=>
  dsimp only
  rw [e0]
  have e2:wE n ⟨c0,2,⟨0,0,0,0⟩,if u=true then y else z,0⟩=1+(n - (if u=true then y else z)).toNat:=rfl
  rw [e2]
  have:(n - (if u=true then y else z)).toNat≤(n - y).toNat+(n - z).toNat:=by split<;>omega
  have:2≤(if l.f0∈tX then 3 else 2):=by split<;>omega
  refine ⟨by omega,fun _=>by omega,?_,?_⟩
  · unfold msB;dsimp only;rw [if_neg (by decide)];omega
  unfold szB;dsimp only;rw [if_pos rfl];omega
theorem zx {n:Int} {s:St} {b:S47} {i:Int} (h:BOk b i n) (hw:Wst s):phB n (dH s b).1≤phB n b∧((dH s b).2.2=true→phB n (dH s b).1<phB n b)∧msB (dH s b).1≤msB b∧szB (dH s b).1≤szB b:=by
 obtain ⟨a,c,d,e⟩:=lU b.f0 s hw h.code h.rg
 obtain ⟨w1,w2⟩:=str_w b.f0 s hw h.code h.rg
 have hb:BOk ⟨(cu s b.f0).1,b.f1,b.f2,b.f3,b.f4⟩ i n:=⟨a,h.ends,h.goal,c,h.rl⟩
 obtain ⟨u1,u2,u3,u4⟩:=en_w hb d
 have ec:(dH s b).1.f0=(cu s b.f0).1:=mG _ _
 have ee:wE n ⟨(cu s b.f0).1,b.f1,b.f2,b.f3,b.f4⟩=wE n b:=rfl
 have p1:phB n (dH s b).1=1+wC (cu s b.f0).1+wE n (dH s b).1:=by unfold phB;rw [ec]
 have p2:phB n b=1+wC b.f0+wE n b:=rfl
 rw [ee] at u1 u2
 have u1':wE n (dH s b).1≤wE n b:=u1
 have m1:msB ⟨(cu s b.f0).1,b.f1,b.f2,b.f3,b.f4⟩≤msB b:=by unfold msB;dsimp only;omega
 have m2:szB ⟨(cu s b.f0).1,b.f1,b.f2,b.f3,b.f4⟩≤szB b:=by unfold szB;dsimp only;omega
 refine ⟨by omega,fun hf=>?_,Nat.le_trans u3 m1,Nat.le_trans u4 m2⟩
 rcases Bool.or_eq_true_iff.1 (show ((cu s b.f0).2.2||(enF (cu s b.f0).2.1 ⟨(cu s b.f0).1,b.f1,b.f2,b.f3,b.f4⟩).2)=true from hf) with hf | hf
 · have:=w2 hf;omega
 have:wE n (dH s b).1<wE n b:=u2 hf
 omega
theorem fd_w (L:Nat):∀ (l:List S47) (n:Nat) (A:AC),AOk A L→(∀ (j:Nat) (b:S47),l[j]?=some b→BOk b ((n+j:Nat):Int) L) →
 ((fdL l n A).1.map (phB L)).sum≤(l.map (phB L)).sum∧((fdL l n A).2=true→((fdL l n A).1.map (phB L)).sum<(l.map (phB L)).sum)∧((fdL l n A).1.map msB).sum≤(l.map msB).sum∧((fdL l n A).1.map szB).sum≤(l.map szB).sum
   ∧ ((fdL l n A).1.map (fun b=>b.f0.length)).sum≤(l.map (fun b=>b.f0.length)).sum:=by
 intro l
 induction l with
 | nil=>intro n A _ _;exact ⟨Nat.le_refl _,(fun h=>by cases h),Nat.le_refl _,Nat.le_refl _,Nat.le_refl _⟩
 | cons b r ih=>
  intro n A hA hb
  have hb0:BOk b ((n:Nat):Int) L:=hb 0 b rfl
  have hr:∀ (j:Nat) (b:S47),r[j]?=some b→BOk b ((n+1+j:Nat):Int) L:=fun j c hc=>by
   have:=hb (j+1) c hc
   rw [show n+1+j=n+(j+1) by omega];exact this
  unfold fdL
  by_cases c:A.2.getD n false=true
  · rw [if_pos c]
    have hw:=hA.wst n c
    obtain ⟨f1,f2,f3⟩:=jO hb0 hw
    obtain ⟨w1,w2,w3,w4⟩:=zx hb0 hw
    obtain ⟨i1,i2,i3,i4,i5⟩:=ih (n+1) _ (qP hA f1 f2) hr
    simp only [List.map_cons,List.sum_cons]
    refine ⟨by omega,fun hf=>?_,by omega,by omega,by omega⟩
    rcases Bool.or_eq_true_iff.1 hf with hf | hf
    · have:=w2 hf;omega
    have:=i2 hf;omega
  rw [if_neg c]
  obtain ⟨i1,i2,i3,i4,i5⟩:=ih (n+1) _ hA hr
  simp only [List.map_cons,List.sum_cons]
  exact ⟨by omega,fun hf=>by have:=i2 hf;omega,by omega,by omega,by omega⟩
theorem j5 {g:List S47} (hg:GOk g):jA g (jq g).1 (jq g).2:=by
 obtain ⟨a1,a2⟩:=vS hg.some_
 have hb:∀ (j:Nat) (b:S47),g[j]?=some b→BOk b ((0+j:Nat):Int) g.length:=fun j b h=>by rw [Nat.zero_add];exact hg.all j b h
 have hlen:(jq g).1.length=g.length:=zo g 0 _
 obtain ⟨i1,i2,i3,i4,i5⟩:=fd_w g.length g 0 _ a1 hb
 refine ⟨⟨by rw [hlen];exact hg.some_,by rw [hlen];exact hg.few,fun j b' h=>?_,Nat.le_trans i5 hg.sum⟩,?_,i3,?_,?_,?_⟩
 · rw [hlen]
   obtain ⟨b,hb1,h | ⟨s,hs,h⟩⟩:=fd_at g.length g 0 _ a1 hb j b' h
   · subst h;exact hg.all j _ hb1
   subst h;exact (jO (hg.all j _ hb1) hs).1
 · intro pk v f t hr
   exact fd_run hg pk g.length 0 _ (Nat.sub_zero _) (Nat.zero_le _) a1 (jq g).1 rfl 0 z16 v f t (Nat.le_refl _) a2 MB_z hr
 · unfold phG;rw [hlen];exact i1
 · intro h;unfold phG;rw [hlen];exact i2 h
 intro h;exact fd_same g.length g 0 _ a1 hb h
def setW (M:bH) (j:Nat) (v:Int):bH:=match j with
 | 0=>{M with a:=v}
 | 1=>{M with x:=v}
 | n+2=>{M with m:=M.m.set n v}
def wrF (i:S45):Nat:=if i.f0=1∨i.f0=97∨i.f0=129∨i.f0=177∨i.f0=7 then 1 else if i.f0=2∨i.f0=3 then 2+i.f3.toNat else 0
def mvF (i:S45):Option (Nat × Nat):=
 if i.f0=96 then some (2+i.f3.toNat,0) else if i.f0=97 then some (2+i.f3.toNat,1) else if i.f0=2 then some (0,2+i.f3.toNat)
 else if i.f0=3 then some (1,2+i.f3.toNat) else if i.f0=7 then some (0,1) else if i.f0=135 then some (1,0) else none
def flL:List Int:=[32,40,48,64,72,80,177,60,156]
def rdB (i:S45) (j:Nat):Bool:=
 (decide (j=0)&&decide (i.f0=2∨i.f0=132∨i.f0∈eQ∨i.f0∈gH∨i.f0=7∨jmB i.f0=true∨i.f0=22))
 || (decide (j=1)&&decide (i.f0=64∨i.f0=72∨i.f0=80∨i.f0=3∨i.f0∈gH∨i.f0=135∨i.f0∈tX))
 || (decide (j=2+i.f3.toNat)&&decide (i.f0=96∨i.f0=97))
theorem mh {M:bH} {i j:Nat} {v:Int} (hi:i<18) (hm:M.m.length=16):wd (setW M i v) j=if i=j then v else wd M j:=by
 match i,j with
 | 0,0=>rfl
 | 0,1=>rfl
 | 0,j+2=>rfl
 | 1,0=>rfl
 | 1,1=>rfl
 | 1,j+2=>show M.m.getD j 0=_;rw [if_neg (by omega)];rfl
 | i+2,0=>rfl
 | i+2,1=>show M.x=_;rw [if_neg (by omega)];rfl
 | i+2,j+2=>
  show (M.m.set i v).getD j 0=_
  rw [dL (by omega)]
  by_cases q:i=j
  · rw [if_pos q,if_pos (by omega)]
  rw [if_neg q,if_neg (by omega)];rfl
theorem wS {i:S45} (hc:stB i.f0 i.f3=true) (hk:Rg i.f3):wrF i<18:=by
 have:=(gQ hc).2.1
 have:=hk.1
 unfold wrF
 split
 · omega
 split
 · have:=this;have:=(gQ hc).2.1 (by omega);omega
 omega
def vfF (i:S45) (pk:List Int) (M:bH):Int × Int:=(wd (bY i pk M).1 (wrF i),(bY i pk M).2)
theorem Cg {i:S45} (pk:List Int) (M:bH) (hm:M.m.length=16) (hc:stB i.f0 i.f3=true) (hk:Rg i.f3):(bY i pk M).1=setW M (wrF i) (vfF i pk M).1:=by
 obtain ⟨hmem,h16,h52,h31⟩:=gQ hc
 obtain ⟨c,jt,jf,k⟩:=i
 dsimp only at hmem h16 hk
 have al:∀ c,c∈eQ∨c∈gH→(bY ⟨c,jt,jf,k⟩ pk M).1=setW M (wrF ⟨c,jt,jf,k⟩) (vfF ⟨c,jt,jf,k⟩ pk M).1:=by
  intro c h
  have e:wrF ⟨c,jt,jf,k⟩=0:=by
   simp only [eQ,gH,List.mem_cons,List.not_mem_nil,or_false] at h
   rcases h with h | h<;>rcases h with rfl | rfl | rfl | rfl | rfl | rfl | rfl | rfl | rfl | rfl<;>rfl
  unfold vfF
  rw [e,qX c jt jf k h]
  rfl
 simp only [stL,List.mem_cons,List.not_mem_nil,or_false] at hmem
 rcases hmem with rfl | rfl | rfl | rfl | rfl | rfl | rfl | rfl | rfl | rfl | rfl | rfl | rfl | rfl | rfl | rfl | rfl | rfl | hmem
 · rfl
 · rfl
 · rfl
 · rfl
 · rfl
 · rfl
 · rfl
 · rfl
 · rfl
 · rfl
 · rfl
 · rfl
 · rfl
 · have:=h16 (by omega)
   have hix:=kL hk.1 this
   show {M with m:=M.m.set (ix k) M.a}=setW M (2+k.toNat) (wd {M with m:=M.m.set (ix k) M.a} (2+k.toNat))
   rw [hix,Nat.add_comm]
   show {M with m:=M.m.set k.toNat M.a}={M with m:=M.m.set k.toNat ((M.m.set k.toNat M.a).getD k.toNat 0)}
   rw [dL (by omega),if_pos rfl]
 · have:=h16 (by omega)
   have hix:=kL hk.1 this
   show {M with m:=M.m.set (ix k) M.x}=setW M (2+k.toNat) (wd {M with m:=M.m.set (ix k) M.x} (2+k.toNat))
   rw [hix,Nat.add_comm]
   show {M with m:=M.m.set k.toNat M.x}={M with m:=M.m.set k.toNat ((M.m.set k.toNat M.x).getD k.toNat 0)}
   rw [dL (by omega),if_pos rfl]
 · rfl
 · rfl
 · rfl
 refine al c ?_
 simp only [eQ,gH,List.mem_cons,List.not_mem_nil,or_false]
 omega
theorem jQ {i:S45} (pk:List Int) (M:bH) (hm:M.m.length=16) (hc:stB i.f0 i.f3=true) (hk:Rg i.f3) {f t:Nat} (h:mvF i=some (f,t)):wrF i=t∧f<18∧t<18∧vfF i pk M=(wd M f,0):=by
 have h16:=(gQ hc).2.1
 obtain ⟨c,jt,jf,k⟩:=i
 dsimp only at h16 hk
 have hk0:=hk.1
 unfold mvF at h
 dsimp only at h
 by_cases c1:c=96
 · rw [if_pos c1] at h;subst c1;cases h
   have:=h16 (by omega)
   refine ⟨rfl,by omega,by omega,?_⟩
   show (M.m.getD (ix k) 0,(0:Int))=(wd M (2+k.toNat),0)
   rw [kL hk0 this,Nat.add_comm];rfl
 rw [if_neg c1] at h
 by_cases c2:c=97
 · rw [if_pos c2] at h;subst c2;cases h
   have:=h16 (by omega)
   refine ⟨rfl,by omega,by omega,?_⟩
   show (M.m.getD (ix k) 0,(0:Int))=(wd M (2+k.toNat),0)
   rw [kL hk0 this,Nat.add_comm];rfl
 rw [if_neg c2] at h
 by_cases c3:c=2
 · rw [if_pos c3] at h;subst c3;cases h
   have:=h16 (by omega)
   refine ⟨rfl,by omega,by omega,?_⟩
   show (wd {M with m:=M.m.set (ix k) M.a} (2+k.toNat),(0:Int))=(M.a,0)
   rw [kL hk0 this,Nat.add_comm]
   show ((M.m.set k.toNat M.a).getD k.toNat 0,(0:Int))=_
   rw [dL (by omega),if_pos rfl]
 rw [if_neg c3] at h
 by_cases c4:c=3
 · rw [if_pos c4] at h;subst c4;cases h
   have:=h16 (by omega)
   refine ⟨rfl,by omega,by omega,?_⟩
   show (wd {M with m:=M.m.set (ix k) M.x} (2+k.toNat),(0:Int))=(M.x,0)
   rw [kL hk0 this,Nat.add_comm]
   show ((M.m.set k.toNat M.x).getD k.toNat 0,(0:Int))=_
   rw [dL (by omega),if_pos rfl]
 rw [if_neg c4] at h
 by_cases c5:c=7
 · rw [if_pos c5] at h;subst c5;cases h;exact ⟨rfl,by omega,by omega,rfl⟩
 rw [if_neg c5] at h
 by_cases c6:c=135
 · rw [if_pos c6] at h;subst c6;cases h;exact ⟨rfl,by omega,by omega,rfl⟩
 rw [if_neg c6] at h;cases h
theorem nofault {i:S45} (pk:List Int) (M:bH) (hM:MB M) (hc:stB i.f0 i.f3=true) (hk:Rg i.f3) (h:i.f0 ∉ flL):(bY i pk M).2=0:=by
 obtain ⟨hmem,h16,h52,h31⟩:=gQ hc
 obtain ⟨c,jt,jf,k⟩:=i
 dsimp only at hmem h52 hk h
 have h60:c≠60∧c≠156:=by simp only [flL,List.mem_cons,List.not_mem_nil,or_false] at h;omega
 by_cases ha:c∈eQ
 · rw [uj c jt jf k ha];exact uT ha hk.1 h52
 by_cases hx:c∈gH
 · obtain ⟨e,e1,e2,e3⟩:=stepX c jt jf k hx pk M
   rw [e]
   exact uT e1 hM.x.1 (fun q=>by omega)
 have:c∈([0,96,128,1,97,129,2,3,132,7,135]:List Int):=by
  have H:∀ x∈stL,x∈flL∨x∈eQ∨x∈gH∨x∈([0,96,128,1,97,129,2,3,132,7,135]:List Int):=by decide
  rcases H c hmem with q | q | q | q
  · exact absurd q h
  · exact absurd q ha
  · exact absurd q hx
  exact q
 simp only [List.mem_cons,List.not_mem_nil,or_false] at this
 rcases this with rfl | rfl | rfl | rfl | rfl | rfl | rfl | rfl | rfl | rfl | rfl<;>rfl
theorem vf_rd {i:S45} (pk:List Int) {M N:bH} (hm:M.m.length=16) (hn:N.m.length=16) (hc:stB i.f0 i.f3=true) (hk:Rg i.f3) (h:∀ j,rdB i j=true→wd M j=wd N j):vfF i pk M=vfF i pk N:=by
 obtain ⟨hmem,h16,h52,h31⟩:=gQ hc
 have hk0:=hk.1
 obtain ⟨c,jt,jf,k⟩:=i
 dsimp only at hmem h16 hk hk0
 have al:∀ c,c∈eQ∨c∈gH→(∀ j,rdB ⟨c,jt,jf,k⟩ j=true→wd M j=wd N j)→vfF ⟨c,jt,jf,k⟩ pk M=vfF ⟨c,jt,jf,k⟩ pk N:=by
  intro c h hj
  have e:wrF ⟨c,jt,jf,k⟩=0:=by
   simp only [eQ,gH,List.mem_cons,List.not_mem_nil,or_false] at h
   rcases h with h | h<;>rcases h with rfl | rfl | rfl | rfl | rfl | rfl | rfl | rfl | rfl | rfl<;>rfl
  have ha:M.a=N.a:=hj 0 (by
   unfold rdB;dsimp only
   rw [decide_eq_true (rfl:0=0),decide_eq_true (by rcases h with h | h;exact .inr (.inr (.inl h));exact .inr (.inr (.inr (.inl h))))];rfl)
  unfold vfF
  rw [e,qX c jt jf k h,qX c jt jf k h]
  rcases h with h | h
  · have H:∀ x∈eQ,byX x=false:=by decide +kernel
    rw [H c h,ha];rfl
  have hx:M.x=N.x:=hj 1 (by
   unfold rdB;dsimp only
   rw [decide_eq_true (rfl:1=1),decide_eq_true (show c=64∨c=72∨c=80∨c=3∨c∈gH∨c=135∨c∈tX from .inr (.inr (.inr (.inr (.inl h)))))]
   simp)
  rw [ha,hx];rfl
 simp only [stL,List.mem_cons,List.not_mem_nil,or_false] at hmem
 have g0:rdB ⟨c,jt,jf,k⟩ 0=true→M.a=N.a:=h 0
 have g1:rdB ⟨c,jt,jf,k⟩ 1=true→M.x=N.x:=h 1
 rcases hmem with rfl | rfl | rfl | rfl | rfl | rfl | rfl | rfl | rfl | rfl | rfl | rfl | rfl | rfl | rfl | rfl | rfl | rfl | hmem
 · rfl
 · rfl
 · rfl
 · rfl
 · have hx:=g1 rfl
   show ((rdP pk (IntKind.u64.wrap (IntKind.u64.wrap k+IntKind.u64.wrap M.x)) (szP 64)).1,_)=((rdP pk (IntKind.u64.wrap (IntKind.u64.wrap k+IntKind.u64.wrap N.x)) (szP 64)).1,_)
   rw [hx]
   show _=(_,(rdP pk (IntKind.u64.wrap (IntKind.u64.wrap k+IntKind.u64.wrap N.x)) (szP 64)).2)
   rw [←hx];rfl
 · have hx:=g1 rfl
   show ((rdP pk (IntKind.u64.wrap (IntKind.u64.wrap k+IntKind.u64.wrap M.x)) (szP 72)).1,_)=((rdP pk (IntKind.u64.wrap (IntKind.u64.wrap k+IntKind.u64.wrap N.x)) (szP 72)).1,_)
   rw [hx]
   show _=(_,(rdP pk (IntKind.u64.wrap (IntKind.u64.wrap k+IntKind.u64.wrap N.x)) (szP 72)).2)
   rw [←hx];rfl
 · have hx:=g1 rfl
   show ((rdP pk (IntKind.u64.wrap (IntKind.u64.wrap k+IntKind.u64.wrap M.x)) (szP 80)).1,_)=((rdP pk (IntKind.u64.wrap (IntKind.u64.wrap k+IntKind.u64.wrap N.x)) (szP 80)).1,_)
   rw [hx]
   show _=(_,(rdP pk (IntKind.u64.wrap (IntKind.u64.wrap k+IntKind.u64.wrap N.x)) (szP 80)).2)
   rw [←hx];rfl
 · obtain ⟨_,_,_,e⟩:=jQ (i:=⟨96,jt,jf,k⟩) (f:=2+k.toNat) (t:=0) pk M hm hc hk rfl
   obtain ⟨_,_,_,e2⟩:=jQ (i:=⟨96,jt,jf,k⟩) (f:=2+k.toNat) (t:=0) pk N hn hc hk rfl
   rw [e,e2,h (2+k.toNat) (by unfold rdB;simp)]
 · rfl
 · rfl
 · obtain ⟨_,_,_,e⟩:=jQ (i:=⟨97,jt,jf,k⟩) (f:=2+k.toNat) (t:=1) pk M hm hc hk rfl
   obtain ⟨_,_,_,e2⟩:=jQ (i:=⟨97,jt,jf,k⟩) (f:=2+k.toNat) (t:=1) pk N hn hc hk rfl
   rw [e,e2,h (2+k.toNat) (by unfold rdB;simp)]
 · rfl
 · rfl
 · obtain ⟨_,_,_,e⟩:=jQ (i:=⟨2,jt,jf,k⟩) (f:=0) (t:=2+k.toNat) pk M hm hc hk rfl
   obtain ⟨_,_,_,e2⟩:=jQ (i:=⟨2,jt,jf,k⟩) (f:=0) (t:=2+k.toNat) pk N hn hc hk rfl
   rw [e,e2,h 0 (by unfold rdB;simp)]
 · obtain ⟨_,_,_,e⟩:=jQ (i:=⟨3,jt,jf,k⟩) (f:=1) (t:=2+k.toNat) pk M hm hc hk rfl
   obtain ⟨_,_,_,e2⟩:=jQ (i:=⟨3,jt,jf,k⟩) (f:=1) (t:=2+k.toNat) pk N hn hc hk rfl
   rw [e,e2,h 1 (by unfold rdB;simp)]
 · have:=g0 rfl
   show (IntKind.u32.wrap (-M.a),(0:Int))=(IntKind.u32.wrap (-N.a),0)
   rw [this]
 · have:=g0 rfl
   show (M.a,(0:Int))=(N.a,0)
   rw [this]
 · have:=g1 rfl
   show (M.x,(0:Int))=(N.x,0)
   rw [this]
 refine al c ?_ h
 simp only [eQ,gH,List.mem_cons,List.not_mem_nil,or_false]
 omega
def cpF:List Int→Int→List S45→List S45 × Bool
 | _,_,[]=>([],false)
 | of,nx,i :: r=>
  match mvF i with
  | some (f,t)=>if of.getD t 0≠of.getD f 0 then (i :: (cpF (of.set t (of.getD f 0)) nx r).1,(cpF (of.set t (of.getD f 0)) nx r).2) else ((cpF of nx r).1,true)
  | none=>(i :: (cpF (of.set (wrF i) (nx+1)) (nx+1) r).1,(cpF (of.set (wrF i) (nx+1)) (nx+1) r).2)
def iJ:List Int:=[1,2,3,4,5,6,7,8,9,10,11,12,13,14,15,16,17,18]
def gz (b:S47):S47 × Bool:=(⟨(cpF iJ 18 b.f0).1,b.f1,b.f2,b.f3,b.f4⟩,(cpF iJ 18 b.f0).2)
def jb (g:List S47):List S47 × Bool:=(g.map (fun b=>(gz b).1),g.any (fun b=>(gz b).2))
structure CI (of:List Int) (nx:Int) (M:bH):Prop where
 len:of.length=18
 low:∀ a,a<18→of.getD a 0≤nx
 eq:∀ a b,a<18→b<18→of.getD a 0=of.getD b 0→wd M a=wd M b
theorem ci_0 (M:bH):CI iJ 18 M:=by
 have H:∀ a<18,iJ.getD a 0≤18∧∀ b<18,iJ.getD a 0=iJ.getD b 0→a=b:=by decide
 exact ⟨rfl,fun a h=>(H a h).1,fun a b ha hb e=>by rw [(H a ha).2 b hb e]⟩
theorem ci_mv {of:List Int} {nx:Int} {M:bH} (h:CI of nx M) (hm:M.m.length=16) {f t:Nat} (hf:f<18) (ht:t<18):CI (of.set t (of.getD f 0)) nx (setW M t (wd M f)):=by
 have hl:=h.len
 have G:∀ a,(of.set t (of.getD f 0)).getD a 0=if t=a then of.getD f 0 else of.getD a 0:=fun a=>dL (by omega)
 refine ⟨(List.length_set ..).trans hl,fun a ha=>?_,fun a b ha hb e=>?_⟩
 · rw [G];split
   · exact h.low f hf
   exact h.low a ha
 rw [G,G] at e
 rw [mh ht hm,mh ht hm]
 by_cases qa:t=a<;>by_cases qb:t=b
 · rw [if_pos qa,if_pos qb]
 · rw [if_pos qa,if_neg qb] at e ⊢;exact h.eq f b hf hb e
 · rw [if_neg qa,if_pos qb] at e ⊢;exact h.eq a f ha hf e
 rw [if_neg qa,if_neg qb] at e ⊢;exact h.eq a b ha hb e
theorem ci_fr {of:List Int} {nx:Int} {M:bH} (h:CI of nx M) (hm:M.m.length=16) {t:Nat} (ht:t<18) (v:Int):CI (of.set t (nx+1)) (nx+1) (setW M t v):=by
 have hl:=h.len
 have G:∀ a,(of.set t (nx+1)).getD a 0=if t=a then nx+1 else of.getD a 0:=fun a=>dL (by omega)
 refine ⟨(List.length_set ..).trans hl,fun a ha=>?_,fun a b ha hb e=>?_⟩
 · rw [G];split
   · omega
   have:=h.low a ha;omega
 rw [G,G] at e
 rw [mh ht hm,mh ht hm]
 have la:=h.low a ha
 have lb:=h.low b hb
 by_cases qa:t=a<;>by_cases qb:t=b
 · rw [if_pos qa,if_pos qb]
 · rw [if_pos qa,if_neg qb] at e;omega
 · rw [if_neg qa,if_pos qb] at e;omega
 rw [if_neg qa,if_neg qb] at e ⊢;exact h.eq a b ha hb e
theorem setW_wd {M:bH} {t:Nat} {v:Int} (ht:t<18) (hm:M.m.length=16) (h:wd M t=v):setW M t v=M:=by
 match t with
 | 0=>subst h;rfl
 | 1=>subst h;rfl
 | n+2=>
  show ({M with m:=M.m.set n v}:bH)=M
  rw [mX (l:=M.m) (by omega) h]
theorem nP {i:S45} (pk:List Int) (M:bH) (hm:M.m.length=16) (hc:stB i.f0 i.f3=true) (hk:Rg i.f3):bY i pk M=(setW M (wrF i) (vfF i pk M).1,(vfF i pk M).2):=by
 rw [←Cg pk M hm hc hk];rfl
theorem cp_run (pk:List Int):∀ (c:List S45) (of:List Int) (nx:Int) (M:bH),CI of nx M→MB M→fE c=true→(∀ x∈c,Rg x.f3) →
 (bF pk (cpF of nx c).1 M).1=(bF pk c M).1∧(bF pk (cpF of nx c).1 M).2.1=(bF pk c M).2.1∧(bF pk (cpF of nx c).1 M).2.2≤(bF pk c M).2.2:=by
 intro c
 induction c with
 | nil=>intro of nx M _ _ _ _;exact ⟨rfl,rfl,Nat.le_refl _⟩
 | cons i r ih=>
  intro of nx M h hM hc hk
  unfold fE at hc
  rw [List.all_cons,Bool.and_eq_true] at hc
  have hk1:=hk i (List.mem_cons_self ..)
  have hk2:∀ x∈r,Rg x.f3:=fun x hx=>hk x (List.mem_cons_of_mem _ hx)
  have hM1:=lq i pk M hM hk1
  have hp:=nP pk M hM.len hc.1 hk1
  have kept:∀ of1 nx1,((bY i pk M).2=0→CI of1 nx1 (bY i pk M).1)→(bF pk (i :: (cpF of1 nx1 r).1) M).1=(bF pk (i :: r) M).1∧(bF pk (i :: (cpF of1 nx1 r).1) M).2.1=(bF pk (i :: r) M).2.1∧(bF pk (i :: (cpF of1 nx1 r).1) M).2.2≤(bF pk (i :: r) M).2.2:=by
   intro of1 nx1 h1
   unfold bF
   by_cases f0:(bY i pk M).2=0
   · obtain ⟨a,b,d⟩:=ih of1 nx1 (bY i pk M).1 (h1 f0) hM1 hc.2 hk2
     rw [if_pos f0,if_pos f0]
     exact ⟨a,b,Nat.succ_le_succ d⟩
   rw [if_neg f0,if_neg f0];exact ⟨rfl,rfl,Nat.le_refl _⟩
  unfold cpF
  cases e:mvF i with
  | none=>
   dsimp only
   refine kept _ _ (fun f0=>?_)
   rw [hp]
   exact ci_fr h hM.len (wS hc.1 hk1) _
  | some ft=>
   obtain ⟨f,t⟩:=ft
   obtain ⟨m1,m2,m3,m4⟩:=jQ pk M hM.len hc.1 hk1 e
   rw [m4,m1] at hp
   dsimp only
   by_cases q:of.getD t 0≠of.getD f 0
   · rw [if_pos q]
     refine kept _ _ (fun f0=>?_)
     rw [hp]
     exact ci_mv h hM.len m2 m3
   rw [if_neg q]
   have heq:=h.eq t f m3 m2 (by omega)
   rw [setW_wd m3 hM.len heq] at hp
   obtain ⟨a,b,d⟩:=ih of nx M h hM hc.2 hk2
   have:bF pk (i :: r) M=((bF pk r M).1,(bF pk r M).2.1,(bF pk r M).2.2+1):=by
    show (if (bY i pk M).2=0 then _ else _)=_
    rw [hp];exact if_pos rfl
   rw [this]
   exact ⟨a,b,Nat.le_succ_of_le d⟩
theorem nD:∀ (c:List S45) (of:List Int) (nx:Int),List.Sublist (cpF of nx c).1 c∧wC (cpF of nx c).1≤wC c∧((cpF of nx c).2=true→wC (cpF of nx c).1<wC c)∧((cpF of nx c).2=false→(cpF of nx c).1=c):=by
 intro c
 induction c with
 | nil=>intro of nx;exact ⟨List.Sublist.refl _,Nat.le_refl _,(fun h=>by cases h),fun _=>rfl⟩
 | cons i r ih=>
  intro of nx
  have e0:∀ r,wC (i :: r)=wI i+wC r:=fun r=>by unfold wC;rw [List.map_cons,List.sum_cons]
  have hp:=vK i
  have kept:∀ of nx,List.Sublist (i :: (cpF of nx r).1) (i :: r)∧wC (i :: (cpF of nx r).1)≤wC (i :: r)∧((cpF of nx r).2=true→wC (i :: (cpF of nx r).1)<wC (i :: r))∧((cpF of nx r).2=false→i :: (cpF of nx r).1=i :: r):=by
   intro of nx
   obtain ⟨a,b,d,e⟩:=ih of nx
   rw [e0,e0]
   exact ⟨a.cons_cons i,by omega,(fun h=>by have:=d h;omega),fun h=>by rw [e h]⟩
  unfold cpF
  cases e:mvF i with
  | none=>exact kept _ _
  | some ft=>
   obtain ⟨f,t⟩:=ft
   dsimp only
   by_cases q:of.getD t 0≠of.getD f 0
   · rw [if_pos q];exact kept _ _
   rw [if_neg q]
   obtain ⟨a,b,d,e⟩:=ih of nx
   dsimp only
   rw [e0]
   exact ⟨a.cons i,by omega,(fun _=>by omega),fun h=>by cases h⟩
theorem xC {g g':List S47} (hg:GOk g) (pk:List Int) (H:∀ (j:Nat) (b:S47),g[j]?=some b→∃ b',g'[j]?=some b'∧∀ M,MB M→OL (fO pk b M) (fO pk b' M)) :
 ∀ {j:Nat} {M:bH} {v f:Int} {t:Nat},Rn g pk j M v f t→MB M→∃ t',t'≤t∧Rn g' pk j M v f t':=by
 intro j M v f t hr
 induction hr with
 | @fin j M b v f s hb e=>
  intro hM
  obtain ⟨b',hb',ho⟩:=H j b hb
  have o1:=ho M hM
  rw [e] at o1
  generalize e':fO pk b' M=o' at o1
  cases o1 with
  | fin hle=>exact ⟨_,hle,.fin hb' e'⟩
 | @go j M b j1 M1 s1 v f t1 hb e _ ih=>
  intro hM
  obtain ⟨b',hb',ho⟩:=H j b hb
  have o1:=ho M hM
  obtain ⟨_,q1,_⟩:=kg (hg.all j b hb) (by omega) e
  rw [e] at o1
  generalize e':fO pk b' M=o' at o1
  cases o1 with
  | @go _ _ _ s1' hle=>
   obtain ⟨t',ht',hr'⟩:=ih (by rw [q1];exact mI pk _ M hM (hg.all j b hb).rg)
   exact ⟨s1'+t',by omega,.go hb' e' hr'⟩
theorem wN {b:S47} {i n:Int} (h:BOk b i n) {c:List S45} (hs:List.Sublist c b.f0):BOk ⟨c,b.f1,b.f2,b.f3,b.f4⟩ i n:=by
 refine ⟨?_,h.ends,h.goal,fun x hx=>h.rg x (hs.subset hx),h.rl⟩
 unfold fE
 rw [List.all_eq_true]
 intro x hx
 have:=h.code
 unfold fE at this
 rw [List.all_eq_true] at this
 exact this x (hs.subset hx)
theorem nQ {α:Type} (f h:α→Nat):∀ (l:List α),(∀ x∈l,f x≤h x)→(l.map f).sum≤(l.map h).sum:=by
 intro l
 induction l with
 | nil=>intro _;exact Nat.le_refl _
 | cons a r ih=>
  intro H
  simp only [List.map_cons,List.sum_cons]
  have:=H a (List.mem_cons_self ..)
  have:=ih (fun x hx=>H x (List.mem_cons_of_mem _ hx))
  omega
theorem sum_lt {α:Type} (f h:α→Nat):∀ (l:List α),(∀ x∈l,f x≤h x)→(∃ x∈l,f x<h x)→(l.map f).sum<(l.map h).sum:=by
 intro l
 induction l with
 | nil=>rintro _ ⟨x,hx,_⟩;cases hx
 | cons a r ih=>
  rintro H ⟨x,hx,hlt⟩
  simp only [List.map_cons,List.sum_cons]
  have h1:=H a (List.mem_cons_self ..)
  have h2:=nQ f h r (fun x hx=>H x (List.mem_cons_of_mem _ hx))
  rcases List.mem_cons.1 hx with rfl | hx
  · omega
  have:=ih (fun x hx=>H x (List.mem_cons_of_mem _ hx)) ⟨x,hx,hlt⟩
  omega
theorem jX {g:List S47} (hg:GOk g):jA g (jb g).1 (jb g).2:=by
 have hlen:(jb g).1.length=g.length:=List.length_map ..
 have hget:∀ (j:Nat) (b:S47),g[j]?=some b→(jb g).1[j]?=some (gz b).1:=fun j b h=>by
  show (g.map _)[j]?=_
  rw [List.getElem?_map,h];rfl
 have hmap:∀ {β:Type} (f:S47→β),(jb g).1.map f=g.map (fun b=>f (gz b).1):=fun f=>by
  show (g.map _).map f=_
  rw [List.map_map];rfl
 have hm:∀ b∈g,∃ j,g[j]?=some b:=fun b h=>List.getElem?_of_mem h
 have ph1:∀ b,phB g.length (gz b).1≤phB g.length b:=fun b=>by
  have:=(nD b.f0 iJ 18).2.1
  show 1+wC (cpF iJ 18 b.f0).1+wE _ b≤1+wC b.f0+wE _ b
  omega
 have ln1:∀ b,(gz b).1.f0.length≤b.f0.length:=fun b=>(nD b.f0 iJ 18).1.length_le
 refine ⟨⟨by rw [hlen];exact hg.some_,by rw [hlen];exact hg.few,fun j b' h=>?_,?_⟩,?_,?_,?_,?_,?_⟩
 · rw [hlen]
   have h':g[j]?.map (fun b=>(gz b).1)=some b':=by rw [←List.getElem?_map];exact h
   cases hb:g[j]? with
   | none=>rw [hb] at h';cases h'
   | some b=>
    rw [hb] at h'
    obtain rfl:=Option.some.inj h'
    exact wN (hg.all j b hb) (nD b.f0 iJ 18).1
 · rw [hmap]
   exact Nat.le_trans (nQ _ _ g (fun b _=>ln1 b)) hg.sum
 · intro pk v f t hr
   refine xC hg pk (fun j b hb=>⟨_,hget j b hb,fun M hM=>?_⟩) hr MB_z
   have hok:=hg.all j b hb
   obtain ⟨a,c,d⟩:=cp_run pk b.f0 iJ 18 M (ci_0 M) hM hok.code hok.rg
   unfold fO
   show OL _ (if (bF pk (cpF iJ 18 b.f0).1 M).2.1=0 then fT (gz b).1 (bF pk (cpF iJ 18 b.f0).1 M).1 (bF pk (cpF iJ 18 b.f0).1 M).2.2 else .fin 0 (bF pk (cpF iJ 18 b.f0).1 M).2.1 (bF pk (cpF iJ 18 b.f0).1 M).2.2)
   rw [c,a]
   by_cases h0:(bF pk b.f0 M).2.1=0
   · rw [if_pos h0,if_pos h0]
     unfold fT
     show OL _ (if b.f1=1 then _ else if b.f1=2 then _ else _)
     by_cases e1:b.f1=1
     · rw [if_pos e1,if_pos e1];exact .fin (Nat.succ_le_succ d)
     rw [if_neg e1,if_neg e1]
     by_cases e2:b.f1=2
     · rw [if_pos e2,if_pos e2];exact .go d
     rw [if_neg e2,if_neg e2];exact .go (Nat.succ_le_succ d)
   rw [if_neg h0,if_neg h0];exact .fin d
 · unfold msG;rw [hmap]
   refine nQ _ _ g (fun b _=>?_)
   have:=ln1 b
   show (gz b).1.f0.length+1+(if b.f1=3 then 2 else 0)≤b.f0.length+1+(if b.f1=3 then 2 else 0)
   omega
 · unfold phG;rw [hmap,hlen]
   exact nQ _ _ g (fun b _=>ph1 b)
 · intro h
   unfold phG;rw [hmap,hlen]
   refine sum_lt _ _ g (fun b _=>ph1 b) ?_
   obtain ⟨b,hb,hf⟩:=List.any_eq_true.1 (show g.any (fun b=>(gz b).2)=true from h)
   refine ⟨b,hb,?_⟩
   have:=(nD b.f0 iJ 18).2.2.1 hf
   show 1+wC (cpF iJ 18 b.f0).1+wE _ b<1+wC b.f0+wE _ b
   omega
 intro h
 have h2:g.any (fun b=>(gz b).2)=false:=h
 rw [List.any_eq_false] at h2
 show g.map (fun b=>(gz b).1)=g
 have:g.map (fun b=>(gz b).1)=g.map id:=List.map_congr_left (fun b hb=>by
  have hf:(cpF iJ 18 b.f0).2=false:=by simpa [gz] using h2 b hb
  show (⟨(cpF iJ 18 b.f0).1,b.f1,b.f2,b.f3,b.f4⟩:S47)=b
  rw [(nD b.f0 iJ 18).2.2.2 hf])
 rw [this,List.map_id]
abbrev Lw:=List Bool
def inW (l:Lw) (j:Nat):Bool:=l.getD j false
def rdF (l:Lw) (i:S45):Lw:=(List.range 18).map (fun j=>inW l j||rdB i j)
def noW:Lw:=List.replicate 18 false
def bkF (l:Lw):List S45→List S45 × Lw × Bool
 | []=>([],l,false)
 | i :: r=>
  if inW (bkF l r).2.1 (wrF i)=false∧i.f0 ∉ flL then ((bkF l r).1,(bkF l r).2.1,true)
  else (i :: (bkF l r).1,rdF ((bkF l r).2.1.set (wrF i) false) i,(bkF l r).2.2)
def lvF (b:S47) (y n:Lw):Lw:=
 if b.f1=1 then rdF noW b.f2 else if b.f1=2 then y else rdF ((List.range 18).map (fun j=>inW y j||inW n j)) b.f2
def ddL:List S47→Nat→List S47 × List Lw × Bool
 | [],_=>([],[],false)
 | b :: r,n=>
  let q:=ddL r (n+1)
  let l:=lvF b (q.2.1.getD (b.f3.toNat - (n+1)) noW) (q.2.1.getD (b.f4.toNat - (n+1)) noW)
  (⟨(bkF l b.f0).1,b.f1,b.f2,b.f3,b.f4⟩ :: q.1,(bkF l b.f0).2.1 :: q.2.1,(bkF l b.f0).2.2||q.2.2)
def jM (g:List S47):List S47 × Bool:=((ddL g 0).1,(ddL g 0).2.2)
theorem iw (f:Nat→Bool) (j:Nat):inW ((List.range 18).map f) j=(decide (j<18)&&f j):=by
 unfold inW
 rw [List.getD_eq_getElem?_getD,List.getElem?_map]
 by_cases h:j<18
 · rw [List.getElem?_range h,decide_eq_true h];rfl
 rw [List.getElem?_eq_none (by rw [List.length_range];omega),decide_eq_false h];rfl
theorem rd_lt {i:S45} (hc:stB i.f0 i.f3=true) (hk:Rg i.f3) {j:Nat} (h:rdB i j=true):j<18:=by
 have h16:=(gQ hc).2.1
 have:=hk.1
 unfold rdB at h
 simp only [Bool.or_eq_true,Bool.and_eq_true,decide_eq_true_eq] at h
 rcases h with (⟨rfl,_⟩ | ⟨rfl,_⟩) | ⟨rfl,e⟩
 · omega
 · omega
 have:=h16 (by omega);omega
def Agr (l:Lw) (M N:bH):Prop:=∀ j,j<18→inW l j=true→wd M j=wd N j
theorem pg (l:Lw) (hl:l.length=18):∀ c,(bkF l c).2.1.length=18:=by
 intro c
 induction c with
 | nil=>exact hl
 | cons i r ih=>
  unfold bkF
  split
  · exact ih
  show (rdF _ i).length=18
  unfold rdF;rw [List.length_map,List.length_range]
theorem rF (l:Lw):∀ c,List.Sublist (bkF l c).1 c∧wC (bkF l c).1≤wC c∧((bkF l c).2.2=true→wC (bkF l c).1<wC c)∧((bkF l c).2.2=false→(bkF l c).1=c):=by
 intro c
 induction c with
 | nil=>exact ⟨List.Sublist.refl _,Nat.le_refl _,(fun h=>by cases h),fun _=>rfl⟩
 | cons i r ih=>
  obtain ⟨a,b,d,e⟩:=ih
  have e0:∀ r,wC (i :: r)=wI i+wC r:=fun r=>by unfold wC;rw [List.map_cons,List.sum_cons]
  have hp:=vK i
  unfold bkF
  split
  · dsimp only;rw [e0];exact ⟨a.cons i,by omega,(fun _=>by omega),fun h=>by cases h⟩
  dsimp only;rw [e0,e0];exact ⟨a.cons_cons i,by omega,(fun h=>by have:=d h;omega),fun h=>by rw [e h]⟩
theorem yQ (pk:List Int) (l:Lw) (hl:l.length=18):∀ (c:List S45) (M N:bH),MB M→MB N→fE c=true→(∀ x∈c,Rg x.f3)→Agr (bkF l c).2.1 M N →
 (bF pk (bkF l c).1 N).2.1=(bF pk c M).2.1∧(bF pk (bkF l c).1 N).2.2≤(bF pk c M).2.2∧((bF pk c M).2.1=0→Agr l (bF pk c M).1 (bF pk (bkF l c).1 N).1):=by
 intro c
 induction c with
 | nil=>intro M N _ _ _ _ h;exact ⟨rfl,Nat.le_refl _,fun _=>h⟩
 | cons i r ih=>
  intro M N hM hN hc hk h
  unfold fE at hc
  rw [List.all_cons,Bool.and_eq_true] at hc
  have hk1:=hk i (List.mem_cons_self ..)
  have hk2:∀ x∈r,Rg x.f3:=fun x hx=>hk x (List.mem_cons_of_mem _ hx)
  have hM1:=lq i pk M hM hk1
  have hN1:=lq i pk N hN hk1
  have hpM:=nP pk M hM.len hc.1 hk1
  have hpN:=nP pk N hN.len hc.1 hk1
  have hw:=wS hc.1 hk1
  have hlr:=pg l hl r
  unfold bkF at h ⊢
  by_cases q:inW (bkF l r).2.1 (wrF i)=false∧i.f0 ∉ flL
  · rw [if_pos q] at h ⊢
    have f0:=nofault pk M hM hc.1 hk1 q.2
    have ag:Agr (bkF l r).2.1 (bY i pk M).1 N:=by
     intro j hj hin
     rw [hpM]
     show wd (setW M (wrF i) _) j=_
     rw [mh hw hM.len,if_neg (by rintro rfl;rw [q.1] at hin;cases hin)]
     exact h j hj hin
    obtain ⟨a,b,d⟩:=ih (bY i pk M).1 N hM1 hN hc.2 hk2 ag
    have:bF pk (i :: r) M=((bF pk r (bY i pk M).1).1,(bF pk r (bY i pk M).1).2.1,(bF pk r (bY i pk M).1).2.2+1):=if_pos f0
    rw [this]
    exact ⟨a,Nat.le_succ_of_le b,d⟩
  rw [if_neg q] at h ⊢
  have hv:vfF i pk M=vfF i pk N:=vf_rd pk hM.len hN.len hc.1 hk1 (fun j hj=>by
   have hlt:=rd_lt hc.1 hk1 hj
   refine h j hlt ?_
   show inW (rdF _ i) j=true
   unfold rdF
   rw [iw,decide_eq_true hlt,hj,Bool.or_true];rfl)
  have hf:(bY i pk N).2=(bY i pk M).2:=by rw [hpM,hpN,hv]
  have ag:Agr (bkF l r).2.1 (bY i pk M).1 (bY i pk N).1:=by
   intro j hj hin
   rw [hpM,hpN]
   show wd (setW M (wrF i) _) j=wd (setW N (wrF i) _) j
   rw [mh hw hM.len,mh hw hN.len,hv]
   by_cases e:wrF i=j
   · rw [if_pos e,if_pos e]
   rw [if_neg e,if_neg e]
   refine h j hj ?_
   show inW (rdF _ i) j=true
   unfold rdF
   rw [iw,decide_eq_true hj]
   have:inW ((bkF l r).2.1.set (wrF i) false) j=true:=by
    unfold inW
    rw [dL (by omega),if_neg e]
    exact hin
   rw [this];rfl
  obtain ⟨a,b,d⟩:=ih (bY i pk M).1 (bY i pk N).1 hM1 hN1 hc.2 hk2 ag
  show (bF pk (i :: (bkF l r).1) N).2.1=_∧(bF pk (i :: (bkF l r).1) N).2.2≤_∧(_→Agr l _ (bF pk (i :: (bkF l r).1) N).1)
  unfold bF
  rw [hf]
  by_cases f0:(bY i pk M).2=0
  · rw [if_pos f0,if_pos f0];exact ⟨a,Nat.succ_le_succ b,d⟩
  rw [if_neg f0,if_neg f0];exact ⟨rfl,Nat.le_refl _,fun h=>absurd h f0⟩
theorem AP {b:S47} {i n:Int} (h:BOk b i n) (y z:Lw) {M N:bH} (ha:Agr (lvF b y z) M N) (k k':Nat) (hk:k'≤k) :
 (∃ v s s',fT b M k = .fin v 0 s∧fT b N k' = .fin v 0 s'∧s'≤s)∨(∃ j s s',fT b M k = .go j M s∧fT b N k' = .go j N s'∧s'≤s∧((j=b.f3.toNat∧b.f1≠1∧Agr y M N)∨(j=b.f4.toNat∧b.f1=3∧Agr z M N))):=by
 rcases eO h.ends with ⟨h1,h2,h3,h4,h5⟩ | ⟨h1,h2,h3⟩ | ⟨h1,h2,h3⟩
 · left
   unfold fT
   rw [if_pos h1,if_pos h1]
   unfold lvF at ha
   rw [if_pos h1] at ha
   by_cases e:b.f2.f0=6
   · rw [if_pos e,if_pos e];exact ⟨_,_,_,rfl,rfl,Nat.succ_le_succ hk⟩
   rw [if_neg e,if_neg e]
   have e22:b.f2.f0=22:=by
    have:b.f2.f0=6∨b.f2.f0=22:=of_decide_eq_true h2
    omega
   have:M.a=N.a:=ha 0 (by omega) (by
    unfold rdF
    rw [iw]
    have:rdB b.f2 0=true:=by
     unfold rdB
     rw [decide_eq_true (rfl:0=0),decide_eq_true (show b.f2.f0=2∨b.f2.f0=132∨b.f2.f0∈eQ∨b.f2.f0∈gH∨b.f2.f0=7∨jmB b.f2.f0=true∨b.f2.f0=22 from .inr (.inr (.inr (.inr (.inr (.inr e22))))))];rfl
    rw [this,Bool.or_true];rfl)
   rw [this]
   exact ⟨_,_,_,rfl,rfl,Nat.succ_le_succ hk⟩
 · right
   unfold fT
   unfold lvF at ha
   rw [if_neg (by omega),if_pos h1] at ha
   rw [if_neg (by omega),if_pos h1,if_neg (by omega),if_pos h1]
   exact ⟨_,_,_,rfl,rfl,hk,.inl ⟨rfl,by omega,ha⟩⟩
 right
 unfold lvF at ha
 rw [if_neg (by omega),if_neg (by omega)] at ha
 have E:∀ M k,fT b M k = .go (if hoP b.f2 M.a M.x=true then b.f3.toNat else b.f4.toNat) M (k+1):=fun M k=>by
  unfold fT;rw [if_neg (by omega),if_neg (by omega)]
 rw [E,E]
 have hr:∀ j,j<18→rdB b.f2 j=true→wd M j=wd N j:=fun j hj hr=>ha j hj (by
  unfold rdF
  rw [iw,hr,decide_eq_true hj,Bool.or_true];rfl)
 have ho:hoP b.f2 M.a M.x=hoP b.f2 N.a N.x:=by
  have h0:M.a=N.a:=hr 0 (by omega) (by
   unfold rdB
   rw [decide_eq_true (rfl:0=0),decide_eq_true (show b.f2.f0=2∨b.f2.f0=132∨b.f2.f0∈eQ∨b.f2.f0∈gH∨b.f2.f0=7∨jmB b.f2.f0=true∨b.f2.f0=22 from .inr (.inr (.inr (.inr (.inr (.inl h2))))))];rfl)
  by_cases hx:b.f2.f0∈tX
  · have h1:M.x=N.x:=hr 1 (by omega) (by
     unfold rdB
     rw [decide_eq_true (rfl:1=1),decide_eq_true (show b.f2.f0=64∨b.f2.f0=72∨b.f2.f0=80∨b.f2.f0=3∨b.f2.f0∈gH∨b.f2.f0=135∨b.f2.f0∈tX from .inr (.inr (.inr (.inr (.inr (.inr hx))))))]
     simp)
    rw [h0,h1]
  have e1:=tL b.f2.f0 b.f2.f1 b.f2.f2 b.f2.f3 M.a M.x h2 hx
  have e2:=tL b.f2.f0 b.f2.f1 b.f2.f2 b.f2.f3 N.a N.x h2 hx
  have e1':hoP b.f2 M.a M.x=hoK b.f2.f0 M.a b.f2.f3:=e1
  have e2':hoP b.f2 N.a N.x=hoK b.f2.f0 N.a b.f2.f3:=e2
  rw [e1',e2',h0]
 rw [ho]
 refine ⟨_,_,_,rfl,rfl,Nat.succ_le_succ hk,?_⟩
 have hy:Agr y M N:=fun j hj hin=>ha j hj (by
  unfold rdF
  rw [iw,iw,hin,decide_eq_true hj];rfl)
 have hz:Agr z M N:=fun j hj hin=>ha j hj (by
  unfold rdF
  rw [iw,iw,hin,decide_eq_true hj];simp)
 by_cases q:hoP b.f2 N.a N.x=true
 · rw [if_pos q];exact .inl ⟨rfl,by omega,hy⟩
 rw [if_neg q];exact .inr ⟨rfl,h1,hz⟩
theorem rX (b:S47) {y z:Lw} (hy:y.length=18):(lvF b y z).length=18:=by
 unfold lvF
 split
 · unfold rdF;rw [List.length_map,List.length_range]
 split
 · exact hy
 unfold rdF;rw [List.length_map,List.length_range]
theorem zg:∀ (l:List S47) (n:Nat),(ddL l n).1.length=l.length∧(ddL l n).2.1.length=l.length:=by
 intro l
 induction l with
 | nil=>intro n;exact ⟨rfl,rfl⟩
 | cons b r ih=>
  intro n
  unfold ddL
  obtain ⟨a,c⟩:=ih (n+1)
  exact ⟨by show _+1=_+1;rw [a],by show _+1=_+1;rw [c]⟩
structure DdAt (lv:List Lw) (b b':S47) (l:Lw):Prop where
 blk:b'=⟨(bkF (lvF b (lv.getD b.f3.toNat noW) (lv.getD b.f4.toNat noW)) b.f0).1,b.f1,b.f2,b.f3,b.f4⟩
 set:l=(bkF (lvF b (lv.getD b.f3.toNat noW) (lv.getD b.f4.toNat noW)) b.f0).2.1
theorem ze:∀ (l:List S47) (n:Nat),∀ x∈(ddL l n).2.1,x.length=18:=by
 intro l
 induction l with
 | nil=>intro n x hx;cases hx
 | cons b r ih=>
  intro n x hx
  unfold ddL at hx
  rcases List.mem_cons.1 hx with rfl | hx
  · refine pg _ (rX b ?_) _
    rw [List.getD_eq_getElem?_getD]
    cases e:(ddL r (n+1)).2.1[b.f3.toNat - (n+1)]? with
    | none=>rfl
    | some u=>exact ih (n+1) u (List.mem_of_getElem? e)
  exact ih (n+1) x hx
theorem zf (L:Nat) (lv:List Lw):∀ (l:List S47) (n:Nat),(∀ (j:Nat) (b:S47),l[j]?=some b→BOk b ((n+j:Nat):Int) L)→(∀ j,n≤j→lv.getD j noW=(ddL l n).2.1.getD (j - n) noW) →
 ∀ (j:Nat) (b:S47),l[j]?=some b→∃ b',(ddL l n).1[j]?=some b'∧DdAt lv b b' ((ddL l n).2.1.getD j noW):=by
 intro l
 induction l with
 | nil=>intro n _ _ j b h;simp at h
 | cons b0 r ih=>
  intro n hb hlv j b h
  have hr:∀ (j:Nat) (b:S47),r[j]?=some b→BOk b ((n+1+j:Nat):Int) L:=fun j c hc=>by
   have:=hb (j+1) c hc
   rw [show n+1+j=n+(j+1) by omega];exact this
  have hlv1:∀ j,n+1≤j→lv.getD j noW=(ddL r (n+1)).2.1.getD (j - (n+1)) noW:=by
   intro j hj
   rw [hlv j (by omega),show j - n=(j - (n+1))+1 by omega]
   rfl
  cases j with
  | zero=>
   cases h
   have hok:BOk b0 ((n:Nat):Int) L:=hb 0 b0 rfl
   have key:lvF b0 ((ddL r (n+1)).2.1.getD (b0.f3.toNat - (n+1)) noW) ((ddL r (n+1)).2.1.getD (b0.f4.toNat - (n+1)) noW)=lvF b0 (lv.getD b0.f3.toNat noW) (lv.getD b0.f4.toNat noW):=by
    unfold lvF
    by_cases e1:b0.f1=1
    · rw [if_pos e1,if_pos e1]
    rw [if_neg e1,if_neg e1]
    have hy:=bB hok.goal e1
    by_cases e2:b0.f1=2
    · rw [if_pos e2,if_pos e2,hlv1 _ (by omega)]
    rw [if_neg e2,if_neg e2]
    have e3:b0.f1=3:=by rcases eO hok.ends with ⟨h,_⟩ | ⟨h,_⟩ | ⟨h,_⟩<;>omega
    have hn:=dM hok.goal e3
    rw [hlv1 _ (by omega),hlv1 _ (by omega)]
   refine ⟨_,rfl,⟨?_,?_⟩⟩
   · rw [←key]
   rw [←key];rfl
  | succ j=>exact ih (n+1) hr hlv1 j b h
theorem wH (b:S47) (c:List S45) (M:bH) (k:Nat):fT ⟨c,b.f1,b.f2,b.f3,b.f4⟩ M k=fT b M k:=rfl
theorem dd_run {g:List S47} (hg:GOk g) (pk:List Int):∀ {j:Nat} {M:bH} {v f:Int} {t:Nat},Rn g pk j M v f t→∀ N,MB M→MB N→Agr ((ddL g 0).2.1.getD j noW) M N→∃ t',t'≤t∧Rn (jM g).1 pk j N v f t':=by
 have H:=zf g.length (ddL g 0).2.1 g 0 (fun j b h=>by rw [Nat.zero_add];exact hg.all j b h) (fun j _=>rfl)
 have hset:∀ j,((ddL g 0).2.1.getD j noW).length=18:=fun j=>by
  rw [List.getD_eq_getElem?_getD]
  cases e:(ddL g 0).2.1[j]? with
  | none=>rfl
  | some u=>exact ze g 0 u (List.mem_of_getElem? e)
 intro j M v f t hr
 induction hr with
 | @fin j M b v f s hb e=>
  intro N hM hN ha
  obtain ⟨b',hb',hd⟩:=H j b hb
  have hok:=hg.all j b hb
  rw [hd.set] at ha
  obtain ⟨r1,r2,r3⟩:=yQ pk _ (rX b (hset _)) b.f0 M N hM hN hok.code hok.rg ha
  have e':fO pk b' N=if (bF pk b'.f0 N).2.1=0 then fT b' (bF pk b'.f0 N).1 (bF pk b'.f0 N).2.2 else .fin 0 (bF pk b'.f0 N).2.1 (bF pk b'.f0 N).2.2:=rfl
  rw [hd.blk] at e'
  rw [r1,wH] at e'
  unfold fO at e
  by_cases h0:(bF pk b.f0 M).2.1=0
  · rw [if_pos h0] at e e'
    rcases AP hok _ _ (r3 h0) _ _ r2 with ⟨v1,s1,s2,x1,x2,x3⟩ | ⟨j1,s1,s2,x1,_⟩
    · rw [x1] at e
      injection e with a1 a2 a3
      subst a1 a2 a3
      refine ⟨s2,x3,.fin hb' ?_⟩
      rw [hd.blk];rw [x2] at e';exact e'
    rw [x1] at e;cases e
  rw [if_neg h0] at e e'
  injection e with a1 a2 a3
  subst a1 a2 a3
  refine ⟨_,r2,.fin hb' ?_⟩
  rw [hd.blk];exact e'
 | @go j M b j1 M1 s1 v f t1 hb e _ ih=>
  intro N hM hN ha
  obtain ⟨b',hb',hd⟩:=H j b hb
  have hok:=hg.all j b hb
  rw [hd.set] at ha
  obtain ⟨r1,r2,r3⟩:=yQ pk _ (rX b (hset _)) b.f0 M N hM hN hok.code hok.rg ha
  have e':fO pk b' N=if (bF pk b'.f0 N).2.1=0 then fT b' (bF pk b'.f0 N).1 (bF pk b'.f0 N).2.2 else .fin 0 (bF pk b'.f0 N).2.1 (bF pk b'.f0 N).2.2:=rfl
  rw [hd.blk] at e'
  rw [r1,wH] at e'
  obtain ⟨h0,q1,_⟩:=kg hok (by omega) e
  unfold fO at e
  rw [if_pos h0] at e e'
  rcases AP hok _ _ (r3 h0) _ _ r2 with ⟨v1,s2,s3,x1,_⟩ | ⟨j2,s2,s3,x1,x2,x3,x4⟩
  · rw [x1] at e;cases e
  rw [x1] at e
  injection e with a1 a2 a3
  subst a1 a3
  have hsub:∀ x∈(bkF (lvF b ((ddL g 0).2.1.getD b.f3.toNat noW) ((ddL g 0).2.1.getD b.f4.toNat noW)) b.f0).1,Rg x.f3:=fun x hx=>hok.rg x ((rF _ b.f0).1.subset hx)
  have ag:Agr ((ddL g 0).2.1.getD j2 noW) M1 (bF pk (bkF (lvF b ((ddL g 0).2.1.getD b.f3.toNat noW) ((ddL g 0).2.1.getD b.f4.toNat noW)) b.f0).1 N).1:=by
   rw [q1]
   rcases x4 with ⟨rfl,_,x4⟩ | ⟨rfl,_,x4⟩<;>exact x4
  obtain ⟨t',ht',hr'⟩:=ih _ (by rw [q1];exact mI pk _ M hM hok.rg) (mI pk _ N hN hsub) ag
  refine ⟨s3+t',by omega,.go hb' ?_ hr'⟩
  rw [hd.blk];rw [x2] at e';exact e'
theorem dd_w (L:Int):∀ (l:List S47) (n:Nat),((ddL l n).1.map (phB L)).sum≤(l.map (phB L)).sum∧((ddL l n).2.2=true→((ddL l n).1.map (phB L)).sum<(l.map (phB L)).sum)∧((ddL l n).2.2=false→(ddL l n).1=l)
 ∧ ((ddL l n).1.map msB).sum≤(l.map msB).sum∧((ddL l n).1.map szB).sum≤(l.map szB).sum∧((ddL l n).1.map (fun b=>b.f0.length)).sum≤(l.map (fun b=>b.f0.length)).sum:=by
 intro l
 induction l with
 | nil=>intro n;exact ⟨Nat.le_refl _,(fun h=>by cases h),(fun _=>rfl),Nat.le_refl _,Nat.le_refl _,Nat.le_refl _⟩
 | cons b r ih=>
  intro n
  obtain ⟨i1,i2,i3,i4,i5,i6⟩:=ih (n+1)
  unfold ddL
  dsimp only
  generalize lvF b _ _=l0
  obtain ⟨a,c,d,e⟩:=rF l0 b.f0
  have hl:=a.length_le
  simp only [List.map_cons,List.sum_cons]
  have p1:phB L ⟨(bkF l0 b.f0).1,b.f1,b.f2,b.f3,b.f4⟩=1+wC (bkF l0 b.f0).1+wE L b:=rfl
  have p2:phB L b=1+wC b.f0+wE L b:=rfl
  have p3:msB ⟨(bkF l0 b.f0).1,b.f1,b.f2,b.f3,b.f4⟩=(bkF l0 b.f0).1.length+1+(if b.f1=3 then 2 else 0):=rfl
  have p4:msB b=b.f0.length+1+(if b.f1=3 then 2 else 0):=rfl
  have p5:szB ⟨(bkF l0 b.f0).1,b.f1,b.f2,b.f3,b.f4⟩=(bkF l0 b.f0).1.length+(if b.f1=2 then 0 else 1):=rfl
  have p6:szB b=b.f0.length+(if b.f1=2 then 0 else 1):=rfl
  rw [p1,p2,p3,p4,p5,p6]
  refine ⟨by omega,fun h=>?_,fun h=>?_,by omega,by omega,by omega⟩
  · rcases Bool.or_eq_true_iff.1 h with h | h
    · have:=d h;omega
    have:=i2 h;omega
  rw [Bool.or_eq_false_iff] at h
  rw [e h.1,i3 h.2]
theorem jY {g:List S47} (hg:GOk g):jA g (jM g).1 (jM g).2:=by
 have hlen:(jM g).1.length=g.length:=(zg g 0).1
 obtain ⟨i1,i2,i3,i4,i5,i6⟩:=dd_w g.length g 0
 have H:=zf g.length (ddL g 0).2.1 g 0 (fun j b h=>by rw [Nat.zero_add];exact hg.all j b h) (fun j _=>rfl)
 refine ⟨⟨by rw [hlen];exact hg.some_,by rw [hlen];exact hg.few,fun j b' h=>?_,Nat.le_trans i6 hg.sum⟩,?_,i4,?_,?_,i3⟩
 · rw [hlen]
   have hj:j<g.length:=by rw [←hlen];exact (List.getElem?_eq_some_iff.1 h).1
   obtain ⟨b,hb,hok⟩:=hg.at_ hj
   obtain ⟨b2,hb2,hd⟩:=H j b hb
   have:some b2=some b':=hb2.symm.trans h
   cases this
   rw [hd.blk]
   exact wN hok (rF _ b.f0).1
 · intro pk v f t hr
   exact dd_run hg pk hr z16 MB_z MB_z (fun _ _ _=>rfl)
 · unfold phG;rw [hlen];exact i1
 intro h;unfold phG;rw [hlen];exact i2 h
def fB (b:S47):Bool:=decide (b.f1=2)&&decide (b.f0.length=0)
def onF (g:List S47):Nat→Nat→Nat
 | 0,j=>j
 | k+1,j=>match g[j]? with
  | some b=>if fB b=true then onF g k b.f3.toNat else j
  | none=>j
def onG (g:List S47) (j:Nat):Nat:=onF g g.length j
def goB (g:List S47) (b:S47):S47 × Bool:=
 if b.f1=1 then (b,false)
 else if b.f1=2 then (⟨b.f0,b.f1,b.f2,(onG g b.f3.toNat:Int),b.f4⟩,decide ((onG g b.f3.toNat:Int)≠b.f3))
 else if onG g b.f3.toNat=onG g b.f4.toNat then (⟨b.f0,2,⟨0,0,0,0⟩,(onG g b.f3.toNat:Int),0⟩,true)
 else (⟨b.f0,b.f1,b.f2,(onG g b.f3.toNat:Int),(onG g b.f4.toNat:Int)⟩,decide ((onG g b.f3.toNat:Int)≠b.f3)||decide ((onG g b.f4.toNat:Int)≠b.f4))
def iF (g:List S47):List S47 × Bool:=(g.map (fun b=>(goB g b).1),g.any (fun b=>(goB g b).2))
theorem iP {b:S47}:fB b=true↔b.f1=2∧b.f0=[]:=by
 unfold fB
 rw [Bool.and_eq_true,decide_eq_true_eq,decide_eq_true_eq,List.length_eq_zero_iff]
theorem mq {pk:List Int} {b:S47} {M:bH} (h:fB b=true):fO pk b M = .go b.f3.toNat M 0:=by
 obtain ⟨h1,h2⟩:=iP.1 h
 unfold fO
 rw [h2]
 show fT b M 0=_
 unfold fT
 rw [if_neg (by omega),if_pos h1]
theorem oo {g:List S47} (hg:GOk g):∀ (k j:Nat),j<g.length→j≤onF g k j∧onF g k j<g.length:=by
 intro k
 induction k with
 | zero=>intro j hj;exact ⟨Nat.le_refl _,hj⟩
 | succ k ih=>
  intro j hj
  obtain ⟨b,hb,hok⟩:=hg.at_ hj
  unfold onF
  rw [hb]
  dsimp only
  by_cases q:fB b=true
  · rw [if_pos q]
    have:=bB hok.goal (by have:=(iP.1 q).1;omega)
    have:=ih b.f3.toNat (by omega)
    omega
  rw [if_neg q];exact ⟨Nat.le_refl _,hj⟩
theorem on_more {g:List S47} (hg:GOk g):∀ (d j k:Nat),g.length - j≤d→d≤k→onF g k j=onF g d j:=by
 intro d
 induction d with
 | zero=>
  intro j k hd hk
  cases k with
  | zero=>rfl
  | succ k=>
   unfold onF
   rw [List.getElem?_eq_none (by omega)]
 | succ d ih=>
  intro j k hd hk
  cases k with
  | zero=>omega
  | succ k=>
   by_cases hj:j<g.length
   · obtain ⟨b,hb,hok⟩:=hg.at_ hj
     unfold onF
     rw [hb]
     dsimp only
     by_cases q:fB b=true
     · rw [if_pos q,if_pos q]
       have:=bB hok.goal (by have:=(iP.1 q).1;omega)
       exact ih _ k (by omega) (by omega)
     rw [if_neg q,if_neg q]
   unfold onF
   rw [List.getElem?_eq_none (by omega)]
theorem oU {g:List S47} (hg:GOk g) {j:Nat} {b:S47} (hb:g[j]?=some b) (q:fB b=true):onG g j=onG g b.f3.toNat:=by
 have hj:j<g.length:=(List.getElem?_eq_some_iff.1 hb).1
 have hok:=hg.all j b hb
 have:=bB hok.goal (by have:=(iP.1 q).1;omega)
 unfold onG
 obtain ⟨L,hL⟩:∃ L,g.length=L+1:=⟨g.length - 1,by omega⟩
 rw [hL]
 show (match g[j]? with | some b=>if fB b=true then onF g L b.f3.toNat else j | none=>j)=_
 rw [hb]
 dsimp only
 rw [if_pos q,on_more hg L b.f3.toNat (L+1) (by omega) (by omega)]
theorem nJ {g:List S47} {j:Nat} {b:S47} (hb:g[j]?=some b) (q:¬fB b=true):onG g j=j:=by
 have hj:j<g.length:=(List.getElem?_eq_some_iff.1 hb).1
 unfold onG
 obtain ⟨L,hL⟩:∃ L,g.length=L+1:=⟨g.length - 1,by omega⟩
 rw [hL]
 show (match g[j]? with | some b=>if fB b=true then onF g L b.f3.toNat else j | none=>j)=_
 rw [hb]
 dsimp only
 rw [if_neg q]
theorem uR {g:List S47} (hg:GOk g):∀ (d j:Nat),g.length - j≤d→j<g.length→∃ b,g[onG g j]?=some b∧¬fB b=true:=by
 intro d
 induction d with
 | zero=>intro j hd hj;omega
 | succ d ih=>
  intro j hd hj
  obtain ⟨b,hb,hok⟩:=hg.at_ hj
  by_cases q:fB b=true
  · rw [oU hg hb q]
    have:=bB hok.goal (by have:=(iP.1 q).1;omega)
    exact ih _ (by omega) (by omega)
  rw [nJ hb q];exact ⟨b,hb,q⟩
theorem oN (g:List S47) (b:S47):(goB g b).1.f0=b.f0:=by
 unfold goB;split;rfl;split;rfl;split<;>rfl
theorem go_bok {g:List S47} (hg:GOk g) {b:S47} {i:Nat} (h:BOk b i g.length):BOk (goB g b).1 i g.length:=by
 have hc:=oN g b
 have hgoal:=h.goal
 have hrl:=h.rl
 refine ⟨by rw [hc];exact h.code,?_,?_,by rw [hc];exact h.rg,?_⟩
 all_goals
  unfold goB
  rcases eO h.ends with ⟨h1,h2,h3,h4,h5⟩ | ⟨h1,h2,h3⟩ | ⟨h1,h2,h3⟩
 · rw [if_pos h1];exact h.ends
 · rw [if_neg (by omega),if_pos h1]
   have he:=h.ends
   unfold jB at he ⊢
   dsimp only
   rw [if_neg (by omega),if_pos h1] at he ⊢
   exact he
 · rw [if_neg (by omega),if_neg (by omega)]
   split
   · exact rfl
   have he:=h.ends
   unfold jB at he ⊢
   dsimp only
   rw [if_neg (by omega),if_neg (by omega),if_pos h1] at he ⊢
   exact he
 · rw [if_pos h1];exact h.goal
 · rw [if_neg (by omega),if_pos h1]
   have hy:=bB hgoal (by omega)
   have:=oo hg g.length b.f3.toNat (by omega)
   unfold gT
   dsimp only
   have e:(i:Int)<(onG g b.f3.toNat:Int)∧(onG g b.f3.toNat:Int)<g.length:=by unfold onG;omega
   rw [decide_eq_true e,decide_eq_false (show ¬b.f1=3 by omega),Bool.or_true];rfl
 · rw [if_neg (by omega),if_neg (by omega)]
   have hy:=bB hgoal (by omega)
   have hn:=dM hgoal h1
   have:=oo hg g.length b.f3.toNat (by omega)
   have:=oo hg g.length b.f4.toNat (by omega)
   have e:(i:Int)<(onG g b.f3.toNat:Int)∧(onG g b.f3.toNat:Int)<g.length:=by unfold onG;omega
   have e2:(i:Int)<(onG g b.f4.toNat:Int)∧(onG g b.f4.toNat:Int)<g.length:=by unfold onG;omega
   split
   · unfold gT;dsimp only;rw [decide_eq_true e];rfl
   unfold gT;dsimp only;rw [decide_eq_true e,decide_eq_true e2,Bool.or_true,Bool.or_true];rfl
 · rw [if_pos h1];exact hrl
 · rw [if_neg (by omega),if_pos h1];exact hrl
 rw [if_neg (by omega),if_neg (by omega)]
 split
 · exact Rg.z
 exact hrl
theorem uz {g:List S47} (pk:List Int) {b:S47} {i:Nat} {n:Int} (h:BOk b i n) (M:bH) :
 (∀ v f s,fO pk b M = .fin v f s→fO pk (goB g b).1 M = .fin v f s)∧(∀ j M1 s,fO pk b M = .go j M1 s→∃ s',s'≤s∧fO pk (goB g b).1 M = .go (onG g j) M1 s'):=by
 have ec:=oN g b
 have eo:fO pk (goB g b).1 M=if (bF pk b.f0 M).2.1=0 then fT (goB g b).1 (bF pk b.f0 M).1 (bF pk b.f0 M).2.2 else .fin 0 (bF pk b.f0 M).2.1 (bF pk b.f0 M).2.2:=by
  unfold fO;rw [ec]
 rw [eo]
 unfold fO
 by_cases h0:(bF pk b.f0 M).2.1=0
 · rw [if_pos h0,if_pos h0]
   unfold goB
   rcases eO h.ends with ⟨h1,h2,h3,h4,h5⟩ | ⟨h1,h2,h3⟩ | ⟨h1,h2,h3⟩
   · rw [if_pos h1]
     refine ⟨fun v f s e=>e,fun j M1 s e=>?_⟩
     unfold fT at e;rw [if_pos h1] at e;cases e
   · rw [if_neg (by omega),if_pos h1]
     have e1:∀ M k,fT b M k = .go b.f3.toNat M k:=fun M k=>by unfold fT;rw [if_neg (by omega),if_pos h1]
     have e2:∀ y M k,fT ⟨b.f0,b.f1,b.f2,(y:Nat),b.f4⟩ M k = .go y M k:=fun y M k=>by
      unfold fT;dsimp only;rw [if_neg (by omega),if_pos h1,Int.toNat_natCast]
     rw [e1,e2]
     refine ⟨(fun v f s e=>by cases e),fun j M1 s e=>?_⟩
     injection e with a1 a2 a3
     subst a1 a2 a3
     exact ⟨_,Nat.le_refl _,rfl⟩
   rw [if_neg (by omega),if_neg (by omega)]
   have e1:∀ M k,fT b M k = .go (if hoP b.f2 M.a M.x=true then b.f3.toNat else b.f4.toNat) M (k+1):=fun M k=>by unfold fT;rw [if_neg (by omega),if_neg (by omega)]
   rw [e1]
   refine ⟨(fun v f s e=>by cases e),fun j M1 s e=>?_⟩
   injection e with a1 a2 a3
   subst a1 a2 a3
   by_cases q:onG g b.f3.toNat=onG g b.f4.toNat
   · rw [if_pos q]
     refine ⟨(bF pk b.f0 M).2.2,Nat.le_succ _,?_⟩
     show Out.go (onG g b.f3.toNat:Int).toNat _ _=_
     rw [Int.toNat_natCast]
     split
     · rfl
     rw [q]
   rw [if_neg q]
   refine ⟨(bF pk b.f0 M).2.2+1,Nat.le_refl _,?_⟩
   show (if b.f1=1 then _ else if b.f1=2 then _ else Out.go (if hoP b.f2 _ _=true then (onG g b.f3.toNat:Int).toNat else (onG g b.f4.toNat:Int).toNat) _ _)=_
   rw [if_neg (by omega),if_neg (by omega),Int.toNat_natCast,Int.toNat_natCast]
   split<;>rfl
 rw [if_neg h0,if_neg h0]
 exact ⟨fun v f s e=>e,fun j M1 s e=>by cases e⟩
theorem kT {g:List S47} {j:Nat} {b:S47} (hb:g[j]?=some b):(iF g).1[j]?=some (goB g b).1:=by
 show (g.map _)[j]?=_
 rw [List.getElem?_map,hb];rfl
theorem zz {g:List S47} (hg:GOk g) (pk:List Int):∀ {j:Nat} {M:bH} {v f:Int} {t:Nat},Rn g pk j M v f t→∃ t',t'≤t∧Rn (iF g).1 pk (onG g j) M v f t':=by
 intro j M v f t hr
 induction hr with
 | @fin j M b v f s hb e=>
  have hok:=hg.all j b hb
  have q:¬fB b=true:=fun q=>by rw [mq q] at e;cases e
  rw [nJ hb q]
  exact ⟨s,Nat.le_refl _,.fin (kT hb) ((uz pk hok M).1 v f s e)⟩
 | @go j M b j1 M1 s1 v f t1 hb e _ ih=>
  have hok:=hg.all j b hb
  obtain ⟨t',ht',hr'⟩:=ih
  by_cases q:fB b=true
  · rw [oU hg hb q]
    rw [mq q] at e
    injection e with a1 a2 a3
    subst a1 a2 a3
    exact ⟨t',by omega,hr'⟩
  rw [nJ hb q]
  obtain ⟨s',hs',e'⟩:=(uz (g:=g) pk hok M).2 j1 M1 s1 e
  exact ⟨s'+t',by omega,.go (kT hb) e' hr'⟩
theorem xq {g:List S47} (hg:GOk g) (pk:List Int) {j:Nat} (hj:j<g.length) {M:bH} {v f:Int} {t:Nat} (h:Rn (iF g).1 pk (onG g j) M v f t):Rn (iF g).1 pk j M v f t:=by
 obtain ⟨b,hb,hok⟩:=hg.at_ hj
 by_cases q:fB b=true
 · rw [oU hg hb q] at h
   obtain ⟨s',hs',e'⟩:=(uz (g:=g) pk hok M).2 _ _ _ (mq q)
   have:s'=0:=by omega
   subst this
   have:=Rn.go (kT hb) e' h
   rwa [Nat.zero_add] at this
 rw [nJ hb q] at h;exact h
theorem xn {g:List S47} (hg:GOk g) {b:S47} {i:Nat} (h:BOk b i g.length):phB g.length (goB g b).1≤phB g.length b∧((goB g b).2=true→phB g.length (goB g b).1<phB g.length b)∧((goB g b).2=false→(goB g b).1=b)
 ∧ msB (goB g b).1≤msB b∧szB (goB g b).1≤szB b:=by
 have ph:∀ c:S47,phB g.length c=1+wC c.f0+wE g.length c:=fun c=>rfl
 have hgoal:=h.goal
 rw [ph,ph,oN]
 unfold goB
 rcases eO h.ends with ⟨h1,h2,h3,h4,h5⟩ | ⟨h1,h2,h3⟩ | ⟨h1,h2,h3⟩
 · rw [if_pos h1];exact ⟨Nat.le_refl _,(fun h=>by cases h),(fun _=>rfl),Nat.le_refl _,Nat.le_refl _⟩
 · rw [if_neg (by omega),if_pos h1]
   have hy:=bB hgoal (by omega)
   have ho:=oo hg g.length b.f3.toNat (by omega)
   have e1:wE g.length b=1+((g.length:Int) - b.f3).toNat:=by unfold wE;rw [if_neg (by omega),if_pos h1]
   have e2:∀ y,wE g.length ⟨b.f0,b.f1,b.f2,y,b.f4⟩=1+((g.length:Int) - y).toNat:=fun y=>by unfold wE;dsimp only;rw [if_neg (by omega),if_pos h1]
   dsimp only
   rw [e1,e2]
   unfold onG at *
   refine ⟨by omega,fun hf=>?_,fun hf=>?_,Nat.le_refl _,Nat.le_refl _⟩
   · have:=of_decide_eq_true hf;omega
   have:=of_decide_eq_false hf
   have e:(onF g g.length b.f3.toNat:Int)=b.f3:=by omega
   rw [e]
 rw [if_neg (by omega),if_neg (by omega)]
 have hy:=bB hgoal (by omega)
 have hn:=dM hgoal h1
 have ho:=oo hg g.length b.f3.toNat (by omega)
 have ho2:=oo hg g.length b.f4.toNat (by omega)
 have e1:wE g.length b=(if b.f2.f0∈tX then 3 else 2)+((g.length:Int) - b.f3).toNat+((g.length:Int) - b.f4).toNat:=by unfold wE;rw [if_neg (by omega),if_neg (by omega)]
 have e2:∀ y z,wE g.length ⟨b.f0,b.f1,b.f2,y,z⟩=(if b.f2.f0∈tX then 3 else 2)+((g.length:Int) - y).toNat+((g.length:Int) - z).toNat:=fun y z=>by unfold wE;dsimp only;rw [if_neg (by omega),if_neg (by omega)]
 have e3:∀ y,wE g.length ⟨b.f0,2,⟨0,0,0,0⟩,y,0⟩=1+((g.length:Int) - y).toNat:=fun y=>rfl
 have h2':2≤(if b.f2.f0∈tX then 3 else 2):=by split<;>omega
 rw [e1]
 unfold onG at *
 by_cases q:onF g g.length b.f3.toNat=onF g g.length b.f4.toNat
 · rw [if_pos q]
   dsimp only
   rw [e3]
   refine ⟨by omega,fun _=>by omega,(fun h=>by cases h),?_,?_⟩
   · unfold msB;dsimp only;rw [if_neg (by decide)];omega
   unfold szB;dsimp only;rw [if_pos rfl];omega
 rw [if_neg q]
 dsimp only
 rw [e2]
 refine ⟨by omega,fun hf=>?_,fun hf=>?_,Nat.le_refl _,Nat.le_refl _⟩
 · simp only [Bool.or_eq_true,decide_eq_true_eq] at hf
   rcases hf with hf | hf<;>omega
 simp only [Bool.or_eq_false_iff,decide_eq_false_iff_not] at hf
 have ea:(onF g g.length b.f3.toNat:Int)=b.f3:=by omega
 have eb:(onF g g.length b.f4.toNat:Int)=b.f4:=by omega
 rw [ea,eb]
theorem j6 {g:List S47} (hg:GOk g):jA g (iF g).1 (iF g).2:=by
 have hlen:(iF g).1.length=g.length:=List.length_map ..
 have hmap:∀ {β:Type} (f:S47→β),(iF g).1.map f=g.map (fun b=>f (goB g b).1):=fun f=>by
  show (g.map _).map f=_
  rw [List.map_map];rfl
 have hm:∀ b∈g,∃ j:Nat,BOk b j g.length:=fun b h=>by
  obtain ⟨j,hj⟩:=List.getElem?_of_mem h
  exact ⟨j,hg.all j b hj⟩
 refine ⟨⟨by rw [hlen];exact hg.some_,by rw [hlen];exact hg.few,fun j b' h=>?_,?_⟩,?_,?_,?_,?_,?_⟩
 · rw [hlen]
   have hj:j<g.length:=by rw [←hlen];exact (List.getElem?_eq_some_iff.1 h).1
   obtain ⟨b,hb,hok⟩:=hg.at_ hj
   have:some (goB g b).1=some b':=(kT hb).symm.trans h
   cases this
   exact go_bok hg hok
 · rw [hmap]
   have:(fun b:S47=>(goB g b).1.f0.length)=(fun b=>b.f0.length):=funext (fun b=>by rw [oN])
   rw [this];exact hg.sum
 · intro pk v f t hr
   obtain ⟨t',ht',hr'⟩:=zz hg pk hr
   exact ⟨t',ht',xq hg pk hg.some_ hr'⟩
 · unfold msG;rw [hmap]
   exact nQ _ _ g (fun b hb=>by obtain ⟨j,hj⟩:=hm b hb;exact (xn hg hj).2.2.2.1)
 · unfold phG;rw [hmap,hlen]
   exact nQ _ _ g (fun b hb=>by obtain ⟨j,hj⟩:=hm b hb;exact (xn hg hj).1)
 · intro h
   unfold phG;rw [hmap,hlen]
   refine sum_lt _ _ g (fun b hb=>by obtain ⟨j,hj⟩:=hm b hb;exact (xn hg hj).1) ?_
   obtain ⟨b,hb,hf⟩:=List.any_eq_true.1 (show g.any (fun b=>(goB g b).2)=true from h)
   obtain ⟨j,hj⟩:=hm b hb
   exact ⟨b,hb,(xn hg hj).2.1 hf⟩
 intro h
 have h2:g.any (fun b=>(goB g b).2)=false:=h
 rw [List.any_eq_false] at h2
 show g.map (fun b=>(goB g b).1)=g
 have:g.map (fun b=>(goB g b).1)=g.map id:=List.map_congr_left (fun b hb=>by
  obtain ⟨j,hj⟩:=hm b hb
  exact (xn hg hj).2.2.1 (by simpa using h2 b hb))
 rw [this,List.map_id]
end Go.Proofs.Ytdkalnkplgfgoaa.Ln
