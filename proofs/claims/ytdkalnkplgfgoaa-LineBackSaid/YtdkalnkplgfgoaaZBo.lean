/- Lemmas and walks for the statements of the texts ZBZ..: the declarations that they need, taken together by a program of this session. Conditions: as each says. -/
import Derived.ChangeArms
import Derived.Deep.Slices
import Derived.Deep.Fields
import Derived.SizedLaws
import Derived.ChangeSame
import Derived.Deep.DeepCutAuto
import Derived.ArgAppend
import Derived.Test.YtdkalnkplgfgoaaZBb
import Derived.Test.YtdkalnkplgfgoaaZBc
import Derived.Test.YtdkalnkplgfgoaaZBe
import Derived.Test.YtdkalnkplgfgoaaZBf
import Derived.Test.YtdkalnkplgfgoaaZBh
import Derived.Test.YtdkalnkplgfgoaaZBi
import Derived.Test.YtdkalnkplgfgoaaZBj
import Derived.Test.YtdkalnkplgfgoaaZBl
import Derived.Test.YtdkalnkplgfgoaaZBn
set_option maxHeartbeats 8000000
set_option maxRecDepth 100000
set_option linter.unusedVariables false
set_option linter.unusedSimpArgs false
namespace Go.Proofs.Ytdkalnkplgfgoaa.Ln
open Go.RowKit Go.Maps Go.Proofs.YtdkalnkplgfgoaaW.PrintWords Go.Proofs.YtdkalnkplgfgoaaW.PrintLast Go.Proofs.YtdkalnkplgfgoaaW.PrintMore Go.Proofs.Ytdkalnkplgfgoaa.PA
theorem rd47_at {h:List S47} {j:Nat} {b:S47} (hb:h[j]?=some b):ah h (j:Int)=b∧(j:Int)<(h.length:Int):=by
  obtain ⟨h1,h2⟩:=List.getElem?_eq_some_iff.1 hb
  refine ⟨?_,by omega⟩
  unfold ah
  rw [Int.toNat_natCast,List.getD_eq_getElem?_getD,hb];rfl
theorem HG.sim {p:List S45} {F:List Bool} {N:List Int} {h:List S47} (H:HG p F N h) (pk:List Int):∀ (m t:Nat) (M:bn) (T:List Int) (s v f:Int) (TT:List Int),t<p.length→Tr F t→0≤s→s≤t→dL p pk m t M T=some (v,f,TT)→∃ s',ib h pk m (bcn F t) M s=some (v,f,s'):=by
  intro m
  induction m with
  | zero=>intro t M T s v f TT _ _ _ _ hr;cases hr
  | succ m ih=>
    intro t M T s v f TT ht hT hs0 hs1 hr
    obtain ⟨e,l,c,A,B,hte,hel,hTe,hbc,hl,hh,hp,hA,hc,hst,hrg,hmk,hqi,hfl,hre⟩:=H.at_ ht hT
    have few:=H.pr.few
    have ee:e - 1+1=e:=by omega
    rw [ib]
    obtain ⟨r1,r2⟩:=rd47_at hh
    rw [if_pos ⟨by omega,r2⟩,r1]
    dsimp only
    -- the code, and the last instruction
    have key:∀ (c' B':List S45),p=A++c'++B'→(∀ i∈c',stB i.f0 i.f3=true)→(t+c'.length≤e) →
        ((dA pk c' M s).2.2≠0∧v=0∧f=(dA pk c' M s).2.2) ∨
        ((dA pk c' M s).2.2=0∧0≤(dA pk c' M s).2.1∧(dA pk c' M s).2.1≤(t+c'.length:Nat)∧∃ T',dL p pk (m+1) ((t:Int)+c'.length) (dA pk c' M s).1 T'=some (v,f,TT)∧(0<c'.length→dL p pk m ((t:Int)+c'.length) (dA pk c' M s).1 T'=some (v,f,TT))):=by
      intro c' B' e1 e2 e3
      have hm:=rE c'.length (m+1) _ _ _ hr
      rw [←hA] at hm
      rcases nO p pk few B' c' A e1 e2 M s T hs0 (by rw [hA];exact hs1) with ⟨q1,q2,T',q3,q4⟩ | ⟨q1,q2,q3,T',q4,q5⟩
      · refine .inr ⟨q1,by omega,by rw [q2];omega,T',?_,fun hp0=>?_⟩
        · rw [q4 (m+1)] at hm
          rw [←hA];exact hm
        · have hm2:=rE (c'.length - 1) (m+1) _ _ _ hr
          rw [show m+1+(c'.length - 1)=m+c'.length by omega,←hA,q4 m] at hm2
          rw [←hA];exact hm2
      · rw [q5 (m+1+c'.length) (by omega)] at hm
        simp only [Option.some.injEq,Prod.mk.injEq] at hm
        exact .inl ⟨q1,hm.1.symm,hm.2.1.symm⟩
    have hsc:=fun i hi=>(hst i hi).1
    have kc:=key c ([l]++B) (by rw [hp];simp) hsc (by omega)
    have hrd:bg p ((t:Int)+c.length)=l:=by
      obtain ⟨h1,h2⟩:=List.getElem?_eq_some_iff.1 hl
      rw [show (t:Int)+c.length=((e - 1:Nat):Int) by omega,fV h1,h2]
    have hgoal:∀ (q:Nat) (M1:bn) (T1:List Int) (s1:Int),e+q<p.length→Tr F (e+q)→0≤s1→s1≤(e+q:Nat)→dL p pk m ((e+q:Nat):Int) M1 T1=some (v,f,TT)→∃ s',ib h pk m (N.getD (e+q) 0) M1 s1=some (v,f,s'):=by
      intro q M1 T1 s1 g1 g2 g3 g4 g5
      rw [(H.num g1 g2).1]
      exact ih (e+q) M1 T1 s1 v f TT g1 g2 g3 g4 g5
    by_cases cin:eF l.f0=6∨eF l.f0=5
    · -- the block's Code is c
      have hf0:(gbF N c l e).f0=c:=by
        unfold gbF
        by_cases c6:eF l.f0=6
        · rw [if_pos c6]
        rw [if_neg c6]
        by_cases c5:l.f0=5
        · rw [if_pos c5]
        rw [if_neg c5,if_pos (cin.resolve_left c6)]
      rw [hf0]
      rcases kc with ⟨k1,k2,k3⟩ | ⟨k1,k2,k3,T',k4,-⟩
      · rw [if_neg k1]
        exact ⟨_,by rw [k2,k3]⟩
      · rw [if_pos k1]
        obtain ⟨n0,n1,i,ei,hri,hway⟩:=rF H.pr k4
        rw [hrd] at ei
        subst ei
        generalize dA pk c M s=q at *
        obtain ⟨M1,s1,f1⟩:=q
        dsimp only at k1 k2 k3 k4 hway ⊢
        have w1:wrap64 (s1+1)=s1+1:=w64 (n:=s1+1) (by omega) (by omega)
        rw [w1]
        have ea:(t:Int)+c.length+1=(e:Int):=by omega
        rw [ea] at hway
        unfold gbF
        rcases hway with ⟨h5,hj,hb,hnext⟩ | ⟨h6,hv,hf⟩ | ⟨n5,n6,-⟩
        · have h6:¬eF i.f0=6:=by rw [h5];decide
          rw [if_neg h6]
          by_cases c5:i.f0=5
          · rw [if_pos c5]
            dsimp only
            rw [if_neg (by decide),if_pos rfl]
            have hg:=hmk.ja c5
            rw [ee] at hg
            have hlt:=hqi.ja c5
            have h0:=hrg.1
            unfold jpF at hnext
            rw [if_pos c5] at hnext
            refine hgoal i.f3.toNat M1 (T'++[(t:Int)+c.length]) s1 (by omega) hg k2 (by omega) ?_
            rw [show ((e+i.f3.toNat:Nat):Int)=(e:Int)+i.f3 by omega]
            exact hnext
          · have hj2:jmB i.f0=true:=hj.resolve_left c5
            rw [if_neg c5,if_pos h5]
            dsimp only
            rw [if_neg (by decide),if_neg (by decide),ho_pl i _ _ hj2]
            have ht1:=hmk.jt hj2
            have hf1:=hmk.jf hj2
            rw [ee] at ht1 hf1
            have hlt:=hqi.jm hj2
            unfold jpF at hnext
            rw [if_neg c5] at hnext
            by_cases hh:hoP i M1.a M1.x=true
            · rw [if_pos hh] at hnext ⊢
              refine hgoal i.f1.toNat M1 (T'++[(t:Int)+c.length]) (s1+1) (by omega) ht1 (by omega) (by omega) ?_
              rw [show ((e+i.f1.toNat:Nat):Int)=(e:Int)+i.f1 by omega]
              exact hnext
            · rw [if_neg hh] at hnext ⊢
              refine hgoal i.f2.toNat M1 (T'++[(t:Int)+c.length]) (s1+1) (by omega) hf1 (by omega) (by omega) ?_
              rw [show ((e+i.f2.toNat:Nat):Int)=(e:Int)+i.f2 by omega]
              exact hnext
        · rw [if_pos h6]
          unfold plF
          dsimp only
          rw [if_pos rfl]
          have hr62:i.f0=6∨i.f0=22:=of_decide_eq_true ((dZ _).1 h6)
          rcases hr62 with e6 | e22
          · rw [if_pos e6,e6,if_pos (by decide)]
            rw [e6,if_neg (by decide)] at hv
            exact ⟨_,by rw [hv,hf]⟩
          · rw [if_neg (by rw [e22];decide)]
            rw [if_pos e22] at hv
            exact ⟨_,by rw [hv,hf]⟩
        · exact absurd cin (fun q=>q.elim n6 n5)
    · -- the block's Code is c and l
      have c6:¬eF l.f0=6:=fun q=>cin (.inl q)
      have cj:¬eF l.f0=5:=fun q=>cin (.inr q)
      have c5:¬l.f0=5:=fun q=>cj ((fA _).2 (.inl q))
      have hgb:gbF N c l e=⟨c++[l],2,⟨0,0,0,0⟩,N.getD e 0,0⟩:=by
        unfold gbF
        rw [if_neg c6,if_neg c5,if_neg cj]
      rw [hgb]
      have hsl:=ry hfl cj (fun q=>c6 ((dZ _).2 q))
      have hlen:(c++[l]).length=e - t:=by rw [List.length_append,List.length_singleton];omega
      have kl:=key (c++[l]) B hp (fun i hi=>by
        rcases List.mem_append.1 hi with h1 | h1
        · exact hsc i h1
        · rw [List.mem_singleton.1 h1];exact hsl) (by omega)
      dsimp only
      rcases kl with ⟨k1,k2,k3⟩ | ⟨k1,k2,k3,T',-,k4⟩
      · rw [if_neg k1]
        exact ⟨_,by rw [k2,k3]⟩
      · rw [if_pos k1,if_neg (by decide),if_pos rfl]
        have hnl:e≠p.length:=fun q=>c6 ((dZ _).2 (hre q))
        have k5:=k4 (by omega)
        rw [show (t:Int)+((c++[l]).length:Int)=((e+0:Nat):Int) by omega] at k5
        exact hgoal 0 _ _ _ (by omega) (hTe.resolve_right hnl) k2 (by omega) k5
theorem HG.run {p:List S45} {F:List Bool} {N:List Int} {h:List S47} (H:HG p F N h) (pk:List Int) {v f:Int} {TT:List Int} (hr:dL p pk 5000 0 z16 []=some (v,f,TT)):∃ s,ib h pk 5000 0 z16 0=some (v,f,s):=
  H.sim pk 5000 0 z16 [] 0 v f TT H.pr.some_ H.m.t0 (Int.le_refl _) (Int.le_refl _) hr
theorem bc_rg {b:S47} {a:Int} {PL:Int→Int} {f:Bool × Bool} {pos:Int} (h:(∀ x∈b.f0,Rg x.f3)∧Rg b.f2.f3):∀ x∈bcF b a PL f pos,Rg x.f3:=by
  intro x hx
  have hja:∀ a b,Rg (jaI a b).f3:=fun a b=>iN _
  unfold bcF at hx
  rcases List.mem_append.1 hx with h1 | h1
  · exact h.1 x h1
  · by_cases e1:b.f1=1
    · rw [if_pos e1,List.mem_singleton] at h1
      rw [h1];exact h.2
    rw [if_neg e1] at h1
    by_cases e2:b.f1=2
    · rw [if_pos e2] at h1
      by_cases e3:b.f3=a
      · rw [if_pos e3] at h1;cases h1
      · rw [if_neg e3,List.mem_singleton] at h1
        rw [h1];exact hja _ _
    rw [if_neg e2] at h1
    rcases List.mem_cons.1 h1 with h2 | h2
    · rw [h2];exact h.2
    · rcases List.mem_append.1 h2 with h3 | h3
      · by_cases e4:f.1=true
        · rw [if_pos e4,List.mem_singleton] at h3
          rw [h3];exact hja _ _
        · rw [if_neg e4] at h3;cases h3
      · by_cases e4:f.2=true
        · rw [if_pos e4,List.mem_singleton] at h3
          rw [h3];exact hja _ _
        · rw [if_neg e4] at h3;cases h3
theorem Lay.prg {g:List S47} {O:List Int} {after PL:Int→Int} {f:Int→Bool × Bool} {p:List S45} (L:Lay g O after PL f p) (hk:KR g):PrG p:=by
  obtain ⟨h0,hr⟩:=L.ends
  refine ⟨h0,by have:=L.long;omega,fun t ht=>⟨(L.each (fun b hb=>⟨fun i hi=>((hk b hb).1 i hi).1,(hk b hb).2.1⟩) t ht).1,?_⟩,fun b hb=>?_⟩
  · obtain ⟨i,hi,j,hj,htj⟩:=L.cover t ht
    obtain ⟨A,B,hp,hA⟩:=L.place i hi
    have hdom:=L.dom i hi
    have e1:=fV ht
    have e2:=jN (A:=A) (c:=bcF (ah g i) (after i) PL (f i) (PL i)) (B:=B) hj
    rw [←hp,hA,←htj,e1] at e2
    rw [e2]
    exact bc_rg (hk _ (eU hdom.1 hdom.2)) _ (List.getElem_mem hj)
  · obtain ⟨h1,h2⟩:=List.getElem?_eq_some_iff.1 hb
    rw [←h2];exact hr
end Go.Proofs.Ytdkalnkplgfgoaa.Ln
namespace Go.Proofs.Ytdkalnkplgfgoaa.PA
open Go.RowKit Go.Proofs.YtdkalnkplgfgoaaW.PrintWords Go.Proofs.YtdkalnkplgfgoaaW.PrintLast Go.Proofs.YtdkalnkplgfgoaaW.PrintMore
attribute [local go_sem] dE dG ed ek dm dn dF dH
def dJ.f (l0:List Int):Option (List Int):=(some (([]:List Int):List Int)).bind fun y423=>(if y423.length+l0.length<140737488355328 then (some (y423++l0)) else (none))
theorem dJ.calls (A0:Option Addr) (c0:Nat) (l0:List Int) (r:List Int) (w:World) (hr0:Kd.C (Kd.int .u8) w A0 l0.length l0) (hc0:l0.length≤c0) (h:dJ.f l0=some r) :
 Calls Try.prog 35 #[.slice A0 l0.length c0] w fun e w'=>∃ v0_:Value,e = .returned (v0_)∧Kd.R (Kd.int .u8) 5 w' w.heap.size (fun _=>True) v0_ r∧Below w.heap.size w w':=by
 have HR0:=aa.mk hr0
 have HC0:=aa.mk hc0
 clear hr0 hc0
 have HB:=aa.mk (Below.refl w.heap.size w)
 have H:((some (([]:List Int):List Int)).bind fun y423=>(if y423.length+l0.length<140737488355328 then (some (y423++l0)) else (none)))=some r:=h
 clear h
 obtain ⟨y423,hy423⟩:∃ y_:List Int,y_=(([]:List Int)):=⟨_,rfl⟩
 replace H:(if y423.length+l0.length<140737488355328 then (some (y423++l0)) else (none))=some r:=by first | (rw [hy423];with_reducible exact H) | (have H2_:=(Option.bind_some _ _).symm.trans H;rw [hy423];with_reducible exact H2_) | (have H2_:=(Option.bind_some _ _).symm.trans H;with_reducible exact H2_) | with_reducible exact H | (rw [hy423];exact H) | exact H
 have Ny423:=aa.mk hy423
 clear hy423
 replace H:=mD H
 obtain ⟨H,c2⟩ | ⟨H,c2⟩:=H
 · have LMc2:=aa.mk c2
   clear c2
   obtain ⟨y426,hy426⟩:∃ y_:List Int,y_=(y423++l0):=⟨_,rfl⟩
   replace H:(some y426)=some r:=by first | (rw [hy426];with_reducible exact H) | (have H2_:=(Option.bind_some _ _).symm.trans H;rw [hy426];with_reducible exact H2_) | (have H2_:=(Option.bind_some _ _).symm.trans H;with_reducible exact H2_) | with_reducible exact H | (rw [hy426];exact H) | exact H
   have Ny426:=aa.mk hy426
   clear hy426
   obtain rfl:=Option.some.inj H
   go_enter Try.func35,Try.ntmps35
   go_wp2_with (first | ((with_reducible refine bH (N:=3) rfl ?_);refine Kd.om (Kd.int .u8) _ 5 ?hg (N:=3) ?hd (xs:=([]:List Int)) (inner:=[]) (ok:=fun _=>True) (okp:=fun _=>True) ?hr ?hp (fun _ hk=>hk) trivial (Below.refl _ _) (Nat.le_refl _) (by simp) ?_;(case hd=>rfl);(case hg=>rfl);(case hr=>first | (go_simp;done) | (go_simp;rfl));(case hp=>exact (dQ.none _ _));intro v424 w3 ho4 hb hg_ hnew_;clear hg_ hnew_;(first | rw [←Ny423.out] at ho4 | (simp only [Int.reduceToNat] at ho4;rw [←Ny423.out] at ho4));have HO425:=aa.mk (Kd.gN ho4 (eu bI));replace HB:=di HB hb;clear hb ho4) | ((with_reducible refine iM (b := .append) (xs:=#[.tmp 3,.tmp 4]) rfl ?_);at_builtin;refine Kd.iq (Kd.int .u8) (w0:=w) w.heap.size rfl (.tmp 3) (.tmp 4) 38 5 (.int .u8 0) 1 rfl Try.underlying38 info5 rfl (by decide) (by omega) v424 y423 l0 _ _ _ (fun _=>True) (fun _=>False) rfl rfl ?aO ?aR (fun _ _ h=>h) (fun _ h=>h.elim) ?aF ?aB ?aS ?aL ?_;(case aR=>repeat (first | exact (Kd.bJ HR0.out HB.out) | (with_reducible refine Kd.dx ?_ _) | (with_reducible refine Kd.fI ?_ _) | (with_reducible refine Kd.gD ?_)));(case aB=>exact bI);(case aF=>exact (fun _ _=>trivial));(case aO=>exact (by (with_reducible repeat (first | apply Kd.fO | apply Kd.gM | apply Kd.gF));exact HO425.out));(case aS=>exact (eu bI));(case aL=>have:=LMc2.out;omega);intro v427 w5 ho hb hg hat;rw [←Ny426.out] at ho;have HO428:=aa.mk (ho);replace HB:=aa.mk hb;clear HO425;clear ho hb hg hat))
   go_ret
   exact ⟨_,dw,by (with_reducible repeat (first | apply Kd.fO | apply Kd.gM | apply Kd.gF));exact HO428.out,bI⟩
 exact absurd H (by simp)
end Go.Proofs.Ytdkalnkplgfgoaa.PA
namespace Go.Proofs.Ytdkalnkplgfgoaa.Rd
open Go.RowKit Go.Proofs.YtdkalnkplgfgoaaW.PrintWords Go.Proofs.YtdkalnkplgfgoaaW.PrintLast Go.Proofs.YtdkalnkplgfgoaaW.PrintMore Go.Proofs.Ytdkalnkplgfgoaa.PA Go.ChangeShapes Go.WideShapes Go.Deep
section
variable {H:Type} (enc:TypeId × Value→H) (P:Program) (w:World) (base:Nat) (spare:Nat→Bool) (held:Bool)
def Reading {α:Type} (t:TypeId) (d:Kd α) (W:α→Prop):Prop:=
 ∀ (n:Nat) (cs:List Value) (y:DataW H × List MemPlace),DataW.trod enc P w base spare held n t cs=some y→(y.1.weights P t).all (·≤reachBytes)=true→∃ x,d.K w x cs∧W x
end
section
variable {H:Type} {enc:TypeId × Value→H} {P:Program} {w:World} {base:Nat} {spare:Nat→Bool} {held:Bool}
theorem rd_int {t:TypeId} {k:IntKind} (ht:P.underlying t=some (.int k)):Reading enc P w base spare held t (Kd.int k) (fun x=>(Lit.int k x).wf=true):=by
 intro n cs y h _
 obtain ⟨x,rfl,_,hx⟩:=DataW.trod_int ht h
 exact ⟨x,rfl,hx⟩
theorem kQ {α:Type} {Q:Nat→α→Prop}:∀ n:Nat,(∀ i,i<n→∃ x,Q i x)→∃ xs:List α,xs.length=n∧∀ i x,xs[i]?=some x→Q i x
 | 0,_=>⟨[],rfl,fun i x h=>by simp at h⟩
 | n+1,h=>by
  obtain ⟨xs,hl,hq⟩:=kQ n (fun i hi=>h i (by omega))
  obtain ⟨x,hx⟩:=h n (by omega)
  refine ⟨xs++[x],by simp [hl],fun i z hz=>?_⟩
  by_cases e:i<xs.length
  · rw [List.getElem?_append_left e] at hz
    exact hq i z hz
  rw [List.getElem?_append_right (by omega)] at hz
  have h0:i - xs.length=0:=by
   have:=(List.getElem?_eq_some_iff.1 hz).1
   simp at this
   omega
  rw [h0] at hz
  have hzx:x=z:=by simpa using hz
  have hin:i=n:=by omega
  rw [←hzx,hin]
  exact hx
theorem iY {t:TypeId}:∀ {l:List (DataW H)} {d:DataW H},d∈l→∀ n∈d.weights P t,n∈DataW.weightsAll P t l
 | x :: l,d,h,n,hn=>by
  simp only [DataW.weightsAll,List.mem_append]
  rcases List.mem_cons.1 h with rfl | h
  · exact .inl hn
  exact .inr (iY h n hn)
theorem oZ {α:Type} {d:Kd α} {W:α→Prop} {t e:TypeId} {b:Nat} (ht:P.underlying t=some (.slice e)) (hC:P.cellsOf e=d.sz) (hb:P.bytesOf e=b) (h:Reading enc P w base spare held e d W) :
 Reading enc P w base spare held t (Kd.slice e d) (fun xs=>(∀ x∈xs,W x)∧xs.length*b≤reachBytes):=by
 intro n cs y hy hw
 rcases DataW.trod_slice ht hy with ⟨rfl,rfl⟩ | ⟨a,len,cap,elems,rest,m,rfl,rfl,rfl,h1,h2,h3,h4,h5,h6,h7⟩
 · refine ⟨[],⟨none,0,rfl,Nat.le_refl _,Kd.qJ _ _⟩,fun x hx=>(by cases hx),by simp⟩
 have hwt:∀ z∈elems,(z.1.weights P e).all (·≤reachBytes)=true:=by
  intro z hz
  refine List.all_eq_true.2 fun q hq=>?_
  refine List.all_eq_true.1 hw q ?_
  simp only [DataW.weights,ht]
  refine List.mem_cons_of_mem _ (List.mem_append_left _ ?_)
  exact iY (List.mem_map.2 ⟨z,hz,rfl⟩) q hq
 obtain ⟨xs,hl,hq⟩:=kQ (Q:=fun i x=>∃ cs',w.cells? base (a.add (i*P.cellsOf e)) (P.cellsOf e)=some cs'∧d.K w x cs'∧W x) len (by
  intro i hi
  have he:=h5 i hi
  have hei:i<elems.length:=by omega
  rw [List.getElem?_eq_getElem hei] at he
  obtain ⟨cs',hc,ht'⟩:=Option.bind_eq_some_iff.1 he
  obtain ⟨x,hx,hW⟩:=h m cs' _ ht' (hwt _ (List.getElem_mem hei))
  exact ⟨x,cs',hc,hx,hW⟩)
 refine ⟨xs,⟨some a,cap,by rw [hl],by omega,⟨rfl,by unfold maxLen at h3;omega,fun _=>⟨a,rfl,?_⟩⟩⟩,?_,?_⟩
 · intro j p hj
   obtain ⟨cs',hc,hk,_⟩:=hq j p hj
   obtain ⟨_,hcl,hat⟩:=World.cells?_some hc
   refine ⟨cs',d.K_len hk,hk,fun i u hu=>?_⟩
   have hil:i<cs'.length:=(List.getElem?_eq_some_iff.1 hu).1
   have:=hat i (by omega)
   rw [←hC,←Go.Deep.add_add,this,hu]
 · intro x hx
   obtain ⟨i,hi,rfl⟩:=List.getElem_of_mem hx
   obtain ⟨_,_,_,hW⟩:=hq i _ (List.getElem?_eq_getElem hi)
   exact hW
 have:=List.all_eq_true.1 hw ((elems.length+rest.length)*P.bytesOf e) (by simp [DataW.weights,ht])
 rw [hb] at this
 have h9:(elems.length+rest.length)*b≤reachBytes:=by simpa using this
 have:xs.length*b≤(elems.length+rest.length)*b:=Nat.mul_le_mul_right _ (by omega)
 omega
theorem fields_of {t:TypeId} {fs:Array Field} {n:Nat} {cs:List Value} {y:DataW H × List MemPlace} (hs:P.underlying t=some (.struct fs)) (h:DataW.trod enc P w base spare held n t cs=some y) (hw:(y.1.weights P t).all (·≤reachBytes)=true) :
 cs.length=P.cellsOf t∧∃ m,∀ (j:Nat) (f:Field),fs[j]?=some f→∃ z:DataW H × List MemPlace,DataW.trod enc P w base spare held m f.type ((cs.drop f.offset).take (P.cellsOf f.type))=some z∧(z.1.weights P f.type).all (·≤reachBytes)=true:=by
 obtain ⟨xs,m,rfl,rfl,hl,hx,hf⟩:=DataW.trod_struct hs h
 refine ⟨hl,m,fun j f hj=>?_⟩
 have hjl:j<fs.size:=(Array.getElem?_eq_some_iff.1 hj).1
 have hj2:j<xs.length:=by omega
 refine ⟨xs[j],by rw [hf j f hj,List.getElem?_eq_getElem hj2],?_⟩
 refine List.all_eq_true.2 fun q hq=>?_
 refine List.all_eq_true.1 hw q ?_
 simp only [DataW.weights,hs]
 refine DataW.weights_mem_each (j:=j) (t:=f.type) (d:=xs[j].1) ?_ ?_ q hq
 · rw [List.getElem?_map,Array.getElem?_toList,hj];rfl
 rw [List.getElem?_map,List.getElem?_eq_getElem hj2];rfl
end
def WI (x:S45):Prop:=0≤x.f0∧x.f0<65536∧0≤x.f1∧x.f1<256∧0≤x.f2∧x.f2<256∧0≤x.f3∧x.f3<4294967296
def WB (x:S47):Prop:=(∀ i∈x.f0,WI i)∧x.f0.length*8≤reachBytes∧WI x.f2∧(Lit.int .i64 x.f1).wf=true∧(Lit.int .i64 x.f3).wf=true∧(Lit.int .i64 x.f4).wf=true
theorem ni {k:IntKind} {x:Int} (h:(Lit.int k x).wf=true):k.min≤x∧x≤k.max:=by
 simpa [Lit.wf] using h
theorem u8_of {x:Int} (h:(Lit.int .u8 x).wf=true):0≤x∧x<256:=by
 have h1:(0:Int)≤x:=(ni h).1
 have h2:x≤(255:Int):=(ni h).2
 omega
theorem u16_of {x:Int} (h:(Lit.int .u16 x).wf=true):0≤x∧x<65536:=by
 have h1:(0:Int)≤x:=(ni h).1
 have h2:x≤(65535:Int):=(ni h).2
 omega
theorem u32_of {x:Int} (h:(Lit.int .u32 x).wf=true):0≤x∧x<4294967296:=by
 have h1:(0:Int)≤x:=(ni h).1
 have h2:x≤(4294967295:Int):=(ni h).2
 omega
section
variable {H:Type} {enc:TypeId × Value→H} {w:World} {base:Nat} {spare:Nat→Bool} {held:Bool}
theorem ru:Reading enc Try.prog w base spare held 45 k45 WI:=by
 intro n cs y h hw
 obtain ⟨hl,m,hf⟩:=fields_of Try.underlying45 h hw
 rw [show Try.prog.cellsOf 45=4 by kernel_rfl] at hl
 match cs,hl with
 | [c0,c1,c2,c3],_=>
  obtain ⟨z0,t0,_⟩:=hf 0 _ rfl
  obtain ⟨z1,t1,_⟩:=hf 1 _ rfl
  obtain ⟨z2,t2,_⟩:=hf 2 _ rfl
  obtain ⟨z3,t3,_⟩:=hf 3 _ rfl
  replace t0:DataW.trod enc Try.prog w base spare held m 43 (([c0,c1,c2,c3].drop 0).take (Try.prog.cellsOf 43))=some z0:=t0
  rw [show Try.prog.cellsOf 43=1 by kernel_rfl] at t0
  replace t1:DataW.trod enc Try.prog w base spare held m 5 (([c0,c1,c2,c3].drop 1).take (Try.prog.cellsOf 5))=some z1:=t1
  rw [show Try.prog.cellsOf 5=1 by kernel_rfl] at t1
  replace t2:DataW.trod enc Try.prog w base spare held m 5 (([c0,c1,c2,c3].drop 2).take (Try.prog.cellsOf 5))=some z2:=t2
  rw [show Try.prog.cellsOf 5=1 by kernel_rfl] at t2
  replace t3:DataW.trod enc Try.prog w base spare held m 41 (([c0,c1,c2,c3].drop 3).take (Try.prog.cellsOf 41))=some z3:=t3
  rw [show Try.prog.cellsOf 41=1 by kernel_rfl] at t3
  simp only [List.drop_zero,List.drop_succ_cons,List.take_succ_cons,List.take_zero] at t0 t1 t2 t3
  obtain ⟨x0,e0,_,w0⟩:=DataW.trod_int Try.underlying43 t0
  obtain ⟨x1,e1,_,w1⟩:=DataW.trod_int Try.underlying5 t1
  obtain ⟨x2,e2,_,w2⟩:=DataW.trod_int Try.underlying5 t2
  obtain ⟨x3,e3,_,w3⟩:=DataW.trod_int Try.underlying41 t3
  simp only [List.cons.injEq,and_true] at e0 e1 e2 e3
  subst e0 e1 e2 e3
  have a0:=u16_of w0
  have a1:=u8_of w1
  have a2:=u8_of w2
  have a3:=u32_of w3
  exact ⟨⟨x0,x1,x2,x3⟩,uA w ⟨x0,x1,x2,x3⟩,a0.1,a0.2,a1.1,a1.2,a2.1,a2.2,a3.1,a3.2⟩
theorem uS:Reading enc Try.prog w base spare held 47 k47 WB:=by
 intro n cs y h hw
 obtain ⟨hl,m,hf⟩:=fields_of Try.underlying47 h hw
 rw [show Try.prog.cellsOf 47=8 by kernel_rfl] at hl
 match cs,hl with
 | [c0,c1,c2,c3,c4,c5,c6,c7],_=>
  obtain ⟨z0,t0,v0⟩:=hf 0 _ rfl
  obtain ⟨z1,t1,_⟩:=hf 1 _ rfl
  obtain ⟨z2,t2,v2⟩:=hf 2 _ rfl
  obtain ⟨z3,t3,_⟩:=hf 3 _ rfl
  obtain ⟨z4,t4,_⟩:=hf 4 _ rfl
  replace t0:DataW.trod enc Try.prog w base spare held m 26 (([c0,c1,c2,c3,c4,c5,c6,c7].drop 0).take (Try.prog.cellsOf 26))=some z0:=t0
  rw [show Try.prog.cellsOf 26=1 by kernel_rfl] at t0
  replace t1:DataW.trod enc Try.prog w base spare held m 3 (([c0,c1,c2,c3,c4,c5,c6,c7].drop 1).take (Try.prog.cellsOf 3))=some z1:=t1
  rw [show Try.prog.cellsOf 3=1 by kernel_rfl] at t1
  replace t2:DataW.trod enc Try.prog w base spare held m 45 (([c0,c1,c2,c3,c4,c5,c6,c7].drop 2).take (Try.prog.cellsOf 45))=some z2:=t2
  rw [show Try.prog.cellsOf 45=4 by kernel_rfl] at t2
  replace t3:DataW.trod enc Try.prog w base spare held m 3 (([c0,c1,c2,c3,c4,c5,c6,c7].drop 6).take (Try.prog.cellsOf 3))=some z3:=t3
  rw [show Try.prog.cellsOf 3=1 by kernel_rfl] at t3
  replace t4:DataW.trod enc Try.prog w base spare held m 3 (([c0,c1,c2,c3,c4,c5,c6,c7].drop 7).take (Try.prog.cellsOf 3))=some z4:=t4
  rw [show Try.prog.cellsOf 3=1 by kernel_rfl] at t4
  replace v0:(z0.1.weights Try.prog 26).all (·≤reachBytes)=true:=v0
  replace v2:(z2.1.weights Try.prog 45).all (·≤reachBytes)=true:=v2
  simp only [List.drop_zero,List.drop_succ_cons,List.take_succ_cons,List.take_zero] at t0 t1 t2 t3 t4
  obtain ⟨xs,⟨A,c,e0,hlc,hC⟩,hws,hlen⟩:=oZ (d:=k45) (b:=8) Try.underlying26 (by kernel_rfl) (by kernel_rfl) ru m _ _ t0 v0
  obtain ⟨x1,e1,_,w1⟩:=DataW.trod_int Try.underlying3 t1
  obtain ⟨i,hi,wi⟩:=ru m _ _ t2 v2
  have e2:=iE hi
  obtain ⟨x3,e3,_,w3⟩:=DataW.trod_int Try.underlying3 t3
  obtain ⟨x4,e4,_,w4⟩:=DataW.trod_int Try.underlying3 t4
  simp only [List.cons.injEq,and_true] at e0 e1 e2 e3 e4
  obtain ⟨e20,e21,e22,e23⟩:=e2
  subst e0 e1 e20 e21 e22 e23 e3 e4
  exact ⟨⟨xs,x1,i,x3,x4⟩,k47_mk w ⟨xs,x1,i,x3,x4⟩ hlc hC,hws,hlen,wi,w1,w3,w4⟩
end
theorem qP {H:Type} {enc:TypeId × Value→H} {P:Program} {w:World} {base:Nat} {spare:Nat→Bool} {held:Bool} {α:Type} {d:Kd α} {W:α→Prop} {t e:TypeId} {b:Nat} {v:Value} {D:DataW H} {p:List MemPlace}
 (ht:P.underlying t=some (.slice e)) (hC:P.cellsOf e=d.sz) (hb:P.bytesOf e=b) (h:Reading enc P w base spare held e d W) (hv:∃ A l c,v = .slice A l c) (h0:DataW.Trod enc P w base spare held t v D p) (hw:(D.weights P t).all (·≤reachBytes)=true) :
 ∃ (A:Option Addr) (c:Nat) (xs:List α),v = .slice A xs.length c∧xs.length≤c∧d.C w A xs.length xs∧(∀ x∈xs,W x)∧xs.length*b≤reachBytes:=by
 obtain ⟨A0,l0,c0,rfl⟩:=hv
 obtain ⟨n,hn⟩:=h0
 obtain ⟨xs,⟨A,c,e0,hlc,hK⟩,hws,hl⟩:=oZ ht hC hb h n _ _ hn hw
 have e1:Value.slice A0 l0 c0 = .slice A xs.length c:=by simpa [Value.cells] using e0
 exact ⟨A,c,xs,e1,hlc,hK,hws,hl⟩
theorem l8 {H:Type} {P:Program} {ts:List TypeId} {ds:List (DataW H)} (h:(DataW.weightsEach P ts ds).all (·≤reachBytes)=true) {j:Nat} {t:TypeId} {d:DataW H} (ht:ts[j]?=some t) (hd:ds[j]?=some d):(d.weights P t).all (·≤reachBytes)=true:=
 List.all_eq_true.2 fun q hq=>List.all_eq_true.1 h q (DataW.weights_mem_each ht hd q hq)
end Go.Proofs.Ytdkalnkplgfgoaa.Rd
namespace Go.Proofs.Ytdkalnkplgfgoaa.Ln
open Go.RowKit Go.Maps Go.Proofs.YtdkalnkplgfgoaaW.PrintWords Go.Proofs.YtdkalnkplgfgoaaW.PrintLast Go.Proofs.YtdkalnkplgfgoaaW.PrintMore Go.Proofs.Ytdkalnkplgfgoaa.PA Go.Proofs.Ytdkalnkplgfgoaa.Rd
theorem cpbG_l (g:List S47) (hg:g.length<2513169434916) (hc:∀ b∈g,b.f0.length<17592186044416):∀ (d j:Nat),g.length - j=d→j≤g.length→∀ k,d+1≤k→aU.l0 k g (g.take j) (j:Int)=some g:=by
 intro d
 induction d with
 | zero=>
  intro j hd hj k hk
  obtain ⟨k,rfl⟩:∃ m,k=m+1:=⟨k - 1,by omega⟩
  rw [aU.l0,if_neg (by omega),List.take_of_length_le (by omega)]
 | succ d ih=>
  intro j hd hj k hk
  obtain ⟨k,rfl⟩:∃ m,k=m+1:=⟨k - 1,by omega⟩
  have hlt:j<g.length:=by omega
  rw [aU.l0,if_pos (by omega),if_pos (by omega),ko hlt,cpi7 _ (hc _ (List.getElem_mem hlt)),Option.bind_some,if_pos (by rw [List.length_take];omega),w64 (n:=(j:Int)+1) (by omega) (by omega)]
  have:=ih (j+1) (by omega) (by omega) k (by omega)
  rw [show ((j+1:Nat):Int)=(j:Int)+1 by omega,List.take_succ_eq_append_getElem hlt] at this
  exact this
theorem cpbG (g:List S47) (hg:g.length<2513169434916) (hc:∀ b∈g,b.f0.length<17592186044416):aU.f (g.length+1) g=some g:=
 cpbG_l g hg hc g.length 0 rfl (by omega) (g.length+1) (by omega)
structure sJ (g:List S47):Prop where
 fit:Fit g
 code:∀ b∈g,(b.f0.length+4)*8≤140737488355328
 long:(g.length+2)*56≤140737488355328
theorem tQ {g:List S47} (h:∀ b∈g,WB b) (hl:g.length*56≤140737488351232):sJ g:=by
 have iG:reachBytes=140737488351232:=by decide
 refine ⟨fun b hb=>?_,fun b hb=>?_,by omega⟩
 · have:=(h b hb).2.1
   rw [iG] at this
   omega
 have:=(h b hb).2.1
 rw [iG] at this
 omega
theorem cpy7 (c:List Int) (h:c.length<140737488355328):dJ.f c=some c:=by
 unfold dJ.f
 rw [Option.bind_some,if_pos (by simpa using h)]
 rfl
theorem oD (W:World) (g:List S47) (A:Option Addr) (c:Nat) (H:Kd.C k47 W A g.length g) (hc:g.length≤c) (hG:GOk g) :
    Calls Try.prog 18 #[.slice A g.length c] W fun e w'=>∃ Ac cc,e = .returned (.slice Ac g.length cc)∧Kd.C k47 w' Ac g.length g∧g.length≤cc∧Below W.heap.size W w':=by
  refine (aU.calls 10000 A c g g W H hc (cpb7 hG)).mono ?_
  rintro e w2 ⟨v,rfl,hs,hb⟩
  obtain ⟨Ac,cc,rfl⟩:=Kd.dz (Kd.S_R hs)
  have:=Kd.dO (Kd.S_R hs)
  exact ⟨Ac,cc,rfl,this.2.2,this.2.1,hb⟩
theorem j3 (W:World) (pk:List Int) (A:Option Addr) (c:Nat) (H:Kd.C (Kd.int .u8) W A pk.length pk) (hc:pk.length≤c) (hl:pk.length≤65536) :
    Calls Try.prog 35 #[.slice A pk.length c] W fun e w'=>∃ Ac cc,e = .returned (.slice Ac pk.length cc)∧Kd.C (Kd.int .u8) w' Ac pk.length pk∧pk.length≤cc∧Below W.heap.size W w':=by
  refine (dJ.calls A c pk pk W H hc (cpy7 pk (by omega))).mono ?_
  rintro e w2 ⟨v,rfl,hs,hb⟩
  obtain ⟨Ac,cc,rfl⟩:=Kd.dz hs
  have:=Kd.dO hs
  exact ⟨Ac,cc,rfl,this.2.2,this.2.1,hb⟩
theorem rz (g:List S47):∀ O:List Int,(og g O:Int)≤3*dK (mkF g) O
 | []=>Int.le_refl _
 | i :: r=>by
  have:=rz g r
  have h:(0:Int)≤(if (ah g i).f1=3 then 2 else 0):=by split<;>omega
  have hm:mkF g i=((ah g i).f0.length:Int)+1+(if (ah g i).f1=3 then 2 else 0):=rfl
  rw [og,dK]
  omega
theorem q9 (g:List S47):∀ O:List Int,(O.length:Int)≤dK (mkF g) O
 | []=>Int.le_refl _
 | i :: r=>by
  have:=q9 g r
  have:=uE g i
  unfold dK
  rw [List.length_cons]
  omega
theorem wf_i64 {n:Int} (h0 : -9223372036854775808≤n) (h1:n≤9223372036854775807):(Lit.int .i64 n).wf=true:=WalkArith.wf_i64 (by omega)
theorem tk_wf {g:List S47} (h:TkB g=true) {i:Int} (h0:0≤i) (h1:i<g.length):(0≤(ah g i).f3∧(ah g i).f3≤4096)∧(0≤(ah g i).f4∧(ah g i).f4≤4096):=by
 obtain ⟨_,_,he⟩:=jd h (eU h0 h1)
 have hg:=jU h h0 h1
 have hn:=(gZ h).2.1
 generalize ah g i=b at *
 unfold cz at hg
 unfold gG at he
 by_cases e1:b.f1=1
 · rw [if_pos e1] at he
   simp only [Bool.and_eq_true,decide_eq_true_eq] at he
   omega
 rw [if_neg e1] at he
 by_cases e2:b.f1=2
 · rw [if_pos e2] at he hg
   simp only [Bool.and_eq_true,decide_eq_true_eq] at he
   have:=hg _ List.mem_cons_self
   omega
 rw [if_neg e2] at he hg
 by_cases e3:b.f1=3
 · rw [if_pos e3] at hg
   have a:=hg _ List.mem_cons_self
   have b:=hg _ (List.mem_cons_of_mem _ List.mem_cons_self)
   omega
 rw [if_neg e3] at he
 cases he
theorem jL (w:World) (g:List S47) (A:Option Addr) (c:Nat) (HG:Kd.C k47 w A g.length g) (hc:g.length≤c) (hF:Fit g) (htk:TkB g=true) (hms:msL g≤4096) :
 Calls Try.prog 16 #[.slice A g.length c] w fun e w'=>∃ (p:List S45) (v:Value) (O:List Int) (after PL:Int→Int) (f:Int→Bool × Bool),e = .returned (.tuple #[v,.int .i64 0])∧Lay g O after PL f p∧(p.length:Int)≤msL g∧k45.R 45 w' w.heap.size (fun _=>True) v p∧Below w.heap.size w w':=by
 have ho:∀ R:List Bool,dK (mkF g) (bC R g.length).1≤4096:=by
  intro R
  obtain ⟨h1,h2,_,_⟩:=kE R g.length
  have:=lQ g g.length _ h1 (fun i hi=>⟨((h2 i).1 hi).1,((h2 i).1 hi).2.1⟩) (Nat.le_refl _)
  rw [List.take_length] at this
  omega
 refine (rX 10000 10000 w g A c HG hc (msL g) (oG hF htk 10000 (Nat.le_refl _)) hms (by rw [p9 g hF 10000 (Nat.le_refl _),htk];rfl) (gZ htk).1 (gZ htk).2.1 ?_ ?_ ?_ (Nat.le_refl _) ?_ ?_).mono ?_
 · intro i h0 h1 x hx
   have:=jU htk h0 h1 x hx
   omega
 · intro i h0 h1
   exact iC (jd htk (eU h0 h1)).2.2
 · intro i h0 h1
   have:=tk_wf htk h0 h1
   exact ⟨wf_i64 (by omega) (by omega),wf_i64 (by omega) (by omega)⟩
 · intro R _ _
   refine mR g _ _ 10000 _ ?_
   have h1:=oC (fun _=>(false,false)) (bC R g.length).1
   have h2:=q9 g (bC R g.length).1
   have h3:=ho R
   omega
 · intro R
   have h1:=rz g (bC R g.length).1
   have h3:=ho R
   omega
 rintro e w' ⟨R,PL,f,v,rfl,hR,hrch,hp,hr,hb⟩
 obtain ⟨L,hl⟩:=lay_of htk hms hR hrch hp
 exact ⟨_,v,_,_,PL,f,rfl,L,hl,hr,hb⟩
theorem mO (w:World) (g:List S47) (A:Option Addr) (c:Nat) (HG:Kd.C k47 w A g.length g) (hc:g.length≤c) (hF:Fit g) (h:TkB g=false) :
 Calls Try.prog 16 #[.slice A g.length c] w fun e w'=>e = .returned (.tuple #[.slice none 0 0,.int .i64 180])∧Below w.heap.size w w':=
 qf 10000 w g A c HG hc 0 155 (oH hF h 10000 (Nat.le_refl _)) (by decide)
theorem oM (w:World) (g:List S47) (A:Option Addr) (c:Nat) (HG:Kd.C k47 w A g.length g) (hc:g.length≤c) (hF:Fit g) (h:TkB g=true) (hm:4096<msL g) :
 Calls Try.prog 16 #[.slice A g.length c] w fun e w'=>e = .returned (.tuple #[.slice none 0 0,.int .i64 181])∧Below w.heap.size w w':=
 oL 10000 w g A c HG hc (msL g) (oG hF h 10000 (Nat.le_refl _)) hm
def gAw:List S47:=[⟨[],1,⟨6,0,0,7⟩,0,0⟩]
theorem aw_tk:TkB gAw=true:=by decide +kernel
theorem aw_ms:msL gAw=1:=by decide +kernel
theorem aw_fit:Fit gAw:=by
 intro b hb
 obtain rfl:b=⟨[],1,⟨6,0,0,7⟩,0,0⟩:=by simpa [gAw] using hb
 decide
theorem aw_k:∀ b∈gAw,(∀ i∈b.f0,0≤i.f3)∧0≤b.f2.f3:=by
 intro b hb
 obtain rfl:b=⟨[],1,⟨6,0,0,7⟩,0,0⟩:=by simpa [gAw] using hb
 exact ⟨fun i hi=>(by cases hi),by decide⟩
theorem aw_run:ib gAw [] 5000 0 z16 0=some (7,0,1):=by kernel_rfl
theorem R_made {α:Type} (d:Kd α) (W:World) (e:Nat) (xs:List α) (inner:List Value) (hrep:dQ (d.M W W.heap.size (fun _=>True)) d.sz xs inner) (hm:xs.length≤9223372036854775807) :
 d.R e (W.alloc (.cells inner.toArray e)) W.heap.size (fun _=>True) (.slice (some ⟨W.heap.size,0,none⟩) xs.length xs.length) xs:=by
 refine ⟨fun _ _=>trivial,inner,?_,?_⟩
 · have h2:=World.ownsRow_lit (base:=W.heap.size) (e:=e) (size:=d.sz) W inner.toArray xs.length (Nat.le_refl _) (by simpa [maxLen] using hm) (by simpa using hrep.1)
   simpa using h2
 refine hrep.gH (fun p c hp=>d.M_mono (fun k hk=>⟨trivial,fun he=>?_⟩) (d.qK (d.M_bound hp) (ai (Below.refl _ _) _)))
 have h3:k=W.heap.size:=by simpa [Value.ownBlock] using he
 have:=hk.2.2.1
 omega
theorem dQ.one {α:Type} {R:α→List Value→Prop} {size:Nat} {p:α} {c:List Value} (h:R p c) (hl:c.length=size):dQ R size [p] c:=by
 have:=dQ.snoc (dQ.none R size) h hl
 simpa using this
theorem iT (w:World):Calls Try.prog 20 #[] w fun e w'=>e = .returned (.bool true)∧Below w.heap.size w w':=by
 have HG0:=aa.mk (Kd.fP (R_made k47 w 47 gAw [.slice none 0 0,.int .i64 1,.int .u16 6,.int .u8 0,.int .u8 0,.int .u32 7,.int .i64 0,.int .i64 0] (dQ.one (nR w _ _ ⟨[],1,⟨6,0,0,7⟩,0,0⟩ (Kd.jy _ _ _ _ _)) rfl) (by decide)))
 have HG1:aa (Kd.C k47 (w.alloc (.cells #[.slice none 0 0,.int .i64 1,.int .u16 6,.int .u8 0,.int .u8 0,.int .u32 7,.int .i64 0,.int .i64 0] 47)) (some ⟨w.heap.size,0,none⟩) 1 gAw):=by
  obtain ⟨A,c,he,hl,hc⟩:=HG0.out
  injection he with h1 h2 h3
  subst h1
  exact ⟨hc⟩
 clear HG0
 go_enter Try.func20,Try.ntmps20
 go_wp2_with fail
 refine (jL _ gAw _ 1 HG1.out (by decide) aw_fit aw_tk (by rw [aw_ms];decide)).mono ?_
 rintro e w1 ⟨p,v,O,after,PL,f,rfl,L,hlen,hr,hb⟩
 obtain ⟨Ap,cp,rfl⟩:=Kd.dz hr
 have HL:=aa.mk L
 have HR:=aa.mk (Kd.dO hr)
 have HB1:=aa.mk (ak (ai (Below.refl _ w) _) hb)
 clear L hlen hr hb HG1
 go_wp2_with fail
 refine (mO _ [] none 0 (Kd.qJ _ _) (Nat.le_refl _) (fun b hb=>by cases hb) rfl).mono ?_
 rintro e w2 ⟨rfl,hb⟩
 have HB2:=aa.mk hb
 clear hb
 obtain ⟨v,fl,s,hg,T,hle,hv⟩:=HL.out.runs []
 rw [aw_run] at hg
 obtain ⟨rfl,rfl,rfl⟩:(7:Int)=v∧(0:Int)=fl∧(1:Int)=s:=by simpa using hg
 have HV:=aa.mk hv
 clear hv hg hle
 go_wp2_with fail
 refine (vM 10000 5000 _ p Ap cp [] none 0 (Kd.bJ HR.out.2.2 HB2.out) HR.out.2.1 (Kd.qJ _ _) (Nat.le_refl _) (by decide) (HL.out.code aw_k [] (by decide) 10000 (Nat.le_refl _)) (HL.out.k0 aw_k) (by decide) 7 0 T HV.out).mono ?_
 rintro e w3 ⟨vt,rfl,hb⟩
 have HB3:=aa.mk hb
 clear hb
 go_wp2
 go_ret
 exact ⟨rfl,ai (ak (ak HB1.out HB2.out) HB3.out) _⟩
theorem kS (w:World) (g:List S47) (A:Option Addr) (c:Nat) (Ap:Option Addr) (l cp:Nat) (HG:Kd.C k47 w A g.length g) (hc:g.length≤c) (H:sJ g) (er:Int) (hne:er≠0)
    (hlin:∀ (W:World) (A:Option Addr) (c:Nat),Kd.C k47 W A g.length g→g.length≤c→Calls Try.prog 16 #[.slice A g.length c] W fun e w'=>e = .returned (.tuple #[.slice none 0 0,.int .i64 er])∧Below W.heap.size W w') :
    Calls Try.prog 12 #[.slice A g.length c,.slice Ap l cp] w fun e w'=>e = .returned (.bool true)∧Below w.heap.size w w':=by
  have HCP:=aa.mk (aU.calls (g.length+1) A c g g w HG hc (cpbG g (by have:=H.long;omega) (fun b hb=>by have:=H.code b hb;omega)))
  have HL:=aa.mk hlin
  have hb1:(er != 0)=true:=bne_iff_ne.mpr hne
  clear HG hc H hlin hne
  go_enter Try.func12,Try.ntmps12
  go_wp2_with (first
    | (go_at_call 18;refine HCP.out.mono ?_;rintro e w1 ⟨v,rfl,hs,hb⟩;obtain ⟨Ac,cc,rfl⟩:=Kd.dz (Kd.S_R hs);have HS:=aa.mk (Kd.dO (Kd.S_R hs));have HB1:=aa.mk hb;clear hs hb)
    | (go_at_call 16;refine (HL.out w1 Ac cc HS.out.2.2 HS.out.2.1).mono ?_;rintro e w2 ⟨rfl,hb⟩;have HB2:=aa.mk hb;clear hb)
    | (go_at_call 20;refine (iT w2).mono ?_;rintro e w3 ⟨rfl,hb⟩;have HB3:=aa.mk hb;clear hb))
  go_ret
  exact ⟨rfl,ak HB1.out (ak HB2.out HB3.out)⟩
theorem nS (w:World) (g:List S47) (A:Option Addr) (c:Nat) (pk:List Int) (Ap:Option Addr) (cp:Nat) (HG:Kd.C k47 w A g.length g) (hc:g.length≤c)
    (HP:Kd.C (Kd.int .u8) w Ap pk.length pk) (hcp:pk.length≤cp) (hG:GOk g) (hms:msL g≤4096) :
    Calls Try.prog 12 #[.slice A g.length c,.slice Ap pk.length cp] w fun e w'=>e = .returned (.bool true)∧Below w.heap.size w w':=by
  have HGA:=aa.mk (And.intro HG (And.intro hc hG))
  have HPA:=aa.mk (And.intro HP hcp)
  have HMS:=aa.mk hms
  clear HG hc HP hcp hG hms
  go_enter Try.func12,Try.ntmps12
  go_upto_region 2 with (first
    | (go_at_call 18;refine (oD w g A c HGA.out.1 HGA.out.2.1 HGA.out.2.2).mono ?_;rintro e w1 ⟨A1,c1,rfl,hk,hle,hb⟩;have H1:=aa.mk (And.intro hk (And.intro hle hb));clear hk hle hb)
    | (go_at_call 16;refine (jL w1 g A1 c1 H1.out.1 H1.out.2.1 HGA.out.2.2.fit HGA.out.2.2.tk HMS.out).mono ?_;rintro e w2 ⟨p,v,O,after,PL,f,rfl,hL,-,hR,hb⟩;obtain ⟨A2,c2,rfl⟩:=Kd.dz hR;have HL:=aa.mk hL;have HR:=aa.mk (Kd.dO hR);have L2:=aa.mk (ak H1.out.2.2 hb);clear hL hR hb))
  by_cases hpk:65536<pk.length
  · have p1:decide (65536<pk.length)=true:=decide_eq_true hpk
    have p2:decide ((65536:Int)<(pk.length:Int))=true:=decide_eq_true (by omega)
    go_wp2_with (go_at_call 20;refine (iT w2).mono ?_;rintro e w3 ⟨rfl,hb⟩;have HB3:=aa.mk hb;clear hb)
    go_ret
    exact ⟨rfl,ak L2.out HB3.out⟩
  have p1:decide (65536<pk.length)=false:=decide_eq_false hpk
  have p2:decide ((65536:Int)<(pk.length:Int))=false:=decide_eq_false (by omega)
  have HPK:=aa.mk (show pk.length≤65536 by omega)
  have HPG:aa (PrG p):=⟨HL.out.prg HGA.out.2.2.kr⟩
  obtain ⟨vv,ff,ss,hg,T,-,hv⟩:=HL.out.runs pk
  have F1:=aa.mk (And.intro hg hv)
  clear hpk hg hv
  have HCI:aa (bZ.f p=some p):=⟨cpi7 p (by have:=HPG.out.few;omega)⟩
  have M2:=aa.mk (Below.refl w2.heap.size w2)
  go_upto_region 5 with (first
    | (go_at_call 22;refine (bZ.calls A2 c2 p p w2 HR.out.2.2 HR.out.2.1 HCI.out).mono ?_;rintro e w3 ⟨v3,rfl,hR,hb⟩;obtain ⟨A3,c3,rfl⟩:=Kd.dz hR;have H3:=aa.mk (Kd.dO hR);have M3:=aa.mk hb;clear hR hb)
    | (go_at_call 38;refine (rV w3 p A3 c3 H3.out.2.2 H3.out.2.1 HPG.out).mono ?_;rintro e w4 ⟨h,v4,F,N,rfl,hR,hbg,-,hng,hog,hb⟩;obtain ⟨A4,c4,rfl⟩:=Kd.dz hR;have H4:=aa.mk (Kd.dO hR);have HH:=aa.mk (HG.mk HPG.out hbg hng hog);have M4:=aa.mk (ak M3.out hb);clear hR hbg hng hog hb))
  have HKH:aa (GOk h):=⟨HH.out.gok⟩
  obtain ⟨sh,hgh⟩:=HH.out.run pk F1.out.2
  have F2:=aa.mk hgh
  have L4:=aa.mk (ak L2.out M4.out)
  have N4:=aa.mk (Below.refl w4.heap.size w4)
  clear hgh
  go_upto_region 6 with (first
    | (go_at_call 18;refine (oD w4 g A c (Kd.bJ HGA.out.1 L4.out) HGA.out.2.1 HGA.out.2.2).mono ?_;rintro e w5 ⟨A5,c5,rfl,hk,hle,hb⟩;have H5:=aa.mk (And.intro hk hle);have N5:=aa.mk hb;clear hk hle hb)
    | (go_at_call 35;refine (j3 w5 pk Ap cp (Kd.bJ HPA.out.1 (ak L4.out N5.out)) HPA.out.2 HPK.out).mono ?_;rintro e w6 ⟨A6,c6,rfl,hk,hle,hb⟩;have H6:=aa.mk (And.intro hk (And.intro hle hb));have N6:=aa.mk (ak N5.out hb);clear hk hle hb)
    | (go_at_call 39;refine (lX w6 g A5 c5 pk A6 c6 (Kd.bJ H5.out.1 H6.out.2.2) H5.out.2 H6.out.1 H6.out.2.1 HPK.out HGA.out.2.2 5000 vv ff ss F1.out.1).mono ?_;rintro e w7 ⟨rfl,hb⟩;have N7:=aa.mk (ak N6.out hb);clear hb))
  refine forget (fun X=>∃ gv,gv=w7.heap.size∧Below w4.heap.size w4 X∧X.heap[gv]?=some (.cells #[.int .u32 vv,.int .i64 ff,.int .i64 ss] 59 (0,0))) ⟨_,rfl,ai N7.out _,heap_alloc_new _ _⟩ ?_
  rintro X ⟨gv,egv,hb,hv⟩
  rw [←egv]
  have HX:=aa.mk (And.intro hb hv)
  clear egv hb hv
  go_upto_region 7 with (first
    | (go_at_call 35;refine (j3 X pk Ap cp (Kd.bJ HPA.out.1 (ak L4.out HX.out.1)) HPA.out.2 HPK.out).mono ?_;rintro e w8 ⟨A8,c8,rfl,hk,hle,hb⟩;have H8:=aa.mk (And.intro hk (And.intro hle hb));clear hk hle hb)
    | (go_at_call 39;refine (lX w8 h A4 c4 pk A8 c8 (Kd.bJ H4.out.2.2 (ak HX.out.1 H8.out.2.2)) H4.out.2.1 H8.out.1 H8.out.2.1 HPK.out HKH.out 5000 vv ff sh F2.out).mono ?_;rintro e w9 ⟨rfl,hb⟩;have H9:=aa.mk (ak H8.out.2.2 hb);clear hb))
  refine forget (fun Y=>∃ gu,gu=w9.heap.size∧Below w4.heap.size w4 Y∧Y.heap[gv]?=some (.cells #[.int .u32 vv,.int .i64 ff,.int .i64 ss] 59 (0,0))∧Y.heap[gu]?=some (.cells #[.int .u32 vv,.int .i64 ff,.int .i64 sh] 59 (0,0))) ⟨_,rfl,ai (ak HX.out.1 H9.out) _,au HX.out.2 (ai H9.out _),heap_alloc_new _ _⟩ ?_
  rintro Y ⟨gu,egu,hb,hv,hu⟩
  rw [←egu]
  have HY:=aa.mk (And.intro hb (And.intro hv hu))
  clear egu hb hv hu
  go_upto_region 8 with (first
    | (go_at_call 35;refine (j3 Y pk Ap cp (Kd.bJ HPA.out.1 (ak L4.out HY.out.1)) HPA.out.2 HPK.out).mono ?_;rintro e w10 ⟨A10,c10,rfl,hk,hle,hb⟩;have H10:=aa.mk (And.intro hk (And.intro hle hb));clear hk hle hb)
    | (go_at_call 40;refine (sI w10 p A2 c2 pk A10 c10 (Kd.bJ HR.out.2.2 (ak M4.out (ak HY.out.1 H10.out.2.2))) HR.out.2.1 HPG.out H10.out.1 H10.out.2.1 HPK.out 5000 vv ff T F1.out.2).mono ?_;rintro e w11 ⟨st,rfl,hb⟩;have H11:=aa.mk (ak H10.out.2.2 hb);clear hb))
  refine forget (fun Z=>∃ gz,gz=w11.heap.size∧Below w4.heap.size w4 Z∧Z.heap[gv]?=some (.cells #[.int .u32 vv,.int .i64 ff,.int .i64 ss] 59 (0,0))∧Z.heap[gu]?=some (.cells #[.int .u32 vv,.int .i64 ff,.int .i64 sh] 59 (0,0))∧Z.heap[gz]?=some (.cells #[.int .u32 vv,.int .i64 ff,.int .i64 st] 59 (0,0))) ⟨_,rfl,ai (ak HY.out.1 H11.out) _,au HY.out.2.1 (ai H11.out _),au HY.out.2.2 (ai H11.out _),heap_alloc_new _ _⟩ ?_
  rintro Z ⟨gz,egz,hb,hv,hu,hz⟩
  rw [←egz]
  have y0:Z.cell? ⟨gu,0,none⟩=some (.int .u32 vv):=(ag hu 0).trans rfl
  have y1:Z.cell? ⟨gu,1,none⟩=some (.int .i64 ff):=(ag hu 1).trans rfl
  have z0:Z.cell? ⟨gv,0,none⟩=some (.int .u32 vv):=(ag hv 0).trans rfl
  have z1:Z.cell? ⟨gv,1,none⟩=some (.int .i64 ff):=(ag hv 1).trans rfl
  have x0:Z.cell? ⟨gz,0,none⟩=some (.int .u32 vv):=(ag hz 0).trans rfl
  have x1:Z.cell? ⟨gz,1,none⟩=some (.int .i64 ff):=(ag hz 1).trans rfl
  have HZB:=aa.mk (ak L4.out hb)
  clear egz hb hu hv hz
  go_wp2_with (go_at_call 20;refine (iT Z).mono ?_;rintro e w12 ⟨rfl,hb⟩;have HB12:=aa.mk hb;clear hb)
  go_ret
  exact ⟨rfl,ak HZB.out HB12.out⟩
theorem lM (w:World) (g:List S47) (A:Option Addr) (c:Nat) (pk:List Int) (Ap:Option Addr) (cp:Nat) (HG:Kd.C k47 w A g.length g) (hc:g.length≤c)
    (HP:Kd.C (Kd.int .u8) w Ap pk.length pk) (hcp:pk.length≤cp) (H:sJ g) (hk:KR g) :
    Calls Try.prog 12 #[.slice A g.length c,.slice Ap pk.length cp] w fun e w'=>e = .returned (.bool true)∧Below w.heap.size w w':=by
  cases htk:TkB g
  · exact kS w g A c Ap pk.length cp HG hc H 180 (by decide) (fun W A c h1 h2=>mO W g A c h1 h2 H.fit htk)
  · by_cases hm:msL g≤4096
    · exact nS w g A c pk Ap cp HG hc HP hcp (gok_of htk hk) hm
    · exact kS w g A c Ap pk.length cp HG hc H 181 (by decide) (fun W A c h1 h2=>oM W g A c h1 h2 H.fit htk (by omega))
end Go.Proofs.Ytdkalnkplgfgoaa.Ln
