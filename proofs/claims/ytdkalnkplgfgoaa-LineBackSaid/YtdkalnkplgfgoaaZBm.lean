/- Lemmas and walks for the statements of the texts ZBZ..: the declarations that they need, taken together by a program of this session. Conditions: as each says. -/
import Derived.Test.YtdkalnkplgfgoaaZBb
import Derived.Test.YtdkalnkplgfgoaaZBh
import Derived.Test.YtdkalnkplgfgoaaZBi
import Derived.Test.YtdkalnkplgfgoaaZBl
set_option maxHeartbeats 8000000
set_option maxRecDepth 100000
set_option linter.unusedVariables false
set_option linter.unusedSimpArgs false
namespace Go.Proofs.Ytdkalnkplgfgoaa.Ln
open Go.RowKit Go.Maps Go.Proofs.YtdkalnkplgfgoaaW.PrintWords Go.Proofs.YtdkalnkplgfgoaaW.PrintLast Go.Proofs.YtdkalnkplgfgoaaW.PrintMore Go.Proofs.Ytdkalnkplgfgoaa.PA
theorem lm {K:Act→World→Prop} {a:Act} {w:World} (F:World→Prop) (h:F w) (k:∀ w,F w→K a w):K a w:=k w h
theorem oJ (w:World) (p:List S45) (A:Option Addr) (c:Nat) (hP:Kd.C k45 w A p.length p) (hc:p.length≤c) (hp:PrG p) :
    Calls Try.prog 66 #[.slice A p.length c] w fun e w'=>∃ F gf,e = .returned (.slice (some ⟨gf,0,none⟩) (p.length+1) (p.length+1))∧BgI w w' gf p.length F∧BgM p F p.length:=by
  obtain ⟨n,en⟩:∃ n,n=p.length:=⟨_,rfl⟩
  have h1:=hp.few
  have h0:=hp.some_
  have hmk:=mk_bo n (by omega)
  have HC:=aa.mk hP
  have HPG:=aa.mk hp
  have EN:=aa.mk en
  rw [←en] at h1 h0 HC ⊢
  clear hP hc hp en
  go_enter Try.func66,Try.ntmps66
  go_upto_region 2 with (fail)
  refine forget (fun X=>∃ gf,gf=w.heap.size∧BgI w X gf n (List.replicate (n+1) false)) ⟨_,rfl,ai (Below.refl _ _) _,heap_alloc_new _ _,List.length_replicate,Nat.le_refl _⟩ ?_
  rintro X ⟨gf,egf,hI⟩
  rw [←egf]
  obtain ⟨k0,kz⟩:=hI.cell (show 0<n+1 by omega)
  have i0:(0:Int)<((n:Int)+1):=by omega
  have HI:=aa.mk hI
  clear hI egf hmk
  go_upto_region 3 with (fail)
  refine forget (fun Y=>∃ F,BgI w Y gf n F∧BgM p F 0) ⟨_,HI.out.set 0,jE (by rw [List.length_replicate];omega),fun s _ h=>absurd h (by omega)⟩ ?_
  clear k0 kz HI i0
  rintro Y ⟨F,hI,hM⟩
  have HI:=aa.mk (And.intro hI hM)
  clear hI hM
  go_wp2
  go_loopw [14] (fun v14 wr=>∃ (i:Nat) (F:List Bool),i≤n∧v14 = .int .i64 i∧aa (BgI w wr gf n F∧BgM p F i)) (fun v14 _=>n - (intOf v14).toNat)
  case atStart=>exact ⟨0,F,Nat.zero_le _,rfl,HI⟩
  case round=>
    clear HI
    obtain ⟨i,F,hi,rfl,HI⟩:=hrel
    obtain ⟨X,rfl⟩:∃ X:World,X=wr:=⟨_,rfl⟩
    by_cases hlt:i<n
    · obtain ⟨b,hb⟩:∃ b,p[i]?=some b:=⟨_,List.getElem?_eq_getElem (by rw [←EN.out];exact hlt)⟩
      have hrd:bg p (i:Int)=b:=by
        obtain ⟨h1,h2⟩:=List.getElem?_eq_some_iff.1 hb
        rw [fV h1,h2]
      have i0:(0:Int)≤(i:Int):=by omega
      have i1:(i:Int)<(n:Int):=by omega
      have HB:aa (Below w.heap.size w X):=⟨HI.out.1.low⟩
      obtain ⟨ad,rfl,x0,x1,x2,x3,-,-⟩:=fK HC HB (i:Int) (decide_eq_true i0) (decide_eq_true i1)
      rw [hrd,Int.toNat_natCast] at x0 x1 x2 x3
      have hqi:=HPG.out.qi hb
      rw [←EN.out] at hqi
      have HQ:=aa.mk (And.intro hb hqi)
      obtain ⟨cc,b1,b2,k⟩:=b
      dsimp only at x0 x1 x2 x3
      clear hb hrd hqi HB
      go_upto_block 2 with (fail)
      refine forget (fun Y=>∃ gi,gi=X.heap.size∧BgI w Y gf n F∧Y.heap[gi]?=some (.cells #[.int .u16 cc,.int .u8 b1,.int .u8 b2,.int .u32 k] 45 (0,0))∧gi≠gf) ⟨_,rfl,HI.out.1.below (ai (Below.refl _ _) _),heap_alloc_new _ _,(by have:=aZ HI.out.1.row;omega)⟩ ?_
      clear x0 x1 x2 x3
      rintro Y ⟨gi,egi,hI,hgi,hne⟩
      rw [←egi]
      have k0:Y.cell? ⟨gi,0,none⟩=some (.int .u16 cc):=(ag hgi 0).trans rfl
      have k1:Y.cell? ⟨gi,1,none⟩=some (.int .u8 b1):=(ag hgi 1).trans rfl
      have k2:Y.cell? ⟨gi,2,none⟩=some (.int .u8 b2):=(ag hgi 2).trans rfl
      have k3:Y.cell? ⟨gi,3,none⟩=some (.int .u32 k):=(ag hgi 3).trans rfl
      have HY:=aa.mk (And.intro hI (And.intro hgi (And.intro hne HI.out.2)))
      clear egi hI hgi hne HI
      have hcl:=HQ.out.2
      have HCL:=aa.mk (fun W=>bK.calls 18 cc _ W (iL cc 10).1)
      have hcj:=fA cc
      have hcr:=dZ cc
      obtain ⟨v,ev⟩:∃ v,v=eF cc:=⟨_,rfl⟩
      rw [←ev] at HCL hcj hcr
      have EV:=aa.mk ev
      clear ev
      by_cases c5:cc=5
      · have b5:(cc==5)=true:=beq_iff_eq.mpr c5
        have hj:=hcl.ja c5
        have hkk:=hcl.rg
        dsimp only at hj hkk
        obtain ⟨q,hq⟩:∃ q:Nat,k=(q:Int):=⟨k.toNat,by have:=hkk.1;omega⟩
        have hj1:(i:Int)+1<(n:Int)+1:=by omega
        have hj2:(i:Int)+1+k<(n:Int)+1:=by omega
        have hjt:((i:Int)+1+k).toNat=i+1+q:=by omega
        have e1:wrap64 ((i:Int)+1)=(i:Int)+1:=w64 (by omega) (by omega)
        have e2:wrap64 ((i:Int)+1+k)=(i:Int)+1+k:=w64 (by omega) (by omega)
        have e3:((i:Int)+1).toNat=i+1:=by omega
        have e4:wrap64 k=k:=w64 (by omega) (by omega)
        have p1:(0:Int)≤(i:Int)+1:=by omega
        have p2:(0:Int)≤(i:Int)+1+k:=by omega
        obtain ⟨m1,z1⟩:=HY.out.1.cell (show i+1<n+1 by omega)
        have HN:aa (BgM p ((F.set (i+1) true).set (i+1+q) true) (i+1)):=⟨(HY.out.2.2.2.old (fun s h=>iA _ (iA _ h))).next HQ.out.1 ⟨fun _=>by (rw [hq];exact jE (by rw [List.length_set,HY.out.1.len];omega)),fun h=>absurd c5 (nQ h),fun h=>absurd c5 (nQ h)⟩ (fun _=>iA _ (jE (by rw [HY.out.1.len];omega)))⟩
        clear c5 hcl hcj hcr hj hq HCL k1 k2 EV
        go_upto_region 7 with (fail)
        refine dR (n:=14) (S:=fun w'=>w'.cell? ⟨gi,3,none⟩=some (.int .u32 k)) (ds:=[13]) #[false,false,false,false,false,false,false,false,false,false,false,false,false,false] (by kernel_rfl) rfl rfl (((ag (au HY.out.2.1 (ae (Below.refl _ _))) 3).trans rfl)) (fun hHeld=>?_)
        refine aH (i:=0) (N:=some 23) (v:=?_) (a':=?_) #[true,false,false,false,false,false,false,false,false,false,false,false,false,false] rfl rfl (by kernel_rfl) (fun _ _ _ h=>h) (Or.inl ⟨by rfl,?_⟩) ?_ ?_
        rotate_left
        · intro w'
          go_simp
          with_reducible rfl
        rotate_left
        · simp only [Act.put,List.setIfInBounds_toArray,List.set_cons_zero,List.set_cons_succ,ax,ay]
          rfl
        refine aH (i:=1) (N:=some 24) (v:=?_) (a':=?_) #[true,true,false,false,false,false,false,false,false,false,false,false,false,false] rfl rfl (by kernel_rfl) (fun _ _ _ h=>h) (Or.inl ⟨by rfl,?_⟩) ?_ ?_
        rotate_left
        · intro w'
          go_simp
          with_reducible rfl
        rotate_left
        · simp only [Act.put,List.setIfInBounds_toArray,List.set_cons_zero,List.set_cons_succ,ax,ay]
          rfl
        refine aH (i:=2) (N:=some 25) (v:=?_) (a':=?_) #[true,true,true,false,false,false,false,false,false,false,false,false,false,false] rfl rfl (by kernel_rfl) (fun _ _ _ h=>h) (Or.inl ⟨by rfl,?_⟩) ?_ ?_
        rotate_left
        · intro w'
          go_simp
          with_reducible rfl
        rotate_left
        · simp only [Act.put,List.setIfInBounds_toArray,List.set_cons_zero,List.set_cons_succ,ax,ay]
          rfl
        refine aH (i:=3) (N:=some 26) (v:=?_) (a':=?_) #[true,true,true,true,false,false,false,false,false,false,false,false,false,false] rfl rfl (by kernel_rfl) (fun _ _ _ h=>h) (Or.inl ⟨by rfl,?_⟩) ?_ ?_
        rotate_left
        · intro w'
          go_simp
          with_reducible rfl
        rotate_left
        · simp only [Act.put,List.setIfInBounds_toArray,List.set_cons_zero,List.set_cons_succ,ax,ay]
          rfl
        refine aH (i:=4) (N:=some 27) (v:=?_) (a':=?_) #[true,true,true,true,true,false,false,false,false,false,false,false,false,false] rfl rfl (by kernel_rfl) (fun _ _ _ h=>h) (Or.inl ⟨by rfl,?_⟩) ?_ ?_
        rotate_left
        · intro w'
          go_simp
          with_reducible rfl
        rotate_left
        · simp only [Act.put,List.setIfInBounds_toArray,List.set_cons_zero,List.set_cons_succ,ax,ay]
          rfl
        refine aH (i:=5) (N:=some 28) (v:=?_) (a':=?_) #[true,true,true,true,true,true,false,false,false,false,false,false,false,false] rfl rfl (by kernel_rfl) (fun _ _ _ h=>h) (Or.inl ⟨by rfl,?_⟩) ?_ ?_
        rotate_left
        · intro w'
          go_simp
          with_reducible rfl
        rotate_left
        · simp only [Act.put,List.setIfInBounds_toArray,List.set_cons_zero,List.set_cons_succ,ax,ay]
          rfl
        refine aH (i:=6) (N:=some 29) (v:=?_) (a':=?_) #[true,true,true,true,true,true,true,false,false,false,false,false,false,false] rfl rfl (by kernel_rfl) (fun _ _ _ h=>h) (Or.inl ⟨by rfl,?_⟩) ?_ ?_
        rotate_left
        · intro w'
          go_simp
          with_reducible rfl
        rotate_left
        · simp only [Act.put,List.setIfInBounds_toArray,List.set_cons_zero,List.set_cons_succ,ax,ay]
          rfl
        refine aH (i:=10) (N:=some 33) (v:=?_) (a':=?_) #[true,true,true,true,true,true,true,false,false,false,true,false,false,false] rfl rfl (by kernel_rfl) (fun _ _ _ h=>h) (Or.inl ⟨by rfl,?_⟩) ?_ ?_
        rotate_left
        · intro w'
          go_simp
          with_reducible rfl
        rotate_left
        · simp only [Act.put,List.setIfInBounds_toArray,List.set_cons_zero,List.set_cons_succ,ax,ay]
          rfl
        refine cu (i:=7) (N:=some 30) (v:=?_) (a':=?_) #[true,true,true,true,true,true,true,true,false,false,true,false,false,false] rfl rfl (by kernel_rfl) (fun _ _ _ h=>h) (Or.inl ⟨by rfl,?_⟩) hHeld ?_ ?_
        rotate_left
        · intro w' s0
          go_simp
          with_reducible rfl
        rotate_left
        · simp only [Act.put,List.setIfInBounds_toArray,List.set_cons_zero,List.set_cons_succ,ax,ay]
          rfl
        refine aH (i:=8) (N:=some 31) (v:=?_) (a':=?_) #[true,true,true,true,true,true,true,true,true,false,true,false,false,false] rfl rfl (by kernel_rfl) (fun _ _ _ h=>h) (Or.inl ⟨by rfl,?_⟩) ?_ ?_
        rotate_left
        · intro w'
          go_simp
          with_reducible rfl
        rotate_left
        · simp only [Act.put,List.setIfInBounds_toArray,List.set_cons_zero,List.set_cons_succ,ax,ay]
          rfl
        refine aH (i:=9) (N:=some 32) (v:=?_) (a':=?_) #[true,true,true,true,true,true,true,true,true,true,true,false,false,false] rfl rfl (by kernel_rfl) (fun _ _ _ h=>h) (Or.inl ⟨by rfl,?_⟩) ?_ ?_
        rotate_left
        · intro w'
          go_simp
          with_reducible rfl
        rotate_left
        · simp only [Act.put,List.setIfInBounds_toArray,List.set_cons_zero,List.set_cons_succ,ax,ay]
          rfl
        refine gV (i:=11) (N:=none) #[true,true,true,true,true,true,true,true,true,true,true,true,false,false] rfl rfl (by kernel_rfl) (by decide) (fun K hK=>?_)
        refine gX (w1:=?_) (by rfl) rfl ?_ ?_
        rotate_left
        · go_simp
          rfl
        refine lm (fun W=>BgI w W gf n (F.set (i+1) true)∧W.heap[gi]?=some (.cells #[.int .u16 cc,.int .u8 b1,.int .u8 b2,.int .u32 k] 45 (0,0))) ⟨(HY.out.1.below (ae (Below.refl _ _))).set (i+1),bQ (au HY.out.2.1 (ae (Below.refl _ _))) HY.out.2.2.1 _⟩ ?_
        rintro W11 ⟨hw11,hg11⟩
        obtain ⟨m11,z11⟩:=hw11.cell (show i+1+q<n+1 by omega)
        refine hK.out _ _ (((ag hg11 3).trans rfl)) (fun hHeld=>?_)
        clear hK K
        refine aH (i:=12) (N:=some 34) (v:=?_) (a':=?_) #[true,true,true,true,true,true,true,true,true,true,true,true,true,false] rfl rfl (by kernel_rfl) (fun _ _ _ h=>h) (Or.inl ⟨by rfl,?_⟩) ?_ ?_
        rotate_left
        · intro w'
          go_simp
          with_reducible rfl
        rotate_left
        · simp only [Act.put,List.setIfInBounds_toArray,List.set_cons_zero,List.set_cons_succ,ax,ay]
          rfl
        refine gL (i:=13) (N:=none) #[true,true,true,true,true,true,true,true,true,true,true,true,true,true] rfl rfl (by kernel_rfl) (by decide) (fun K hK=>?_)
        refine gX (w1:=?_) (by rfl) rfl ?_ ?_
        rotate_left
        · go_simp
          rfl
        refine hK.out _ _ ?_
        clear hK K
        refine dS (by kernel_rfl) ?_
        have HE:aa (BgI w (W11.setCell ⟨gf,i+1+q,none⟩ (.bool true)) gf n ((F.set (i+1) true).set (i+1+q) true)):=⟨hw11.set _⟩
        clear e1 e2 e3 e4 p1 p2 m1 z1 m11 z11 hw11 hg11 hjt hj1 hj2 hkk k0 k3 HY
        go_wp2
        go_roundw
        case rel=>exact ⟨i+1,_,by omega,by go_num,⟨HE.out,HN.out⟩⟩
        case measure=>simp [intOf];omega
      have b5:(cc==5)=false:=beq_eq_false_iff_ne.mpr c5
      by_cases v5:v=5
      · have cj:jmB cc=true:=by
          rcases hcj.1 v5 with h | h
          · exact absurd h c5
          · exact h
        have hj:=hcl.jm cj
        dsimp only at hj
        obtain ⟨q,hq⟩:∃ q:Nat,b1=(q:Int):=⟨b1.toNat,by omega⟩
        obtain ⟨r,hr⟩:∃ r:Nat,b2=(r:Int):=⟨b2.toNat,by omega⟩
        have hj1:(i:Int)+1<(n:Int)+1:=by omega
        have hj2:(i:Int)+1+b1<(n:Int)+1:=by omega
        have hj3:(i:Int)+1+b2<(n:Int)+1:=by omega
        have hjt:((i:Int)+1+b1).toNat=i+1+q:=by omega
        have hjf:((i:Int)+1+b2).toNat=i+1+r:=by omega
        have e1:wrap64 ((i:Int)+1)=(i:Int)+1:=w64 (by omega) (by omega)
        have e2:wrap64 ((i:Int)+1+b1)=(i:Int)+1+b1:=w64 (by omega) (by omega)
        have e2b:wrap64 ((i:Int)+1+b2)=(i:Int)+1+b2:=w64 (by omega) (by omega)
        have e3:((i:Int)+1).toNat=i+1:=by omega
        have e4:wrap64 b1=b1:=w64 (by omega) (by omega)
        have e4b:wrap64 b2=b2:=w64 (by omega) (by omega)
        have p1:(0:Int)≤(i:Int)+1:=by omega
        have p2:(0:Int)≤(i:Int)+1+b1:=by omega
        have p3:(0:Int)≤(i:Int)+1+b2:=by omega
        obtain ⟨m1,z1⟩:=HY.out.1.cell (show i+1<n+1 by omega)
        have HN:aa (BgM p (((F.set (i+1) true).set (i+1+q) true).set (i+1+r) true) (i+1)):=⟨(HY.out.2.2.2.old (fun s h=>iA _ (iA _ (iA _ h)))).next HQ.out.1 ⟨fun h=>absurd h c5,fun _=>by (rw [hq];exact iA _ (jE (by rw [List.length_set,HY.out.1.len];omega))),fun _=>by (rw [hr];exact jE (by rw [List.length_set,List.length_set,HY.out.1.len];omega))⟩ (fun _=>iA _ (iA _ (jE (by rw [HY.out.1.len];omega))))⟩
        have v5b:(v==5)=true:=by rw [v5];rfl
        clear c5 v5 cj hcl hcj hcr hj hq hr EV k1 k2 k3
        go_upto_region 9 with (go_at_call 99;refine (HCL.out _).mono ?_;rintro e w' ⟨rfl,⟨nd,rfl⟩⟩)
        refine forget (fun Z=>BgI w Z gf n F∧Z.heap[gi]?=some (.cells #[.int .u16 cc,.int .u8 b1,.int .u8 b2,.int .u32 k] 45 (0,0))∧gi≠gf) ⟨HY.out.1.below (af (Below.refl _ _) _),aQ HY.out.2.1 _,HY.out.2.2.1⟩ ?_
        clear m1 z1 k0 HY
        rintro Z ⟨hI,hgi,hne⟩
        obtain ⟨m1,z1⟩:=hI.cell (show i+1<n+1 by omega)
        have HY:=aa.mk (And.intro hI (And.intro hgi (And.intro hne True.intro)))
        clear hI hgi hne
        refine dR (n:=23) (S:=fun w'=>w'.cell? ⟨gi,1,none⟩=some (.int .u8 b1)∧w'.cell? ⟨gi,2,none⟩=some (.int .u8 b2)) (ds:=[22]) #[false,false,false,false,false,false,false,false,false,false,false,false,false,false,false,false,false,false,false,false,false,false,false] (by kernel_rfl) rfl rfl ⟨((ag (au HY.out.2.1 (ae (Below.refl _ _))) 1).trans rfl),((ag (au HY.out.2.1 (ae (Below.refl _ _))) 2).trans rfl)⟩ (fun hHeld=>?_)
        refine aH (i:=0) (N:=some 40) (v:=?_) (a':=?_) #[true,false,false,false,false,false,false,false,false,false,false,false,false,false,false,false,false,false,false,false,false,false,false] rfl rfl (by kernel_rfl) (fun _ _ _ h=>h) (Or.inl ⟨by rfl,?_⟩) ?_ ?_
        rotate_left
        · intro w'
          go_simp
          with_reducible rfl
        rotate_left
        · simp only [Act.put,List.setIfInBounds_toArray,List.set_cons_zero,List.set_cons_succ,ax,ay]
          rfl
        refine aH (i:=1) (N:=some 41) (v:=?_) (a':=?_) #[true,true,false,false,false,false,false,false,false,false,false,false,false,false,false,false,false,false,false,false,false,false,false] rfl rfl (by kernel_rfl) (fun _ _ _ h=>h) (Or.inl ⟨by rfl,?_⟩) ?_ ?_
        rotate_left
        · intro w'
          go_simp
          with_reducible rfl
        rotate_left
        · simp only [Act.put,List.setIfInBounds_toArray,List.set_cons_zero,List.set_cons_succ,ax,ay]
          rfl
        refine aH (i:=2) (N:=some 42) (v:=?_) (a':=?_) #[true,true,true,false,false,false,false,false,false,false,false,false,false,false,false,false,false,false,false,false,false,false,false] rfl rfl (by kernel_rfl) (fun _ _ _ h=>h) (Or.inl ⟨by rfl,?_⟩) ?_ ?_
        rotate_left
        · intro w'
          go_simp
          with_reducible rfl
        rotate_left
        · simp only [Act.put,List.setIfInBounds_toArray,List.set_cons_zero,List.set_cons_succ,ax,ay]
          rfl
        refine aH (i:=3) (N:=some 43) (v:=?_) (a':=?_) #[true,true,true,true,false,false,false,false,false,false,false,false,false,false,false,false,false,false,false,false,false,false,false] rfl rfl (by kernel_rfl) (fun _ _ _ h=>h) (Or.inl ⟨by rfl,?_⟩) ?_ ?_
        rotate_left
        · intro w'
          go_simp
          with_reducible rfl
        rotate_left
        · simp only [Act.put,List.setIfInBounds_toArray,List.set_cons_zero,List.set_cons_succ,ax,ay]
          rfl
        refine aH (i:=4) (N:=some 44) (v:=?_) (a':=?_) #[true,true,true,true,true,false,false,false,false,false,false,false,false,false,false,false,false,false,false,false,false,false,false] rfl rfl (by kernel_rfl) (fun _ _ _ h=>h) (Or.inl ⟨by rfl,?_⟩) ?_ ?_
        rotate_left
        · intro w'
          go_simp
          with_reducible rfl
        rotate_left
        · simp only [Act.put,List.setIfInBounds_toArray,List.set_cons_zero,List.set_cons_succ,ax,ay]
          rfl
        refine aH (i:=5) (N:=some 45) (v:=?_) (a':=?_) #[true,true,true,true,true,true,false,false,false,false,false,false,false,false,false,false,false,false,false,false,false,false,false] rfl rfl (by kernel_rfl) (fun _ _ _ h=>h) (Or.inl ⟨by rfl,?_⟩) ?_ ?_
        rotate_left
        · intro w'
          go_simp
          with_reducible rfl
        rotate_left
        · simp only [Act.put,List.setIfInBounds_toArray,List.set_cons_zero,List.set_cons_succ,ax,ay]
          rfl
        refine aH (i:=6) (N:=some 46) (v:=?_) (a':=?_) #[true,true,true,true,true,true,true,false,false,false,false,false,false,false,false,false,false,false,false,false,false,false,false] rfl rfl (by kernel_rfl) (fun _ _ _ h=>h) (Or.inl ⟨by rfl,?_⟩) ?_ ?_
        rotate_left
        · intro w'
          go_simp
          with_reducible rfl
        rotate_left
        · simp only [Act.put,List.setIfInBounds_toArray,List.set_cons_zero,List.set_cons_succ,ax,ay]
          rfl
        refine aH (i:=10) (N:=some 50) (v:=?_) (a':=?_) #[true,true,true,true,true,true,true,false,false,false,true,false,false,false,false,false,false,false,false,false,false,false,false] rfl rfl (by kernel_rfl) (fun _ _ _ h=>h) (Or.inl ⟨by rfl,?_⟩) ?_ ?_
        rotate_left
        · intro w'
          go_simp
          with_reducible rfl
        rotate_left
        · simp only [Act.put,List.setIfInBounds_toArray,List.set_cons_zero,List.set_cons_succ,ax,ay]
          rfl
        refine aH (i:=11) (N:=some 51) (v:=?_) (a':=?_) #[true,true,true,true,true,true,true,false,false,false,true,true,false,false,false,false,false,false,false,false,false,false,false] rfl rfl (by kernel_rfl) (fun _ _ _ h=>h) (Or.inl ⟨by rfl,?_⟩) ?_ ?_
        rotate_left
        · intro w'
          go_simp
          with_reducible rfl
        rotate_left
        · simp only [Act.put,List.setIfInBounds_toArray,List.set_cons_zero,List.set_cons_succ,ax,ay]
          rfl
        refine aH (i:=12) (N:=some 52) (v:=?_) (a':=?_) #[true,true,true,true,true,true,true,false,false,false,true,true,true,false,false,false,false,false,false,false,false,false,false] rfl rfl (by kernel_rfl) (fun _ _ _ h=>h) (Or.inl ⟨by rfl,?_⟩) ?_ ?_
        rotate_left
        · intro w'
          go_simp
          with_reducible rfl
        rotate_left
        · simp only [Act.put,List.setIfInBounds_toArray,List.set_cons_zero,List.set_cons_succ,ax,ay]
          rfl
        refine aH (i:=13) (N:=some 53) (v:=?_) (a':=?_) #[true,true,true,true,true,true,true,false,false,false,true,true,true,true,false,false,false,false,false,false,false,false,false] rfl rfl (by kernel_rfl) (fun _ _ _ h=>h) (Or.inl ⟨by rfl,?_⟩) ?_ ?_
        rotate_left
        · intro w'
          go_simp
          with_reducible rfl
        rotate_left
        · simp only [Act.put,List.setIfInBounds_toArray,List.set_cons_zero,List.set_cons_succ,ax,ay]
          rfl
        refine aH (i:=17) (N:=some 57) (v:=?_) (a':=?_) #[true,true,true,true,true,true,true,false,false,false,true,true,true,true,false,false,false,true,false,false,false,false,false] rfl rfl (by kernel_rfl) (fun _ _ _ h=>h) (Or.inl ⟨by rfl,?_⟩) ?_ ?_
        rotate_left
        · intro w'
          go_simp
          with_reducible rfl
        rotate_left
        · simp only [Act.put,List.setIfInBounds_toArray,List.set_cons_zero,List.set_cons_succ,ax,ay]
          rfl
        refine cu (i:=7) (N:=some 47) (v:=?_) (a':=?_) #[true,true,true,true,true,true,true,true,false,false,true,true,true,true,false,false,false,true,false,false,false,false,false] rfl rfl (by kernel_rfl) (fun _ _ _ h=>h) (Or.inl ⟨by rfl,?_⟩) hHeld ?_ ?_
        rotate_left
        · rintro w' ⟨s0,s1⟩
          go_simp
          with_reducible rfl
        rotate_left
        · simp only [Act.put,List.setIfInBounds_toArray,List.set_cons_zero,List.set_cons_succ,ax,ay]
          rfl
        refine aH (i:=8) (N:=some 48) (v:=?_) (a':=?_) #[true,true,true,true,true,true,true,true,true,false,true,true,true,true,false,false,false,true,false,false,false,false,false] rfl rfl (by kernel_rfl) (fun _ _ _ h=>h) (Or.inl ⟨by rfl,?_⟩) ?_ ?_
        rotate_left
        · intro w'
          go_simp
          with_reducible rfl
        rotate_left
        · simp only [Act.put,List.setIfInBounds_toArray,List.set_cons_zero,List.set_cons_succ,ax,ay]
          rfl
        refine aH (i:=9) (N:=some 49) (v:=?_) (a':=?_) #[true,true,true,true,true,true,true,true,true,true,true,true,true,true,false,false,false,true,false,false,false,false,false] rfl rfl (by kernel_rfl) (fun _ _ _ h=>h) (Or.inl ⟨by rfl,?_⟩) ?_ ?_
        rotate_left
        · intro w'
          go_simp
          with_reducible rfl
        rotate_left
        · simp only [Act.put,List.setIfInBounds_toArray,List.set_cons_zero,List.set_cons_succ,ax,ay]
          rfl
        refine cu (i:=14) (N:=some 54) (v:=?_) (a':=?_) #[true,true,true,true,true,true,true,true,true,true,true,true,true,true,true,false,false,true,false,false,false,false,false] rfl rfl (by kernel_rfl) (fun _ _ _ h=>h) (Or.inl ⟨by rfl,?_⟩) hHeld ?_ ?_
        rotate_left
        · rintro w' ⟨s0,s1⟩
          go_simp
          with_reducible rfl
        rotate_left
        · simp only [Act.put,List.setIfInBounds_toArray,List.set_cons_zero,List.set_cons_succ,ax,ay]
          rfl
        refine aH (i:=15) (N:=some 55) (v:=?_) (a':=?_) #[true,true,true,true,true,true,true,true,true,true,true,true,true,true,true,true,false,true,false,false,false,false,false] rfl rfl (by kernel_rfl) (fun _ _ _ h=>h) (Or.inl ⟨by rfl,?_⟩) ?_ ?_
        rotate_left
        · intro w'
          go_simp
          with_reducible rfl
        rotate_left
        · simp only [Act.put,List.setIfInBounds_toArray,List.set_cons_zero,List.set_cons_succ,ax,ay]
          rfl
        refine aH (i:=16) (N:=some 56) (v:=?_) (a':=?_) #[true,true,true,true,true,true,true,true,true,true,true,true,true,true,true,true,true,true,false,false,false,false,false] rfl rfl (by kernel_rfl) (fun _ _ _ h=>h) (Or.inl ⟨by rfl,?_⟩) ?_ ?_
        rotate_left
        · intro w'
          go_simp
          with_reducible rfl
        rotate_left
        · simp only [Act.put,List.setIfInBounds_toArray,List.set_cons_zero,List.set_cons_succ,ax,ay]
          rfl
        refine gV (i:=18) (N:=none) #[true,true,true,true,true,true,true,true,true,true,true,true,true,true,true,true,true,true,true,false,false,false,false] rfl rfl (by kernel_rfl) (by decide) (fun K hK=>?_)
        refine gX (w1:=?_) (by rfl) rfl ?_ ?_
        rotate_left
        · go_simp
          rfl
        refine lm (fun W=>BgI w W gf n (F.set (i+1) true)∧W.heap[gi]?=some (.cells #[.int .u16 cc,.int .u8 b1,.int .u8 b2,.int .u32 k] 45 (0,0))) ⟨(HY.out.1.below (ae (Below.refl _ _))).set (i+1),bQ (au HY.out.2.1 (ae (Below.refl _ _))) HY.out.2.2.1 _⟩ ?_
        rintro W18 ⟨hw18,hg18⟩
        obtain ⟨m18,z18⟩:=hw18.cell (show i+1+q<n+1 by omega)
        refine hK.out _ _ ⟨((ag hg18 1).trans rfl),((ag hg18 2).trans rfl)⟩ (fun hHeld=>?_)
        clear hK K
        refine aH (i:=19) (N:=some 58) (v:=?_) (a':=?_) #[true,true,true,true,true,true,true,true,true,true,true,true,true,true,true,true,true,true,true,true,false,false,false] rfl rfl (by kernel_rfl) (fun _ _ _ h=>h) (Or.inl ⟨by rfl,?_⟩) ?_ ?_
        rotate_left
        · intro w'
          go_simp
          with_reducible rfl
        rotate_left
        · simp only [Act.put,List.setIfInBounds_toArray,List.set_cons_zero,List.set_cons_succ,ax,ay]
          rfl
        refine gV (i:=20) (N:=none) #[true,true,true,true,true,true,true,true,true,true,true,true,true,true,true,true,true,true,true,true,true,false,false] rfl rfl (by kernel_rfl) (by decide) (fun K hK=>?_)
        refine gX (w1:=?_) (by rfl) rfl ?_ ?_
        rotate_left
        · go_simp
          rfl
        refine lm (fun W=>BgI w W gf n ((F.set (i+1) true).set (i+1+q) true)∧W.heap[gi]?=some (.cells #[.int .u16 cc,.int .u8 b1,.int .u8 b2,.int .u32 k] 45 (0,0))) ⟨(hw18).set (i+1+q),bQ (hg18) HY.out.2.2.1 _⟩ ?_
        rintro W20 ⟨hw20,hg20⟩
        obtain ⟨m20,z20⟩:=hw20.cell (show i+1+r<n+1 by omega)
        refine hK.out _ _ ⟨((ag hg20 1).trans rfl),((ag hg20 2).trans rfl)⟩ (fun hHeld=>?_)
        clear hK K
        refine aH (i:=21) (N:=some 59) (v:=?_) (a':=?_) #[true,true,true,true,true,true,true,true,true,true,true,true,true,true,true,true,true,true,true,true,true,true,false] rfl rfl (by kernel_rfl) (fun _ _ _ h=>h) (Or.inl ⟨by rfl,?_⟩) ?_ ?_
        rotate_left
        · intro w'
          go_simp
          with_reducible rfl
        rotate_left
        · simp only [Act.put,List.setIfInBounds_toArray,List.set_cons_zero,List.set_cons_succ,ax,ay]
          rfl
        refine gL (i:=22) (N:=none) #[true,true,true,true,true,true,true,true,true,true,true,true,true,true,true,true,true,true,true,true,true,true,true] rfl rfl (by kernel_rfl) (by decide) (fun K hK=>?_)
        refine gX (w1:=?_) (by rfl) rfl ?_ ?_
        rotate_left
        · go_simp
          rfl
        refine hK.out _ _ ?_
        clear hK K
        refine dS (by kernel_rfl) ?_
        have HE:aa (BgI w (W20.setCell ⟨gf,i+1+r,none⟩ (.bool true)) gf n (((F.set (i+1) true).set (i+1+q) true).set (i+1+r) true)):=⟨hw20.set _⟩
        clear e1 e2 e2b e3 e4 e4b p1 p2 p3 m1 z1 m18 z18 m20 z20 hw18 hg18 hw20 hg20 hjt hjf hj1 hj2 hj3 HY
        go_wp2
        go_roundw
        case rel=>exact ⟨i+1,_,by omega,by go_num,⟨HE.out,HN.out⟩⟩
        case measure=>simp [intOf];omega
      have v5b:(v==5)=false:=beq_eq_false_iff_ne.mpr v5
      obtain ⟨m1,z1⟩:=HY.out.1.cell (show i+1<n+1 by omega)
      have hj1:(i:Int)+1<(n:Int)+1:=by omega
      by_cases v6:v=6
      · have v6b:(v==6)=true:=by rw [v6];rfl
        have HN:aa (BgM p (F.set (i+1) true) (i+1)):=⟨(HY.out.2.2.2.old (fun s h=>iA _ h)).next HQ.out.1 ⟨fun h=>absurd h c5,fun h=>absurd (hcj.2 (.inr h)) v5,fun h=>absurd (hcj.2 (.inr h)) v5⟩ (fun _=>jE (by rw [HY.out.1.len];omega))⟩
        clear c5 v5 v6 hcl hcj hcr EV k1 k2 k3
        go_upto_region 10 with (go_at_call 99;refine (HCL.out _).mono ?_;rintro e w' ⟨rfl,⟨nd,rfl⟩⟩)
        refine forget (fun Z=>BgI w Z gf n F∧Z.heap[gi]?=some (.cells #[.int .u16 cc,.int .u8 b1,.int .u8 b2,.int .u32 k] 45 (0,0))) ⟨HY.out.1.below (af (Below.refl _ _) _),aQ HY.out.2.1 _⟩ ?_
        clear m1 z1 k0 HY
        rintro Z ⟨hI,hgi⟩
        have k0:Z.cell? ⟨gi,0,none⟩=some (.int .u16 cc):=(ag hgi 0).trans rfl
        have HZ:=aa.mk hI
        clear hgi hI
        go_upto_region 11 with (go_at_call 99;refine (HCL.out _).mono ?_;rintro e w' ⟨rfl,⟨nd2,rfl⟩⟩)
        refine forget (fun V=>BgI w V gf n F) (HZ.out.below (af (Below.refl _ _) _)) ?_
        clear k0 HZ
        rintro V hI
        obtain ⟨m1,z1⟩:=hI.cell (show i+1<n+1 by omega)
        have HZ:=aa.mk hI
        clear hI
        go_wp2
        go_roundw
        case rel=>exact ⟨i+1,_,by omega,by go_num,⟨HZ.out.set (i+1),HN.out⟩⟩
        case measure=>simp [intOf];omega
      · have v6b:(v==6)=false:=beq_eq_false_iff_ne.mpr v6
        have HN:aa (BgM p F (i+1)):=⟨HY.out.2.2.2.next HQ.out.1 ⟨fun h=>absurd h c5,fun h=>absurd (hcj.2 (.inr h)) v5,fun h=>absurd (hcj.2 (.inr h)) v5⟩ (fun h=>by
          rcases h with h | h
          · exact absurd (EV.out.trans h) v5
          · exact absurd (hcr.2 h) v6)⟩
        clear c5 v5 v6 hcl hcj hcr EV k1 k2 k3 m1 z1
        go_upto_region 10 with (go_at_call 99;refine (HCL.out _).mono ?_;rintro e w' ⟨rfl,⟨nd,rfl⟩⟩)
        refine forget (fun Z=>BgI w Z gf n F∧Z.heap[gi]?=some (.cells #[.int .u16 cc,.int .u8 b1,.int .u8 b2,.int .u32 k] 45 (0,0))) ⟨HY.out.1.below (af (Below.refl _ _) _),aQ HY.out.2.1 _⟩ ?_
        clear k0 HY
        rintro Z ⟨hI,hgi⟩
        have k0:Z.cell? ⟨gi,0,none⟩=some (.int .u16 cc):=(ag hgi 0).trans rfl
        have HZ:=aa.mk hI
        clear hgi hI
        go_wp2_with (go_at_call 99;refine (HCL.out _).mono ?_;rintro e w' ⟨rfl,⟨nd2,rfl⟩⟩)
        go_roundw
        case rel=>exact ⟨i+1,_,by omega,by go_num,⟨HZ.out.below (af (Below.refl _ _) _),HN.out⟩⟩
        case measure=>simp [intOf];omega
    · have hin:i=n:=by omega
      subst hin
      go_wp2
      go_ret
      exact ⟨F,gf,rfl,HI.out.1,HI.out.2⟩
def plF (l:S45):S45:=⟨l.f0,0,0,if usK l.f0=true then l.f3 else 0⟩
def gbF (N:List Int) (c:List S45) (l:S45) (e:Nat):S47:=
  if eF l.f0=6 then ⟨c,1,plF l,0,0⟩
  else if l.f0=5 then ⟨c,2,⟨0,0,0,0⟩,N.getD (e+l.f3.toNat) 0,0⟩
  else if eF l.f0=5 then ⟨c,3,plF l,N.getD (e+l.f1.toNat) 0,N.getD (e+l.f2.toNat) 0⟩
  else ⟨c++[l],2,⟨0,0,0,0⟩,N.getD e 0,0⟩
structure BW (w X:World) (gt gi gl gn:Nat) (l:S45) (N:List Int) (v:Value) (c:List S45):Prop where
  low:Below w.heap.size w X
  t:X.heap[gt]?=some (.cells #[.slice none 0 0,.int .i64 0,.int .u16 0,.int .u8 0,.int .u8 0,.int .u32 0,.int .i64 0,.int .i64 0] 47 (0,0))
  i:X.heap[gi]?=some (.cells #[.int .u16 l.f0,.int .u8 l.f1,.int .u8 l.f2,.int .u32 l.f3] 45 (0,0))
  l:X.heap[gl]?=some (.cells #[.int .u16 l.f0,.int .u8 0,.int .u8 0,.int .u32 (plF l).f3] 45 (0,0))
  n:X.heap[gn]?=some (.cells (inC N) 3 (0,0))
  c:k45.R 45 X w.heap.size (fun _=>True) v c
  gt:w.heap.size≤gt
  own:∀ b,v.ownBlock=some b→b≠gi
theorem tz8 {X:World} {gt T:Nat} (h:X.heap[gt]?=some (.cells #[.slice none 0 0,.int .i64 0,.int .u16 0,.int .u8 0,.int .u8 0,.int .u32 0,.int .i64 0,.int .i64 0] T (0,0))) :
    X.cell? ⟨gt,0,none⟩=some (.slice none 0 0)∧X.cell? ⟨gt,1,none⟩=some (.int .i64 0)∧X.cell? ⟨gt,2,none⟩=some (.int .u16 0)∧X.cell? ⟨gt,3,none⟩=some (.int .u8 0)∧X.cell? ⟨gt,4,none⟩=some (.int .u8 0)∧X.cell? ⟨gt,5,none⟩=some (.int .u32 0)∧X.cell? ⟨gt,6,none⟩=some (.int .i64 0)∧X.cell? ⟨gt,7,none⟩=some (.int .i64 0) ∧
    X.frozen? ⟨gt,0,none⟩=false∧X.frozen? ⟨gt,1,none⟩=false∧X.frozen? ⟨gt,2,none⟩=false∧X.frozen? ⟨gt,3,none⟩=false∧X.frozen? ⟨gt,4,none⟩=false∧X.frozen? ⟨gt,5,none⟩=false∧X.frozen? ⟨gt,6,none⟩=false∧X.frozen? ⟨gt,7,none⟩=false:=
  ⟨(ag h 0).trans rfl,(ag h 1).trans rfl,(ag h 2).trans rfl,(ag h 3).trans rfl,(ag h 4).trans rfl,(ag h 5).trans rfl,(ag h 6).trans rfl,(ag h 7).trans rfl,aj h 0,aj h 1,aj h 2,aj h 3,aj h 4,aj h 5,aj h 6,aj h 7⟩
def st8 (X:World) (g:Nat) (q:Value × S47):World:=(((((((X.setCell ⟨g,0,none⟩ q.1).setCell ⟨g,1,none⟩ (.int .i64 q.2.f1)).setCell ⟨g,2,none⟩ (.int .u16 q.2.f2.f0)).setCell ⟨g,3,none⟩ (.int .u8 q.2.f2.f1)).setCell ⟨g,4,none⟩ (.int .u8 q.2.f2.f2)).setCell ⟨g,5,none⟩ (.int .u32 q.2.f2.f3)).setCell ⟨g,6,none⟩ (.int .i64 q.2.f3)).setCell ⟨g,7,none⟩ (.int .i64 q.2.f4)
theorem lay8 {X:World} {gt T:Nat} {a0 a1 a2 a3 a4 a5 a6 a7:Value} (h:X.heap[gt]?=some (.cells #[a0,a1,a2,a3,a4,a5,a6,a7] T (0,0))) (q:Value × S47):(st8 X gt q).heap[gt]?=some (.cells (b8 q).toArray T (0,0)):=by
  have h0:=aJ h 0 q.1 (cs':=#[q.1,a1,a2,a3,a4,a5,a6,a7]) rfl
  have h1:=aJ h0 1 (.int .i64 q.2.f1) (cs':=#[q.1,.int .i64 q.2.f1,a2,a3,a4,a5,a6,a7]) rfl
  have h2:=aJ h1 2 (.int .u16 q.2.f2.f0) (cs':=#[q.1,.int .i64 q.2.f1,.int .u16 q.2.f2.f0,a3,a4,a5,a6,a7]) rfl
  have h3:=aJ h2 3 (.int .u8 q.2.f2.f1) (cs':=#[q.1,.int .i64 q.2.f1,.int .u16 q.2.f2.f0,.int .u8 q.2.f2.f1,a4,a5,a6,a7]) rfl
  have h4:=aJ h3 4 (.int .u8 q.2.f2.f2) (cs':=#[q.1,.int .i64 q.2.f1,.int .u16 q.2.f2.f0,.int .u8 q.2.f2.f1,.int .u8 q.2.f2.f2,a5,a6,a7]) rfl
  have h5:=aJ h4 5 (.int .u32 q.2.f2.f3) (cs':=#[q.1,.int .i64 q.2.f1,.int .u16 q.2.f2.f0,.int .u8 q.2.f2.f1,.int .u8 q.2.f2.f2,.int .u32 q.2.f2.f3,a6,a7]) rfl
  have h6:=aJ h5 6 (.int .i64 q.2.f3) (cs':=#[q.1,.int .i64 q.2.f1,.int .u16 q.2.f2.f0,.int .u8 q.2.f2.f1,.int .u8 q.2.f2.f2,.int .u32 q.2.f2.f3,.int .i64 q.2.f3,a7]) rfl
  exact aJ h6 7 (.int .i64 q.2.f4) (cs':=#[q.1,.int .i64 q.2.f1,.int .u16 q.2.f2.f0,.int .u8 q.2.f2.f1,.int .u8 q.2.f2.f2,.int .u32 q.2.f2.f3,.int .i64 q.2.f3,.int .i64 q.2.f4]) rfl
theorem vz {S:Nat→Prop} {w W:World} {gb:Nat} {q:Value × S47} (h:Kp S w W) (hS:S gb):Kp S w (st8 W gb q):=
  (((((((h.set (.inl hS) _ _).set (.inl hS) _ _).set (.inl hS) _ _).set (.inl hS) _ _).set (.inl hS) _ _).set (.inl hS) _ _).set (.inl hS) _ _).set (.inl hS) _ _
theorem BW.below {w X Y:World} {gt gi gl gn:Nat} {l:S45} {N:List Int} {v:Value} {c:List S45} (h:BW w X gt gi gl gn l N v c) (hb:Below X.heap.size X Y):BW w Y gt gi gl gn l N v c:=
  ⟨ak h.low hb,au h.t hb,au h.i hb,au h.l hb,au h.n hb,Kd.fq h.c hb,h.gt,h.own⟩
theorem BW.num {w X:World} {gt gi gl gn:Nat} {l:S45} {N:List Int} {v:Value} {c:List S45} (h:BW w X gt gi gl gn l N v c) {j:Nat} (hj:j<N.length):X.cell? ⟨gn,j,none⟩=some (.int .i64 (N.getD j 0)):=(ag h.n j).trans (nN hj)
theorem BW.fin {w X:World} {gt gi gl gn:Nat} {l:S45} {N:List Int} {v:Value} {c:List S45} (h:BW w X gt gi gl gn l N v c) (q:Value × S47):k45.R 45 (st8 X gt q) w.heap.size (fun _=>True) v c∧Below w.heap.size w (st8 X gt q):=by
  have hk:=vz (gb:=gt) (q:=q) (Kp.refl (fun k=>k=gt) X) rfl
  exact ⟨rH h.c (fun k e => .inl ⟨_,_,_,e ▸ h.t,by decide⟩) hk,hk.il h.low h.low.size (fun k e=>e ▸ h.gt)⟩
theorem apx {Y w5:World} {gt gi:Nat} {o1 o2 o3:Obj} {v1:Value} {P Q:Prop} (h1:Y.heap[gt]?=some o1) (h2:Y.heap[gi]?=some o2) (ho:P) (hb:Q) (hg:(Y.alloc o3).grownBy w5 (Value.slice (some ⟨Y.heap.size,0,none⟩) 0 0).ownBlock) (hat:v1.ownBlock=(Value.slice (some ⟨Y.heap.size,0,none⟩) 0 0).ownBlock∨∃ b,v1.ownBlock=some b∧(Y.alloc o3).heap.size≤b) :
    P∧Q∧(∀ b,v1.ownBlock=some b→Y.heap.size≤b)∧w5.heap[gt]?=some o1∧w5.heap[gi]?=some o2∧∀ b,v1.ownBlock=some b→b≠gi:=by
  have hge:∀ b,v1.ownBlock=some b→Y.heap.size≤b:=by
    intro b hb
    rcases hat with e | ⟨b2,e,hle⟩
    · rw [hb] at e
      cases e
      exact Nat.le_refl _
    · rw [hb] at e
      cases e
      have:=(ai (Below.refl _ Y) o3).size
      omega
  have far:∀ {g:Nat} {o:Obj},Y.heap[g]?=some o→w5.heap[g]?=some o:=by
    intro g o h
    have hlt:=(Array.getElem?_eq_some_iff.1 h).1
    refine (hg.block g (Nat.lt_of_lt_of_le hlt (ai (Below.refl _ Y) o3).size) (fun e=>?_)).trans ?_
    · cases e
      exact absurd hlt (Nat.lt_irrefl _)
    · exact ((ai (Below.refl _ Y) o3).block g hlt).trans h
  exact ⟨ho,hb,hge,far h1,far h2,fun b hb e=>by have:=hge b hb;have:=(Array.getElem?_eq_some_iff.1 h2).1;omega⟩
theorem nK (w:World) (p:List S45) (A:Option Addr) (c0:Nat) (gn:Nat) (N:List Int) (a e:Nat) (l:S45) (HP:Kd.C k45 w A p.length p) (hc:p.length≤c0) (hp:p.length≤4096) (hn:w.heap[gn]?=some (.cells (inC N) 3 (0,0))) (hN:N.length=p.length)
    (hae:a<e) (hen:e≤p.length) (hl:p[e - 1]?=some l) (hrg:Rg l.f3) (hja:l.f0=5→e+l.f3.toNat<p.length) (hjm:jmB l.f0=true→0≤l.f1∧0≤l.f2∧e+l.f1.toNat<p.length∧e+l.f2.toNat<p.length) (hfl:¬eF l.f0=6→e<p.length) :
    Calls Try.prog 67 #[.slice A p.length c0,.int .i64 a,.int .i64 e,.slice (some ⟨gn,0,none⟩) p.length p.length] w fun E w'=>∃ v,E = .returned (.agg #[v,.int .i64 (gbF N ((p.take (e - 1)).drop a) l e).f1,.int .u16 (gbF N ((p.take (e - 1)).drop a) l e).f2.f0,.int .u8 (gbF N ((p.take (e - 1)).drop a) l e).f2.f1,.int .u8 (gbF N ((p.take (e - 1)).drop a) l e).f2.f2,.int .u32 (gbF N ((p.take (e - 1)).drop a) l e).f2.f3,.int .i64 (gbF N ((p.take (e - 1)).drop a) l e).f3,.int .i64 (gbF N ((p.take (e - 1)).drop a) l e).f4])∧k45.R 45 w' w.heap.size (fun _=>True) v (gbF N ((p.take (e - 1)).drop a) l e).f0∧Below w.heap.size w w':=by
  have hu:=Try.underlying26
  obtain ⟨inf,hinf,_,hsz,_⟩:=info_parts iU
  have hcut:=cut_mid (P:=Try.prog) 26 45 .i64 .i64 Try.underlying26 hinf 4 hsz A p.length c0 (a:Int) ((e:Int) - 1) (by omega) (by omega) (by omega) hc
  have hmid:=Kd.C_mid (lo:=a) (hi:=e - 1) (c:=c0) HP (by omega) (by omega) hc
  rw [Int.toNat_natCast,show ((e:Int) - 1).toNat=e - 1 by omega] at hcut
  obtain ⟨A1,eA1⟩:∃ A1,A1=(if c0=a then A else A.map (·.add (a*4))):=⟨_,rfl⟩
  have hml:((p.take (e - 1)).drop a).length=e - 1 - a:=by rw [List.length_drop,List.length_take];omega
  rw [←eA1] at hcut
  rw [show (if c0=a then A else A.map (·.add (a*k45.sz)))=A1 from eA1.symm] at hmid
  obtain ⟨cd,ecd⟩:∃ cd,cd=(p.take (e - 1)).drop a:=⟨_,rfl⟩
  rw [←ecd] at hmid hml ⊢
  have HML:=aa.mk hml
  have HMID:=aa.mk hmid
  rw [←hml] at hcut
  have hlen4:cd.length≤4096:=by omega
  have hrd:bg p ((e:Int) - 1)=l:=by
    obtain ⟨q1,q2⟩:=List.getElem?_eq_some_iff.1 hl
    rw [show (e:Int) - 1=((e - 1:Nat):Int) by omega,fV q1,q2]
  have HC:=aa.mk HP
  have HRD:=aa.mk hrd
  have HNN:=aa.mk (And.intro hn hN)
  have HJ:=aa.mk (And.intro hrg (And.intro hja (And.intro hjm hfl)))
  obtain ⟨n,en⟩:∃ n,n=p.length:=⟨_,rfl⟩
  rw [←en] at hp hen HC hcut ⊢
  have EN:=aa.mk en
  have e0:(0:Int)≤(e:Int) - 1:=by omega
  have e1:(e:Int) - 1<(n:Int):=by omega
  obtain ⟨l0,l1,l2,l3⟩:=l
  clear HP hc hn hN hl hrg hja hjm hfl hinf hsz hmid hml hrd eA1 ecd en
  obtain ⟨ad,rfl,-⟩:=fK HC ⟨Below.refl _ w⟩ ((e:Int) - 1) (decide_eq_true e0) (decide_eq_true e1)
  have HR:aa (∀ W:World,Below w.heap.size w W→W.cell? (ad.add ((e - 1)*4))=some (.int .u16 l0)∧W.cell? ⟨(ad.add ((e - 1)*4)).block,(ad.add ((e - 1)*4)).off+1,none⟩=some (.int .u8 l1)∧W.cell? ⟨(ad.add ((e - 1)*4)).block,(ad.add ((e - 1)*4)).off+2,none⟩=some (.int .u8 l2)∧W.cell? ⟨(ad.add ((e - 1)*4)).block,(ad.add ((e - 1)*4)).off+3,none⟩=some (.int .u32 l3)):=⟨fun W hW=>by
    obtain ⟨x0,x1,x2,x3,-,-⟩:=fD HC ⟨hW⟩ ((e:Int) - 1) (decide_eq_true e0) (decide_eq_true e1)
    rw [HRD.out,show ((e:Int) - 1).toNat=e - 1 by omega] at x0 x1 x2 x3
    exact ⟨x0,x1,x2,x3⟩⟩
  go_enter Try.func67,Try.ntmps67
  go_upto_region 1 with (fail)
  refine forget (fun X=>∃ gt,gt=w.heap.size∧Below w.heap.size w X∧X.heap[gt]?=some (.cells #[.slice none 0 0,.int .i64 0,.int .u16 0,.int .u8 0,.int .u8 0,.int .u32 0,.int .i64 0,.int .i64 0] 47 (0,0))∧w.heap.size≤gt) ⟨_,rfl,ai (Below.refl _ _) _,heap_alloc_new _ _,Nat.le_refl _⟩ ?_
  rintro X ⟨gt,egt,hb,ht,hge⟩
  rw [←egt]
  obtain ⟨x0,x1,x2,x3⟩:=HR.out X hb
  have HX:=aa.mk (And.intro hb (And.intro ht hge))
  have HGT0:=aa.mk hge
  clear egt hb ht hge
  go_upto_region 2 with (fail)
  refine forget (fun Y=>∃ gi,gi=X.heap.size∧Below w.heap.size w Y∧Y.heap[gt]?=some (.cells #[.slice none 0 0,.int .i64 0,.int .u16 0,.int .u8 0,.int .u8 0,.int .u32 0,.int .i64 0,.int .i64 0] 47 (0,0))∧Y.heap[gi]?=some (.cells #[.int .u16 l0,.int .u8 l1,.int .u8 l2,.int .u32 l3] 45 (0,0))) ⟨_,rfl,ai HX.out.1 _,au HX.out.2.1 (ai (Below.refl _ _) _),heap_alloc_new _ _⟩ ?_
  clear x0 x1 x2 x3
  rintro Y ⟨gi,egi,hb,ht,hi⟩
  rw [←egi]
  have HY:=aa.mk (And.intro hb (And.intro ht hi))
  have HRE:aa (k45.R 45 (Y.alloc (.cells #[] 45)) w.heap.size (fun _=>True) (.slice (some ⟨Y.heap.size,0,none⟩) 0 0) []):=⟨nu (tJ Y) (fun g hg=>⟨by cases hg;exact hb.size,trivial⟩)⟩
  have HCV:aa (k45.C (Y.alloc (.cells #[] 45)) A1 cd.length cd):=⟨Kd.dx (Kd.bJ HMID.out hb) _⟩
  clear egi hb ht hi
  go_upto_region 3 with (at_builtin;go_loud ((refine Kd.iq k45 (w0:=w) w.heap.size rfl (.tmp 20) (.tmp 25) 26 45 (.agg #[.int .u16 0,.int .u8 0,.int .u8 0,.int .u32 0]) 8 rfl hu iU rfl (by decide) (by decide) _ _ cd _ cd.length _ (fun _=>True) (fun _=>False) rfl rfl HRE.out HCV.out (fun x cs h=>by obtain rfl:=iE h;exact ik _ _ _ x) (fun _ h=>h.elim) (fun _ _=>trivial) (ai HY.out.1 _) (ai HY.out.1 _).size (by simp only [List.length_nil];omega) ?_);intro v1 w5 ho hb hg hat;rw [List.nil_append] at ho;have HC4:=aa.mk (And.intro ho (And.intro hb (And.intro hg hat)));clear ho hb hg hat))
  obtain ⟨Av,cv,rfl⟩:=Kd.dz HC4.out.1
  have HC5:=aa.mk (apx HY.out.2.1 HY.out.2.2 HC4.out.1 HC4.out.2.1 HC4.out.2.2.1 HC4.out.2.2.2)
  clear HC4
  refine forget (fun Z=>Below w.heap.size w Z∧Z.heap[gt]?=some (.cells #[.slice none 0 0,.int .i64 0,.int .u16 0,.int .u8 0,.int .u8 0,.int .u32 0,.int .i64 0,.int .i64 0] 47 (0,0))∧Z.heap[gi]?=some (.cells #[.int .u16 l0,.int .u8 l1,.int .u8 l2,.int .u32 l3] 45 (0,0))∧k45.R 45 Z w.heap.size (fun _=>True) (.slice Av cd.length cv) cd∧∀ b,(Value.slice Av cd.length cv).ownBlock=some b→b≠gi) ⟨HC5.out.2.1,HC5.out.2.2.2.1,HC5.out.2.2.2.2.1,HC5.out.1,HC5.out.2.2.2.2.2⟩ ?_
  clear HRE HCV HC5 HY HX hcut HMID HR
  rintro Z ⟨hb,ht,hi,hR,hown⟩
  have HZ:=aa.mk (And.intro hb (And.intro ht (And.intro hi (And.intro hR hown))))
  have k0:Z.cell? ⟨gi,0,none⟩=some (.int .u16 l0):=(ag hi 0).trans rfl
  obtain ⟨u2,u3,hus⟩:=(vL l0 10).1
  obtain ⟨uk,euk⟩:∃ uk,uk=usK l0:=⟨_,rfl⟩
  rw [←euk] at hus
  have HU:=aa.mk (fun W=>dW.calls 18 l0 uk u2 u3 W hus)
  have EUK:=aa.mk euk
  clear hb ht hi hR hown hus euk
  go_upto_region 4 with (go_at_call 100;refine (HU.out _).mono ?_;rintro e w' ⟨rfl,⟨nd,rfl⟩⟩)
  refine forget (fun V=>Below w.heap.size w V∧V.heap[gt]?=some (.cells #[.slice none 0 0,.int .i64 0,.int .u16 0,.int .u8 0,.int .u8 0,.int .u32 0,.int .i64 0,.int .i64 0] 47 (0,0))∧V.heap[gi]?=some (.cells #[.int .u16 l0,.int .u8 l1,.int .u8 l2,.int .u32 l3] 45 (0,0))∧k45.R 45 V w.heap.size (fun _=>True) (.slice Av cd.length cv) cd) ⟨ak HZ.out.1 (af (Below.refl _ _) _),aQ HZ.out.2.1 _,aQ HZ.out.2.2.1 _,Kd.fq HZ.out.2.2.2.1 (af (Below.refl _ _) _)⟩ ?_
  clear k0 HU
  rintro V ⟨hb,ht,hi,hR⟩
  have HV:=aa.mk (And.intro hb (And.intro ht (And.intro hi (And.intro hR HZ.out.2.2.2.2))))
  have k0:V.cell? ⟨gi,0,none⟩=some (.int .u16 l0):=(ag hi 0).trans rfl
  clear hb ht hi hR HZ
  go_upto_region 5 with (fail)
  refine forget (fun U=>∃ gl,gl=V.heap.size∧Below w.heap.size w U∧U.heap[gt]?=some (.cells #[.slice none 0 0,.int .i64 0,.int .u16 0,.int .u8 0,.int .u8 0,.int .u32 0,.int .i64 0,.int .i64 0] 47 (0,0))∧U.heap[gi]?=some (.cells #[.int .u16 l0,.int .u8 l1,.int .u8 l2,.int .u32 l3] 45 (0,0))∧U.heap[gl]?=some (.cells #[.int .u16 l0,.int .u8 0,.int .u8 0,.int .u32 0] 45 (0,0))∧k45.R 45 U w.heap.size (fun _=>True) (.slice Av cd.length cv) cd∧w.heap.size≤gl∧gi≠gl∧gt≠gl∧∀ b,(Value.slice Av cd.length cv).ownBlock=some b→b≠gl)
    ⟨_,rfl,ai HV.out.1 _,au HV.out.2.1 (ai (Below.refl _ _) _),au HV.out.2.2.1 (ai (Below.refl _ _) _),heap_alloc_new _ _,Kd.fq HV.out.2.2.2.1 (ai (Below.refl _ _) _),HV.out.1.size,(by have:=aZ HV.out.2.2.1;omega),(by have:=aZ HV.out.2.1;omega),fun b hb=>by have:=Kd.R_lt HV.out.2.2.2.1 b hb;omega⟩ ?_
  clear k0
  rintro U ⟨gl,egl,hb,ht,hi,hl,hR,hge,hne1,hne2,hne3⟩
  rw [←egl]
  have HU:=aa.mk (And.intro hb (And.intro ht (And.intro hi (And.intro hl (And.intro hR (And.intro hge (And.intro hne1 (And.intro hne2 (And.intro hne3 HV.out.2.2.2.2)))))))))
  have k3:U.cell? ⟨gi,3,none⟩=some (.int .u32 l3):=(ag hi 3).trans rfl
  have l3c:U.cell? ⟨gl,3,none⟩=some (.int .u32 0):=(ag hl 3).trans rfl
  have l3f:U.frozen? ⟨gl,3,none⟩=false:=aj hl 3
  have HGT:aa (w.heap.size≤gt):=⟨HGT0.out⟩
  clear egl hb ht hi hl hR hge hne1 hne2 hne3 HV
  cases uk
  case' false=>
    go_upto_region 7 with (fail)
    refine forget (fun X=>BW w X gt gi gl gn ⟨l0,l1,l2,l3⟩ N (.slice Av cd.length cv) cd) ⟨HU.out.1,HU.out.2.1,HU.out.2.2.1,by rw [show (plF ⟨l0,l1,l2,l3⟩).f3=0 by unfold plF;dsimp only;rw [←EUK.out];rfl];exact HU.out.2.2.2.1,au HNN.out.1 HU.out.1,HU.out.2.2.2.2.1,HGT.out,HU.out.2.2.2.2.2.2.2.2.2⟩ ?_
  case' true=>
    go_upto_region 7 with (fail)
    refine forget (fun X=>BW w X gt gi gl gn ⟨l0,l1,l2,l3⟩ N (.slice Av cd.length cv) cd) ⟨bU HU.out.1 HU.out.2.2.2.2.2.1,bQ HU.out.2.1 HU.out.2.2.2.2.2.2.2.1 _,bQ HU.out.2.2.1 HU.out.2.2.2.2.2.2.1 _,by rw [show (plF ⟨l0,l1,l2,l3⟩).f3=l3 by unfold plF;dsimp only;rw [←EUK.out];rfl];exact aJ HU.out.2.2.2.1 3 _ rfl,au HNN.out.1 (bU HU.out.1 HU.out.2.2.2.2.2.1),(nu ((qQ HU.out.2.2.2.2.1).kp (Kp.set (S:=fun k=>k=gl) (g:=gl) (Kp.refl _ U) (.inl rfl) 3 _) (fun g hg e=>HU.out.2.2.2.2.2.2.2.2.1 g hg e)) (fun g hg=>⟨((Kd.fu HU.out.2.2.2.2.1).1 g hg).2.1,trivial⟩)),HGT.out,HU.out.2.2.2.2.2.2.2.2.2⟩ ?_
  all_goals
    clear k3 l3c l3f HU
    rintro X hX
    have HX:=aa.mk hX
    have HCL:=aa.mk (fun W=>bK.calls 18 l0 _ W (iL l0 10).1)
    have hcj:=fA l0
    have k0:X.cell? ⟨gi,0,none⟩=some (.int .u16 l0):=(ag hX.i 0).trans rfl
    obtain ⟨pk,epk⟩:∃ pk,pk=(plF ⟨l0,l1,l2,l3⟩).f3:=⟨_,rfl⟩
    have epl:plF ⟨l0,l1,l2,l3⟩=⟨l0,0,0,pk⟩:=by rw [epk];rfl
    have EPK:=aa.mk epk
    obtain ⟨gb,egb⟩:∃ gb,gb=gbF N cd ⟨l0,l1,l2,l3⟩ e:=⟨_,rfl⟩
    have hgb:=egb
    unfold gbF at hgb
    try dsimp only at hgb
    rw [epl] at hgb
    have hJ:=HJ.out
    try dsimp only at hJ
    rw [←EN.out] at hJ
    have hNl:=HNN.out.2
    rw [←EN.out] at hNl
    obtain ⟨v,ev⟩:∃ v,v=eF l0:=⟨_,rfl⟩
    rw [←ev] at HCL hcj hgb hJ
    have HNL:=aa.mk hNl
    clear ev epk epl hX hNl
    by_cases c6:v=6
    · have b6:(v==6)=true:=by rw [c6];rfl
      rw [if_pos c6] at hgb
      have HGB:=aa.mk (egb.symm.trans hgb)
      clear c6 hgb egb hcj hJ HJ
      go_upto_region 8 with (go_at_call 99;refine (HCL.out _).mono ?_;rintro e w' ⟨rfl,⟨nd,rfl⟩⟩)
      refine forget (fun X=>BW w X gt gi gl gn ⟨l0,l1,l2,l3⟩ N (.slice Av cd.length cv) cd) (HX.out.below (af (Below.refl _ _) _)) ?_
      clear k0 HX
      rintro X hX
      have HX:=aa.mk hX
      obtain ⟨t0,t1,t2,t3,t4,t5,t6,t7,f0,f1,f2,f3,f4,f5,f6,f7⟩:=tz8 hX.t
      have m0:X.cell? ⟨gl,0,none⟩=some (.int .u16 l0):=(ag hX.l 0).trans rfl
      have m1:X.cell? ⟨gl,1,none⟩=some (.int .u8 0):=(ag hX.l 1).trans rfl
      have m2:X.cell? ⟨gl,2,none⟩=some (.int .u8 0):=(ag hX.l 2).trans rfl
      have m3:X.cell? ⟨gl,3,none⟩=some (.int .u32 pk):=(ag hX.l 3).trans (by rw [EPK.out];rfl)
      clear hX
      go_wp2
      refine bodyPost_ret (results_cell_row rfl _ _ gt 47 (b8 ((.slice Av cd.length cv),⟨cd,1,⟨l0,0,0,pk⟩,0,0⟩)).toArray (0,0) _ rfl (lay8 HX.out.t ((.slice Av cd.length cv),⟨cd,1,⟨l0,0,0,pk⟩,0,0⟩)) Try.underlying47 rfl (by kernel_rfl)) rfl ?_
      rw [HGB.out]
      exact ⟨(.slice Av cd.length cv),rfl,(HX.out.fin ((.slice Av cd.length cv),⟨cd,1,⟨l0,0,0,pk⟩,0,0⟩)).1,(HX.out.fin ((.slice Av cd.length cv),⟨cd,1,⟨l0,0,0,pk⟩,0,0⟩)).2⟩
    have b6:(v==6)=false:=beq_eq_false_iff_ne.mpr c6
    rw [if_neg c6] at hgb
    by_cases c5:l0=5
    · have b5:(l0==5)=true:=beq_iff_eq.mpr c5
      rw [if_pos c5] at hgb
      obtain ⟨q,hq⟩:∃ q:Nat,l3=(q:Int):=⟨l3.toNat,by have:=hJ.1.1;omega⟩
      have hlt:=hJ.2.1 c5
      have eq3:l3.toNat=q:=by omega
      rw [eq3] at hgb hlt
      obtain ⟨z,ez⟩:∃ z,z=N.getD (e+q) 0:=⟨_,rfl⟩
      rw [←ez] at hgb
      have HGB:=aa.mk (egb.symm.trans hgb)
      have HEZ:=aa.mk (And.intro ez hq)
      clear c6 c5 hgb egb hcj hJ HJ ez eq3 hq
      go_upto_region 10 with (go_at_call 99;refine (HCL.out _).mono ?_;rintro e w' ⟨rfl,⟨nd,rfl⟩⟩)
      refine forget (fun X=>BW w X gt gi gl gn ⟨l0,l1,l2,l3⟩ N (.slice Av cd.length cv) cd) (HX.out.below (af (Below.refl _ _) _)) ?_
      clear k0 HX
      rintro X hX
      have HX:=aa.mk hX
      obtain ⟨t0,t1,t2,t3,t4,t5,t6,t7,f0,f1,f2,f3,f4,f5,f6,f7⟩:=tz8 hX.t
      have k3:X.cell? ⟨gi,3,none⟩=some (.int .u32 q):=(ag hX.i 3).trans (by rw [←HEZ.out.2];rfl)
      have kz:X.cell? ⟨gn,e+q,none⟩=some (.int .i64 z):=by rw [HEZ.out.1];exact hX.num (by rw [HNL.out];omega)
      clear hX
      go_wp2
      refine bodyPost_ret (results_cell_row rfl _ _ gt 47 (b8 ((.slice Av cd.length cv),⟨cd,2,⟨0,0,0,0⟩,z,0⟩)).toArray (0,0) _ rfl (lay8 HX.out.t ((.slice Av cd.length cv),⟨cd,2,⟨0,0,0,0⟩,z,0⟩)) Try.underlying47 rfl (by kernel_rfl)) rfl ?_
      rw [HGB.out]
      exact ⟨(.slice Av cd.length cv),rfl,(HX.out.fin ((.slice Av cd.length cv),⟨cd,2,⟨0,0,0,0⟩,z,0⟩)).1,(HX.out.fin ((.slice Av cd.length cv),⟨cd,2,⟨0,0,0,0⟩,z,0⟩)).2⟩
    have b5:(l0==5)=false:=beq_eq_false_iff_ne.mpr c5
    rw [if_neg c5] at hgb
    by_cases v5:v=5
    · have bv:(v==5)=true:=by rw [v5];rfl
      rw [if_pos v5] at hgb
      have cj:jmB l0=true:=by
        rcases hcj.1 v5 with h | h
        · exact absurd h c5
        · exact h
      have hj:=hJ.2.2.1 cj
      obtain ⟨q,hq⟩:∃ q:Nat,l1=(q:Int):=⟨l1.toNat,by omega⟩
      obtain ⟨r,hr⟩:∃ r:Nat,l2=(r:Int):=⟨l2.toNat,by omega⟩
      have eq1:l1.toNat=q:=by omega
      have eq2:l2.toNat=r:=by omega
      rw [eq1,eq2] at hgb hj
      have hlt1:=hj.2.2.1
      have hlt2:=hj.2.2.2
      obtain ⟨z,ez⟩:∃ z,z=N.getD (e+q) 0:=⟨_,rfl⟩
      obtain ⟨y,ey⟩:∃ y,y=N.getD (e+r) 0:=⟨_,rfl⟩
      rw [←ez,←ey] at hgb
      have HGB:=aa.mk (egb.symm.trans hgb)
      have HEZ:=aa.mk (And.intro (And.intro ez ey) (And.intro hq hr))
      clear c6 c5 v5 hgb egb hcj hJ HJ ez ey eq1 eq2 hq hr hj cj
      go_upto_region 11 with (go_at_call 99;refine (HCL.out _).mono ?_;rintro e w' ⟨rfl,⟨nd,rfl⟩⟩)
      refine forget (fun X=>BW w X gt gi gl gn ⟨l0,l1,l2,l3⟩ N (.slice Av cd.length cv) cd) (HX.out.below (af (Below.refl _ _) _)) ?_
      clear k0 HX
      rintro X hX
      have HX:=aa.mk hX
      have k0:X.cell? ⟨gi,0,none⟩=some (.int .u16 l0):=(ag hX.i 0).trans rfl
      clear hX
      go_upto_region 12 with (go_at_call 99;refine (HCL.out _).mono ?_;rintro e w' ⟨rfl,⟨nd2,rfl⟩⟩)
      refine forget (fun X=>BW w X gt gi gl gn ⟨l0,l1,l2,l3⟩ N (.slice Av cd.length cv) cd) (HX.out.below (af (Below.refl _ _) _)) ?_
      clear k0 HX
      rintro X hX
      have HX:=aa.mk hX
      obtain ⟨t0,t1,t2,t3,t4,t5,t6,t7,f0,f1,f2,f3,f4,f5,f6,f7⟩:=tz8 hX.t
      have m0:X.cell? ⟨gl,0,none⟩=some (.int .u16 l0):=(ag hX.l 0).trans rfl
      have m1:X.cell? ⟨gl,1,none⟩=some (.int .u8 0):=(ag hX.l 1).trans rfl
      have m2:X.cell? ⟨gl,2,none⟩=some (.int .u8 0):=(ag hX.l 2).trans rfl
      have m3:X.cell? ⟨gl,3,none⟩=some (.int .u32 pk):=(ag hX.l 3).trans (by rw [EPK.out];rfl)
      have k1:X.cell? ⟨gi,1,none⟩=some (.int .u8 q):=(ag hX.i 1).trans (by rw [←HEZ.out.2.1];rfl)
      have k2:X.cell? ⟨gi,2,none⟩=some (.int .u8 r):=(ag hX.i 2).trans (by rw [←HEZ.out.2.2];rfl)
      have kz:X.cell? ⟨gn,e+q,none⟩=some (.int .i64 z):=by rw [HEZ.out.1.1];exact hX.num (by rw [HNL.out];omega)
      have ky:X.cell? ⟨gn,e+r,none⟩=some (.int .i64 y):=by rw [HEZ.out.1.2];exact hX.num (by rw [HNL.out];omega)
      clear hX
      go_region
      go_wp2
      refine bodyPost_ret (results_cell_row rfl _ _ gt 47 (b8 ((.slice Av cd.length cv),⟨cd,3,⟨l0,0,0,pk⟩,z,y⟩)).toArray (0,0) _ rfl (au (lay8 HX.out.t ((.slice Av cd.length cv),⟨cd,3,⟨l0,0,0,pk⟩,z,y⟩)) (ae (Below.refl _ _))) Try.underlying47 rfl (by kernel_rfl)) rfl ?_
      rw [HGB.out]
      exact ⟨(.slice Av cd.length cv),rfl,Kd.fq (HX.out.fin ((.slice Av cd.length cv),⟨cd,3,⟨l0,0,0,pk⟩,z,y⟩)).1 (ae (Below.refl _ _)),ae (HX.out.fin ((.slice Av cd.length cv),⟨cd,3,⟨l0,0,0,pk⟩,z,y⟩)).2⟩
    · have bv:(v==5)=false:=beq_eq_false_iff_ne.mpr v5
      rw [if_neg v5] at hgb
      have hlt:=hJ.2.2.2 c6
      obtain ⟨z,ez⟩:∃ z,z=N.getD e 0:=⟨_,rfl⟩
      rw [←ez] at hgb
      have HGB:=aa.mk (egb.symm.trans hgb)
      have HEZ:=aa.mk ez
      clear c6 c5 v5 hgb egb hcj hJ HJ ez
      go_upto_region 11 with (go_at_call 99;refine (HCL.out _).mono ?_;rintro e w' ⟨rfl,⟨nd,rfl⟩⟩)
      refine forget (fun X=>BW w X gt gi gl gn ⟨l0,l1,l2,l3⟩ N (.slice Av cd.length cv) cd) (HX.out.below (af (Below.refl _ _) _)) ?_
      clear k0 HX
      rintro X hX
      have HX:=aa.mk hX
      have k0:X.cell? ⟨gi,0,none⟩=some (.int .u16 l0):=(ag hX.i 0).trans rfl
      clear hX
      go_upto_region 13 with (go_at_call 99;refine (HCL.out _).mono ?_;rintro e w' ⟨rfl,⟨nd2,rfl⟩⟩)
      refine forget (fun X=>BW w X gt gi gl gn ⟨l0,l1,l2,l3⟩ N (.slice Av cd.length cv) cd) (HX.out.below (af (Below.refl _ _) _)) ?_
      clear k0 HX
      rintro X hX
      have HX:=aa.mk hX
      have kz:X.cell? ⟨gn,e,none⟩=some (.int .i64 z):=by rw [HEZ.out];exact hX.num (by rw [HNL.out];omega)
      have KZ:aa (∀ W:World,Below w.heap.size w W→W.cell? ⟨gn,e,none⟩=some (.int .i64 z)):=⟨fun W hW=>by
        rw [HEZ.out]
        exact (ag (au HNN.out.1 hW) e).trans (nN (by rw [HNL.out];omega))⟩
      have j0:(0:Int)≤(e:Int):=by omega
      have j1:(e:Int)<(n:Int):=by omega
      clear hX
      refine dR (n:=10) (S:=fun w'=>w'.cell? ⟨gi,0,none⟩=some (.int .u16 l0)∧w'.cell? ⟨gi,1,none⟩=some (.int .u8 l1)∧w'.cell? ⟨gi,2,none⟩=some (.int .u8 l2)∧w'.cell? ⟨gi,3,none⟩=some (.int .u32 l3)∧w'.cell? ⟨gn,e,none⟩=some (.int .i64 z)) (ds:=[9]) #[false,false,false,false,false,false,false,false,false,false] (by kernel_rfl) rfl rfl ⟨((ag (au HX.out.i (ae (Below.refl _ _))) 0).trans rfl),((ag (au HX.out.i (ae (Below.refl _ _))) 1).trans rfl),((ag (au HX.out.i (ae (Below.refl _ _))) 2).trans rfl),((ag (au HX.out.i (ae (Below.refl _ _))) 3).trans rfl),(aI (ae (Below.refl _ _)) kz)⟩ (fun hHeld=>?_)
      refine aH (i:=0) (N:=some 87) (v:=?_) (a':=?_) #[true,false,false,false,false,false,false,false,false,false] rfl rfl (by kernel_rfl) (fun _ _ _ h=>h) (Or.inl ⟨by rfl,?_⟩) ?_ ?_
      rotate_left
      · intro w'
        go_simp
        with_reducible rfl
      rotate_left
      · simp only [Act.put,List.setIfInBounds_toArray,List.set_cons_zero,List.set_cons_succ,ax,ay]
        rfl
      refine aH (i:=4) (N:=some 91) (v:=?_) (a':=?_) #[true,false,false,false,true,false,false,false,false,false] rfl rfl (by kernel_rfl) (fun _ _ _ h=>h) (Or.inl ⟨by rfl,?_⟩) ?_ ?_
      rotate_left
      · intro w'
        go_simp
        with_reducible rfl
      rotate_left
      · simp only [Act.put,List.setIfInBounds_toArray,List.set_cons_zero,List.set_cons_succ,ax,ay]
        rfl
      refine aH (i:=5) (N:=some 92) (v:=?_) (a':=?_) #[true,false,false,false,true,true,false,false,false,false] rfl rfl (by kernel_rfl) (fun _ _ _ h=>h) (Or.inl ⟨by rfl,?_⟩) ?_ ?_
      rotate_left
      · intro w'
        go_simp
        with_reducible rfl
      rotate_left
      · simp only [Act.put,List.setIfInBounds_toArray,List.set_cons_zero,List.set_cons_succ,ax,ay]
        rfl
      refine aH (i:=6) (N:=some 93) (v:=?_) (a':=?_) #[true,false,false,false,true,true,true,false,false,false] rfl rfl (by kernel_rfl) (fun _ _ _ h=>h) (Or.inl ⟨by rfl,?_⟩) ?_ ?_
      rotate_left
      · intro w'
        go_simp
        with_reducible rfl
      rotate_left
      · simp only [Act.put,List.setIfInBounds_toArray,List.set_cons_zero,List.set_cons_succ,ax,ay]
        rfl
      refine cu (i:=1) (N:=some 88) (v:=?_) (a':=?_) #[true,true,false,false,true,true,true,false,false,false] rfl rfl (by kernel_rfl) (fun _ _ _ h=>h) (Or.inl ⟨by rfl,?_⟩) hHeld ?_ ?_
      rotate_left
      · rintro w' ⟨s0,s1,s2,s3,s4⟩
        go_simp
        with_reducible rfl
      rotate_left
      · simp only [Act.put,List.setIfInBounds_toArray,List.set_cons_zero,List.set_cons_succ,ax,ay]
        rfl
      refine cu (i:=7) (N:=some 94) (v:=?_) (a':=?_) #[true,true,false,false,true,true,true,true,false,false] rfl rfl (by kernel_rfl) (fun _ _ _ h=>h) (Or.inl ⟨by rfl,?_⟩) hHeld ?_ ?_
      rotate_left
      · rintro w' ⟨s0,s1,s2,s3,s4⟩
        go_simp
        with_reducible rfl
      rotate_left
      · simp only [Act.put,List.setIfInBounds_toArray,List.set_cons_zero,List.set_cons_succ,ax,ay]
        rfl
      refine gV (i:=2) (N:=some 89) #[true,true,true,false,true,true,true,true,false,false] rfl rfl (by kernel_rfl) (by decide) (fun K hK=>?_)
      refine oh (w1:=?_) (v:=?_) (by rfl) rfl ?_ ?_
      rotate_left 2
      · go_simp
        constructor
        · rfl
        · rfl
      refine hK.out _ _ ⟨((ag (au HX.out.i (ae (ai (Below.refl _ _) _))) 0).trans rfl),((ag (au HX.out.i (ae (ai (Below.refl _ _) _))) 1).trans rfl),((ag (au HX.out.i (ae (ai (Below.refl _ _) _))) 2).trans rfl),((ag (au HX.out.i (ae (ai (Below.refl _ _) _))) 3).trans rfl),(aI (ae (ai (Below.refl _ _) _)) kz)⟩ (fun hHeld=>?_)
      clear hK K
      refine fe (a':=?_) ?_ ?_
      rotate_left
      · show Act.put _ (some 89) _=_
        simp only [Act.put,List.setIfInBounds_toArray,List.set_cons_zero,List.set_cons_succ,ax,ay]
        rfl
      refine gV (i:=3) (N:=some 90) #[true,true,true,true,true,true,true,true,false,false] rfl rfl (by kernel_rfl) (by decide) (fun K hK=>?_)
      refine gp k45 (w0:=w) (W:=X) w.heap.size (.tmp 87) (.tmp 89) 26 45 (.agg #[.int .u16 0,.int .u8 0,.int .u8 0,.int .u32 0]) 8 (by rfl) (by rfl) hu iU rfl (by decide) (by decide) (.slice Av cd.length cv) cd ⟨l0,l1,l2,l3⟩ [.int .u16 l0,.int .u8 l1,.int .u8 l2,.int .u32 l3] (by rfl) (by rfl) (ik _ _ _ ⟨l0,l1,l2,l3⟩) HX.out.c HX.out.low HX.out.low.size (by omega) ?_
      intro v2 w6 hR hB hG
      obtain ⟨A2,c2,rfl⟩:=Kd.dz hR
      have hgi6:=(hG.block gi (aZ HX.out.i) (fun e=>HX.out.own gi e.symm rfl)).trans HX.out.i
      have hgt6:=(hG.block gt (aZ HX.out.t) (Kd.jH HX.out.c HX.out.t (by decide))).trans HX.out.t
      have hgn6:w6.cell? ⟨gn,e,none⟩=some (.int .i64 z):=KZ.out _ hB
      obtain ⟨t0,t1,t2,t3,t4,t5,t6,t7,f0,f1,f2,f3,f4,f5,f6,f7⟩:=tz8 hgt6
      have H6:=aa.mk (And.intro hR (And.intro hB hgt6))
      clear hR hB hG
      refine hK.out _ _ ⟨((ag hgi6 0).trans rfl),((ag hgi6 1).trans rfl),((ag hgi6 2).trans rfl),((ag hgi6 3).trans rfl),hgn6⟩ (fun hHeld=>?_)
      clear hK K
      refine fe (a':=?_) ?_ ?_
      rotate_left
      · show Act.put _ (some 90) _=_
        simp only [Act.put,List.setIfInBounds_toArray,List.set_cons_zero,List.set_cons_succ,ax,ay]
        rfl
      refine aH (i:=8) (N:=some 95) (v:=?_) (a':=?_) #[true,true,true,true,true,true,true,true,true,false] rfl rfl (by kernel_rfl) (fun _ _ _ h=>h) (Or.inl ⟨by rfl,?_⟩) ?_ ?_
      rotate_left
      · intro w'
        go_simp
        with_reducible rfl
      rotate_left
      · simp only [Act.put,List.setIfInBounds_toArray,List.set_cons_zero,List.set_cons_succ,ax,ay]
        rfl
      refine gL (i:=9) (N:=none) #[true,true,true,true,true,true,true,true,true,true] rfl rfl (by kernel_rfl) (by decide) (fun K hK=>?_)
      refine gX (w1:=?_) (by rfl) rfl ?_ ?_
      rotate_left
      · go_simp
        rfl
      refine hK.out _ _ ?_
      clear hK K
      refine dS (by kernel_rfl) ?_
      go_wp2
      have hR6:=H6.out.1
      rw [show (cd++[(⟨l0,l1,l2,l3⟩:S45)]).length=cd.length+1 from by rw [List.length_append];rfl] at hR6
      have H7:=aa.mk hR6
      clear hR6
      obtain ⟨Q,eQ⟩:∃ Q:Value × S47,Q=(.slice A2 (cd.length+1) c2,⟨cd++[(⟨l0,l1,l2,l3⟩:S45)],2,⟨0,0,0,0⟩,z,0⟩):=⟨_,rfl⟩
      have HK:=vz (gb:=gt) (q:=Q) (Kp.refl (fun k=>k=gt) w6) rfl
      have h8:=lay8 H6.out.2.2 Q
      rw [eQ] at HK h8
      refine bodyPost_ret (results_cell_row rfl _ _ gt 47 _ (0,0) _ rfl h8 Try.underlying47 rfl (by kernel_rfl)) rfl ?_
      rw [HGB.out]
      exact ⟨_,rfl,rH H7.out (fun k e => .inl ⟨_,_,_,e ▸ H6.out.2.2,by decide⟩) HK,HK.il H6.out.2.1 H6.out.2.1.size (fun k e=>e ▸ HX.out.gt)⟩
theorem mk_in0 (L:Nat) (hL:L≤4096) (W:World):(Instr.makeSlice 70 (.int .i64 (L:Int)) (.int .i64 (L:Int))).run Try.prog W = .ok (.slice (some ⟨W.heap.size,0,none⟩) L L) (W.alloc (.cells (inC (List.replicate L 0)) 3)):=by
  obtain ⟨i,hi,hzz⟩:=Option.map_eq_some_iff.1 info_in
  simp only [Prod.mk.injEq] at hzz
  obtain ⟨hz,hs,hb⟩:=hzz
  have h:=run_make (P:=Try.prog) W 70 3 i _ Try.underlying70 hi hz .i64 .i64 (L:Int) (L:Int) (by omega) (Int.le_refl _) (by rw [hb];omega) (by omega)
  rw [Int.toNat_natCast,hs] at h
  have e:=mQ (fun b:Int=>[Value.int .i64 b]) 0 1 rfl L
  refine h.trans ?_
  show Result.ok _ (World.alloc W (.cells (madeCells [Value.int .i64 0].toArray (L*1)) 3))=_
  rw [e]
  unfold inC
  rw [List.map_eq_flatMap]
structure DG (w X:World) (gf gn n:Nat) (F:List Bool) (N:List Int):Prop where
  low:Below w.heap.size w X
  f:X.heap[gf]?=some (.cells (boC F) 4 (0,0))
  nm:X.heap[gn]?=some (.cells (inC N) 3 (0,0))
  fl:F.length=n+1
  nl:N.length=n
  lf:w.heap.size≤gf
  ln:w.heap.size≤gn
theorem DG.below {w X Y:World} {gf gn n:Nat} {F:List Bool} {N:List Int} (h:DG w X gf gn n F N) (hb:Below X.heap.size X Y):DG w Y gf gn n F N:=⟨ak h.low hb,au h.f hb,au h.nm hb,h.fl,h.nl,h.lf,h.ln⟩
theorem DG.set {w X:World} {gf gn n:Nat} {F:List Bool} {N:List Int} (h:DG w X gf gn n F N) (j:Nat) (v:Int):DG w (X.setCell ⟨gn,j,none⟩ (.int .i64 v)) gf gn n F (N.set j v):=
  ⟨h.low.setCell h.ln _,bQ h.f (fun e=>lH h.f h.nm (by decide) e) _,aJ h.nm j _ (inC_set j v),h.fl,by rw [List.length_set];exact h.nl,h.lf,h.ln⟩
structure NG (n:Nat) (F:List Bool) (N:List Int) (i:Nat):Prop where
  len:N.length=n
  at_:∀ j:Nat,j<i→N.getD j 0=(bcn F (j+1):Int) - 1
theorem uJ {n:Nat} {F:List Bool} {N:List Int} {i:Nat} (h:NG n F N i) (hi:i<n) (v:Int) (hv:v=(bcn F (i+1):Int) - 1):NG n F (N.set i v) (i+1):=by
  refine ⟨by rw [List.length_set];exact h.len,fun j hj=>?_⟩
  rw [List.getD_eq_getElem?_getD,List.getElem?_set]
  by_cases e:i=j
  · subst e;rw [if_pos rfl,if_pos (by rw [h.len];omega)];exact hv
  · rw [if_neg e,←List.getD_eq_getElem?_getD];exact h.at_ j (by omega)
def GH (p:List S45) (F:List Bool) (N:List Int) (h:List S47) (i:Nat):Prop:=∀ t:Nat,t<i→Tr F t→∃ (e:Nat) (l:S45),t<e∧e≤p.length∧(Tr F e∨e=p.length)∧(∀ s,t<s→s<e→¬Tr F s)∧p[e - 1]?=some l∧h[bcn F t]?=some (gbF N ((p.take (e - 1)).drop t) l e)
structure OG (p:List S45) (F:List Bool) (N:List Int) (h:List S47) (i:Nat):Prop where
  le:i≤p.length
  t:i<p.length→Tr F i
  c:bcn F i=h.length
  g:GH p F N h i
theorem OG.next {p:List S45} {F:List Bool} {N:List Int} {h:List S47} {i e:Nat} {l:S45} (H:OG p F N h i) (hi:i<e) (he:e≤p.length) (ht:Tr F e∨e=p.length) (hno:∀ s,i<s→s<e→¬Tr F s) (hl:p[e - 1]?=some l):OG p F N (h++[gbF N ((p.take (e - 1)).drop i) l e]) e:=by
  have hti:=H.t (by omega)
  have hbc:∀ d,i+1+d≤e→bcn F (i+1+d)=h.length+1:=by
    intro d
    induction d with
    | zero=>intro _;rw [Nat.add_zero,iK hti,H.c]
    | succ d ih=>
      intro hd
      rw [show i+1+(d+1)=(i+1+d)+1 by omega,jY (hno _ (by omega) (by omega)),ih (by omega)]
  have hbe:bcn F e=h.length+1:=by
    have:=hbc (e - (i+1)) (by omega)
    rwa [show i+1+(e - (i+1))=e by omega] at this
  refine ⟨he,fun h2=>?_,by rw [List.length_append];exact hbe,fun t ht2 hT=>?_⟩
  · rcases ht with h3 | h3
    · exact h3
    · omega
  · by_cases hlt:t<i
    · obtain ⟨e2,l2,a1,a2,a3,a4,a5,a6⟩:=H.g t hlt hT
      refine ⟨e2,l2,a1,a2,a3,a4,a5,?_⟩
      rw [List.getElem?_append_left (List.getElem?_eq_some_iff.1 a6).1]
      exact a6
    · have hti2:t=i:=by
        by_cases h4:t=i
        · exact h4
        · exact absurd hT (hno t (by omega) ht2)
      subst hti2
      exact ⟨e,l,hi,he,ht,hno,hl,by rw [H.c,List.getElem?_append_right (Nat.le_refl _),Nat.sub_self];rfl⟩
structure OW (w X:World) (gf gn n:Nat) (F:List Bool) (N:List Int) (v:Value) (h:List S47):Prop where
  d:DG w X gf gn n F N
  o:k47.R 47 X w.heap.size (fun _=>True) v h
theorem gb_m {X Z:World} {b0:Nat} {v:Value} {q:S47} (hR:k45.R 45 Z X.heap.size (fun _=>True) v q.f0) (hs:b0≤X.heap.size):k47.M Z b0 (fun k=>X.heap.size≤k) q (b8 (v,q)):=
  nR Z _ _ q (nu (qQ hR) (fun g hg=>by
    have:=(Kd.fu hR).1 g hg
    exact ⟨by have:=this.2.1;omega,this.2.1⟩))
theorem OW.below {w X Y:World} {gf gn n:Nat} {F:List Bool} {N:List Int} {v:Value} {h:List S47} (H:OW w X gf gn n F N v h) (hb:Below X.heap.size X Y):OW w Y gf gn n F N v h:=⟨H.d.below hb,Kd.fq H.o hb⟩
theorem OW.put {w X Y:World} {gf gn n:Nat} {F:List Bool} {N:List Int} {v v1:Value} {h:List S47} {q:S47} (H:OW w X gf gn n F N v h) (hR:k47.R 47 Y w.heap.size (fun _=>True) v1 (h++[q])) (hB:Below w.heap.size w Y) (hG:X.grownBy Y v.ownBlock):OW w Y gf gn n F N v1 (h++[q]):=
  ⟨⟨hB,(hG.block _ (aZ H.d.f) (Kd.jH H.o H.d.f (by decide))).trans H.d.f,(hG.block _ (aZ H.d.nm) (Kd.jH H.o H.d.nm (by decide))).trans H.d.nm,H.d.fl,H.d.nl,H.d.lf,H.d.ln⟩,hR⟩
theorem rV (w:World) (p:List S45) (A:Option Addr) (c0:Nat) (HP:Kd.C k45 w A p.length p) (hc:p.length≤c0) (hp:PrG p) :
    Calls Try.prog 38 #[.slice A p.length c0] w fun e w'=>∃ h v F N,e = .returned (.tuple #[v,.int .i64 0])∧k47.R 47 w' w.heap.size (fun _=>True) v h∧BgM p F p.length∧F.length=p.length+1∧NG p.length F N p.length∧OG p F N h p.length∧Below w.heap.size w w':=by
  obtain ⟨n,en⟩:∃ n,n=p.length:=⟨_,rfl⟩
  have h0:=hp.some_
  have h1:=hp.few
  have hmk:=mk_in0 n (by omega)
  have hub:=Try.underlying22
  have HCK:=aa.mk (lI w p A c0 HP hc hp)
  have HLD:=aa.mk (fun W (hb:Below w.heap.size w W)=>oJ W p A c0 (Kd.bJ HP hb) hc hp)
  have HC:=aa.mk HP
  have HCC:=aa.mk hc
  have HPG:=aa.mk hp
  have EN:=aa.mk en
  rw [←en] at h0 h1 HCK HLD ⊢
  clear HP hc hp en
  go_enter Try.func38,Try.ntmps38
  go_upto_region 5 with (first
    | (go_at_call 65;refine HCK.out.mono ?_;rintro e w1 ⟨rfl,hb⟩;have HB1:=aa.mk hb;clear hb)
    | (go_at_call 66;refine (HLD.out _ HB1.out).mono ?_;rintro e w2 ⟨F,gf,rfl,hF,hM⟩;have HF:=aa.mk (And.intro hF hM);clear hF hM))
  go_upto_region 6 with (fail)
  refine forget (fun X=>∃ gn,gn=w2.heap.size∧DG w X gf gn n F (List.replicate n 0)) ⟨_,rfl,ak HB1.out (ak HF.out.1.low (ai (Below.refl _ _) _)),au HF.out.1.row (ai (Below.refl _ _) _),heap_alloc_new _ _,HF.out.1.len,List.length_replicate,by have:=HB1.out.size;have:=HF.out.1.lo;omega,by have:=HB1.out.size;have:=HF.out.1.low.size;omega⟩ ?_
  rintro X ⟨gn,egn,hdr⟩
  rw [←egn]
  have HM:=aa.mk HF.out.2
  have HDR:=aa.mk hdr
  clear egn hdr hmk HCK HLD HF HB1
  go_wp2
  go_loopw [8,27] (fun v8 v27 wr=>∃ (i:Nat) (N:List Int),i≤n∧v27 = .int .i64 i∧v8 = .int .i64 ((bcn F i:Int) - 1)∧aa (DG w wr gf gn n F N∧NG n F N i)) (fun _ v27 _=>n - (intOf v27).toNat)
  case atStart=>exact ⟨0,_,Nat.zero_le _,rfl,rfl,⟨HDR.out,List.length_replicate,fun j hj=>absurd hj (by omega)⟩⟩
  case round=>
    clear HDR
    obtain ⟨i,N,hi,rfl,rfl,HD⟩:=hrel
    obtain ⟨y,ey⟩:∃ y:Int,y=(bcn F i:Int) - 1:=⟨_,rfl⟩
    rw [←ey]
    have hy1 : -1≤y:=by omega
    have hy2:y<5000:=by have:=pV F i;omega
    have EY:=aa.mk ey
    clear ey
    by_cases hlt:i<n
    · have i0:(0:Int)≤(i:Int):=by omega
      have i1:(i:Int)<(n:Int)+1:=by omega
      have i2:(i:Int)<(n:Int):=by omega
      have c0_:wr.cell? ⟨gf,i,none⟩=some (.bool (F.getD i false)):=(ag HD.out.1.f i).trans (nE (by rw [HD.out.1.fl];omega))
      have c1_:wr.cell? ⟨gn,i,none⟩=some (.int .i64 (N.getD i 0)):=(ag HD.out.1.nm i).trans (nN (by rw [HD.out.1.nl];omega))
      have cz_:wr.frozen? ⟨gn,i,none⟩=false:=aj HD.out.1.nm i
      obtain ⟨t,et⟩:∃ t,t=F.getD i false:=⟨_,rfl⟩
      rw [←et] at c0_
      have ET:=aa.mk et
      clear et
      cases t with
      | true=>
        have hbc:=iK (F:=F) (i:=i) ET.out.symm
        have HE:aa (y+1=(bcn F (i+1):Int) - 1):=⟨by rw [hbc,EY.out];omega⟩
        clear hbc
        go_wp2
        go_roundw
        case rel=>exact ⟨i+1,_,by omega,by go_num,by rw [HE.out],⟨HD.out.1.set i (y+1),uJ HD.out.2 hlt _ HE.out⟩⟩
        case measure=>simp [intOf];omega
      | false=>
        have hbc:=jY (F:=F) (i:=i) (by unfold Tr;rw [←ET.out];decide)
        have HE:aa (y=(bcn F (i+1):Int) - 1):=⟨by rw [hbc,EY.out]⟩
        clear hbc
        go_wp2
        go_roundw
        case rel=>exact ⟨i+1,_,by omega,by go_num,by rw [HE.out],⟨HD.out.1.set i y,uJ HD.out.2 hlt _ HE.out⟩⟩
        case measure=>simp [intOf];omega
    · have hin:i=n:=by omega
      subst hin
      have HNG:=aa.mk HD.out.2
      have HD1:=aa.mk HD.out.1
      clear HD EY hy1 hy2 hlt hi
      go_wp2
      go_loopw [10,11,12] (fun v10 v11 v12 wr=>∃ (k:Nat) (h:List S47),k≤i∧v11 = .int .i64 k∧aa (OW w wr gf gn i F N v10 h∧OG p F N h k)) (fun _ v11 _ _=>i - (intOf v11).toNat)
      case atStart=>exact ⟨0,[],Nat.zero_le _,rfl,⟨⟨HD1.out,Kd.jy _ _ _ _ _⟩,Nat.zero_le _,fun _=>HM.out.t0,rfl,fun t ht=>absurd ht (by omega)⟩⟩
      case round=>
        clear HD1
        obtain ⟨k,h,hk,rfl,HS⟩:=hrel
        obtain ⟨X,rfl⟩:∃ X:World,X=wr:=⟨_,rfl⟩
        obtain ⟨vo,rfl⟩:∃ vo:Value,vo=u10:=⟨_,rfl⟩
        by_cases hlt:k<i
        · have HLO:aa (h.length≤4096):=⟨by have:=HS.out.2.c;have:=pV F k;omega⟩
          go_upto_block 4 with (fail)
          go_cut [12] (fun v12 X2=>X2=X∧∃ e:Nat,v12 = .int .i64 e∧aa (k<e∧e≤i∧(Tr F e∨e=i)∧∀ s,k<s→s<e→¬Tr F s))
          case first=>
            go_wp2
            go_loopw [12] (fun v12 X2=>X2=X∧∃ e:Nat,v12 = .int .i64 e∧k<e∧e≤i∧aa (∀ s,k<s→s<e→¬Tr F s)) (fun v12 _=>i - (intOf v12).toNat)
            case atStart=>exact ⟨rfl,k+1,by go_num,by omega,by omega,⟨fun s h1 h2=>by omega⟩⟩
            case round=>
              obtain ⟨hX,e,rfl,hke,hei,HNO⟩:=hrel
              have hX':=hX.symm
              clear hX
              subst hX'
              have j0:(0:Int)≤(e:Int):=by omega
              have j1:(e:Int)<(i:Int)+1:=by omega
              have ce:X.cell? ⟨gf,e,none⟩=some (.bool (F.getD e false)):=(ag HS.out.1.d.f e).trans (nE (by rw [HS.out.1.d.fl];omega))
              obtain ⟨t,et⟩:∃ t,t=F.getD e false:=⟨_,rfl⟩
              rw [←et] at ce
              have ET:=aa.mk et
              clear et
              cases t with
              | true=>
                go_wp2
                go_meet
                exact ⟨by first | rfl | trivial,e,rfl,⟨hke,hei,.inl ET.out.symm,HNO.out⟩⟩
              | false=>
                by_cases hen:e<i
                · have heb:decide (e<i)=true:=decide_eq_true hen
                  go_wp2
                  go_roundw
                  case rel=>exact ⟨by first | rfl | trivial,e+1,by go_num,by omega,by omega,⟨fun s h1 h2=>by
                    by_cases h3:s=e
                    · subst h3;unfold Tr;rw [←ET.out];decide
                    · exact HNO.out s h1 (by omega)⟩⟩
                  case measure=>simp [intOf];omega
                · have heb:decide (e<i)=false:=decide_eq_false hen
                  go_wp2
                  go_meet
                  exact ⟨by first | rfl | trivial,e,rfl,⟨hke,hei,.inr (by omega),HNO.out⟩⟩
          case rest=>
            obtain ⟨hX,e,rfl,HE⟩:=hcut
            have hX':=hX.symm
            clear hX
            subst hX'
            obtain ⟨l,hl⟩:∃ l,p[e - 1]?=some l:=⟨_,List.getElem?_eq_getElem (by have:=HE.out;have:=EN.out;omega)⟩
            have HQI:=HPG.out.qi hl
            have HB:=aa.mk (nK X p A c0 gn N k e l (Kd.bJ HC.out HS.out.1.d.low) HCC.out HPG.out.few HS.out.1.d.nm (by rw [HS.out.1.d.nl,EN.out]) HE.out.1 (by rw [←EN.out];exact HE.out.2.1) hl HQI.rg (fun h=>by have:=HQI.ja h;have:=HE.out;have:=EN.out;have:=HQI.rg;unfold Rg at this;omega) (fun h=>by have:=HQI.jm h;have:=HE.out;have:=EN.out;omega) (fun h=>by
              have h9:=HE.out.2.1
              rw [EN.out] at h9
              by_cases h8:e<p.length
              · exact h8
              · have h7:e=p.length:=by omega
                rw [h7] at hl
                exact absurd ((dZ _).2 (HPG.out.re l hl)) h))
            have HN:=aa.mk (HS.out.2.next HE.out.1 (by rw [←EN.out];exact HE.out.2.1) (by rw [←EN.out];exact HE.out.2.2.1) HE.out.2.2.2 hl)
            rw [←EN.out] at HB
            obtain ⟨q,eq_⟩:∃ q,q=gbF N ((p.take (e - 1)).drop k) l e:=⟨_,rfl⟩
            rw [←eq_] at HB HN
            clear eq_ hl HQI
            obtain ⟨q0,q1,⟨a0,a1,a2,a3⟩,q3,q4⟩:=q
            go_upto_region 21 with (first
              | (go_at_call 67;refine HB.out.mono ?_;rintro E Z ⟨v,rfl,hR,hb⟩;have HZ:=aa.mk (And.intro (HS.out.1.below hb) hR);have HXS:=aa.mk HS.out.1;clear hb hR)
              | (at_builtin;go_loud ((refine Kd.iB k47 (w0:=w) (W:=Z) w.heap.size rfl (.tmp 60) (.tmp 66) 22 47 (.agg #[.slice none 0 0,.int .i64 0,.int .u16 0,.int .u8 0,.int .u8 0,.int .u32 0,.int .i64 0,.int .i64 0]) 56 rfl hub uu rfl (by decide) (by decide) _ h ⟨q0,q1,⟨a0,a1,a2,a3⟩,q3,q4⟩ (b8 (v,⟨q0,q1,⟨a0,a1,a2,a3⟩,q3,q4⟩)) (fun _=>True) (fun k=>X.heap.size≤k) rfl rfl (gb_m HZ.out.2 HXS.out.d.low.size) (fun k hk=>⟨trivial,fun e=>Nat.lt_irrefl _ (Nat.lt_of_lt_of_le (Kd.R_lt HXS.out.o k e.symm) hk)⟩) (fun _ _=>trivial) HZ.out.1.o HZ.out.1.d.low HZ.out.1.d.low.size (by have:=HLO.out;omega) ?_);intro v1 w5 ho hb hg hat;have HO:=aa.mk (HZ.out.1.put ho hb hg);clear ho hb hg hat)))
            go_wp2
            go_roundw
            case rel=>exact ⟨e,_,HE.out.2.1,rfl,⟨HO.out,HN.out⟩⟩
            case measure=>have:=HE.out;simp [intOf];omega
        · have hki:k=i:=by omega
          subst hki
          have HS1:=aa.mk HS.out.1
          have HS2:=aa.mk HS.out.2
          clear HS
          go_wp2
          refine bodyPost_ret (results_tmp2 rfl _ _ _) rfl ?_
          exact ⟨h,vo,F,N,rfl,HS1.out.o,HM.out,HS1.out.d.fl,HNG.out,HS2.out,HS1.out.d.low⟩
end Go.Proofs.Ytdkalnkplgfgoaa.Ln
