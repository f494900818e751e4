/- Lemmas and walks for the statements of the texts ZEZ..: the declarations that they need, taken together by a program of this session. Conditions: as each says. -/
import Derived.Deep.CutBlock
import Derived.Deep.DeepCutAuto
import Derived.Test.YtdkalnkplgfgoaaZEb
import Derived.Test.YtdkalnkplgfgoaaZEd
import Derived.Test.YtdkalnkplgfgoaaZEf
import Derived.Test.YtdkalnkplgfgoaaZEj
set_option maxHeartbeats 8000000
set_option maxRecDepth 100000
set_option linter.unusedVariables false
set_option linter.unusedSimpArgs false
namespace Go.Proofs.Ytdkalnkplgfgoaa.Ln
open Go.RowKit Go.Maps Go.Proofs.YtdkalnkplgfgoaaW.PrintWords Go.Proofs.YtdkalnkplgfgoaaW.PrintLast Go.Proofs.YtdkalnkplgfgoaaW.PrintMore Go.Proofs.Ytdkalnkplgfgoaa.PA
theorem of_yes (w:World) (p:List S45) (A:Option Addr) (c0:Nat) (HP:Kd.C k45 w A p.length p) (hc:p.length≤c0) (r1:Int) (hr:bD.f 40000 p=some (r1,0)) (hw:PrW p) (h0:0<p.length) (h1:p.length≤4096)
    (hok:∀ (s:Nat) (h:s<p.length),okJ p s p[s]) (hre:∀ b,p[p.length - 1]?=some b→reB b.f0=true) :
    Calls Try.prog 36 #[.slice A p.length c0] w fun e w'=>∃ g v,e = .returned (.tuple #[v,.int .i64 0])∧k47.R 47 w' w.heap.size (fun _=>True) v g∧GOk g∧Below w.heap.size w w':=by
  obtain ⟨n,en⟩:∃ n,n=p.length:=⟨_,rfl⟩
  have hmk:=mk_in n (by omega)
  have hui:=Try.underlying26
  have hub:=Try.underlying22
  have HCK:=aa.mk (fun W (hb:Below w.heap.size w W)=>bD.calls 40000 A c0 p r1 0 W (Kd.dI HP hb) hc hr)
  have HBG:=aa.mk (fun W (hb:Below w.heap.size w W)=>rC W p A c0 (Kd.dI HP hb) hc hw h1 h0 hok)
  have HC:=aa.mk HP
  have HCC:=aa.mk hc
  have HX:=aa.mk (And.intro hw (And.intro hok hre))
  have EN:=aa.mk en
  rw [←en] at h1 h0 HC HCK HBG ⊢
  clear HP hc hr hw hok hre en
  go_enter Try.func36,Try.ntmps36
  go_upto_region 5 with (first
    | (go_at_call 21;refine (HCK.out _ (Below.refl _ _)).mono ?_;rintro e w1 ⟨rfl,hb⟩;have HB1:=aa.mk hb;clear hb)
    | (go_at_call 60;refine (HBG.out _ HB1.out).mono ?_;rintro e w2 ⟨F,gf,rfl,hF,hM⟩;have HF:=aa.mk (And.intro hF hM);clear hF hM))
  go_upto_region 6 with (fail)
  refine forget (fun X=>∃ gn,gn=w2.heap.size∧DR w X gf gn (n+1) F (List.replicate (n+1) 0)) ⟨_,rfl,av HB1.out (av HF.out.1.low (ai (Below.refl _ _) _)),aj HF.out.1.row (ai (Below.refl _ _) _),heap_alloc_new _ _,by rw [HF.out.1.len],List.length_replicate,by have:=HB1.out.size;have:=HF.out.1.lo;omega,by have:=HB1.out.size;have:=HF.out.1.low.size;omega⟩ ?_
  rintro X ⟨gn,egn,hdr⟩
  rw [←egn]
  have HF1:aa (F.length=n+1∧BgM p F n):=⟨⟨HF.out.1.len,HF.out.2⟩⟩
  have HDR:=aa.mk hdr
  clear egn hdr hmk HCK HBG HF HB1
  go_wp2
  go_loopw [8,9] (fun v8 v9 wr=>∃ (i:Nat) (N:List Int),i≤n∧v9 = .int .i64 i∧v8 = .int .i64 ((bcn F i:Int) - 1)∧aa (DR w wr gf gn (n+1) F N∧NB n F N i)) (fun _ v9 _=>n - (intOf v9).toNat)
  case atStart=>exact ⟨0,_,Nat.zero_le _,rfl,rfl,⟨HDR.out,List.length_replicate,fun j hj=>absurd hj (by omega)⟩⟩
  case round=>
    clear HDR
    obtain ⟨i,N,hi,rfl,rfl,HD⟩:=hrel
    obtain ⟨y,ey⟩:∃ y:Int,y=(bcn F i:Int) - 1:=⟨_,rfl⟩
    rw [←ey]
    have hy1 : -1≤y:=by omega
    have hy2:y<5000:=by have:=um F i;omega
    have EY:=aa.mk ey
    clear ey
    by_cases hlt:i<n
    · have i0:(0:Int)≤(i:Int):=by omega
      have i1:(i:Int)<(n:Int)+1:=by omega
      have c0_:wr.cell? ⟨gf,i,none⟩=some (.bool (F.getD i false)):=(ae HD.out.1.cm i).trans (jH (by rw [HD.out.1.cl];omega))
      have c1_:wr.cell? ⟨gn,i,none⟩=some (.int .i64 (N.getD i 0)):=(ae HD.out.1.nb i).trans (iN (by rw [HD.out.1.nl];omega))
      have cz_:wr.frozen? ⟨gn,i,none⟩=false:=af HD.out.1.nb i
      obtain ⟨t,et⟩:∃ t,t=F.getD i false:=⟨_,rfl⟩
      rw [←et] at c0_
      have ET:=aa.mk et
      clear et
      cases t with
      | true=>
        have hbc:=kR (F:=F) (i:=i) ET.out.symm
        have HE:aa (y+1=(bcn F (i+1):Int) - 1):=⟨by rw [hbc,EY.out];omega⟩
        clear hbc
        go_wp2
        go_roundw
        case rel=>exact ⟨i+1,_,by omega,by go_num,by rw [HE.out],⟨HD.out.1.qB i (y+1),AU HD.out.2 hlt _ HE.out⟩⟩
        case measure=>simp [intOf];omega
      | false=>
        have hbc:=o9 (F:=F) (i:=i) (by unfold Tr;rw [←ET.out];decide)
        have HE:aa (y=(bcn F (i+1):Int) - 1):=⟨by rw [hbc,EY.out]⟩
        clear hbc
        go_wp2
        go_roundw
        case rel=>exact ⟨i+1,_,by omega,by go_num,by rw [HE.out],⟨HD.out.1.qB i y,AU HD.out.2 hlt _ HE.out⟩⟩
        case measure=>simp [intOf];omega
    · have hin:n=i:=by omega
      subst hin
      have HOP:aa (OfP p n F N):=⟨EN.out,h1,h0,HX.out.1,HX.out.2.1,by have:=HX.out.2.2;rw [←EN.out] at this;exact this,HF1.out.1,HF1.out.2,HD.out.2⟩
      have HD1:=aa.mk HD.out.1
      clear HD EY hy1 hy2 hlt hi
      go_wp2
      go_loopw [10,11] (fun v10 v11 wr=>∃ (k:Nat) (out:List S47),k≤n∧v11 = .int .i64 k∧aa (OfS w wr gf gn n F N v10 out∧OfH n F out k)) (fun _ v11 _=>n - (intOf v11).toNat)
      case atStart=>exact ⟨0,[],Nat.zero_le _,rfl,⟨⟨HD1.out,Kd.kK _ _ _ _ _⟩,fun _=>HOP.out.m.t0,rfl,fun j b h=>(by cases h),Nat.le_refl _⟩⟩
      case round=>
        clear HD1
        obtain ⟨k,out,hk,rfl,HS⟩:=hrel
        by_cases hlt:k<n
        · obtain ⟨wo,rfl⟩:∃ wo:World,wo=wr:=⟨_,rfl⟩
          have HLO:aa (out.length≤4096):=⟨by have:=HS.out.2.c;have:=um F k;omega⟩
          go_upto_block 4 with (fail)
          refine forget (fun X=>∃ gt,gt=wo.heap.size∧OfT wo X gt (.slice none 0 0,⟨[],0,⟨0,0,0,0⟩,0,0⟩)) ⟨_,rfl,ai (Below.refl _ _) _,heap_alloc_new _ _,Nat.le_refl _,Kd.kK _ _ _ _ _⟩ ?_
          rintro X1 ⟨gt,egt,hT⟩
          rw [←egt]
          have HT:=aa.mk hT
          clear egt hT
          go_cut [11] (fun v11 X=>∃ (j:Nat) (c:List S45) (vc:Value),v11 = .int .i64 j∧aa (OfT wo X gt (vc,⟨c,0,⟨0,0,0,0⟩,0,0⟩)∧OfI n F out k j c∧((c≠[]∧Tr F j∧bcn F j=out.length+1)∨((∀ b,p[j]?=some b→aU b.f0=5∨reB b.f0=true)∧(c≠[]→¬Tr F j∧bcn F j=out.length+1)))))
          case first=>
            go_wp2
            go_loopw [11] (fun v11 X=>∃ (j:Nat) (c:List S45) (vc:Value),v11 = .int .i64 j∧aa (OfT wo X gt (vc,⟨c,0,⟨0,0,0,0⟩,0,0⟩)∧OfI n F out k j c∧(c≠[]→¬Tr F j∧bcn F j=out.length+1))) (fun v11 _=>n - (intOf v11).toNat)
            case atStart=>exact ⟨k,[],_,rfl,⟨HT.out,⟨hlt,OC.nil,HS.out.2.o,Nat.le_refl _,fun _=>⟨HS.out.2.t hlt,HS.out.2.c⟩⟩,fun h=>absurd rfl h⟩⟩
            case round=>
              clear HT
              obtain ⟨j,c,vc,rfl,HJ⟩:=hrel
              obtain ⟨X0,rfl⟩:∃ X0:World,X0=wr:=⟨_,rfl⟩
              obtain ⟨b,hb,hrd,hb1,hb2,hb3,hb4⟩:=HOP.out.at_ HJ.out.2.1.lt
              have hjn:=HJ.out.2.1.lt
              have i0:(0:Int)≤(j:Int):=by omega
              have i1:(j:Int)<(n:Int):=by omega
              have HB:aa (Below w.heap.size w X0):=⟨av HS.out.1.dr.low HJ.out.1.low⟩
              obtain ⟨ad,rfl,x0,x1,x2,x3,-,-⟩:=gV HC HB (j:Int) (decide_eq_true i0) (decide_eq_true i1)
              rw [hrd,Int.toNat_natCast] at x0 x1 x2 x3
              obtain ⟨v,ev⟩:∃ v,v=aU b.f0:=⟨_,rfl⟩
              obtain ⟨t,et⟩:∃ t,t=reB b.f0:=⟨_,rfl⟩
              have HCL:aa (∀ W,Calls Try.prog 61 #[.int .u16 b.f0] W fun e w'=>e = .returned (.int .i64 v)∧bZ W w'):=⟨fun W=>by rw [ev];exact bL.calls 10 b.f0 _ W (gu b.f0 2).2⟩
              have HRT:aa (∀ W,Calls Try.prog 51 #[.int .u16 b.f0] W fun e w'=>e = .returned (.bool t)∧bZ W w'):=⟨fun W=>by rw [et];exact bP.calls b.f0 _ W (ll b.f0)⟩
              have HBB:=aa.mk (And.intro hb (And.intro hrd (And.intro ev et)))
              clear hb hrd hb1 hb2 hb3 hb4 ev et
              have HSTOP:aa (v=5∨t=true→∀ b,p[j]?=some b→aU b.f0=5∨reB b.f0=true):=⟨fun h b' hb'=>by
                obtain rfl:b'=b:=Option.some.inj (hb'.symm.trans HBB.out.1)
                rw [←HBB.out.2.2.1,←HBB.out.2.2.2];exact h⟩
              by_cases c5:v=5
              · have HST:=aa.mk (HSTOP.out (.inl c5))
                have b5:(v != 5)=false:=by rw [c5];rfl
                clear c5 HSTOP
                go_wp2_with (go_at_call 61;refine (HCL.out _).mono ?_;rintro e w' ⟨rfl,⟨nd,rfl⟩⟩)
                go_meet
                exact ⟨j,c,vc,rfl,⟨HJ.out.1.below (aA (Below.refl _ _) _),HJ.out.2.1,.inr ⟨HST.out,HJ.out.2.2⟩⟩⟩
              · have b5:(v != 5)=true:=bne_iff_ne.mpr c5
                cases t with
                | true=>
                  have HST:=aa.mk (HSTOP.out (.inr rfl))
                  clear c5 HSTOP
                  go_wp2_with (first | (go_at_call 61;refine (HCL.out _).mono ?_;rintro e w' ⟨rfl,⟨nd,rfl⟩⟩) | (go_at_call 51;refine (HRT.out _).mono ?_;rintro e w' ⟨rfl,⟨nd2,rfl⟩⟩))
                  go_meet
                  exact ⟨j,c,vc,rfl,⟨HJ.out.1.below (aA (Below.refl _ _) _),HJ.out.2.1,.inr ⟨HST.out,HJ.out.2.2⟩⟩⟩
                | false=>
                  have HNX:=aa.mk (HJ.out.2.1.next HOP.out HBB.out.1 (by rw [←HBB.out.2.2.1];exact c5) (by rw [←HBB.out.2.2.2];decide) HJ.out.2.2)
                  clear c5 HSTOP
                  go_upto_region 18 with (first | (go_at_call 61;refine (HCL.out _).mono ?_;rintro e w' ⟨rfl,⟨nd,rfl⟩⟩) | (go_at_call 51;refine (HRT.out _).mono ?_;rintro e w' ⟨rfl,⟨nd2,rfl⟩⟩))
                  obtain ⟨Ac,cc,evc⟩:∃ Ac cc,vc = .slice Ac c.length cc:=Kd.gJ HJ.out.1.code
                  subst evc
                  refine forget (fun Y=>OfT wo Y gt (.slice Ac c.length cc,⟨c,0,⟨0,0,0,0⟩,0,0⟩)) (HJ.out.1.below (aA (Below.refl _ _) _)) ?_
                  clear x0 x1 x2 x3 HB b5 HCL HRT
                  rintro X hT
                  have HT:=aa.mk hT
                  have HB:aa (Below w.heap.size w X):=⟨av HS.out.1.dr.low hT.low⟩
                  obtain ⟨x0,x1,x2,x3,-,-⟩:=gP HC HB (j:Int) (decide_eq_true i0) (decide_eq_true i1)
                  rw [HBB.out.2.1,Int.toNat_natCast] at x0 x1 x2 x3
                  have y0:X.cell? ⟨gt,0,none⟩=some (.slice Ac c.length cc):=(ae hT.bt 0).trans rfl
                  have yf:X.frozen? ⟨gt,0,none⟩=false:=af hT.bt 0
                  have HLC:aa (c.length≤4096):=⟨by have:=HJ.out.2.1.le;omega⟩
                  obtain ⟨i,ei⟩:∃ i,i=j:=⟨_,rfl⟩
                  rw [←ei] at x0 x1 x2 x3 i0 i1 hjn HNX HBB ⊢
                  have EI:=aa.mk ei
                  clear hT ei
                  refine start_ (n:=10) (S:=fun w'=>w'.cell? ⟨gt,0,none⟩=some (.slice Ac c.length cc)∧w'.frozen? ⟨gt,0,none⟩=false∧w'.cell? (ad.add (i*4))=some (.int .u16 b.f0)∧w'.cell? ⟨(ad.add (i*4)).block,(ad.add (i*4)).off+1,none⟩=some (.int .u8 b.f1)∧w'.cell? ⟨(ad.add (i*4)).block,(ad.add (i*4)).off+2,none⟩=some (.int .u8 b.f2)∧w'.cell? ⟨(ad.add (i*4)).block,(ad.add (i*4)).off+3,none⟩=some (.int .u32 b.f3)) (ds:=[7,9]) #[false,false,false,false,false,false,false,false,false,false] (by kernel_rfl) rfl rfl ⟨y0,yf,x0,x1,x2,x3⟩ (fun hHeld=>?_)
                  refine ko (i:=0) (N:=some 68) (v:=?_) (a':=?_) #[true,false,false,false,false,false,false,false,false,false] rfl rfl (by kernel_rfl) (fun _ _ _ h=>h) (Or.inl ⟨by rfl,?_⟩) ?_ ?_
                  rotate_left
                  · intro w'
                    go_simp
                    with_reducible rfl
                  rotate_left
                  · simp only [Act.put,List.setIfInBounds_toArray,List.set_cons_zero,List.set_cons_succ,dD,dE]
                    rfl
                  refine ko (i:=2) (N:=some 70) (v:=?_) (a':=?_) #[true,false,true,false,false,false,false,false,false,false] rfl rfl (by kernel_rfl) (fun _ _ _ h=>h) (Or.inl ⟨by rfl,?_⟩) ?_ ?_
                  rotate_left
                  · intro w'
                    go_simp
                    with_reducible rfl
                  rotate_left
                  · simp only [Act.put,List.setIfInBounds_toArray,List.set_cons_zero,List.set_cons_succ,dD,dE]
                    rfl
                  refine ko (i:=3) (N:=some 71) (v:=?_) (a':=?_) #[true,false,true,true,false,false,false,false,false,false] rfl rfl (by kernel_rfl) (fun _ _ _ h=>h) (Or.inl ⟨by rfl,?_⟩) ?_ ?_
                  rotate_left
                  · intro w'
                    go_simp
                    with_reducible rfl
                  rotate_left
                  · simp only [Act.put,List.setIfInBounds_toArray,List.set_cons_zero,List.set_cons_succ,dD,dE]
                    rfl
                  refine ko (i:=4) (N:=some 72) (v:=?_) (a':=?_) #[true,false,true,true,true,false,false,false,false,false] rfl rfl (by kernel_rfl) (fun _ _ _ h=>h) (Or.inl ⟨by rfl,?_⟩) ?_ ?_
                  rotate_left
                  · intro w'
                    go_simp
                    with_reducible rfl
                  rotate_left
                  · simp only [Act.put,List.setIfInBounds_toArray,List.set_cons_zero,List.set_cons_succ,dD,dE]
                    rfl
                  refine Cn (i:=1) (N:=some 69) (v:=?_) (a':=?_) #[true,true,true,true,true,false,false,false,false,false] rfl rfl (by kernel_rfl) (fun _ _ _ h=>h) (Or.inl ⟨by rfl,?_⟩) hHeld ?_ ?_
                  rotate_left
                  · rintro w' ⟨s0,s1,s2,s3,s4,s5⟩
                    go_simp
                    with_reducible rfl
                  rotate_left
                  · simp only [Act.put,List.setIfInBounds_toArray,List.set_cons_zero,List.set_cons_succ,dD,dE]
                    rfl
                  refine Cn (i:=5) (N:=some 73) (v:=?_) (a':=?_) #[true,true,true,true,true,true,false,false,false,false] rfl rfl (by kernel_rfl) (fun _ _ _ h=>h) (Or.inl ⟨by rfl,?_⟩) hHeld ?_ ?_
                  rotate_left
                  · rintro w' ⟨s0,s1,s2,s3,s4,s5⟩
                    go_simp
                    with_reducible rfl
                  rotate_left
                  · simp only [Act.put,List.setIfInBounds_toArray,List.set_cons_zero,List.set_cons_succ,dD,dE]
                    rfl
                  refine one_ (i:=6) (N:=some 74) #[true,true,true,true,true,true,true,false,false,false] rfl rfl (by kernel_rfl) (by decide) (fun K hK=>?_)
                  refine vJ (w1:=?_) (v:=?_) (by rfl) rfl ?_ ?_
                  rotate_left 2
                  · go_simp
                    constructor
                    · rfl
                    · rfl
                  refine hK.out _ _ ⟨(au (ak (ai (Below.refl _ _) _)) y0),(af (aj HT.out.bt (ak (ai (Below.refl _ _) _))) 0),(au (ak (ai (Below.refl _ _) _)) x0),(au (ak (ai (Below.refl _ _) _)) x1),(au (ak (ai (Below.refl _ _) _)) x2),(au (ak (ai (Below.refl _ _) _)) x3)⟩ (fun hHeld=>?_)
                  clear hK K
                  refine norm_ (a':=?_) ?_ ?_
                  rotate_left
                  · show Act.put _ (some 74) _=_
                    simp only [Act.put,List.setIfInBounds_toArray,List.set_cons_zero,List.set_cons_succ,dD,dE]
                    rfl
                  refine last_ (i:=7) (N:=some 75) #[true,true,true,true,true,true,true,true,false,false] rfl rfl (by kernel_rfl) (by decide) (fun K hK=>?_)
                  refine lY k45 (w0:=wo) (W:=X) wo.heap.size (.tmp 69) (.tmp 74) 26 45 (.agg #[.int .u16 0,.int .u8 0,.int .u8 0,.int .u32 0]) 8 (by rfl) (by rfl) hui l9 rfl (by decide) (by decide) (.slice Ac c.length cc) c b [.int .u16 b.f0,.int .u8 b.f1,.int .u8 b.f2,.int .u32 b.f3] (by rfl) (by rfl) (kG _ _ _ b) HT.out.code HT.out.low HT.out.low.size (by have:=HLC.out;omega) ?_
                  intro v1 w1 hR hB hG
                  obtain ⟨A1,cc1,rfl⟩:=Kd.gJ hR
                  have HT1:=aa.mk (HT.out.grown hR hB hG)
                  have w10:w1.cell? ⟨gt,0,none⟩=some (.slice Ac c.length cc):=(ae HT1.out.1 0).trans rfl
                  have w1f:w1.frozen? ⟨gt,0,none⟩=false:=af HT1.out.1 0
                  clear hR hB hG
                  refine hK.out _ _ ?_
                  clear hK K
                  refine norm_ (a':=?_) ?_ ?_
                  rotate_left
                  · show Act.put _ (some 75) _=_
                    simp only [Act.put,List.setIfInBounds_toArray,List.set_cons_zero,List.set_cons_succ,dD,dE]
                    rfl
                  refine ko (i:=8) (N:=some 76) (v:=?_) (a':=?_) #[true,true,true,true,true,true,true,true,true,false] rfl rfl (by kernel_rfl) (fun _ _ _ h=>h) (Or.inl ⟨by rfl,?_⟩) ?_ ?_
                  rotate_left
                  · intro w'
                    go_simp
                    with_reducible rfl
                  rotate_left
                  · simp only [Act.put,List.setIfInBounds_toArray,List.set_cons_zero,List.set_cons_succ,dD,dE]
                    rfl
                  refine last_ (i:=9) (N:=none) #[true,true,true,true,true,true,true,true,true,true] rfl rfl (by kernel_rfl) (by decide) (fun K hK=>?_)
                  refine skip_ (w1:=?_) (by rfl) rfl ?_ ?_
                  rotate_left
                  · go_simp
                    rfl
                  refine hK.out _ _ ?_
                  clear hK K
                  refine iA (by kernel_rfl) ?_
                  go_upto_region 20 with (fail)
                  have HLE:aa ((c++[b]).length=c.length+1):=⟨by rw [List.length_append];rfl⟩
                  have hT2:=HT1.out.2
                  rw [HLE.out] at hT2
                  refine forget (fun Y=>OfT wo Y gt (.slice A1 (c.length+1) cc1,⟨c++[b],0,⟨0,0,0,0⟩,0,0⟩)) hT2 ?_
                  clear hT2
                  clear x0 x1 x2 x3 HB HT HT1 y0 yf
                  rintro Y hY
                  have HY:=aa.mk hY
                  have hi1:=HNX.out.1
                  have i2:(0:Int)≤(i:Int)+1:=by omega
                  have i3:(i:Int)+1<(n:Int)+1:=by omega
                  have c0_:Y.cell? ⟨gf,i+1,none⟩=some (.bool (F.getD (i+1) false)):=(ae (HS.out.1.below hY.low).dr.cm (i+1)).trans (jH (by rw [HS.out.1.dr.cl];omega))
                  obtain ⟨t,et⟩:∃ t,t=F.getD (i+1) false:=⟨_,rfl⟩
                  rw [←et] at c0_
                  have ET:=aa.mk et
                  have HOI:aa (OfI n F out k (i+1) (c++[b])):=⟨HNX.out.1,HNX.out.2.1,HS.out.2.o,HNX.out.2.2.1,fun h=>absurd h (by simp)⟩
                  clear et hY
                  cases t with
                  | true=>
                    go_wp2
                    go_meet
                    exact ⟨i+1,c++[b],_,by go_num,⟨HY.out,HOI.out,.inl ⟨by simp,ET.out.symm,HNX.out.2.2.2⟩⟩⟩
                  | false=>
                    go_wp2
                    go_roundw
                    case rel=>exact ⟨i+1,c++[b],_,by go_num,⟨HY.out,HOI.out,fun _=>⟨by unfold Tr;rw [←ET.out];decide,HNX.out.2.2.2⟩⟩⟩
                    case measure=>have:=EI.out;simp [intOf];omega
          case rest=>
            clear HT
            obtain ⟨j,c,vc,rfl,HJ⟩:=hcut
            obtain ⟨Ac,cc,evc⟩:∃ Ac cc,vc = .slice Ac c.length cc:=Kd.gJ HJ.out.1.code
            subst evc
            have hjn:=HJ.out.2.1.lt
            have HOC:=aa.mk HJ.out.2.1
            have HLC:aa (c.length≤4096):=⟨by have:=HJ.out.2.1.le;omega⟩
            have i0:(0:Int)≤(j:Int):=by omega
            have i1:(j:Int)<(n:Int)+1:=by omega
            have y0:wc.cell? ⟨gt,0,none⟩=some (.slice Ac c.length cc):=(ae HJ.out.1.bt 0).trans rfl
            have y1:wc.cell? ⟨gt,1,none⟩=some (.int .i64 0):=(ae HJ.out.1.bt 1).trans rfl
            have f1:wc.frozen? ⟨gt,1,none⟩=false:=af HJ.out.1.bt 1
            have k0:wc.cell? ⟨gf,j,none⟩=some (.bool (F.getD j false)):=(ae (HS.out.1.below HJ.out.1.low).dr.cm j).trans (jH (by rw [HS.out.1.dr.cl];omega))
            rcases HJ.out.2.2 with ⟨hne,htr,hbc⟩ | ⟨hst,hcn⟩
            · have hcl:(0:Int)<(c.length:Int):=by have:=List.length_pos_iff.2 hne;omega
              have HBC:=aa.mk (And.intro htr hbc)
              rw [show F.getD j false=true from htr] at k0
              clear hne htr hbc
              go_upto_region 27 with (fail)
              refine forget (fun Y=>OfT wo Y gt (.slice Ac c.length cc,⟨c,2,⟨0,0,0,0⟩,0,0⟩)) (HJ.out.1.mg (q':=(.slice Ac c.length cc,⟨c,2,⟨0,0,0,0⟩,0,0⟩)) (j:=1) rfl rfl rfl) ?_
              clear y0 y1 f1 k0 HJ
              rintro Y hY
              have y6:Y.cell? ⟨gt,6,none⟩=some (.int .i64 0):=(ae hY.bt 6).trans rfl
              have f6:Y.frozen? ⟨gt,6,none⟩=false:=af hY.bt 6
              obtain ⟨z,ez⟩:∃ z,z=N.getD j 0:=⟨_,rfl⟩
              have n0:Y.cell? ⟨gn,j,none⟩=some (.int .i64 z):=by rw [ez];exact (ae (HS.out.1.below hY.low).dr.nb j).trans (iN (by rw [HS.out.1.dr.nl];omega))
              have HZ:aa ((out.length:Int)<z∧z<(bcn F n:Int)):=⟨by
                have e:=HOP.out.nb.at_ j hjn
                have h2:=kR HBC.out.1
                have h3:=rA F (show j+1≤n by omega)
                have h4:=HBC.out.2
                rw [ez,e];omega⟩
              have HY:=aa.mk hY
              clear hY ez
              go_upto_region 28 with (fail)
              refine forget (fun Y=>OfT wo Y gt (.slice Ac c.length cc,⟨c,2,⟨0,0,0,0⟩,z,0⟩)) (HY.out.mg (q':=(.slice Ac c.length cc,⟨c,2,⟨0,0,0,0⟩,z,0⟩)) (j:=6) rfl rfl rfl) ?_
              clear y6 f6 n0 HY
              rintro Y hY
              have y0:Y.cell? ⟨gt,0,none⟩=some (.slice Ac c.length cc):=(ae hY.bt 0).trans rfl
              have y1:Y.cell? ⟨gt,1,none⟩=some (.int .i64 2):=(ae hY.bt 1).trans rfl
              have y2:Y.cell? ⟨gt,2,none⟩=some (.int .u16 0):=(ae hY.bt 2).trans rfl
              have y3:Y.cell? ⟨gt,3,none⟩=some (.int .u8 0):=(ae hY.bt 3).trans rfl
              have y4:Y.cell? ⟨gt,4,none⟩=some (.int .u8 0):=(ae hY.bt 4).trans rfl
              have y5:Y.cell? ⟨gt,5,none⟩=some (.int .u32 0):=(ae hY.bt 5).trans rfl
              have y6:Y.cell? ⟨gt,6,none⟩=some (.int .i64 z):=(ae hY.bt 6).trans rfl
              have y7:Y.cell? ⟨gt,7,none⟩=some (.int .i64 0):=(ae hY.bt 7).trans rfl
              have HT:=aa.mk hY
              have HSY:=aa.mk (HS.out.1.below hY.low)
              have HBK:aa (BOk ⟨c,2,⟨0,0,0,0⟩,z,0⟩ out.length (bcn F n)):=⟨yS HOC.out.oc HZ.out.1 HZ.out.2⟩
              clear hY
              go_wp2_with (at_builtin;go_loud ((refine Kd.jm k47 (w0:=w) (W:=Y) w.heap.size rfl (.tmp 133) (.tmp 135) 22 47 (.agg #[.slice none 0 0,.int .i64 0,.int .u16 0,.int .u8 0,.int .u8 0,.int .u32 0,.int .i64 0,.int .i64 0]) 56 rfl hub mf rfl (by decide) (by decide) _ out ⟨c,2,⟨0,0,0,0⟩,z,0⟩ (b8 (.slice Ac c.length cc,⟨c,2,⟨0,0,0,0⟩,z,0⟩)) (fun _=>True) (fun k=>wo.heap.size≤k) rfl rfl (HT.out.m HS.out.1.dr.low.size) (fun k hk=>⟨trivial,fun e=>Nat.lt_irrefl _ (Nat.lt_of_lt_of_le (Kd.R_lt HS.out.1.out k e.symm) hk)⟩) (fun _ _=>trivial) HSY.out.out HSY.out.dr.low HSY.out.dr.low.size (by have:=HLO.out;omega) ?_);intro v1 w5 ho hb hg hat;have HN:=aa.mk (OfS.put (q:=(.slice Ac c.length cc,⟨c,2,⟨0,0,0,0⟩,z,0⟩)) HSY.out ho hb hg);clear ho hb hg hat))
              go_roundw
              case rel=>exact ⟨j,_,by omega,rfl,⟨HN.out,fun _=>HBC.out.1,by rw [List.length_append];exact HBC.out.2,HOC.out.o.add HBK.out HOC.out.le⟩⟩
              case measure=>have:=HOC.out.le;simp [intOf];omega
            · obtain ⟨b,hb,hrd,hb1,hb2,hb3,hb4⟩:=HOP.out.at_ hjn
              have hstop:=hst b hb
              have hbc:bcn F (j+1)=out.length+1:=by
                by_cases hz:c=[]
                · have:=HOC.out.z hz;rw [kR this.1];omega
                · have:=hcn hz;rw [o9 this.1];omega
              have hF0:c≠[]→F.getD j false=false:=fun h=>by
                have:=(hcn h).1
                unfold Tr at this
                exact Bool.eq_false_iff.2 this
              have hnx:reB b.f0=false→j+1<n:=fun h=>by
                by_cases e1:j+1=n
                · exact absurd (hb4 e1) (by rw [h];decide)
                · omega
              have HNX:aa (j+1<n→Tr F (j+1)):=⟨fun _=>hb3.nx hstop⟩
              have HB:aa (Below w.heap.size w wc):=⟨av HS.out.1.dr.low HJ.out.1.low⟩
              have i2:(j:Int)<(n:Int):=by omega
              obtain ⟨ad,rfl,-⟩:=gV HC HB (j:Int) (decide_eq_true i0) (decide_eq_true i2)
              have HR:aa (∀ W:World,Below w.heap.size w W→W.cell? (ad.add (j*4))=some (.int .u16 b.f0)∧W.cell? ⟨(ad.add (j*4)).block,(ad.add (j*4)).off+1,none⟩=some (.int .u8 b.f1)∧W.cell? ⟨(ad.add (j*4)).block,(ad.add (j*4)).off+2,none⟩=some (.int .u8 b.f2)∧W.cell? ⟨(ad.add (j*4)).block,(ad.add (j*4)).off+3,none⟩=some (.int .u32 b.f3)):=⟨fun W hW=>by
                obtain ⟨x0,x1,x2,x3,-,-⟩:=gP HC ⟨hW⟩ (j:Int) (decide_eq_true i0) (decide_eq_true i2)
                rw [hrd,Int.toNat_natCast] at x0 x1 x2 x3
                exact ⟨x0,x1,x2,x3⟩⟩
              obtain ⟨x0,x1,x2,x3⟩:=HR.out wc HB.out
              obtain ⟨u2,u3,hus⟩:=(sP b.f0 10).2
              obtain ⟨t,et⟩:∃ t,t=reB b.f0:=⟨_,rfl⟩
              have HRT:aa (∀ W,Calls Try.prog 51 #[.int .u16 b.f0] W fun e w'=>e = .returned (.bool t)∧bZ W w'):=⟨fun W=>by rw [et];exact bP.calls b.f0 _ W (ll b.f0)⟩
              obtain ⟨lk,elk⟩:∃ lk,lk=if usK b.f0=true then b.f3 else 0:=⟨_,rfl⟩
              have HLT:aa (∀ W,Calls Try.prog 62 #[.agg #[.int .u16 b.f0,.int .u8 b.f1,.int .u8 b.f2,.int .u32 b.f3]] W fun e w'=>e = .returned (.agg #[.int .u16 b.f0,.int .u8 0,.int .u8 0,.int .u32 lk])∧Below W.heap.size W w'):=⟨fun W=>by rw [elk];exact uK _ b.f0 b.f1 b.f2 b.f3 _ u2 u3 W hus⟩
              have ELK:=aa.mk elk
              clear elk
              rw [←et] at hnx
              have HNT:=aa.mk hnx
              have HBB:=aa.mk (And.intro hb1 (And.intro hb2 (And.intro hb3 (And.intro hstop (And.intro hbc et)))))
              have HFF:=aa.mk hF0
              clear hb hrd hb1 hb2 hb3 hb4 hstop hbc hF0 hnx hus et hst hcn HC HCC HX HF1 EN
              obtain ⟨vo,rfl⟩:∃ vo:Value,vo=u10:=⟨_,rfl⟩
              go_upto_block 6 with (fail)
              go_cut [10] (fun v10 X=>v10=vo∧∃ q:Value × S47,aa (OfT wo X gt q∧BOk q.2 out.length (bcn F n)∧q.2.f0=c))
              case first=>
                by_cases hz:c=[]
                case' pos=>
                  have hcl:¬(0:Int)<(c.length:Int):=by rw [hz];decide
                  clear hz HFF
                  go_upto_region 29 with (fail)
                case' neg=>
                  have hcl:(0:Int)<(c.length:Int):=by have:=List.length_pos_iff.2 hz;omega
                  rw [HFF.out hz] at k0
                  clear hz HFF
                  go_upto_region 29 with (fail)
                all_goals
                  clear y0 y1 f1 k0 hcl
                  cases t
                  case' true=>
                    go_upto_region 30 with (go_at_call 51;refine (HRT.out _).mono ?_;rintro e w' ⟨rfl,⟨nd,rfl⟩⟩)
                    refine forget (fun Y=>OfT wo Y gt (.slice Ac c.length cc,⟨c,0,⟨0,0,0,0⟩,0,0⟩)) (HJ.out.1.below (aA (Below.refl _ _) _)) ?_
                    clear x0 x1 x2 x3 HB HJ
                    rintro Y hY
                    have y1:Y.cell? ⟨gt,1,none⟩=some (.int .i64 0):=(ae hY.bt 1).trans rfl
                    have f1:Y.frozen? ⟨gt,1,none⟩=false:=af hY.bt 1
                    have HY:=aa.mk hY
                    clear hY
                    go_upto_region 31 with (fail)
                    refine forget (fun Y=>OfT wo Y gt (.slice Ac c.length cc,⟨c,1,⟨0,0,0,0⟩,0,0⟩)) (HY.out.mg (q':=(.slice Ac c.length cc,⟨c,1,⟨0,0,0,0⟩,0,0⟩)) (j:=1) rfl rfl rfl) ?_
                    clear y1 f1 HY
                    rintro Y hY
                    obtain ⟨x0,x1,x2,x3⟩:=HR.out Y (av HS.out.1.dr.low hY.low)
                    have HY:=aa.mk hY
                    clear hY
                    go_wp2_with (go_at_call 62;refine (HLT.out Y).mono ?_;rintro e Z ⟨rfl,hb⟩;have HZ:=aa.mk (HY.out.below hb);have y2:Z.cell? ⟨gt,2,none⟩=some (.int .u16 0):=(ae HZ.out.bt 2).trans rfl;have y3:Z.cell? ⟨gt,3,none⟩=some (.int .u8 0):=(ae HZ.out.bt 3).trans rfl;have y4:Z.cell? ⟨gt,4,none⟩=some (.int .u8 0):=(ae HZ.out.bt 4).trans rfl;have y5:Z.cell? ⟨gt,5,none⟩=some (.int .u32 0):=(ae HZ.out.bt 5).trans rfl;have f2:=af HZ.out.bt 2;have f3:=af HZ.out.bt 3;have f4:=af HZ.out.bt 4;have f5:=af HZ.out.bt 5;clear hb x0 x1 x2 x3)
                    go_meet
                    exact ⟨rfl,_,⟨HZ.out.last ⟨b.f0,0,0,lk⟩,(by rw [ELK.out];exact bok_ret HOC.out.oc HBB.out.2.2.2.2.2.symm ⟨HBB.out.2.1.2.2.2.2.1,HBB.out.2.1.2.2.2.2.2⟩ _ _),rfl⟩⟩
                  case' false=>
                    have hin:=HNT.out rfl
                    go_upto_region 32 with (go_at_call 51;refine (HRT.out _).mono ?_;rintro e w' ⟨rfl,⟨nd,rfl⟩⟩)
                    refine forget (fun Y=>OfT wo Y gt (.slice Ac c.length cc,⟨c,0,⟨0,0,0,0⟩,0,0⟩)) (HJ.out.1.below (aA (Below.refl _ _) _)) ?_
                    clear x0 x1 x2 x3 HB HJ
                    rintro Y hY
                    obtain ⟨x0,x1,x2,x3⟩:=HR.out Y (av HS.out.1.dr.low hY.low)
                    have y1:Y.cell? ⟨gt,1,none⟩=some (.int .i64 0):=(ae hY.bt 1).trans rfl
                    have f1:Y.frozen? ⟨gt,1,none⟩=false:=af hY.bt 1
                    have HY:=aa.mk hY
                    clear hY
                    by_cases c5:b.f0=5
                    case' pos=>
                      have b5:(b.f0==5)=true:=by rw [c5];rfl
                      obtain ⟨q,hq⟩:∃ q:Nat,b.f3=(q:Int):=⟨b.f3.toNat,by have:=HBB.out.2.1;omega⟩
                      have hj:=HBB.out.1.2.1 c5
                      rw [hq] at hj x3
                      have hj2:j+1+q<n:=by omega
                      have HG:aa ((out.length:Int)<N.getD (j+1+q) 0∧N.getD (j+1+q) 0<(bcn F n:Int)):=⟨HOP.out.goal hj2 (by have:=HBB.out.2.2.1.ja c5;rwa [hq] at this) (show j+1≤_ by omega) HBB.out.2.2.2.2.1⟩
                      obtain ⟨z,ez⟩:∃ z,z=N.getD (j+1+q) 0:=⟨_,rfl⟩
                      rw [←ez] at HG
                      have EZ:=aa.mk ez
                      have HQR:=aa.mk hq
                      clear hj c5 ez hq
                      go_upto_region 34 with (fail)
                      refine forget (fun Y=>OfT wo Y gt (.slice Ac c.length cc,⟨c,2,⟨0,0,0,0⟩,0,0⟩)) (HY.out.mg (q':=(.slice Ac c.length cc,⟨c,2,⟨0,0,0,0⟩,0,0⟩)) (j:=1) rfl rfl rfl) ?_
                      clear y1 f1 HY x0 x1 x2 x3
                      rintro Y hY
                      obtain ⟨x0,x1,x2,x3⟩:=HR.out Y (av HS.out.1.dr.low hY.low)
                      rw [HQR.out] at x3
                      have n0:Y.cell? ⟨gn,j+1+q,none⟩=some (.int .i64 z):=by rw [EZ.out];exact (ae (HS.out.1.below hY.low).dr.nb _).trans (iN (by rw [HS.out.1.dr.nl];omega))
                      have y6:Y.cell? ⟨gt,6,none⟩=some (.int .i64 0):=(ae hY.bt 6).trans rfl
                      have f6:Y.frozen? ⟨gt,6,none⟩=false:=af hY.bt 6
                      have HY:=aa.mk hY
                      clear hY x0 x1 x2
                      go_wp2
                      go_meet
                      exact ⟨rfl,_,⟨HY.out.mg (q':=(.slice Ac c.length cc,⟨c,2,⟨0,0,0,0⟩,z,0⟩)) (j:=6) rfl rfl rfl,yS HOC.out.oc HG.out.1 HG.out.2,rfl⟩⟩
                    case' neg=>
                      have b5:(b.f0==5)=false:=beq_eq_false_iff_ne.mpr c5
                      have cj:jmB b.f0=true:=by
                        rcases HBB.out.2.2.2.1 with h | h
                        · rcases (lI _).1 h with h | h
                          · exact absurd h c5
                          · exact h
                        · rw [←HBB.out.2.2.2.2.2] at h;cases h
                      obtain ⟨q,hq⟩:∃ q:Nat,b.f1=(q:Int):=⟨b.f1.toNat,by have:=HBB.out.2.1;omega⟩
                      obtain ⟨r,hr⟩:∃ r:Nat,b.f2=(r:Int):=⟨b.f2.toNat,by have:=HBB.out.2.1;omega⟩
                      have hj:=HBB.out.1.2.2 cj
                      rw [hq,hr] at hj
                      have hj2:j+1+q<n:=by omega
                      have hj3:j+1+r<n:=by omega
                      have HG:aa ((out.length:Int)<N.getD (j+1+q) 0∧N.getD (j+1+q) 0<(bcn F n:Int)):=⟨HOP.out.goal hj2 (by have:=HBB.out.2.2.1.jt cj;rwa [hq] at this) (show j+1≤_ by omega) HBB.out.2.2.2.2.1⟩
                      have HG2:aa ((out.length:Int)<N.getD (j+1+r) 0∧N.getD (j+1+r) 0<(bcn F n:Int)):=⟨HOP.out.goal hj3 (by have:=HBB.out.2.2.1.jf cj;rwa [hr] at this) (show j+1≤_ by omega) HBB.out.2.2.2.2.1⟩
                      obtain ⟨z,ez⟩:∃ z,z=N.getD (j+1+q) 0:=⟨_,rfl⟩
                      obtain ⟨z2,ez2⟩:∃ z,z=N.getD (j+1+r) 0:=⟨_,rfl⟩
                      rw [←ez] at HG
                      rw [←ez2] at HG2
                      have EZ:=aa.mk (And.intro ez ez2)
                      have HCJ:=aa.mk cj
                      have HQR:=aa.mk (And.intro hq hr)
                      clear hj c5 ez ez2 cj hq hr
                      go_upto_region 22 with (fail)
                      refine forget (fun Y=>OfT wo Y gt (.slice Ac c.length cc,⟨c,3,⟨0,0,0,0⟩,0,0⟩)) (HY.out.mg (q':=(.slice Ac c.length cc,⟨c,3,⟨0,0,0,0⟩,0,0⟩)) (j:=1) rfl rfl rfl) ?_
                      clear y1 f1 HY x0 x1 x2 x3
                      rintro Y hY
                      obtain ⟨x0,x1,x2,x3⟩:=HR.out Y (av HS.out.1.dr.low hY.low)
                      have HY:=aa.mk hY
                      clear hY
                      go_upto_region 23 with (go_at_call 62;refine (HLT.out Y).mono ?_;rintro e Z ⟨rfl,hb⟩;have HZ:=aa.mk (HY.out.below hb);have y2:Z.cell? ⟨gt,2,none⟩=some (.int .u16 0):=(ae HZ.out.bt 2).trans rfl;have y3:Z.cell? ⟨gt,3,none⟩=some (.int .u8 0):=(ae HZ.out.bt 3).trans rfl;have y4:Z.cell? ⟨gt,4,none⟩=some (.int .u8 0):=(ae HZ.out.bt 4).trans rfl;have y5:Z.cell? ⟨gt,5,none⟩=some (.int .u32 0):=(ae HZ.out.bt 5).trans rfl;have f2:=af HZ.out.bt 2;have f3:=af HZ.out.bt 3;have f4:=af HZ.out.bt 4;have f5:=af HZ.out.bt 5;clear hb x0 x1 x2 x3)
                      refine forget (fun Y=>OfT wo Y gt (.slice Ac c.length cc,⟨c,3,⟨b.f0,0,0,lk⟩,0,0⟩)) (HZ.out.last ⟨b.f0,0,0,lk⟩) ?_
                      clear y2 y3 y4 y5 f2 f3 f4 f5 HZ HY
                      rintro Y hY
                      obtain ⟨x0,x1,x2,x3⟩:=HR.out Y (av HS.out.1.dr.low hY.low)
                      rw [HQR.out.1] at x1
                      have n0:Y.cell? ⟨gn,j+1+q,none⟩=some (.int .i64 z):=by rw [EZ.out.1];exact (ae (HS.out.1.below hY.low).dr.nb _).trans (iN (by rw [HS.out.1.dr.nl];omega))
                      have y6:Y.cell? ⟨gt,6,none⟩=some (.int .i64 0):=(ae hY.bt 6).trans rfl
                      have f6:Y.frozen? ⟨gt,6,none⟩=false:=af hY.bt 6
                      have HY:=aa.mk hY
                      clear hY x0 x2 x3
                      go_upto_region 24 with (fail)
                      refine forget (fun Y=>OfT wo Y gt (.slice Ac c.length cc,⟨c,3,⟨b.f0,0,0,lk⟩,z,0⟩)) (HY.out.mg (q':=(.slice Ac c.length cc,⟨c,3,⟨b.f0,0,0,lk⟩,z,0⟩)) (j:=6) rfl rfl rfl) ?_
                      clear y6 f6 n0 HY x1
                      rintro Y hY
                      obtain ⟨x0,x1,x2,x3⟩:=HR.out Y (av HS.out.1.dr.low hY.low)
                      rw [HQR.out.2] at x2
                      have n0:Y.cell? ⟨gn,j+1+r,none⟩=some (.int .i64 z2):=by rw [EZ.out.2];exact (ae (HS.out.1.below hY.low).dr.nb _).trans (iN (by rw [HS.out.1.dr.nl];omega))
                      have y7:Y.cell? ⟨gt,7,none⟩=some (.int .i64 0):=(ae hY.bt 7).trans rfl
                      have f7:Y.frozen? ⟨gt,7,none⟩=false:=af hY.bt 7
                      have HY:=aa.mk hY
                      clear hY x0 x1 x3
                      go_wp2
                      go_meet
                      exact ⟨rfl,_,⟨HY.out.mg (q':=(.slice Ac c.length cc,⟨c,3,⟨b.f0,0,0,lk⟩,z,z2⟩)) (j:=7) rfl rfl rfl,(by rw [ELK.out];exact yT HOC.out.oc HCJ.out ⟨HBB.out.2.1.2.2.2.2.1,HBB.out.2.1.2.2.2.2.2⟩ HG.out.1 HG.out.2 HG2.out.1 HG2.out.2),rfl⟩⟩
              case rest=>
                clear HRT HLT HNT HR i0 i1 i2 HJ x0 x1 x2 x3 y0 y1 f1 k0 HB
                obtain ⟨rfl,⟨vq,cq,eq,⟨q0,q1,q2,q3⟩,qy,qz⟩,HQ⟩:=hcut
                obtain ⟨Y,rfl⟩:∃ Y:World,Y=wc:=⟨_,rfl⟩
                have hY:=HQ.out.1
                have hBK:=HQ.out.2.1
                have hcq:=HQ.out.2.2
                clear HQ
                have y0:Y.cell? ⟨gt,0,none⟩=some vq:=(ae hY.bt 0).trans rfl
                have y1:Y.cell? ⟨gt,1,none⟩=some (.int .i64 eq):=(ae hY.bt 1).trans rfl
                have y2:Y.cell? ⟨gt,2,none⟩=some (.int .u16 q0):=(ae hY.bt 2).trans rfl
                have y3:Y.cell? ⟨gt,3,none⟩=some (.int .u8 q1):=(ae hY.bt 3).trans rfl
                have y4:Y.cell? ⟨gt,4,none⟩=some (.int .u8 q2):=(ae hY.bt 4).trans rfl
                have y5:Y.cell? ⟨gt,5,none⟩=some (.int .u32 q3):=(ae hY.bt 5).trans rfl
                have y6:Y.cell? ⟨gt,6,none⟩=some (.int .i64 qy):=(ae hY.bt 6).trans rfl
                have y7:Y.cell? ⟨gt,7,none⟩=some (.int .i64 qz):=(ae hY.bt 7).trans rfl
                have HT:=aa.mk hY
                have HSY:=aa.mk (HS.out.1.below hY.low)
                have HBK:=aa.mk (And.intro hBK hcq)
                clear hY hBK hcq
                go_wp2_with (at_builtin;go_loud ((refine Kd.jm k47 (w0:=w) (W:=Y) w.heap.size rfl (.tmp 172) (.tmp 174) 22 47 (.agg #[.slice none 0 0,.int .i64 0,.int .u16 0,.int .u8 0,.int .u8 0,.int .u32 0,.int .i64 0,.int .i64 0]) 56 rfl hub mf rfl (by decide) (by decide) _ out ⟨cq,eq,⟨q0,q1,q2,q3⟩,qy,qz⟩ (b8 (vq,⟨cq,eq,⟨q0,q1,q2,q3⟩,qy,qz⟩)) (fun _=>True) (fun k=>wo.heap.size≤k) rfl rfl (HT.out.m HS.out.1.dr.low.size) (fun k hk=>⟨trivial,fun e=>Nat.lt_irrefl _ (Nat.lt_of_lt_of_le (Kd.R_lt HS.out.1.out k e.symm) hk)⟩) (fun _ _=>trivial) HSY.out.out HSY.out.dr.low HSY.out.dr.low.size (by have:=HLO.out;omega) ?_);intro v1 w5 ho hb hg hat;have HN:=aa.mk (OfS.put (q:=(vq,⟨cq,eq,⟨q0,q1,q2,q3⟩,qy,qz⟩)) HSY.out ho hb hg);clear ho hb hg hat))
                go_roundw
                case rel=>exact ⟨j+1,_,by omega,by go_num,⟨HN.out,HNX.out,by rw [List.length_append];exact HBB.out.2.2.2.2.1,HOC.out.o.add HBK.out.1 (by have:=HOC.out.le;rw [HBK.out.2];omega)⟩⟩
                case measure=>have:=HOC.out.le;simp [intOf];omega
        · have hkn:n=k:=by omega
          subst hkn
          have HK:aa (GOk out):=⟨by
            have h4:=kR HOP.out.m.t0
            have h5:=rA F (show 0+1≤n by omega)
            have h6:=um F n
            have h7:=HS.out.2.c
            refine ⟨by omega,by omega,?_,by have:=HS.out.2.o.sum;omega⟩
            rw [←h7];exact HS.out.2.o.all⟩
          go_wp2
          refine bodyPost_ret (results_tmp2 rfl _ _ _) rfl ?_
          exact ⟨out,_,rfl,HS.out.1.out,HK.out,HS.out.1.dr.low⟩
theorem of_no (w:World) (p:List S45) (A:Option Addr) (c0:Nat) (HP:Kd.C k45 w A p.length p) (hc:p.length≤c0) (r1 r2:Int) (hr:bD.f 40000 p=some (r1,r2)) (h0:r2≠0) :
    Calls Try.prog 36 #[.slice A p.length c0] w fun e w'=>e = .returned (.tuple #[.slice none 0 0,.int .i64 155])∧Below w.heap.size w w':=by
  have b5:(r2 != 0)=true:=bne_iff_ne.mpr h0
  have HCK:=aa.mk (bD.calls 40000 A c0 p r1 r2 w HP hc hr)
  clear HP hc hr h0
  go_enter Try.func36,Try.ntmps36
  go_wp2_with (go_at_call 21;refine HCK.out.mono ?_;rintro e w1 ⟨rfl,hb⟩;have HB1:=aa.mk hb;clear hb)
  go_ret2
  exact ⟨rfl,HB1.out⟩
theorem Ba (w:World) (p:List S45) (A:Option Addr) (c0:Nat) (HP:Kd.C k45 w A p.length p) (hc:p.length≤c0) (hw:PrW p) :
    (Calls Try.prog 36 #[.slice A p.length c0] w fun e w'=>e = .returned (.tuple #[.slice none 0 0,.int .i64 155])∧Below w.heap.size w w') ∨
    (Calls Try.prog 36 #[.slice A p.length c0] w fun e w'=>∃ g Ag cg,e = .returned (.tuple #[.slice Ag g.length cg,.int .i64 0])∧Kd.C k47 w' Ag g.length g∧g.length≤cg∧GOk g∧Below w.heap.size w w'):=by
  obtain ⟨⟨r1,r2⟩,hr,h⟩:=chk_f p hw 40000 (by omega)
  by_cases e:r2=0
  · subst e
    obtain ⟨h0,h1,h2,h3⟩:=h rfl
    refine .inr ((of_yes w p A c0 HP hc r1 hr hw h0 h1 h2 (fun b hb=>?_)).mono ?_)
    · rw [List.getElem?_eq_getElem (by omega)] at hb
      obtain rfl:=Option.some.inj hb
      exact h3
    · rintro e w1 ⟨g,v,rfl,hR,hG,hb⟩
      obtain ⟨Ag,cg,rfl⟩:=Kd.gJ hR
      have hr:=Kd.dW hR
      exact ⟨g,Ag,cg,rfl,hr.2.2,hr.2.1,hG,hb⟩
  · exact .inl (of_no w p A c0 HP hc r1 r2 hr e)
theorem uw (w:World) (B:Bs) (gw gb cap:Nat) (bs:List (Value × S47)) (tl:List Value) (hW:Wk w B gw gb cap bs tl) (hG:GOk (bs.map (·.2))) :
 Calls Try.prog 87 #[.pointer (some ⟨gw,0,none⟩)] w fun e w'=>e = .returned (.bool (iV (bs.map (·.2))).2)∧(∃ gb' cap' bs' tl',bs'.map (·.2)=(iV (bs.map (·.2))).1∧Wk w' B gw gb' cap' bs' tl')∧Below B.n w w':=by
 obtain ⟨L,eL⟩:∃ L,L=bs.length:=⟨_,rfl⟩
 have hL:L≤4096:=by have:=hG.few;rw [List.length_map] at this;omega
 have hL0:0<L:=by have:=hG.some_;rw [List.length_map] at this;omega
 have hui:=Try.underlying22
 have c0:w.cell? ⟨gw,0,none⟩=some (.slice (some ⟨gb,0,none⟩) L cap):=by rw [eL];exact (ae hW.me 0).trans rfl
 have hmk:=pM L hL
 have hmi:=qN L hL
 obtain ⟨G,eG⟩:∃ G,G=bs.map (·.2):=⟨_,rfl⟩
 rw [←eG] at hG ⊢
 have HGL:aa (G.length=L):=⟨by rw [eG,List.length_map,eL]⟩
 have HGB:aa (∀ (i:Nat) (v:Value) (b:S47),bs[i]?=some (v,b)→G[i]?=some b):=⟨fun i v b h=>by rw [eG,List.getElem?_map,h];rfl⟩
 obtain ⟨fi,efi⟩:∃ fi,fi=onG G 0:=⟨_,rfl⟩
 obtain ⟨C,eC⟩:∃ C,C=fU G fi:=⟨_,rfl⟩
 have hfi:fi<L:=by rw [efi];have:=(oo hG G.length 0 hG.some_).2;rw [←HGL.out];exact this
 have HON:=aa.mk (pO w B gw gb cap bs tl hW G hG (by rw [HGL.out,eL]) 0 0 (fun i v b _ h=>HGB.out i v b h) (by rw [HGL.out];omega))
 rw [←efi] at HON
 have HW:=aa.mk hW
 have HG:=aa.mk hG
 have EL:=aa.mk eL
 have EG:=aa.mk eG
 have EC:=aa.mk eC
 have EFI:=aa.mk efi
 have HC0:aa (C.length=L∧C.getD fi false=true):=⟨⟨by rw [eC];unfold fU;rw [yX,List.length_set,List.length_replicate,HGL.out],by rw [eC];exact cm_t _ _ _ _ (by rw [dL (by rw [List.length_replicate,HGL.out];exact hfi),if_pos rfl])⟩⟩
 clear hW hG eL eG eC efi
 go_enter Try.func87,Try.ntmps87
 go_upto_region 2 with (go_at_call 136;refine HON.out.mono ?_;rintro e w2 ⟨rfl,hw⟩;have hw':=hw.symm;clear hw;subst hw')
 clear HON
 go_upto_region 3 with (fail)
 refine forget (fun X=>∃ gc,gc=w.heap.size∧Below w.heap.size w X∧X.heap[gc]?=some (.cells (boC (List.replicate L false)) 4 (0,0))) ⟨_,rfl,ai (Below.refl _ _) _,heap_alloc_new _ _⟩ ?_
 rintro X ⟨gc,egc,hbX,hX⟩
 rw [←egc]
 have EGC:=aa.mk egc
 replace c0:X.cell? ⟨gw,0,none⟩=some (.slice (some ⟨gb,0,none⟩) L cap):=au hbX c0
 have HX:=aa.mk (And.intro hbX hX)
 have k0:X.cell? ⟨gc,fi,none⟩=some (.bool ((List.replicate L false).getD fi false)):=(ae hX fi).trans (jH (by rw [List.length_replicate];exact hfi))
 have kz:X.frozen? ⟨gc,fi,none⟩=false:=af hX fi
 have i0:(0:Int)≤(fi:Int):=by omega
 have i1:(fi:Int)<(L:Int):=by omega
 clear egc hbX hX hmk
 go_upto_region 4 with (fail)
 refine forget (fun Y=>Below w.heap.size w Y∧Y.heap[gc]?=some (.cells (boC ((List.replicate L false).set fi true)) 4 (0,0))) ⟨HX.out.1.setCell (by have:=EGC.out;show _≤gc;omega) _,aM HX.out.2 fi _ (rH fi true)⟩ ?_
 clear c0 k0 kz HX
 rintro Y ⟨hbY,hY⟩
 have c0:Y.cell? ⟨gw,0,none⟩=some (.slice (some ⟨gb,0,none⟩) L cap):=au hbY (by rw [EL.out];exact (ae HW.out.me 0).trans rfl)
 have HY:=aa.mk (And.intro hbY hY)
 clear hbY hY
 go_upto_region 5 with (fail)
 refine forget (fun Z=>∃ gn,gn=Y.heap.size∧DI w Z gc gn L C G 0 ((List.replicate L false).set fi true) (List.replicate L 0)) ⟨_,rfl,⟨HY.out.1.alloc HY.out.1.size _,by rw [Deep.blk_alloc_lt _ _ _ (ax HY.out.2)];exact HY.out.2,heap_alloc_new _ _,by rw [List.length_set,List.length_replicate],List.length_replicate,by have:=EGC.out;omega,HY.out.1.size⟩,by rw [List.drop_zero,EC.out];unfold fU;rw [HGL.out],fun j hj=>by omega⟩ ?_
 clear c0 HY
 rintro Z ⟨gn,egn,hdi⟩
 rw [←egn]
 have HDI:=aa.mk hdi
 have c0:Z.cell? ⟨gw,0,none⟩=some (.slice (some ⟨gb,0,none⟩) L cap):=au hdi.dr.low (by rw [EL.out];exact (ae HW.out.me 0).trans rfl)
 clear egn hdi hmi
 go_wp2
 go_loopw [6,34] (fun v6 v34 wr=>∃ (n:Nat) (c:List Bool) (nm:List Int),n≤L∧v34 = .int .i64 n∧v6 = .int .i64 (cO C n:Nat)∧aa (DI w wr gc gn L C G n c nm)) (fun _ v34 _=>L - (intOf v34).toNat)
 case atStart=>exact ⟨0,_,_,Nat.zero_le _,rfl,rfl,HDI⟩
 case round=>
  clear HDI c0
  obtain ⟨n,c,nm,hn,rfl,rfl,HDI⟩:=hrel
  have hnum:cO C n≤n:=by have:=(iW (c:=C) (Nat.zero_le n)).2;have e:cO C 0=0:=rfl;omega
  by_cases hlt:n<L
  · obtain ⟨v,b,hb⟩:∃ v b,bs[n]?=some (v,b):=⟨(bs[n]'(by rw [←EL.out];exact hlt)).1,(bs[n]'(by rw [←EL.out];exact hlt)).2,List.getElem?_eq_getElem (by rw [←EL.out];exact hlt)⟩
    have hGn:=HGB.out n v b hb
    have hGd:G.drop n=b :: G.drop (n+1):=by
     obtain ⟨h4,h5⟩:=List.getElem?_eq_some_iff.1 hGn
     rw [List.drop_eq_getElem_cons h4,h5]
    have hWr:=HW.out.below HDI.out.dr.low
    have hcd:Cd wr v b.f0:=hWr.row.code n _ hb
    obtain ⟨Av,cv,rfl⟩:=hcd.slice
    have i2:(0:Int)≤(n:Int):=by omega
    have i3:(n:Int)<(L:Int):=by omega
    have c0:wr.cell? ⟨gw,0,none⟩=some (.slice (some ⟨gb,0,none⟩) L cap):=by rw [EL.out];exact (ae hWr.me 0).trans rfl
    have g:=fun (jj:Nat) (hh:jj<8)=>(ae hWr.row.row (n*8+jj)).trans (di hb hh)
    have b0:wr.cell? ⟨gb,n*8,none⟩=some (.slice Av b.f0.length cv):=g 0 (by omega)
    have b1:wr.cell? ⟨gb,n*8+1,none⟩=some (.int .i64 b.f1):=g 1 (by omega)
    have b2:wr.cell? ⟨gb,n*8+2,none⟩=some (.int .u16 b.f2.f0):=g 2 (by omega)
    have b3:wr.cell? ⟨gb,n*8+3,none⟩=some (.int .u8 b.f2.f1):=g 3 (by omega)
    have b4:wr.cell? ⟨gb,n*8+4,none⟩=some (.int .u8 b.f2.f2):=g 4 (by omega)
    have b5:wr.cell? ⟨gb,n*8+5,none⟩=some (.int .u32 b.f2.f3):=g 5 (by omega)
    have b6:wr.cell? ⟨gb,n*8+6,none⟩=some (.int .i64 b.f3):=g 6 (by omega)
    have b7:wr.cell? ⟨gb,n*8+7,none⟩=some (.int .i64 b.f4):=g 7 (by omega)
    have HB0:=aa.mk (And.intro hb (And.intro hGn hGd))
    have HBK:=aa.mk (HG.out.all n b hGn)
    clear g hb hGn hGd hWr hcd
    go_upto_region 9 with (fail)
    refine forget (fun X=>∃ gt,gt=wr.heap.size∧DT w X gc gn L c nm gt (.slice Av b.f0.length cv,b)) ⟨_,rfl,HDI.out.dr.below (ai (Below.refl _ _) _),heap_alloc_new _ _,HDI.out.dr.low.size⟩ ?_
    clear c0 b0 b1 b2 b3 b4 b5 b6 b7
    rintro X ⟨gt,egt,hdt⟩
    rw [←egt]
    have EGT:=aa.mk egt
    have HDT:=aa.mk hdt
    have k0:X.cell? ⟨gc,n,none⟩=some (.bool (c.getD n false)):=(ae hdt.dr.cm n).trans (jH (by rw [hdt.dr.cl];exact hlt))
    rw [HDI.out.at_ HG.out] at k0
    clear egt hdt
    cases hcn:C.getD n false with
    | false=>
     rw [hcn] at k0
     have HE:=aa.mk (HDI.out.skip HG.out HB0.out.2.2 hcn HDT.out.dr)
     have HNN:aa (cO C n=cO C (n+1)):=⟨(nI (by rw [hcn];decide)).symm⟩
     clear hcn HDI HDT
     go_wp2
     go_roundw
     case rel=>exact ⟨n+1,_,_,by omega,by go_num,by rw [HNN.out],HE⟩
     case measure=>simp [intOf];omega
    | true=>
     rw [hcn] at k0
     have HGO:=aa.mk (fun (Y:World)=>HDI.out.go (Y:=Y) HG.out HB0.out.2.2 hlt hcn)
     have HNN:aa (cO C n+1=cO C (n+1)):=⟨(mP hcn).symm⟩
     have nz:X.frozen? ⟨gn,n,none⟩=false:=af HDT.out.dr.nb n
     have n0:X.cell? ⟨gn,n,none⟩=some (.int .i64 (nm.getD n 0)):=(ae HDT.out.dr.nb n).trans (iN (by rw [HDT.out.dr.nl];exact hlt))
     clear hcn
     go_upto_region 11 with (fail)
     refine forget (fun Y=>DT w Y gc gn L c (nm.set n (cO C n:Nat)) gt (.slice Av b.f0.length cv,b)) (HDT.out.qB n _) ?_
     clear k0 nz n0 HDI HDT
     intro Y hdt
     have HDT:=aa.mk hdt
     have b1:Y.cell? ⟨gt,1,none⟩=some (.int .i64 b.f1):=(ae hdt.bt 1).trans rfl
     have b6:Y.cell? ⟨gt,6,none⟩=some (.int .i64 b.f3):=(ae hdt.bt 6).trans rfl
     have hec:=eO HBK.out.ends
     have gy:=bB HBK.out.goal
     have gnn:=dM HBK.out.goal
     rw [HGL.out] at gy gnn
     have hcase:b.f1=1∨b.f1=2∨b.f1=3:=by rcases hec with h | h | h;exact .inl h.1;exact .inr (.inl h.1);exact .inr (.inr h.1)
     clear hdt hec
     rcases hcase with h1 | h1
     · have hmc:mkC b c=c:=by unfold mkC;rw [if_pos h1]
       have HE:=aa.mk (HGO.out Y (by rw [hmc];exact HDT.out.dr))
       rw [h1] at b1
       clear h1 gy gnn HGO HDT b6 hmc
       go_wp2
       go_roundw
       case rel=>exact ⟨n+1,_,_,by omega,by go_num,by rw [←HNN.out];go_num,HE⟩
       case measure=>simp [intOf];omega
     have hne1:b.f1≠1:=by omega
     have gy2:=gy hne1
     obtain ⟨y,hy⟩:∃ y:Nat,b.f3=(y:Int):=⟨b.f3.toNat,by omega⟩
     have hyT:b.f3.toNat=y:=by rw [hy];rfl
     rw [hy] at b6
     have h1':(b.f1==1)=false:=bn hne1
     have i4:(0:Int)≤(y:Int):=by omega
     have i5:(y:Int)<(L:Int):=by omega
     have hyL:y<L:=by omega
     have kz:Y.frozen? ⟨gc,y,none⟩=false:=af HDT.out.dr.cm y
     have k0:Y.cell? ⟨gc,y,none⟩=some (.bool (c.getD y false)):=(ae HDT.out.dr.cm y).trans (jH (by rw [HDT.out.dr.cl];exact hyL))
     have HYT:=aa.mk hyT
     clear hy gy gy2 hne1 hyT
     go_upto_region 14 with (fail)
     refine forget (fun Z=>DT w Z gc gn L (c.set y true) (nm.set n (cO C n:Nat)) gt (.slice Av b.f0.length cv,b)) (HDT.out.setc y true) ?_
     clear b1 b6 kz k0 HDT
     intro Z hdt
     have HDT:=aa.mk hdt
     have b1:Z.cell? ⟨gt,1,none⟩=some (.int .i64 b.f1):=(ae hdt.bt 1).trans rfl
     have b7:Z.cell? ⟨gt,7,none⟩=some (.int .i64 b.f4):=(ae hdt.bt 7).trans rfl
     clear hdt
     rcases h1 with h1 | h1
     · have hmc:mkC b c=c.set y true:=by unfold mkC;rw [if_neg (by rw [h1];decide),if_neg (by rw [h1];decide),HYT.out]
       have HE:=aa.mk (HGO.out Z (by rw [hmc];exact HDT.out.dr))
       rw [h1] at b1
       clear h1 gnn HGO HDT b7 hmc h1'
       go_wp2
       go_roundw
       case rel=>exact ⟨n+1,_,_,by omega,by go_num,by rw [←HNN.out];go_num,HE⟩
       case measure=>simp [intOf];omega
     have gn2:=gnn h1
     obtain ⟨m,hm⟩:∃ m:Nat,b.f4=(m:Int):=⟨b.f4.toNat,by omega⟩
     have hmT:b.f4.toNat=m:=by rw [hm];rfl
     rw [hm] at b7
     have i6:(0:Int)≤(m:Int):=by omega
     have i7:(m:Int)<(L:Int):=by omega
     have hmL:m<L:=by omega
     have kz:Z.frozen? ⟨gc,m,none⟩=false:=af HDT.out.dr.cm m
     have k0:Z.cell? ⟨gc,m,none⟩=some (.bool ((c.set y true).getD m false)):=(ae HDT.out.dr.cm m).trans (jH (by rw [HDT.out.dr.cl];exact hmL))
     have hmc:mkC b c=(c.set y true).set m true:=by unfold mkC;rw [if_neg (by rw [h1];decide),if_pos h1,HYT.out,hmT]
     have HE:=aa.mk (HGO.out _ (by rw [hmc];exact (HDT.out.setc m true).dr))
     rw [h1] at b1
     clear h1 gnn gn2 HGO HDT hmc h1' hm hmT
     go_wp2
     go_roundw
     case rel=>exact ⟨n+1,_,_,by omega,by go_num,by rw [←HNN.out];go_num,HE⟩
     case measure=>simp [intOf];omega
  have hnl:n=L:=by omega
  subst hnl
  have hcC:=HDI.out.done HGL.out
  subst hcC
  have hWr:=HW.out.below HDI.out.dr.low
  have c0:wr.cell? ⟨gw,0,none⟩=some (.slice (some ⟨gb,0,none⟩) n cap):=by rw [EL.out];exact (ae hWr.me 0).trans rfl
  have HWr:=aa.mk hWr
  clear hWr
  by_cases hq:cO c n=n
  · have hd:iV G=(G,false):=by
     unfold iV
     rw [←EFI.out,←EC.out,HGL.out,if_pos hq]
    have HD:=aa.mk hd
    clear hd
    rw [hq]
    go_wp2
    go_ret
    rw [HD.out]
    exact ⟨rfl,⟨gb,cap,bs,tl,EG.out.symm,HWr.out⟩,⟨HDI.out.dr.low.os,HDI.out.dr.low.tape,HDI.out.dr.low.output,HDI.out.dr.low.size,fun i hi=>HDI.out.dr.low.block i (by have:=ax HW.out.me;have:=HW.out.lo;omega)⟩⟩
  have hd:iV G=(dpL c G 0,true):=by
   unfold iV
   rw [←EFI.out,←EC.out,HGL.out,if_neg hq]
  have HD:=aa.mk hd
  have hne:dpV c bs 0≠[]:=by
   intro e
   have e2:=wh c bs 0
   rw [e,←EG.out] at e2
   have e3:=zh c G 0
   rw [←e2,HGL.out,Nat.zero_add] at e3
   have e4:=lh hfi HC0.out.2
   have e5:cO c 0=0:=rfl
   have e6:(List.map (fun x:Value × S47=>x.2) []).length=0:=rfl
   omega
  have HNE:=aa.mk hne
  have hCl:∀ (j:Nat) (b:S47),G[j]?=some b→c.getD j false=true→(b.f1≠1→c.getD b.f3.toNat false=true)∧(b.f1=3→c.getD b.f4.toNat false=true):=by
   intro j b hj hc
   have h:=cm_cl G.length G 0 ((List.replicate G.length false).set fi true) (fun j b h=>by rw [Nat.zero_add];exact HG.out.all j b h) (by rw [List.length_set,List.length_replicate]) j b hj
   have e:=EC.out
   unfold fU at e
   rw [Nat.zero_add,←e] at h
   exact h hc
  have HCL:=aa.mk hCl
  have hq':((cO c n:Int)==(n:Int))=false:=bn (by omega)
  have HO:aa (DO w wr gc gn n c nm bs 0 (.slice none 0 0)):=⟨⟨HDI.out.dr,Kd.kK _ _ _ _ _⟩⟩
  have HNM:=aa.mk HDI.out.nf
  clear hd hne hCl HDI HWr hq hnum
  obtain ⟨wo,rfl⟩:∃ wo:World,wo=wr:=⟨_,rfl⟩
  go_wp2
  go_loopw [9,77] (fun v9 v77 wr=>∃ (k:Nat),k≤n∧v77 = .int .i64 k∧aa (DO w wr gc gn n c nm bs k v9)) (fun _ v77 _=>n - (intOf v77).toNat)
  case atStart=>exact ⟨0,Nat.zero_le _,rfl,HO⟩
  case round=>
   clear HO c0
   obtain ⟨k,hk,rfl,HO⟩:=hrel
   by_cases hlt2:k<n
   · obtain ⟨v,b,hb⟩:∃ v b,bs[k]?=some (v,b):=⟨(bs[k]'(by rw [←EL.out];exact hlt2)).1,(bs[k]'(by rw [←EL.out];exact hlt2)).2,List.getElem?_eq_getElem (by rw [←EL.out];exact hlt2)⟩
     have hGn:=HGB.out k v b hb
     have hWr:=HW.out.below HO.out.dr.low
     have hcd:Cd wr v b.f0:=hWr.row.code k _ hb
     obtain ⟨Av,cv,rfl⟩:=hcd.slice
     have i2:(0:Int)≤(k:Int):=by omega
     have i3:(k:Int)<(n:Int):=by omega
     have c0:wr.cell? ⟨gw,0,none⟩=some (.slice (some ⟨gb,0,none⟩) n cap):=by rw [EL.out];exact (ae hWr.me 0).trans rfl
     have g:=fun (jj:Nat) (hh:jj<8)=>(ae hWr.row.row (k*8+jj)).trans (di hb hh)
     have b0:wr.cell? ⟨gb,k*8,none⟩=some (.slice Av b.f0.length cv):=g 0 (by omega)
     have b1:wr.cell? ⟨gb,k*8+1,none⟩=some (.int .i64 b.f1):=g 1 (by omega)
     have b2:wr.cell? ⟨gb,k*8+2,none⟩=some (.int .u16 b.f2.f0):=g 2 (by omega)
     have b3:wr.cell? ⟨gb,k*8+3,none⟩=some (.int .u8 b.f2.f1):=g 3 (by omega)
     have b4:wr.cell? ⟨gb,k*8+4,none⟩=some (.int .u8 b.f2.f2):=g 4 (by omega)
     have b5:wr.cell? ⟨gb,k*8+5,none⟩=some (.int .u32 b.f2.f3):=g 5 (by omega)
     have b6:wr.cell? ⟨gb,k*8+6,none⟩=some (.int .i64 b.f3):=g 6 (by omega)
     have b7:wr.cell? ⟨gb,k*8+7,none⟩=some (.int .i64 b.f4):=g 7 (by omega)
     have HB0:=aa.mk (And.intro hb hGn)
     have HBK:=aa.mk (HG.out.all k b hGn)
     have HLN:aa (((dpV c (bs.take k) 0).map b8).length≤4096):=⟨by
      have h1:=dpV_le (C:=c) (bs.take k) 0
      rw [List.length_take] at h1
      rw [List.length_map]
      omega⟩
     have k0:wr.cell? ⟨gc,k,none⟩=some (.bool (c.getD k false)):=(ae HO.out.dr.cm k).trans (jH (by rw [HO.out.dr.cl];exact hlt2))
     clear g hb hGn hWr hcd
     go_upto_region 23 with (fail)
     refine forget (fun X=>∃ gt,gt=wr.heap.size∧DT w X gc gn n c nm gt (.slice Av b.f0.length cv,b)∧Below wr.heap.size wr X) ⟨_,rfl,⟨HO.out.dr.below (ai (Below.refl _ _) _),heap_alloc_new _ _,HO.out.dr.low.size⟩,ai (Below.refl _ _) _⟩ ?_
     rintro X ⟨gt,egt,hdt,hbx⟩
     rw [←egt]
     replace k0:=au hbx k0
     clear c0 b0 b1 b2 b3 b4 b5 b6 b7
     have EGT:=aa.mk egt
     have HDT:=aa.mk hdt
     have HBX:=aa.mk hbx
     cases hcn:c.getD k false with
     | false=>
      rw [hcn] at k0
      have HE:=aa.mk (HO.out.skip HB0.out.1 hcn hbx)
      clear egt hdt hbx hcn HDT HBX HO
      go_wp2
      go_roundw
      case rel=>exact ⟨k+1,by omega,by go_num,HE⟩
      case measure=>simp [intOf];omega
     | true=>
      rw [hcn] at k0
      have HCN:=aa.mk hcn
      obtain ⟨d,ed⟩:∃ d,d=gM c b:=⟨_,rfl⟩
      have ED:=aa.mk ed
      have hcl:=HCL.out k b HB0.out.2 hcn
      have hec:=eO HBK.out.ends
      have gy:=bB HBK.out.goal
      have gnn:=dM HBK.out.goal
      rw [HGL.out] at gy gnn
      have b1:X.cell? ⟨gt,1,none⟩=some (.int .i64 b.f1):=(ae hdt.bt 1).trans rfl
      have b6:X.cell? ⟨gt,6,none⟩=some (.int .i64 b.f3):=(ae hdt.bt 6).trans rfl
      have b7:X.cell? ⟨gt,7,none⟩=some (.int .i64 b.f4):=(ae hdt.bt 7).trans rfl
      have z6:X.frozen? ⟨gt,6,none⟩=false:=af hdt.bt 6
      have hcase:b.f1=1∨b.f1=2∨b.f1=3:=by rcases hec with h | h | h;exact .inl h.1;exact .inr (.inl h.1);exact .inr (.inr h.1)
      clear egt hdt hbx hcn hec ed
      rcases hcase with h1 | h1
      · have ed1:d=b:=ED.out.trans (db1 h1)
        have HED1:=aa.mk (And.intro ed1 h1)
        rw [h1] at b1
        clear gy gnn hcl b6 b7 z6 h1 ed1
        go_upto_region 28 with (fail)
        have HTL:aa (DT w X gc gn n c nm gt (.slice Av b.f0.length cv,d)∧Below wr.heap.size wr X):=⟨by rw [HED1.out.1];exact HDT.out,HBX.out⟩
        clear HDT HBX b1 k0
        refine forget (fun Y=>DT w Y gc gn n c nm gt (.slice Av b.f0.length cv,d)∧Below wr.heap.size wr Y) HTL.out ?_
        clear HTL
        rintro Y ⟨hdt,hby⟩
        have y0:Y.cell? ⟨gt,0,none⟩=some (.slice Av b.f0.length cv):=(ae hdt.bt 0).trans rfl
        have y1:Y.cell? ⟨gt,1,none⟩=some (.int .i64 d.f1):=(ae hdt.bt 1).trans rfl
        have y2:Y.cell? ⟨gt,2,none⟩=some (.int .u16 d.f2.f0):=(ae hdt.bt 2).trans rfl
        have y3:Y.cell? ⟨gt,3,none⟩=some (.int .u8 d.f2.f1):=(ae hdt.bt 3).trans rfl
        have y4:Y.cell? ⟨gt,4,none⟩=some (.int .u8 d.f2.f2):=(ae hdt.bt 4).trans rfl
        have y5:Y.cell? ⟨gt,5,none⟩=some (.int .u32 d.f2.f3):=(ae hdt.bt 5).trans rfl
        have y6:Y.cell? ⟨gt,6,none⟩=some (.int .i64 d.f3):=(ae hdt.bt 6).trans rfl
        have y7:Y.cell? ⟨gt,7,none⟩=some (.int .i64 d.f4):=(ae hdt.bt 7).trans rfl
        have HDY:=aa.mk (And.intro hdt hby)
        clear hdt hby
        go_wp2_with (at_builtin;go_loud ((refine Kd.jm (Kd.raw 8) (w0:=w) (W:=Y) w.heap.size rfl (.tmp 105) (.tmp 107) 22 47 (.agg #[.slice none 0 0,.int .i64 0,.int .u16 0,.int .u8 0,.int .u8 0,.int .u32 0,.int .i64 0,.int .i64 0]) 56 rfl hui mf rfl (by decide) (by decide) _ _ (b8 (.slice Av b.f0.length cv,d)) (b8 (.slice Av b.f0.length cv,d)) (fun _=>True) (fun _=>False) rfl rfl ⟨rfl,rfl,rz rfl⟩ (fun _ h=>h.elim) (fun _ _=>trivial) (Kd.il HO.out.out HDY.out.2) HDY.out.1.dr.low HDY.out.1.dr.low.size (by have:=HLN.out;omega) ?_);intro v1 w5 ho hb hg hat;have HN:aa (DO w w5 gc gn n c nm bs (k+1) v1):=⟨⟨HDY.out.1.dr.grown (Kd.il HO.out.out HDY.out.2) hb hg,by rw [mF HB0.out.1,if_pos HCN.out,List.map_append];have h:=ho;rw [ED.out] at h;exact h⟩⟩;clear ho hb hg hat))
        go_roundw
        case rel=>exact ⟨k+1,by omega,by go_num,HN⟩
        case measure=>simp [intOf];omega
      have hne1:b.f1≠1:=by omega
      have gy2:=gy hne1
      have hcy:=hcl.1 hne1
      obtain ⟨y,hy⟩:∃ y:Nat,b.f3=(y:Int):=⟨b.f3.toNat,by omega⟩
      have hyT:b.f3.toNat=y:=by rw [hy];rfl
      rw [hyT] at hcy
      rw [hy] at b6
      have h1':(b.f1==1)=false:=bn hne1
      have i4:(0:Int)≤(y:Int):=by omega
      have i5:(y:Int)<(n:Int):=by omega
      have hyL:y<n:=by omega
      have n0:X.cell? ⟨gn,y,none⟩=some (.int .i64 (cO c y:Nat)):=by
       rw [←HNM.out y hyL hcy];exact (ae HDT.out.dr.nb y).trans (iN (by rw [HDT.out.dr.nl];exact hyL))
      have HYT:=aa.mk (And.intro hyT hy)
      clear hy gy gy2 hne1 hyT hcy
      go_upto_region 26 with (fail)
      refine forget (fun Z=>DT w Z gc gn n c nm gt (.slice Av b.f0.length cv,⟨b.f0,b.f1,b.f2,(cO c y:Nat),b.f4⟩)∧Below wr.heap.size wr Z) ⟨HDT.out.mg (q':=(.slice Av b.f0.length cv,⟨b.f0,b.f1,b.f2,(cO c y:Nat),b.f4⟩)) (j:=6) rfl,HBX.out.setCell (by have:=EGT.out;show _≤gt;omega) _⟩ ?_
      clear b1 b6 b7 z6 n0 k0 HDT HBX
      rintro Z ⟨hdt,hbx⟩
      have HDT:=aa.mk hdt
      have HBX:=aa.mk hbx
      have b1:Z.cell? ⟨gt,1,none⟩=some (.int .i64 b.f1):=(ae hdt.bt 1).trans rfl
      have b7:Z.cell? ⟨gt,7,none⟩=some (.int .i64 b.f4):=(ae hdt.bt 7).trans rfl
      have z7:Z.frozen? ⟨gt,7,none⟩=false:=af hdt.bt 7
      clear hdt hbx
      rcases h1 with h1 | h1
      · have ed1:d=⟨b.f0,b.f1,b.f2,(cO c y:Nat),b.f4⟩:=by rw [ED.out,db2 h1,HYT.out.1]
        have HED1:=aa.mk (And.intro ed1 h1)
        rw [h1] at b1
        clear gnn hcl b7 z7 h1 ed1 h1'
        go_upto_region 28 with (fail)
        have HTL:aa (DT w Z gc gn n c nm gt (.slice Av b.f0.length cv,d)∧Below wr.heap.size wr Z):=⟨by rw [HED1.out.1];exact HDT.out,HBX.out⟩
        clear HDT HBX b1
        refine forget (fun Y=>DT w Y gc gn n c nm gt (.slice Av b.f0.length cv,d)∧Below wr.heap.size wr Y) HTL.out ?_
        clear HTL
        rintro Y ⟨hdt,hby⟩
        have y0:Y.cell? ⟨gt,0,none⟩=some (.slice Av b.f0.length cv):=(ae hdt.bt 0).trans rfl
        have y1:Y.cell? ⟨gt,1,none⟩=some (.int .i64 d.f1):=(ae hdt.bt 1).trans rfl
        have y2:Y.cell? ⟨gt,2,none⟩=some (.int .u16 d.f2.f0):=(ae hdt.bt 2).trans rfl
        have y3:Y.cell? ⟨gt,3,none⟩=some (.int .u8 d.f2.f1):=(ae hdt.bt 3).trans rfl
        have y4:Y.cell? ⟨gt,4,none⟩=some (.int .u8 d.f2.f2):=(ae hdt.bt 4).trans rfl
        have y5:Y.cell? ⟨gt,5,none⟩=some (.int .u32 d.f2.f3):=(ae hdt.bt 5).trans rfl
        have y6:Y.cell? ⟨gt,6,none⟩=some (.int .i64 d.f3):=(ae hdt.bt 6).trans rfl
        have y7:Y.cell? ⟨gt,7,none⟩=some (.int .i64 d.f4):=(ae hdt.bt 7).trans rfl
        have HDY:=aa.mk (And.intro hdt hby)
        clear hdt hby
        go_wp2_with (at_builtin;go_loud ((refine Kd.jm (Kd.raw 8) (w0:=w) (W:=Y) w.heap.size rfl (.tmp 105) (.tmp 107) 22 47 (.agg #[.slice none 0 0,.int .i64 0,.int .u16 0,.int .u8 0,.int .u8 0,.int .u32 0,.int .i64 0,.int .i64 0]) 56 rfl hui mf rfl (by decide) (by decide) _ _ (b8 (.slice Av b.f0.length cv,d)) (b8 (.slice Av b.f0.length cv,d)) (fun _=>True) (fun _=>False) rfl rfl ⟨rfl,rfl,rz rfl⟩ (fun _ h=>h.elim) (fun _ _=>trivial) (Kd.il HO.out.out HDY.out.2) HDY.out.1.dr.low HDY.out.1.dr.low.size (by have:=HLN.out;omega) ?_);intro v1 w5 ho hb hg hat;have HN:aa (DO w w5 gc gn n c nm bs (k+1) v1):=⟨⟨HDY.out.1.dr.grown (Kd.il HO.out.out HDY.out.2) hb hg,by rw [mF HB0.out.1,if_pos HCN.out,List.map_append];have h:=ho;rw [ED.out] at h;exact h⟩⟩;clear ho hb hg hat))
        go_roundw
        case rel=>exact ⟨k+1,by omega,by go_num,HN⟩
        case measure=>simp [intOf];omega
      have gn2:=gnn h1
      have hcm:=hcl.2 h1
      obtain ⟨m,hm⟩:∃ m:Nat,b.f4=(m:Int):=⟨b.f4.toNat,by omega⟩
      have hmT:b.f4.toNat=m:=by rw [hm];rfl
      rw [hmT] at hcm
      rw [hm] at b7
      have i6:(0:Int)≤(m:Int):=by omega
      have i7:(m:Int)<(n:Int):=by omega
      have hmL:m<n:=by omega
      have n0:Z.cell? ⟨gn,m,none⟩=some (.int .i64 (cO c m:Nat)):=by
       rw [←HNM.out m hmL hcm];exact (ae HDT.out.dr.nb m).trans (iN (by rw [HDT.out.dr.nl];exact hmL))
      have ed1:d=⟨b.f0,b.f1,b.f2,(cO c y:Nat),(cO c m:Nat)⟩:=by rw [ED.out,db3 h1,HYT.out.1,hmT]
      have HED1:=aa.mk (And.intro ed1 h1)
      rw [h1] at b1
      clear gnn gn2 hcl h1 ed1 h1' hm hmT hcm
      go_upto_region 28 with (fail)
      have HTL:aa (DT w (Z.setCell ⟨gt,7,none⟩ (.int .i64 (cO c m:Nat))) gc gn n c nm gt (.slice Av b.f0.length cv,d)∧Below wr.heap.size wr (Z.setCell ⟨gt,7,none⟩ (.int .i64 (cO c m:Nat)))):=⟨by rw [HED1.out.1];exact HDT.out.mg (q':=(.slice Av b.f0.length cv,⟨b.f0,b.f1,b.f2,(cO c y:Nat),(cO c m:Nat)⟩)) (j:=7) rfl,HBX.out.setCell (by have:=EGT.out;show _≤gt;omega) _⟩
      clear HDT HBX b1 b7 z7 n0
      refine forget (fun Y=>DT w Y gc gn n c nm gt (.slice Av b.f0.length cv,d)∧Below wr.heap.size wr Y) HTL.out ?_
      clear HTL
      rintro Y ⟨hdt,hby⟩
      have y0:Y.cell? ⟨gt,0,none⟩=some (.slice Av b.f0.length cv):=(ae hdt.bt 0).trans rfl
      have y1:Y.cell? ⟨gt,1,none⟩=some (.int .i64 d.f1):=(ae hdt.bt 1).trans rfl
      have y2:Y.cell? ⟨gt,2,none⟩=some (.int .u16 d.f2.f0):=(ae hdt.bt 2).trans rfl
      have y3:Y.cell? ⟨gt,3,none⟩=some (.int .u8 d.f2.f1):=(ae hdt.bt 3).trans rfl
      have y4:Y.cell? ⟨gt,4,none⟩=some (.int .u8 d.f2.f2):=(ae hdt.bt 4).trans rfl
      have y5:Y.cell? ⟨gt,5,none⟩=some (.int .u32 d.f2.f3):=(ae hdt.bt 5).trans rfl
      have y6:Y.cell? ⟨gt,6,none⟩=some (.int .i64 d.f3):=(ae hdt.bt 6).trans rfl
      have y7:Y.cell? ⟨gt,7,none⟩=some (.int .i64 d.f4):=(ae hdt.bt 7).trans rfl
      have HDY:=aa.mk (And.intro hdt hby)
      clear hdt hby
      go_wp2_with (at_builtin;go_loud ((refine Kd.jm (Kd.raw 8) (w0:=w) (W:=Y) w.heap.size rfl (.tmp 105) (.tmp 107) 22 47 (.agg #[.slice none 0 0,.int .i64 0,.int .u16 0,.int .u8 0,.int .u8 0,.int .u32 0,.int .i64 0,.int .i64 0]) 56 rfl hui mf rfl (by decide) (by decide) _ _ (b8 (.slice Av b.f0.length cv,d)) (b8 (.slice Av b.f0.length cv,d)) (fun _=>True) (fun _=>False) rfl rfl ⟨rfl,rfl,rz rfl⟩ (fun _ h=>h.elim) (fun _ _=>trivial) (Kd.il HO.out.out HDY.out.2) HDY.out.1.dr.low HDY.out.1.dr.low.size (by have:=HLN.out;omega) ?_);intro v1 w5 ho hb hg hat;have HN:aa (DO w w5 gc gn n c nm bs (k+1) v1):=⟨⟨HDY.out.1.dr.grown (Kd.il HO.out.out HDY.out.2) hb hg,by rw [mF HB0.out.1,if_pos HCN.out,List.map_append];have h:=ho;rw [ED.out] at h;exact h⟩⟩;clear ho hb hg hat))
      go_roundw
      case rel=>exact ⟨k+1,by omega,by go_num,HN⟩
      case measure=>simp [intOf];omega
   have hkn:k=n:=by omega
   subst hkn
   have hout:=HO.out.out
   rw [List.take_of_length_le (by rw [←EL.out];exact Nat.le_refl _)] at hout
   have hwk:=drop_wk HW.out HO.out.dr.low hout HNE.out
   obtain ⟨gb2,cap2,tl2,e2,_,_,_,_,_⟩:=pU hout HNE.out
   have HWK:=aa.mk hwk
   have hme:=(HW.out.below HO.out.dr.low).me
   have c0:wr.cell? ⟨gw,0,none⟩=some (.slice (some ⟨gb,0,none⟩) k cap):=by rw [EL.out];exact (ae hme 0).trans rfl
   have z0:wr.frozen? ⟨gw,0,none⟩=false:=af hme 0
   have HE:=aa.mk (wh c bs 0)
   clear hout hwk HO hme
   subst e2
   go_wp2
   go_ret
   obtain ⟨gb',cap',tl',h1,h2⟩:=HWK.out
   rw [HD.out]
   exact ⟨rfl,⟨gb',cap',_,by rw [HE.out,←EG.out],tl',h1⟩,h2⟩
section
variable {P:Program} {α:Type}
theorem BM (d:Kd α) {Rr:α→List Value→Prop} {W:World} (base:Nat) (t ty e:TypeId) (i0:TypeInfo) (z:Value) (bytes:Nat)
 (ht:P.underlying t=some (.slice e)) (hi:P.info? e=some i0) (hz0:i0.zero=some z) (hz1:i0.size=d.sz) (hz2:i0.bytes=bytes) (hz:z.cells.size=d.sz) (hs0:0<d.sz)
 (v:Value) (xs ys:List α) (A:Option Addr) (m c:Nat) (ok okp:Nat→Prop)
 (HO:d.R e W base ok v xs) (HR:eX Rr d.sz W A m ys) (hKM:∀ x cs,Rr x cs→d.M W base okp x cs) (hokp:∀ k,okp k→ok k∧some k≠v.ownBlock) (hfresh:∀ k,W.heap.size≤k→ok k)
 (hbase:base≤W.heap.size) (hlen:xs.length+m≤140737488355328) (hl:(xs.length+m)*bytes≤140737488355328) :
 ∃ v1 w1,(Builtin.append_ #[t,t] ty #[v,.slice A m c]).run P W = .ok v1 w1∧d.R e w1 base ok v1 (xs++ys)∧W.grownBy w1 v.ownBlock∧(v1.ownBlock=v.ownBlock∨∃ b,v1.ownBlock=some b∧W.heap.size≤b):=by
 have hm:ys.length=m:=HR.1
 obtain ⟨hok,inner,hown,hr⟩:=HO
 rcases A with _ | ad
 · have h0:m=0:=by
    rcases Nat.eq_zero_or_pos m with h0 | h0
    · exact h0
    obtain ⟨ad,h,_⟩:=HR.2.2 h0
    cases h
   subst h0
   obtain rfl:ys=[]:=List.eq_nil_of_length_eq_zero hm
   refine ⟨v,W,?_,by rw [List.append_nil];exact ⟨hok,inner,hown,hr⟩,World.grownBy.refl W _,.inl rfl⟩
   rcases hown.2 with ⟨rfl,hn⟩ | ⟨g,cap,cur,rfl,_,_,hnc,_⟩
   · simp [Builtin.append_,run_underlying ht,sizeOf,typeInfo,hi,Builtin.lenOf,Builtin.firstCells]
   simp [Builtin.append_,run_underlying ht,sizeOf,typeInfo,hi,Builtin.lenOf,Builtin.firstCells,hnc,storeCells]
 obtain ⟨news,hnr,hnc⟩:=eX.zW HR
 have hnM:fZ (d.M W base okp) d.sz ys news:=hnr.kE (fun p c hp=>hKM p c hp)
 have hone:∀ u∈news,u.oneCell'=true:=by
  intro u hu
  obtain ⟨q,hq,rfl⟩:=List.mem_iff_getElem.1 hu
  have hql:q / d.sz<ys.length:=by
   rw [Nat.div_lt_iff_lt_mul hs0]
   rw [←hnM.1]
   exact hq
  have hc:=hnM.2 (q / d.sz) _ (List.getElem?_eq_getElem hql)
  refine d.K_one (d.K_of_M hc) _ ?_
  rw [List.mem_iff_getElem?]
  refine ⟨q % d.sz,?_⟩
  rw [List.getElem?_take,if_pos (Nat.mod_lt _ hs0),List.getElem?_drop,Nat.mul_comm,Nat.div_add_mod,List.getElem?_eq_getElem hq]
 obtain ⟨v1,w1,hrun,h2,hg,_,hat⟩:=run_append_own_at (P:=P) W base t ty e i0 z d.sz bytes ht hi hz0 hz1 hz2 hz hs0 v xs.length inner hown ad m c news (by rw [hnM.1,hm]) hnc hone (by simp only [maxLen];omega) hl hbase
 have hat':v1.ownBlock=v.ownBlock∨∃ b,v1.ownBlock=some b∧W.heap.size≤b:=by
  rcases hat with hat | hat
  · exact .inl hat
  exact .inr ⟨_,hat,Nat.le_refl _⟩
 have hne:∀ k,some k≠v.ownBlock→k<W.heap.size→some k≠v1.ownBlock:=by
  intro k hk hlt
  rcases hat' with hat | ⟨b,hb,hle⟩
  · rw [hat];exact hk
  rw [hb]
  intro he
  injection he with he
  omega
 have step:∀ {q:α} {c:List Value} {o:Nat→Prop},d.M W base o q c→(∀ k,o k→ok k∧some k≠v.ownBlock)→d.M w1 base (fun k=>ok k∧some k≠v1.ownBlock) q c:=by
  intro q c o hq ho
  have h1:=d.M_move (w1:=w1) (fun k hk=>hg.block k hk.2.2.1 (ho k hk.1).2) (d.M_bound hq)
  exact d.M_mono (fun k hk=>⟨(ho k hk.1).1,hne k (ho k hk.1).2 hk.2.2.1⟩) h1
 refine ⟨v1,w1,hrun,⟨fun k hk=>?_,inner++news,by rw [List.length_append,hm];exact h2,Kd.oq (hr.kE (fun _ _ hq=>step hq (fun _ hk=>hk))) (hnM.kE (fun _ _ hq=>step hq hokp))⟩,hg,hat'⟩
 rcases hat' with hat | ⟨b,hb,hle⟩
 · exact hok k (hat ▸ hk)
 rw [hb] at hk
 injection hk with hk
 exact hfresh k (by omega)
variable {ops:Array Oper} {o:Oper} {a:Act} {Q:Exit→Act→World→Prop} {Kc:Act→World→Prop}
end
section
variable {P:Program} {α:Type} {ops:Array Oper} {o:Oper} {a:Act} {Q:Exit→Act→World→Prop} {Kc:Act→World→Prop}
theorem wT (d:Kd α) {Rr:α→List Value→Prop} {w0 W:World} (base:Nat) (s x:Operand) (t e:TypeId) (z:Value) (bytes:Nat) (hg:o.guard=none)
 (ho:o.op = .call {callee := .builtin .append,args:=#[s,x],argTypes:=#[t,t]})
 (ht:P.underlying t=some (.slice e)) (hinfo:(P.info? e).map (fun i=>(i.zero,i.size,i.bytes))=some (some z,d.sz,bytes)) (hz:z.cells.size=d.sz) (hs0:0<d.sz) (hb0:0<bytes)
 (v:Value) (xs ys:List α) (A:Option Addr) (m c:Nat) (hs:a.eval s=v) (hx:a.eval x = .slice A m c)
 (HO:d.R e W base (fun _=>True) v xs) (HR:eX Rr d.sz W A m ys) (hKM:∀ x cs,Rr x cs→d.M W base (fun _=>False) x cs)
 (HB:Below base w0 W) (hbase:base≤W.heap.size) (hl:(xs.length+m)*bytes≤140737488355328)
 (h:∀ v1 w1,d.R e w1 base (fun _=>True) v1 (xs++ys)→Below base w0 w1→W.grownBy w1 v.ownBlock→(v1.ownBlock=v.ownBlock∨∃ b,v1.ownBlock=some b∧W.heap.size≤b)→Kc (a.put o.dst v1) w1) :
 if Region.wanted o (yielded ops a.tmps)=true then Oper.wp P o a W Kc Q else Kc (a.put o.dst undef) W:=by
 have hw:Region.wanted o (yielded ops a.tmps)=true:=by simp [Region.wanted,hg]
 rw [if_pos hw]
 obtain ⟨i0,hi,hzz⟩:=Option.map_eq_some_iff.1 hinfo
 simp only [Prod.mk.injEq] at hzz
 obtain ⟨hz0,hz1,hz2⟩:=hzz
 have hlen:xs.length+m≤140737488355328:=Nat.le_trans (Nat.le_mul_of_pos_right _ hb0) hl
 have hown:=(Kd.qH HO)
 obtain ⟨v1,w1,hr1,h1,hg1,hat⟩:=BM d base t o.type e i0 z bytes ht hi hz0 hz1 hz2 hz hs0 v xs ys A m c (fun _=>True) (fun _=>False) HO HR hKM (fun _ h=>h.elim) (fun _ _=>trivial) hbase hlen hl
 unfold Oper.wp execOp
 simp only [ho,resolve,invoke,builtin,Sem.run_bind,Sem.run_pure,Result.andThen_ok,List.map_toArray,List.map_cons,List.map_nil,hs,hx,hr1]
 obtain ⟨inner,hown⟩:=hown
 exact h v1 w1 h1 (HB.grown hg1 hbase (jv hown)) hg1 hat
end
theorem Cd.c {w:World} {A:Option Addr} {n cap:Nat} {c:List S45} (h:Cd w (.slice A n cap) c):k45.C w A n c:=by
 have hr:=mi (base:=0) (ok:=fun _=>True) h (fun _ _=>⟨Nat.zero_le _,trivial⟩)
 obtain ⟨e,_,h2⟩:=Kd.dW hr
 rw [e];exact h2
def uV (w:World) (gb n:Nat) (q:Value × S47):World:=(((((((w.setCell ⟨gb,n*8,none⟩ q.1).setCell ⟨gb,n*8+1,none⟩ (.int .i64 q.2.f1)).setCell ⟨gb,n*8+2,none⟩ (.int .u16 q.2.f2.f0)).setCell ⟨gb,n*8+3,none⟩ (.int .u8 q.2.f2.f1)).setCell ⟨gb,n*8+4,none⟩ (.int .u8 q.2.f2.f2)).setCell ⟨gb,n*8+5,none⟩ (.int .u32 q.2.f2.f3)).setCell ⟨gb,n*8+6,none⟩ (.int .i64 q.2.f3)).setCell ⟨gb,n*8+7,none⟩ (.int .i64 q.2.f4)
theorem tZ {W:World} {gb n:Nat} {bs:List (Value × S47)} {tl:List Value} {p:Value × S47} (h:W.heap[gb]?=some (.cells (bA bs tl) 47 (0,0))) (hp:bs[n]?=some p) (q:Value × S47):(uV W gb n q).heap[gb]?=some (.cells (bA (bs.set n q) tl) 47 (0,0)):=by
 have h0:=bJ (j:=0) h hp (q.1,p.2) (by omega) q.1 rfl
 have h1:=bJ (j:=1) h0 (aN hp) (q.1,⟨p.2.f0,q.2.f1,p.2.f2,p.2.f3,p.2.f4⟩) (by omega) (.int .i64 q.2.f1) rfl
 rw [set_set] at h1
 have h2:=bJ (j:=2) h1 (aN hp) (q.1,⟨p.2.f0,q.2.f1,⟨q.2.f2.f0,p.2.f2.f1,p.2.f2.f2,p.2.f2.f3⟩,p.2.f3,p.2.f4⟩) (by omega) (.int .u16 q.2.f2.f0) rfl
 rw [set_set] at h2
 have h3:=bJ (j:=3) h2 (aN hp) (q.1,⟨p.2.f0,q.2.f1,⟨q.2.f2.f0,q.2.f2.f1,p.2.f2.f2,p.2.f2.f3⟩,p.2.f3,p.2.f4⟩) (by omega) (.int .u8 q.2.f2.f1) rfl
 rw [set_set] at h3
 have h4:=bJ (j:=4) h3 (aN hp) (q.1,⟨p.2.f0,q.2.f1,⟨q.2.f2.f0,q.2.f2.f1,q.2.f2.f2,p.2.f2.f3⟩,p.2.f3,p.2.f4⟩) (by omega) (.int .u8 q.2.f2.f2) rfl
 rw [set_set] at h4
 have h5:=bJ (j:=5) h4 (aN hp) (q.1,⟨p.2.f0,q.2.f1,q.2.f2,p.2.f3,p.2.f4⟩) (by omega) (.int .u32 q.2.f2.f3) rfl
 rw [set_set] at h5
 have h6:=bJ (j:=6) h5 (aN hp) (q.1,⟨p.2.f0,q.2.f1,q.2.f2,q.2.f3,p.2.f4⟩) (by omega) (.int .i64 q.2.f3) rfl
 rw [set_set] at h6
 have h7:=bJ (j:=7) h6 (aN hp) q (by omega) (.int .i64 q.2.f4) rfl
 rw [set_set] at h7
 exact h7
theorem wJ {S:Nat→Prop} {w W:World} {gb n:Nat} {q:Value × S47} (h:Kp S w W) (hS:S gb):Kp S w (uV W gb n q):=
 (((((((h.set (.inl hS) _ _).set (.inl hS) _ _).set (.inl hS) _ _).set (.inl hS) _ _).set (.inl hS) _ _).set (.inl hS) _ _).set (.inl hS) _ _).set (.inl hS) _ _
structure JR (w X:World) (gn L:Nat) (nm:List Int):Prop where
 low:Below w.heap.size w X
 nb:X.heap[gn]?=some (.cells (inC nm) 3 (0,0))
 nl:nm.length=L
 ln:w.heap.size≤gn
structure JT (w X:World) (gn L:Nat) (nm:List Int) (gt:Nat) (q:Value × S47):Prop where
 jr:JR w X gn L nm
 bt:X.heap[gt]?=some (.cells (b8 q).toArray 47 (0,0))
 lt:w.heap.size≤gt
section
variable {w X Y:World} {B:Bs} {gw gb cap gn gt L n a:Nat} {nm:List Int} {q:Value × S47} {G:List S47} {b nx:S47} {bs:List (Value × S47)} {tl:List Value} {fr:List Nat} {f:Bool} {T:List S47 × Bool}
theorem JR.below (h:JR w X gn L nm) (hb:Below X.heap.size X Y):JR w Y gn L nm:=⟨av h.low hb,aj h.nb hb,h.nl,h.ln⟩
theorem JR.qB (h:JR w X gn L nm) (j:Nat) (x:Int):JR w (X.setCell ⟨gn,j,none⟩ (.int .i64 x)) gn L (nm.set j x):=⟨h.low.setCell h.ln _,aM h.nb j _ (rU j x),by rw [List.length_set];exact h.nl,h.ln⟩
theorem JT.qB (h:JT w X gn L nm gt q) (j:Nat) (x:Int):JT w (X.setCell ⟨gn,j,none⟩ (.int .i64 x)) gn L (nm.set j x) gt q:=⟨h.jr.qB j x,(Deep.blk_setCell_other _ _ _ _ (bT h.bt h.jr.nb (by decide))).trans h.bt,h.lt⟩
structure JI (w X:World) (gn L:Nat) (G:List S47) (n:Nat) (nm:List Int):Prop where
 jr:JR w X gn L nm
 eq:∀ t,t<L→nm.getD t 0=(jo (G.take n) t:Nat)
theorem cE_le (t:Nat) (b:S47):cE t b≤2:=by unfold cE;split<;>split<;>omega
theorem yZ (t:Nat):∀ G:List S47,jo G t≤2*G.length:=by
 intro G
 induction G with
 | nil=>exact Nat.le_refl _
 | cons b r ih=>
  have h:jo (b :: r) t=cE t b+jo r t:=by unfold jo;rw [List.map_cons,List.sum_cons]
  have:=cE_le t b
  rw [h,List.length_cons];omega
theorem y8 (h:G[n]?=some b) (t:Nat):jo (G.take (n+1)) t=jo (G.take n) t+cE t b:=by
 obtain ⟨h1,rfl⟩:=List.getElem?_eq_some_iff.1 h
 unfold jo
 rw [List.take_succ_eq_append_getElem h1,List.map_append,List.sum_append]
 show _+(cE t G[n]+0)=_
 omega
theorem JI.next (h:JI w X gn L G n nm) (hb:G[n]?=some b) {nm':List Int} (hY:JR w Y gn L nm') (e:∀ t,t<L→nm'.getD t 0=nm.getD t 0+(cE t b:Nat)):JI w Y gn L G (n+1) nm':=
 ⟨hY,fun t ht=>by rw [e t ht,h.eq t ht,y8 hb];omega⟩
theorem cE1 (h:b.f1=1) (t:Nat):cE t b=0:=by unfold cE;rw [if_neg (by rw [h];omega),if_neg (by rw [h];omega)]
theorem cE2 (h:b.f1=2) (t:Nat):cE t b=if b.f3.toNat=t then 1 else 0:=by
 unfold cE
 rw [if_neg (show ¬(b.f1=3∧b.f4.toNat=t) by rw [h];omega),Nat.add_zero]
 by_cases e:b.f3.toNat=t
 · rw [if_pos ⟨by rw [h];decide,e⟩,if_pos e]
 rw [if_neg (fun q=>e q.2),if_neg e]
theorem cE3 (h:b.f1=3) (t:Nat):cE t b=(if b.f3.toNat=t then 1 else 0)+(if b.f4.toNat=t then 1 else 0):=by
 unfold cE
 congr 1
 · by_cases e:b.f3.toNat=t
   · rw [if_pos ⟨by rw [h];decide,e⟩,if_pos e]
   rw [if_neg (fun q=>e q.2),if_neg e]
 by_cases e:b.f4.toNat=t
 · rw [if_pos ⟨h,e⟩,if_pos e]
 rw [if_neg (fun q=>e q.2),if_neg e]
def frI (fr:List Nat):List Int:=fr.map (fun n:Nat=>(n:Int))
theorem rR (fr:List Nat) (t:Nat):(frI fr).getD t 0=(fr.getD t 0:Nat):=by
 unfold frI
 rw [List.getD_eq_getElem?_getD,List.getElem?_map,List.getD_eq_getElem?_getD]
 cases fr[t]?<;>rfl
theorem frI_set (fr:List Nat) (t:Nat):(frI fr).set t 0=frI (fr.set t 0):=by
 unfold frI
 rw [List.map_set];rfl
theorem JI.done (h:JI w X gn L G L nm) (hL:G.length=L):nm=frI (frG G):=by
 have hl:(frI (frG G)).length=L:=by unfold frI frG;rw [List.length_map,List.length_map,List.length_range,hL]
 have hf:=zy G
 apply List.ext_getElem?
 intro t
 by_cases ht:t<L
 · have e1:=h.eq t ht
   rw [List.take_of_length_le (by omega)] at e1
   have e2:=rR (frG G) t
   rw [hf.eq t (by omega)] at e2
   rw [List.getElem?_eq_getElem (by rw [h.jr.nl];exact ht),List.getElem?_eq_getElem (by rw [hl];exact ht)]
   rw [List.getD_eq_getElem?_getD,List.getElem?_eq_getElem (by rw [h.jr.nl];exact ht)] at e1
   rw [List.getD_eq_getElem?_getD,List.getElem?_eq_getElem (by rw [hl];exact ht)] at e2
   exact congrArg some (e1.trans e2.symm)
 rw [List.getElem?_eq_none (by rw [h.jr.nl];omega),List.getElem?_eq_none (by rw [hl];omega)]
structure JS (w X:World) (B:Bs) (gw gb cap:Nat) (tl:List Value) (gn L:Nat) (bs:List (Value × S47)) (fr:List Nat):Prop where
 wk:Wk X B gw gb cap bs tl
 len:bs.length=L
 low:Below B.n w X
 nb:X.heap[gn]?=some (.cells (inC (frI fr)) 3 (0,0))
 lo:B.n≤gn
 gok:GOk (bs.map (·.2))
 frk:sS (bs.map (·.2)) fr
theorem JS.below (h:JS w X B gw gb cap tl gn L bs fr) (hb:Below X.heap.size X Y):JS w Y B gw gb cap tl gn L bs fr:=
 ⟨h.wk.below hb,h.len,h.low.trans ⟨hb.os,hb.tape,hb.output,hb.size,fun i hi=>hb.block i (by have:=ax h.wk.me;have:=h.wk.lo;omega)⟩,aj h.nb hb,h.lo,h.gok,h.frk⟩
structure JL (w X:World) (B:Bs) (gw gb cap:Nat) (tl:List Value) (gn L:Nat) (T:List S47 × Bool) (a:Nat) (f:Bool) (bs:List (Value × S47)) (fr:List Nat):Prop where
 js:JS w X B gw gb cap tl gn L bs fr
 res:T=((jnL (L - a) (bs.map (·.2)) fr a).1,f||(jnL (L - a) (bs.map (·.2)) fr a).2)
structure JW (w X:World) (B:Bs) (gw gb cap:Nat) (tl:List Value) (gn L:Nat) (T:List S47 × Bool) (a:Nat) (f:Bool) (bs:List (Value × S47)) (fr:List Nat):Prop where
 js:JS w X B gw gb cap tl gn L bs fr
 res:∃ j,T=((jnL (L - (a+1)) (jnW j (bs.map (·.2)) fr a).1 (jnW j (bs.map (·.2)) fr a).2.1 (a+1)).1,(f||(jnW j (bs.map (·.2)) fr a).2.2)||(jnL (L - (a+1)) (jnW j (bs.map (·.2)) fr a).1 (jnW j (bs.map (·.2)) fr a).2.1 (a+1)).2) ∧
  ∀ b,(bs.map (·.2))[a]?=some b→b.f1=2→L≤j+b.f3.toNat
theorem JL.enter (h:JL w X B gw gb cap tl gn L T a f bs fr) (ha:a<L):JW w X B gw gb cap tl gn L T a f bs fr:=by
 refine ⟨h.js,L,?_,fun b _ _=>by omega⟩
 have e:=h.res
 rw [show L - a=(L - (a+1))+1 by omega,jnL] at e
 rw [List.length_map,h.js.len] at e
 rw [e,Bool.or_assoc]
theorem JW.leave (h:JW w X B gw gb cap tl gn L T a f bs fr) (hn:jnY (bs.map (·.2)) fr a=none):JL w X B gw gb cap tl gn L T (a+1) f bs fr:=by
 obtain ⟨j,e,_⟩:=h.res
 refine ⟨h.js,?_⟩
 have e2:jnW j (bs.map (·.2)) fr a=(bs.map (·.2),fr,false):=by
  cases j with
  | zero=>rfl
  | succ j=>rw [jnW,hn]
 rw [e2] at e
 rw [e,Bool.or_false]
theorem JW.step (h:JW w X B gw gb cap tl gn L T a f bs fr) {v v1 vn:Value} {y:Nat} (hyT:b.f3.toNat=y) (hb:bs[a]?=some (v,b)) (hx:bs[y]?=some (vn,nx)) (h2:b.f1=2) (h1:fr.getD y 0=1)
 (hwk:Wk Y B gw gb cap ((bs.set a (v1,mgB b nx)).set y (.slice none 0 0,jU)) tl) (hlow:Below B.n w Y) (hnb:Y.heap[gn]?=some (.cells (inC (frI (fr.set y 0))) 3 (0,0))) :
 JW w Y B gw gb cap tl gn L T a true ((bs.set a (v1,mgB b nx)).set y (.slice none 0 0,jU)) (fr.set y 0):=by
 subst hyT
 have hy:jnY (bs.map (·.2)) fr a=some (b,nx):=by
  unfold jnY
  rw [List.getElem?_map,hb]
  dsimp only [Option.map_some]
  rw [if_pos ⟨h2,h1⟩,List.getElem?_map,hx];rfl
 have hm:=Aa h.js.gok h.js.frk hy
 have eg:((bs.set a (v1,mgB b nx)).set b.f3.toNat (.slice none 0 0,jU)).map (·.2)=jn1 (bs.map (·.2)) a b.f3.toNat b nx:=by
  unfold jn1
  rw [List.map_set,List.map_set]
 obtain ⟨l1,l2,l3⟩:=hm.lt
 obtain ⟨j,e,hj⟩:=h.res
 have hL:(bs.map (·.2)).length=L:=by rw [List.length_map,h.js.len]
 have hj1:=hj b (by rw [List.getElem?_map,hb];rfl) h2
 obtain ⟨j',rfl⟩:∃ j',j=j'+1:=⟨j - 1,by omega⟩
 have ew:jnW (j'+1) (bs.map (·.2)) fr a=((jnW j' (jn1 (bs.map (·.2)) a b.f3.toNat b nx) (fr.set b.f3.toNat 0) a).1,(jnW j' (jn1 (bs.map (·.2)) a b.f3.toNat b nx) (fr.set b.f3.toNat 0) a).2.1,true):=by
  rw [jnW,hy]
 refine ⟨⟨hwk,by rw [List.length_set,List.length_set,h.js.len],hlow,hnb,h.js.lo,by rw [eg];exact (l6.one hm).gok,by rw [eg];exact fr_mg h.js.frk hm⟩,j',?_,?_⟩
 · rw [ew] at e
   rw [eg,e,Bool.or_true,Bool.true_or,Bool.true_or,Bool.true_or]
 intro c hc hc2
 rw [eg,hm.get.1] at hc
 cases hc
 have hgn:=bB (h.js.gok.all _ nx hm.nx).goal (by show nx.f1≠1;have e3:nx.f1=2:=hc2;omega)
 show L≤j'+nx.f3.toNat
 omega
theorem join_wk {U1 U:World} {v v1 vn:Value} {y:Nat} (h:JS w X B gw gb cap tl gn L bs fr) (hb:bs[a]?=some (v,b)) (hx:bs[y]?=some (vn,nx)) (hay:a≠y) (hk1:Kp (fun x=>x=gb∨x=gn∨some x=v.ownBlock) X U1)
 (hr1:U1.heap[gb]?=some (.cells (bA (bs.set a (v1,mgB b nx)) tl) 47 (0,0))) (hc:Cd U1 v1 (b.f0++nx.f0)) (hat:v1.ownBlock=v.ownBlock∨∃ g,v1.ownBlock=some g∧X.heap.size≤g) (hk2:Kp (fun x=>x=gb) U1 U)
 (hr2:U.heap[gb]?=some (.cells (bA ((bs.set a (v1,mgB b nx)).set y (.slice none 0 0,jU)) tl) 47 (0,0))):Wk U B gw gb cap ((bs.set a (v1,mgB b nx)).set y (.slice none 0 0,jU)) tl∧Below B.n w U:=by
 have hB:B.n≤X.heap.size:=by have:=ax h.wk.me;have:=h.wk.lo;omega
 have w1:Wk U1 B gw gb cap (bs.set a (v1,mgB b nx)) tl:=by
  refine h.wk.step hb hk1 ?_ hr1 hc (fun g hg=>?_)
  · rintro x (e | e | e)
    · exact .inl e
    · subst e;exact .inr (.inr ⟨_,_,_,h.nb,by decide,by decide,by decide⟩)
    exact .inr (.inl e)
  rcases hat with e | ⟨g',e,hle⟩
  · exact .inl (by rw [←e];exact hg)
  right
  have e2:v1.ownBlock=some g:=hg
  rw [e] at e2
  injection e2 with e2
  omega
 have w2:Wk U B gw gb cap ((bs.set a (v1,mgB b nx)).set y (.slice none 0 0,jU)) tl:=
  w1.step (p:=(vn,nx)) (by rw [List.getElem?_set_ne hay];exact hx) hk2 (fun x e => .inl e) hr2 (.inl ⟨rfl,rfl⟩) (fun g hg=>by cases hg)
 refine ⟨w2,w1.low (Kp.iO h.low hk1 hB ?_) hk2⟩
 rintro x (e | e | e)
 · subst e;exact h.wk.row.lo.1
 · subst e;exact h.lo
 exact h.wk.row.lo.2 _ (List.mem_of_getElem? hb) _ e.symm
def mJ (w:World) (gb a L:Nat):Nat:=if intOf (cellV w ⟨gb,a*8+1,none⟩)=2 then L - (intOf (cellV w ⟨gb,a*8+6,none⟩)).toNat else 0
theorem mJ_eq {v:Value} (h:X.heap[gb]?=some (.cells (bA bs tl) 47 (0,0))) (hb:bs[a]?=some (v,b)):mJ X gb a L=if b.f1=2 then L - b.f3.toNat else 0:=by
 have e1:X.cell? ⟨gb,a*8+1,none⟩=some (.int .i64 b.f1):=(ae h (a*8+1)).trans (di hb (by omega))
 have e6:X.cell? ⟨gb,a*8+6,none⟩=some (.int .i64 b.f3):=(ae h (a*8+6)).trans (di hb (by omega))
 unfold mJ cellV
 rw [e1,e6]
 rfl
end
theorem uH (w:World) (B:Bs) (gw gb cap:Nat) (bs:List (Value × S47)) (tl:List Value) (hW:Wk w B gw gb cap bs tl) (hG:GOk (bs.map (·.2))) :
 Calls Try.prog 88 #[.pointer (some ⟨gw,0,none⟩)] w fun e w'=>e = .returned (.bool (jP (bs.map (·.2))).2)∧(∃ bs',bs'.map (·.2)=(jP (bs.map (·.2))).1∧Wk w' B gw gb cap bs' tl)∧Below B.n w w':=by
 obtain ⟨L,eL⟩:∃ L,L=bs.length:=⟨_,rfl⟩
 have hL:L≤4096:=by have:=hG.few;rw [List.length_map] at this;omega
 have hL0:0<L:=by have:=hG.some_;rw [List.length_map] at this;omega
 have hu:=Try.underlying26
 have c0:w.cell? ⟨gw,0,none⟩=some (.slice (some ⟨gb,0,none⟩) L cap):=by rw [eL];exact (ae hW.me 0).trans rfl
 have hmi:=qN L hL
 obtain ⟨G,eG⟩:∃ G,G=bs.map (·.2):=⟨_,rfl⟩
 rw [←eG] at hG ⊢
 have HGL:aa (G.length=L):=⟨by rw [eG,List.length_map,eL]⟩
 have HGB:aa (∀ (i:Nat) (v:Value) (b:S47),bs[i]?=some (v,b)→G[i]?=some b):=⟨fun i v b h=>by rw [eG,List.getElem?_map,h];rfl⟩
 have HW:=aa.mk hW
 have HG:=aa.mk hG
 have EL:=aa.mk eL
 have EG:=aa.mk eG
 clear hW hG eL eG
 go_enter Try.func88,Try.ntmps88
 go_upto_region 2 with (fail)
 refine forget (fun Z=>∃ gn,gn=w.heap.size∧JI w Z gn L G 0 (List.replicate L 0)) ⟨_,rfl,⟨ai (Below.refl _ _) _,heap_alloc_new _ _,List.length_replicate,Nat.le_refl _⟩,fun t ht=>by rw [List.take_zero,List.getD_eq_getElem?_getD,List.getElem?_replicate];split<;>rfl⟩ ?_
 clear c0
 rintro Z ⟨gn,egn,hji⟩
 rw [←egn]
 have HJI:=aa.mk hji
 have c0:Z.cell? ⟨gw,0,none⟩=some (.slice (some ⟨gb,0,none⟩) L cap):=au hji.jr.low (by rw [EL.out];exact (ae HW.out.me 0).trans rfl)
 clear egn hji hmi
 go_wp2
 go_loopw [22] (fun v22 wr=>∃ (n:Nat) (nm:List Int),n≤L∧v22 = .int .i64 n∧aa (JI w wr gn L G n nm)) (fun v22 _=>L - (intOf v22).toNat)
 case atStart=>exact ⟨0,_,Nat.zero_le _,rfl,HJI⟩
 case round=>
  clear HJI c0
  obtain ⟨n,nm,hn,rfl,HJI⟩:=hrel
  by_cases hlt:n<L
  · obtain ⟨v,b,hb⟩:∃ v b,bs[n]?=some (v,b):=⟨(bs[n]'(by rw [←EL.out];exact hlt)).1,(bs[n]'(by rw [←EL.out];exact hlt)).2,List.getElem?_eq_getElem (by rw [←EL.out];exact hlt)⟩
    have hGn:=HGB.out n v b hb
    have hWr:=HW.out.below HJI.out.jr.low
    have hcd:Cd wr v b.f0:=hWr.row.code n _ hb
    obtain ⟨Av,cv,rfl⟩:=hcd.slice
    have i2:(0:Int)≤(n:Int):=by omega
    have i3:(n:Int)<(L:Int):=by omega
    have g:=fun (jj:Nat) (hh:jj<8)=>(ae hWr.row.row (n*8+jj)).trans (di hb hh)
    have b0:wr.cell? ⟨gb,n*8,none⟩=some (.slice Av b.f0.length cv):=g 0 (by omega)
    have b1:wr.cell? ⟨gb,n*8+1,none⟩=some (.int .i64 b.f1):=g 1 (by omega)
    have b2:wr.cell? ⟨gb,n*8+2,none⟩=some (.int .u16 b.f2.f0):=g 2 (by omega)
    have b3:wr.cell? ⟨gb,n*8+3,none⟩=some (.int .u8 b.f2.f1):=g 3 (by omega)
    have b4:wr.cell? ⟨gb,n*8+4,none⟩=some (.int .u8 b.f2.f2):=g 4 (by omega)
    have b5:wr.cell? ⟨gb,n*8+5,none⟩=some (.int .u32 b.f2.f3):=g 5 (by omega)
    have b6:wr.cell? ⟨gb,n*8+6,none⟩=some (.int .i64 b.f3):=g 6 (by omega)
    have b7:wr.cell? ⟨gb,n*8+7,none⟩=some (.int .i64 b.f4):=g 7 (by omega)
    have HGN:=aa.mk hGn
    have HBK:=aa.mk (HG.out.all n b hGn)
    clear g hb hGn hWr hcd
    go_upto_region 5 with (fail)
    refine forget (fun X=>∃ gt,gt=wr.heap.size∧JT w X gn L nm gt (.slice Av b.f0.length cv,b)) ⟨_,rfl,HJI.out.jr.below (ai (Below.refl _ _) _),heap_alloc_new _ _,HJI.out.jr.low.size⟩ ?_
    clear b0 b1 b2 b3 b4 b5 b6 b7
    rintro X ⟨gt,egt,hdt⟩
    rw [←egt]
    have HJT:=aa.mk hdt
    have b1:X.cell? ⟨gt,1,none⟩=some (.int .i64 b.f1):=(ae hdt.bt 1).trans rfl
    have b6:X.cell? ⟨gt,6,none⟩=some (.int .i64 b.f3):=(ae hdt.bt 6).trans rfl
    have hec:=eO HBK.out.ends
    have gy:=bB HBK.out.goal
    have gnn:=dM HBK.out.goal
    rw [HGL.out] at gy gnn
    have hcase:b.f1=1∨b.f1=2∨b.f1=3:=by rcases hec with h | h | h;exact .inl h.1;exact .inr (.inl h.1);exact .inr (.inr h.1)
    clear hdt hec egt
    rcases hcase with h1 | h1
    · have HE:aa (JI w X gn L G (n+1) nm):=⟨HJI.out.next HGN.out HJT.out.jr (fun t _=>by rw [cE1 h1];simp)⟩
      rw [h1] at b1
      clear h1 gy gnn HJT HJI b6
      go_wp2
      go_roundw
      case rel=>exact ⟨n+1,_,by omega,by go_num,HE⟩
      case measure=>simp [intOf];omega
    have hne1:b.f1≠1:=by omega
    have gy2:=gy hne1
    obtain ⟨y,hy⟩:∃ y:Nat,b.f3=(y:Int):=⟨b.f3.toNat,by omega⟩
    have hyT:b.f3.toNat=y:=by rw [hy];rfl
    rw [hy] at b6
    have h1':(b.f1==1)=false:=bn hne1
    have i4:(0:Int)≤(y:Int):=by omega
    have i5:(y:Int)<(L:Int):=by omega
    have hyL:y<L:=by omega
    obtain ⟨cy,ecy⟩:∃ cy,cy=jo (G.take n) y:=⟨_,rfl⟩
    have hcy:cy≤8192:=by have:=yZ y (G.take n);rw [List.length_take] at this;omega
    have hgy:nm.getD y 0=(cy:Int):=by rw [HJI.out.eq y hyL,ecy]
    have kz:X.frozen? ⟨gn,y,none⟩=false:=af HJT.out.jr.nb y
    have k0:X.cell? ⟨gn,y,none⟩=some (.int .i64 (cy:Int)):=by rw [←hgy];exact (ae HJT.out.jr.nb y).trans (iN (by rw [HJT.out.jr.nl];exact hyL))
    have HYT:=aa.mk (And.intro hyT hgy)
    clear hy gy gy2 hne1 hyT hgy ecy
    go_upto_region 7 with (fail)
    refine forget (fun Z=>JT w Z gn L (nm.set y ((cy:Int)+1)) gt (.slice Av b.f0.length cv,b)) (HJT.out.qB y _) ?_
    clear b1 b6 kz k0 HJT
    intro Z hdt
    have HJT:=aa.mk hdt
    have b1:Z.cell? ⟨gt,1,none⟩=some (.int .i64 b.f1):=(ae hdt.bt 1).trans rfl
    have b7:Z.cell? ⟨gt,7,none⟩=some (.int .i64 b.f4):=(ae hdt.bt 7).trans rfl
    have hS1:∀ t,(nm.set y ((cy:Int)+1)).getD t 0=nm.getD t 0+(if y=t then 1 else 0):=by
     intro t
     rw [dL (by rw [HJI.out.jr.nl];exact hyL)]
     split
     · rename_i e;subst e;rw [HYT.out.2]
     omega
    have HS1:=aa.mk hS1
    clear hdt hS1
    rcases h1 with h1 | h1
    · have HE:aa (JI w Z gn L G (n+1) (nm.set y ((cy:Int)+1))):=⟨HJI.out.next HGN.out HJT.out.jr (fun t _=>by rw [HS1.out t,cE2 h1,HYT.out.1];split<;>rfl)⟩
      rw [h1] at b1
      clear h1 gnn HJT b7 h1' HJI
      go_wp2
      go_roundw
      case rel=>exact ⟨n+1,_,by omega,by go_num,HE⟩
      case measure=>simp [intOf];omega
    have gn2:=gnn h1
    obtain ⟨m,hm⟩:∃ m:Nat,b.f4=(m:Int):=⟨b.f4.toNat,by omega⟩
    have hmT:b.f4.toNat=m:=by rw [hm];rfl
    rw [hm] at b7
    have i6:(0:Int)≤(m:Int):=by omega
    have i7:(m:Int)<(L:Int):=by omega
    have hmL:m<L:=by omega
    obtain ⟨cm,ecm⟩:∃ cm:Nat,(nm.set y ((cy:Int)+1)).getD m 0=(cm:Int):=⟨jo (G.take n) m+(if y=m then 1 else 0),by rw [HS1.out m,HJI.out.eq m hmL];split<;>rfl⟩
    have hcm:cm≤8193:=by
     have h:=HS1.out m
     rw [ecm,HJI.out.eq m hmL] at h
     have h2:=yZ m (G.take n)
     rw [List.length_take] at h2
     split at h<;>omega
    have kz:Z.frozen? ⟨gn,m,none⟩=false:=af HJT.out.jr.nb m
    have k0:Z.cell? ⟨gn,m,none⟩=some (.int .i64 (cm:Int)):=by rw [←ecm];exact (ae HJT.out.jr.nb m).trans (iN (by rw [HJT.out.jr.nl];exact hmL))
    have HE:aa (JI w (Z.setCell ⟨gn,m,none⟩ (.int .i64 ((cm:Int)+1))) gn L G (n+1) ((nm.set y ((cy:Int)+1)).set m ((cm:Int)+1))):=⟨HJI.out.next HGN.out (HJT.out.qB m _).jr (fun t _=>by
     rw [dL (by rw [HJT.out.jr.nl];exact hmL),cE3 h1,HYT.out.1,hmT]
     have h:=HS1.out t
     by_cases e:m=t
     · subst e;rw [if_pos rfl,←ecm,h,if_pos rfl];split<;>omega
     rw [if_neg e,h,if_neg e];split<;>omega)⟩
    rw [h1] at b1
    clear h1 gnn gn2 HJT h1' hm hmT ecm HJI
    go_wp2
    go_roundw
    case rel=>exact ⟨n+1,_,by omega,by go_num,HE⟩
    case measure=>simp [intOf];omega
  have hnl:n=L:=by omega
  subst hnl
  obtain ⟨T,eT⟩:∃ T,T=jP G:=⟨_,rfl⟩
  have ET:=aa.mk eT
  have hB0:Below B.n w wr:=⟨HJI.out.jr.low.os,HJI.out.jr.low.tape,HJI.out.jr.low.output,HJI.out.jr.low.size,fun i hi=>HJI.out.jr.low.block i (by have:=ax HW.out.me;have:=HW.out.lo;omega)⟩
  have HJ0:aa (JL w wr B gw gb cap tl gn n T 0 false bs (frG G)):=⟨⟨⟨HW.out.below HJI.out.jr.low,EL.out.symm,hB0,by rw [←HJI.out.done HGL.out];exact HJI.out.jr.nb,by have:=HJI.out.jr.ln;have:=ax HW.out.me;have:=HW.out.lo;omega,by rw [←EG.out];exact HG.out,by rw [←EG.out];exact zy G⟩,by rw [eT,←EG.out,Bool.false_or];unfold jP;rw [HGL.out];rfl⟩⟩
  have c0:wr.cell? ⟨gw,0,none⟩=some (.slice (some ⟨gb,0,none⟩) n cap):=by rw [EL.out];exact (ae HJ0.out.js.wk.me 0).trans rfl
  clear hB0 eT HJI hlt
  obtain ⟨wo,rfl⟩:∃ wo:World,wo=wr:=⟨_,rfl⟩
  go_wp2
  go_loopw [6,52] (fun v6 v52 wr=>∃ (a:Nat) (f:Bool) (bsn:List (Value × S47)) (fr:List Nat),a≤n∧v52 = .int .i64 a∧v6 = .bool f∧aa (JL w wr B gw gb cap tl gn n T a f bsn fr)) (fun _ v52 _=>n - (intOf v52).toNat)
  case atStart=>exact ⟨0,false,_,_,Nat.zero_le _,rfl,rfl,HJ0⟩
  case round=>
   clear HJ0 c0
   obtain ⟨a,f,bsn,fr,ha,rfl,rfl,HJL⟩:=hrel
   by_cases hlt:a<n
   · have i0:(0:Int)≤(a:Int):=by omega
     have i1:(a:Int)<(n:Int):=by omega
     have c0:wr.cell? ⟨gw,0,none⟩=some (.slice (some ⟨gb,0,none⟩) n cap):=by have h:=(ae HJL.out.js.wk.me 0).trans rfl;rw [HJL.out.js.len] at h;exact h
     have HJW:=aa.mk (HJL.out.enter hlt)
     clear HJL
     obtain ⟨wp,rfl⟩:∃ wp:World,wp=wr:=⟨_,rfl⟩
     go_wp2
     go_loopw [6] (fun v6 wr=>∃ (f:Bool) (bsn:List (Value × S47)) (fr:List Nat),v6 = .bool f∧aa (JW w wr B gw gb cap tl gn n T a f bsn fr)) (fun _ wr=>mJ wr gb a n)
     case atStart=>exact ⟨f,_,_,rfl,HJW⟩
     case round=>
      clear HJW c0
      obtain ⟨f,bsn,fr,rfl,HJW⟩:=hrel
      have hgl:(bsn.map (·.2)).length=n:=by rw [List.length_map,HJW.out.js.len]
      obtain ⟨v,b,hb⟩:∃ v b,bsn[a]?=some (v,b):=⟨(bsn[a]'(by rw [HJW.out.js.len];exact hlt)).1,(bsn[a]'(by rw [HJW.out.js.len];exact hlt)).2,List.getElem?_eq_getElem (by rw [HJW.out.js.len];exact hlt)⟩
      have hga:(bsn.map (·.2))[a]?=some b:=by rw [List.getElem?_map,hb];rfl
      have b1:wr.cell? ⟨gb,a*8+1,none⟩=some (.int .i64 b.f1):=(ae HJW.out.js.wk.row.row (a*8+1)).trans (di hb (by omega))
      by_cases h2:b.f1=2
      · have hgy:=bB (HJW.out.js.gok.all a b hga).goal (by omega)
        rw [hgl] at hgy
        obtain ⟨y,hy⟩:∃ y:Nat,b.f3=(y:Int):=⟨b.f3.toNat,by omega⟩
        have hyT:b.f3.toNat=y:=by rw [hy];rfl
        have hay:a<y:=by omega
        have hyL:y<n:=by omega
        have b6:wr.cell? ⟨gb,a*8+6,none⟩=some (.int .i64 (y:Int)):=by rw [←hy];exact (ae HJW.out.js.wk.row.row (a*8+6)).trans (di hb (by omega))
        have i4:(0:Int)≤(y:Int):=by omega
        have i5:(y:Int)<(n:Int):=by omega
        have hfl:(frI fr).length=n:=by unfold frI;rw [List.length_map,HJW.out.js.frk.len,hgl]
        have k0:wr.cell? ⟨gn,y,none⟩=some (.int .i64 (fr.getD y 0:Nat)):=by rw [←rR];exact (ae HJW.out.js.nb y).trans (iN (by rw [hfl];exact hyL))
        by_cases h1:fr.getD y 0=1
        · obtain ⟨vn,nx,hx⟩:∃ v b,bsn[y]?=some (v,b):=⟨(bsn[y]'(by rw [HJW.out.js.len];exact hyL)).1,(bsn[y]'(by rw [HJW.out.js.len];exact hyL)).2,List.getElem?_eq_getElem (by rw [HJW.out.js.len];exact hyL)⟩
          rw [h1] at k0
          rw [h2] at b1
          have c0:wr.cell? ⟨gw,0,none⟩=some (.slice (some ⟨gb,0,none⟩) n cap):=by have h:=(ae HJW.out.js.wk.me 0).trans rfl;rw [HJW.out.js.len] at h;exact h
          have HB:=aa.mk (And.intro hb (And.intro hx (And.intro hyT (And.intro h2 h1))))
          have HLEN:aa (b.f0.length≤4096∧nx.f0.length≤4096):=⟨HJW.out.js.gok.len hga,HJW.out.js.gok.len (by rw [List.getElem?_map,hx];rfl)⟩
          have HMJ:aa (mJ wr gb a n=n - y):=⟨by rw [mJ_eq HJW.out.js.wk.row.row hb,if_pos h2,hyT]⟩
          have HGY:aa (nx.f1=2→y<nx.f3.toNat):=⟨fun e=>by have h:=bB (HJW.out.js.gok.all y nx (by rw [List.getElem?_map,hx];rfl)).goal (by omega);omega⟩
          have hcb:Cd wr v b.f0:=HJW.out.js.wk.row.code a _ hb
          have hcn:Cd wr vn nx.f0:=HJW.out.js.wk.row.code y _ hx
          obtain ⟨Ab,cb,rfl⟩:=hcb.slice
          obtain ⟨An,cn,rfl⟩:=hcn.slice
          have HFL:=aa.mk hfl
          clear hga hgl hgy hb hx hy hyT hcb hcn h1 h2 hfl
          go_upto_region 16 with (fail)
          go_quiet (fail)
          go_upto_region 17 with (fail)
          refine forget (fun X=>JW w X B gw gb cap tl gn n T a f bsn fr∧Below wr.heap.size wr X) ⟨⟨HJW.out.js.below iy,HJW.out.res⟩,by repeat (first | (with_reducible exact Below.refl _ _) | apply aA | apply ak)⟩ ?_
          clear b1 b6 k0 c0 HJW
          rintro X ⟨hjw,hbx⟩
          have hb:=HB.out.1
          have hx:=HB.out.2.1
          have hrow:=hjw.js.wk.row.row
          have hcb:=hjw.js.wk.row.code a _ hb
          have hcn:=hjw.js.wk.row.code y _ hx
          have p0:X.cell? ⟨gb,a*8,none⟩=some (.slice Ab b.f0.length cb):=(ae hrow (a*8+0)).trans (di hb (by omega))
          have q0:X.cell? ⟨gb,y*8,none⟩=some (.slice An nx.f0.length cn):=(ae hrow (y*8+0)).trans (di hx (by omega))
          have HRB:aa (k45.R 45 X.drew B.n (fun _=>True) (.slice Ab b.f0.length cb) b.f0):=⟨mi (hcb.below (ak (Below.refl _ _))) (fun g hg=>⟨hjw.js.wk.row.lo.2 _ (List.mem_of_getElem? hb) g hg,trivial⟩)⟩
          have HCN:aa (k45.C X.drew An nx.f0.length nx.f0):=⟨Cd.c (hcn.below (ak (Below.refl _ _)))⟩
          have HLW:aa (Below B.n w X.drew∧B.n≤X.drew.heap.size):=⟨⟨hjw.js.low.trans ⟨rfl,rfl,rfl,Nat.le_refl _,fun _ _=>rfl⟩,by have h1:=ax hjw.js.wk.me;have h2:=hjw.js.wk.lo;show B.n≤X.heap.size;omega⟩⟩
          have HNO:aa (∀ x,some x=(Value.slice Ab b.f0.length cb).ownBlock→x≠gb∧x≠gn):=⟨fun x e=>by
           obtain ⟨cs,h1⟩:=hcb.lt e.symm
           exact ⟨bT h1 hrow (by decide),bT h1 hjw.js.nb (by decide)⟩⟩
          have HJW:=aa.mk hjw
          have HBX:=aa.mk hbx
          clear hb hx hrow hcb hcn hjw hbx
          refine eD 10 (fun w'=>w'.cell? ⟨gb,a*8,none⟩=some (.slice Ab b.f0.length cb)∧w'.cell? ⟨gb,y*8,none⟩=some (.slice An nx.f0.length cn)) [8] ⟨p0,q0⟩ (fun hHeld=>?_)
          refine aH 0 85 ?_
          refine aH 1 86 ?_
          refine aH 2 87 ?_
          refine aH 4 89 ?_
          refine aH 5 90 ?_
          refine aH 6 91 ?_
          refine dC 3 88 hHeld ?_
          refine dC 7 92 hHeld ?_
          refine fM 8 (some 93) (fun K hK=>?_)
          refine wT k45 (Rr:=k45.K X.drew) (w0:=w) (W:=X.drew) B.n (.tmp 88) (.tmp 92) 26 45 (.agg #[.int .u16 0,.int .u8 0,.int .u8 0,.int .u32 0]) 8 (by rfl) (by rfl) hu l9 rfl (by decide) (by decide) (.slice Ab b.f0.length cb) b.f0 nx.f0 An nx.f0.length cn (by rfl) (by rfl) HRB.out HCN.out (fun x cs h=>by obtain rfl:=kW h;exact kG _ _ _ x) HLW.out.1 HLW.out.2 (by have:=HLEN.out;omega) ?_
          intro v1 w1 hR hB hG hat
          obtain ⟨A1,cc1,rfl⟩:=Kd.gJ hR
          have HAP:=aa.mk (And.intro hR (And.intro hG hat))
          clear hR hB hG hat
          refine hK.out _ _ ?_
          clear hK K
          refine eZ 93 ?_
          refine aH 9 10 ?_
          refine iA (by kernel_rfl) ?_
          go_upto_region 18 with (fail)
          refine forget (fun Y=>Kp (fun x=>some x=(Value.slice Ab b.f0.length cb).ownBlock) X Y∧Cd Y (.slice A1 (b.f0.length+nx.f0.length) cc1) (b.f0++nx.f0)) ⟨((Kp.refl _ X).below (ak (Below.refl _ _))).grown HAP.out.2.1 (fun b hb => .inl hb.symm),by have h:=lH HAP.out.1;rw [List.length_append] at h;exact h⟩ ?_
          have HAT:aa ((Value.slice A1 (b.f0.length+nx.f0.length) cc1).ownBlock=(Value.slice Ab b.f0.length cb).ownBlock∨∃ g,(Value.slice A1 (b.f0.length+nx.f0.length) cc1).ownBlock=some g∧X.heap.size≤g):=⟨by have h:=HAP.out.2.2;rw [List.length_append] at h;exact h⟩
          clear p0 q0 HRB HCN HLW HAP
          rintro Y ⟨hky,hcy⟩
          have hrow:Y.heap[gb]?=some (.cells (bA bsn tl) 47 (0,0)):=(hky.block gb (ax HJW.out.js.wk.row.row) (fun e=>(HNO.out gb e).1 rfl)).trans HJW.out.js.wk.row.row
          have hnb:Y.heap[gn]?=some (.cells (inC (frI fr)) 3 (0,0)):=(hky.block gn (ax HJW.out.js.nb) (fun e=>(HNO.out gn e).2 rfl)).trans HJW.out.js.nb
          have b6:Y.cell? ⟨gb,a*8+6,none⟩=some (.int .i64 (y:Int)):=by
           have e:b.f3=(y:Int):=by
            have h:=HB.out.2.2.1
            have hgy:=bB (HJW.out.js.gok.all a b (by rw [List.getElem?_map,HB.out.1];rfl)).goal (by have:=HB.out.2.2.2.1;omega)
            omega
           rw [←e];exact (ae hrow (a*8+6)).trans (di HB.out.1 (by omega))
          have kz:Y.frozen? ⟨gn,y,none⟩=false:=af hnb y
          have k0:Y.cell? ⟨gn,y,none⟩=some (.int .i64 (fr.getD y 0:Nat)):=by rw [←rR];exact (ae hnb y).trans (iN (by rw [HFL.out];exact hyL))
          have HY:=aa.mk (And.intro hky (And.intro hcy (And.intro hrow hnb)))
          clear hky hcy hrow hnb
          go_upto_region 19 with (fail)
          refine forget (fun Z=>Kp (fun x=>x=gb∨x=gn∨some x=(Value.slice Ab b.f0.length cb).ownBlock) X Z∧Cd Z (.slice A1 (b.f0.length+nx.f0.length) cc1) (b.f0++nx.f0)∧Z.heap[gb]?=some (.cells (bA bsn tl) 47 (0,0))∧Z.heap[gn]?=some (.cells (inC (frI (fr.set y 0))) 3 (0,0)))
           ⟨(Kp.mono HY.out.1 (fun x e => .inr (.inr e))).set (.inl (.inr (.inl rfl))) _ _,HY.out.2.1.kp ((Kp.refl (fun x=>x=gn) Y).set (.inl rfl) _ _) (fun g hg e=>by
            subst e
            obtain ⟨cs,h1⟩:=HY.out.2.1.lt hg
            exact bT h1 HY.out.2.2.2 (by decide) rfl),(Deep.blk_setCell_other _ _ _ _ (bT HY.out.2.2.1 HY.out.2.2.2 (by decide))).trans HY.out.2.2.1,aM HY.out.2.2.2 y _ ((rU y 0).trans (by rw [frI_set]))⟩ ?_
          clear b6 kz k0 HY
          rintro Z ⟨hkz,hcz,hrow,hnb⟩
          have g:=fun (jj:Nat) (hh:jj<8)=>(ae hrow (y*8+jj)).trans (di HB.out.2.1 hh)
          have q1:Z.cell? ⟨gb,y*8+1,none⟩=some (.int .i64 nx.f1):=g 1 (by omega)
          have q2:Z.cell? ⟨gb,y*8+2,none⟩=some (.int .u16 nx.f2.f0):=g 2 (by omega)
          have q3:Z.cell? ⟨gb,y*8+3,none⟩=some (.int .u8 nx.f2.f1):=g 3 (by omega)
          have q4:Z.cell? ⟨gb,y*8+4,none⟩=some (.int .u8 nx.f2.f2):=g 4 (by omega)
          have q5:Z.cell? ⟨gb,y*8+5,none⟩=some (.int .u32 nx.f2.f3):=g 5 (by omega)
          have q6:Z.cell? ⟨gb,y*8+6,none⟩=some (.int .i64 nx.f3):=g 6 (by omega)
          have q7:Z.cell? ⟨gb,y*8+7,none⟩=some (.int .i64 nx.f4):=g 7 (by omega)
          have z0:Z.frozen? ⟨gb,a*8,none⟩=false:=af hrow (a*8+0)
          have z1:=af hrow (a*8+1)
          have z2:=af hrow (a*8+2)
          have z3:=af hrow (a*8+3)
          have z4:=af hrow (a*8+4)
          have z5:=af hrow (a*8+5)
          have z6:=af hrow (a*8+6)
          have z7:=af hrow (a*8+7)
          have p0:Z.cell? ⟨gb,a*8,none⟩=some (.slice Ab b.f0.length cb):=(ae hrow (a*8+0)).trans (di HB.out.1 (by omega))
          have p1:Z.cell? ⟨gb,a*8+1,none⟩=some (.int .i64 b.f1):=(ae hrow (a*8+1)).trans (di HB.out.1 (by omega))
          have p2:Z.cell? ⟨gb,a*8+2,none⟩=some (.int .u16 b.f2.f0):=(ae hrow (a*8+2)).trans (di HB.out.1 (by omega))
          have p3:Z.cell? ⟨gb,a*8+3,none⟩=some (.int .u8 b.f2.f1):=(ae hrow (a*8+3)).trans (di HB.out.1 (by omega))
          have p4:Z.cell? ⟨gb,a*8+4,none⟩=some (.int .u8 b.f2.f2):=(ae hrow (a*8+4)).trans (di HB.out.1 (by omega))
          have p5:Z.cell? ⟨gb,a*8+5,none⟩=some (.int .u32 b.f2.f3):=(ae hrow (a*8+5)).trans (di HB.out.1 (by omega))
          have p6:Z.cell? ⟨gb,a*8+6,none⟩=some (.int .i64 b.f3):=(ae hrow (a*8+6)).trans (di HB.out.1 (by omega))
          have p7:Z.cell? ⟨gb,a*8+7,none⟩=some (.int .i64 b.f4):=(ae hrow (a*8+7)).trans (di HB.out.1 (by omega))
          have HZ:=aa.mk (And.intro hkz (And.intro hcz (And.intro hrow hnb)))
          clear g hkz hcz hrow hnb
          refine eD 21 (fun w'=>w'.cell? ⟨gb,y*8+1,none⟩=some (.int .i64 nx.f1)∧w'.cell? ⟨gb,y*8+2,none⟩=some (.int .u16 nx.f2.f0)∧w'.cell? ⟨gb,y*8+3,none⟩=some (.int .u8 nx.f2.f1)∧w'.cell? ⟨gb,y*8+4,none⟩=some (.int .u8 nx.f2.f2)∧w'.cell? ⟨gb,y*8+5,none⟩=some (.int .u32 nx.f2.f3)∧w'.cell? ⟨gb,y*8+6,none⟩=some (.int .i64 nx.f3)∧w'.cell? ⟨gb,y*8+7,none⟩=some (.int .i64 nx.f4)∧w'.frozen? ⟨gb,a*8,none⟩=false∧w'.frozen? ⟨gb,a*8+1,none⟩=false∧w'.frozen? ⟨gb,a*8+2,none⟩=false∧w'.frozen? ⟨gb,a*8+3,none⟩=false∧w'.frozen? ⟨gb,a*8+4,none⟩=false∧w'.frozen? ⟨gb,a*8+5,none⟩=false∧w'.frozen? ⟨gb,a*8+6,none⟩=false∧w'.frozen? ⟨gb,a*8+7,none⟩=false∧w'.cell? ⟨gb,a*8,none⟩=some (.slice Ab b.f0.length cb)∧w'.cell? ⟨gb,a*8+1,none⟩=some (.int .i64 b.f1)∧w'.cell? ⟨gb,a*8+2,none⟩=some (.int .u16 b.f2.f0)∧w'.cell? ⟨gb,a*8+3,none⟩=some (.int .u8 b.f2.f1)∧w'.cell? ⟨gb,a*8+4,none⟩=some (.int .u8 b.f2.f2)∧w'.cell? ⟨gb,a*8+5,none⟩=some (.int .u32 b.f2.f3)∧w'.cell? ⟨gb,a*8+6,none⟩=some (.int .i64 b.f3)∧w'.cell? ⟨gb,a*8+7,none⟩=some (.int .i64 b.f4)) [20] ⟨q1,q2,q3,q4,q5,q6,q7,z0,z1,z2,z3,z4,z5,z6,z7,p0,p1,p2,p3,p4,p5,p6,p7⟩ (fun hHeld=>?_)
          refine aH 0 100 ?_
          refine aH 1 101 ?_
          refine aH 2 102 ?_
          refine aH 3 103 ?_
          refine aH 4 104 ?_
          refine aH 6 106 ?_
          refine aH 7 107 ?_
          refine aH 8 108 ?_
          refine aH 10 110 ?_
          refine aH 11 111 ?_
          refine aH 12 112 ?_
          refine aH 14 114 ?_
          refine aH 15 115 ?_
          refine aH 16 116 ?_
          refine dC 5 105 hHeld ?_
          refine dC 9 109 hHeld ?_
          refine dC 13 113 hHeld ?_
          refine dC 17 117 hHeld ?_
          refine aH 18 118 ?_
          refine aH 19 119 ?_
          refine fM 20 none (fun K hK=>?_)
          refine ik ?_
          refine hK.out _ _ ?_
          clear hK K
          refine iA (by kernel_rfl) ?_
          go_upto_region 20 with (fail)
          refine forget (fun U=>Kp (fun x=>x=gb∨x=gn∨some x=(Value.slice Ab b.f0.length cb).ownBlock) X U∧Cd U (.slice A1 (b.f0.length+nx.f0.length) cc1) (b.f0++nx.f0)∧U.heap[gb]?=some (.cells (bA (bsn.set a ((.slice A1 (b.f0.length+nx.f0.length) cc1),mgB b nx)) tl) 47 (0,0))∧U.heap[gn]?=some (.cells (inC (frI (fr.set y 0))) 3 (0,0)))
           (by
             have hk8:Kp (fun x=>x=gb) Z (uV Z gb a ((.slice A1 (b.f0.length+nx.f0.length) cc1),mgB b nx)).drew:=(wJ (Kp.refl (fun x=>x=gb) Z) rfl).below (ak (Below.refl _ _))
             have hk9:Kp (fun x=>x=gb∨x=gn∨some x=(Value.slice Ab b.f0.length cb).ownBlock) X (uV Z gb a ((.slice A1 (b.f0.length+nx.f0.length) cc1),mgB b nx)).drew:=HZ.out.1.trans (Kp.mono hk8 (fun x e => .inl e))
             have hc9:Cd (uV Z gb a ((.slice A1 (b.f0.length+nx.f0.length) cc1),mgB b nx)).drew (.slice A1 (b.f0.length+nx.f0.length) cc1) (b.f0++nx.f0):=HZ.out.2.1.kp hk8 (fun g hg e=>by
              subst e
              obtain ⟨cs,h1⟩:=HZ.out.2.1.lt hg
              exact bT h1 HZ.out.2.2.1 (by decide) rfl)
             have hr9:=bz (tZ HZ.out.2.2.1 HB.out.1 ((.slice A1 (b.f0.length+nx.f0.length) cc1),mgB b nx))
             have hn9:=(hk8.block gn (ax HZ.out.2.2.2) (bT HZ.out.2.2.2 HZ.out.2.2.1 (by decide))).trans HZ.out.2.2.2
             exact ⟨hk9,hc9,hr9,hn9⟩) ?_
          clear p0 p1 p2 p3 p4 p5 p6 p7 q1 q2 q3 q4 q5 q6 q7 z0 z1 z2 z3 z4 z5 z6 z7 HZ
          rintro U ⟨hku,hcu,hrow,hnb⟩
          have z0:U.frozen? ⟨gb,y*8,none⟩=false:=af hrow (y*8+0)
          have z1:=af hrow (y*8+1)
          have z2:=af hrow (y*8+2)
          have z3:=af hrow (y*8+3)
          have z4:=af hrow (y*8+4)
          have z5:=af hrow (y*8+5)
          have z6:=af hrow (y*8+6)
          have z7:=af hrow (y*8+7)
          have hx2:(bsn.set a ((.slice A1 (b.f0.length+nx.f0.length) cc1),mgB b nx))[y]?=some (.slice An nx.f0.length cn,nx):=by rw [List.getElem?_set_ne (by omega)];exact HB.out.2.1
          have q0:U.cell? ⟨gb,y*8,none⟩=some (.slice An nx.f0.length cn):=(ae hrow (y*8+0)).trans (di hx2 (by omega))
          have q1:U.cell? ⟨gb,y*8+1,none⟩=some (.int .i64 nx.f1):=(ae hrow (y*8+1)).trans (di hx2 (by omega))
          have q2:U.cell? ⟨gb,y*8+2,none⟩=some (.int .u16 nx.f2.f0):=(ae hrow (y*8+2)).trans (di hx2 (by omega))
          have q3:U.cell? ⟨gb,y*8+3,none⟩=some (.int .u8 nx.f2.f1):=(ae hrow (y*8+3)).trans (di hx2 (by omega))
          have q4:U.cell? ⟨gb,y*8+4,none⟩=some (.int .u8 nx.f2.f2):=(ae hrow (y*8+4)).trans (di hx2 (by omega))
          have q5:U.cell? ⟨gb,y*8+5,none⟩=some (.int .u32 nx.f2.f3):=(ae hrow (y*8+5)).trans (di hx2 (by omega))
          have q6:U.cell? ⟨gb,y*8+6,none⟩=some (.int .i64 nx.f3):=(ae hrow (y*8+6)).trans (di hx2 (by omega))
          have q7:U.cell? ⟨gb,y*8+7,none⟩=some (.int .i64 nx.f4):=(ae hrow (y*8+7)).trans (di hx2 (by omega))
          have hr2:=tZ hrow hx2 (.slice none 0 0,jU)
          have hk2:Kp (fun x=>x=gb) U (uV U gb y (.slice none 0 0,jU)):=wJ (Kp.refl _ U) rfl
          have hwk:=join_wk HJW.out.js HB.out.1 HB.out.2.1 (by omega) hku hrow hcu HAT.out hk2 hr2
          have HEND:=aa.mk (HJW.out.step HB.out.2.2.1 HB.out.1 HB.out.2.1 HB.out.2.2.2.1 HB.out.2.2.2.2 hwk.1 hwk.2 ((hk2.block gn (ax hnb) (bT hnb hrow (by decide))).trans hnb))
          have hnew:((bsn.set a ((.slice A1 (b.f0.length+nx.f0.length) cc1),mgB b nx)).set y (.slice none 0 0,jU))[a]?=some ((.slice A1 (b.f0.length+nx.f0.length) cc1),mgB b nx):=by rw [List.getElem?_set_ne (by omega)];exact aN HB.out.1
          have HME:aa (mJ (uV U gb y (.slice none 0 0,jU)) gb a n<mJ wr gb a n):=⟨by
           rw [HMJ.out,mJ_eq hr2 hnew]
           show (if nx.f1=2 then n - nx.f3.toNat else 0)<_
           split
           · rename_i e;have:=HGY.out e;omega
           omega⟩
          clear hku hcu hrow hnb hx2 hr2 hk2 hwk hnew
          go_wp2
          go_roundw
          case rel=>exact ⟨true,_,_,rfl,HEND⟩
          case measure=>exact HME.out
        have h1':((fr.getD y 0:Nat):Int)≠1:=by omega
        have h1b:(((fr.getD y 0:Nat):Int)==1)=false:=bn h1'
        have HE:aa (JL w wr B gw gb cap tl gn n T (a+1) f bsn fr):=⟨HJW.out.leave (by
         unfold jnY
         rw [hga]
         dsimp only
         rw [if_neg (by rw [hyT];exact fun q=>h1 q.2)])⟩
        rw [h2] at b1
        obtain ⟨fy,efy⟩:∃ fy,fy=fr.getD y 0:=⟨_,rfl⟩
        rw [←efy] at k0 h1b h1'
        clear hga hgl hgy hb hy hyT h1 h2 hfl HJW efy
        go_wp2
        go_roundw
        case rel=>exact ⟨a+1,f,_,_,by omega,by go_num,rfl,HE⟩
        case measure=>simp [intOf];omega
      have h2b:(b.f1==2)=false:=bn h2
      have HE:aa (JL w wr B gw gb cap tl gn n T (a+1) f bsn fr):=⟨HJW.out.leave (by
       unfold jnY
       rw [hga]
       dsimp only
       rw [if_neg (fun q=>h2 q.1)])⟩
      clear hga hgl hb h2 HJW
      go_wp2
      go_roundw
      case rel=>exact ⟨a+1,f,_,_,by omega,by go_num,rfl,HE⟩
      case measure=>simp [intOf];omega
   have han:a=n:=by omega
   subst han
   have hres:=HJL.out.res
   rw [Nat.sub_self,jnL,Bool.or_false] at hres
   have HE:=aa.mk hres
   clear hres hlt
   go_wp2
   go_ret
   rw [←ET.out,HE.out]
   exact ⟨rfl,⟨bsn,rfl,HJL.out.js.wk⟩,HJL.out.js.low⟩
theorem sD (w:World):Calls Try.prog 53 #[] w fun e w'=>e = .returned (.slice (some ⟨w.heap.size,0,none⟩) 6 6)∧w'=w.alloc (.cells psC 86):=by
 go_enter Try.func53,Try.ntmps53
 go_wp2
 go_ret
 exact ⟨rfl,rfl⟩
structure BI (w X:World) (gw:Nat) (vw:Value) (bs:List (Value × S47)):Prop where
 low:Below w.heap.size w X
 me:X.heap[gw]?=some (.cells #[vw] 83 (0,0))
 lo:w.heap.size≤gw
 out:(Kd.raw 8).R 47 X w.heap.size (fun _=>True) vw (bs.map b8)
 code:∀ (i:Nat) (p:Value × S47),bs[i]?=some p→Cd X p.1 p.2.f0
 apt:Apt bs
 own:∀ p∈bs,∀ g,p.1.ownBlock=some g→w.heap.size≤g
section
variable {w X Y:World} {gw:Nat} {vw:Value} {bs:List (Value × S47)} {b:S47}
theorem BI.below (h:BI w X gw vw bs) (hb:Below X.heap.size X Y):BI w Y gw vw bs:=
 ⟨av h.low hb,aj h.me hb,h.lo,Kd.il h.out hb,fun i p hp=>(h.code i p hp).below hb,h.apt,h.own⟩
theorem BI.snoc {w5:World} {vc v1:Value} (H:BI w X gw vw bs) (hb:Below X.heap.size X Y) (hc:Cd Y vc b.f0) (hvc:∀ g,vc.ownBlock=some g→X.heap.size≤g)
 (hR:(Kd.raw 8).R 47 w5 w.heap.size (fun _=>True) v1 (bs.map b8++[b8 (vc,b)])) (hB:Below w.heap.size w w5) (hG:Y.drew.grownBy w5 vw.ownBlock):BI w (w5.setCell ⟨gw,0,none⟩ v1) gw v1 (bs++[(vc,b)]):=by
 have HY:=H.below hb
 have hk:Kp (fun x=>some x=vw.ownBlock) Y w5:=((Kp.refl _ Y).below (ak (Below.refl _ _))).grown hG (fun b hb => .inl hb.symm)
 have hme:w5.heap[gw]?=some (.cells #[vw] 83 (0,0)):=(hk.block gw (ax HY.me) (Kd.sV HY.out HY.me (by decide))).trans HY.me
 have hcd:∀ (v:Value) (c:List S45),Cd Y v c→Cd (w5.setCell ⟨gw,0,none⟩ v1) v c:=by
  intro v c hv
  have h1:Cd w5 v c:=hv.kp hk (fun g hg=>by
   obtain ⟨cs,h1⟩:=hv.lt hg
   exact Kd.sV HY.out h1 (by decide))
  exact h1.kp ((Kp.refl (fun x=>x=gw) w5).set (.inl rfl) 0 v1) (fun g hg e=>by
   subst e
   obtain ⟨cs,h2⟩:=h1.lt hg
   exact bT hme h2 (by decide) rfl)
 refine ⟨hB.setCell H.lo _,aM hme 0 v1 rfl,H.lo,?_,?_,?_,?_⟩
 · rw [List.map_append]
   exact Kd.R_set hR hme (by decide) 0 v1
 · intro i p hp
   by_cases hi:i<bs.length
   · rw [List.getElem?_append_left hi] at hp
     exact hcd _ _ (HY.code i p hp)
   rw [List.getElem?_append_right (by omega)] at hp
   have h0:i - bs.length=0:=by
    have:=(List.getElem?_eq_some_iff.1 hp).1
    simp at this
    omega
   rw [h0] at hp
   cases hp
   exact hcd _ _ hc
 · have ha:=H.apt
   unfold Apt at ha ⊢
   rw [List.map_append]
   refine List.pairwise_append.2 ⟨ha,List.pairwise_singleton _ _,?_⟩
   intro p hp q hq g hg hg2
   obtain ⟨p',hp',rfl⟩:=List.mem_map.1 hp
   obtain rfl:=List.mem_singleton.1 hq
   obtain ⟨j,hj,rfl⟩:=List.getElem_of_mem hp'
   obtain ⟨cs,h1⟩:=(H.code j _ (List.getElem?_eq_getElem hj)).lt hg
   have h2:=ax h1
   have h3:=hvc g hg2
   omega
 intro p hp g hg
 rcases List.mem_append.1 hp with h | h
 · exact H.own p h g hg
 obtain rfl:=List.mem_singleton.1 h
 have:=hvc g hg
 have:=H.low.size
 omega
end
def pR:Nat→List S47→List S47 × Bool
 | 0=>jq
 | 1=>jb
 | 2=>jM
 | 3=>iF
 | 4=>iV
 | _=>jP
theorem sw (j:Nat) {g:List S47} (hg:GOk g):jA g (pR j g).1 (pR j g).2:=by
 match j with
 | 0=>exact j5 hg
 | 1=>exact jX hg
 | 2=>exact jY hg
 | 3=>exact j6 hg
 | 4=>exact jZ hg
 | _+5=>exact og hg
def psG (g:List S47):Nat→List S47 × Bool
 | 0=>(g,false)
 | j+1=>((pR j (psG g j).1).1,(pR j (psG g j).1).2||(psG g j).2)
theorem psG_6 (g:List S47):psG g 6=iD g:=by
 unfold iD
 simp only [psG,pR,r1,r2,r3,r4,r5,r6,Bool.or_false]
theorem psG_ok {g:List S47} (hg:GOk g):∀ j,GOk (psG g j).1:=by
 intro j
 induction j with
 | zero=>exact hg
 | succ j ih=>exact (sw j ih).gok
structure IA (w X:World) (gw gp:Nat) (R:List S47) (k:Nat) (f:Bool) (gb cap:Nat) (bs:List (Value × S47)) (tl:List Value):Prop where
 wr:Wr8 X w.heap.size gb cap bs tl
 me:X.heap[gw]?=some (.cells #[.slice (some ⟨gb,0,none⟩) bs.length cap] 83 (0,0))
 lo:w.heap.size≤gw
 low:Below w.heap.size w X
 gok:GOk (bs.map (·.2))
 more:f=true→phG (bs.map (·.2))<k∧qw k (bs.map (·.2))=R
 done:f=false→bs.map (·.2)=R
structure IB (w X:World) (gw gp:Nat) (x:List S47) (j:Nat) (f:Bool) (gb cap:Nat) (bs:List (Value × S47)) (tl:List Value):Prop where
 wk:Wk X ⟨w.heap.size,gp⟩ gw gb cap bs tl
 low:Below w.heap.size w X
 eq:(bs.map (·.2),f)=psG x j
section
variable {w X Y:World} {gw gp k gb cap j:Nat} {R x:List S47} {f:Bool} {bs:List (Value × S47)} {tl:List Value}
theorem IA.start {gp':Nat} (h:IA w X gw gp R k f gb cap bs tl) (hb:Below X.heap.size X Y) (hp:Y.heap[gp']?=some (.cells psC 86 (0,0))):IB w Y gw gp' (bs.map (·.2)) 0 false gb cap bs tl:=
 ⟨⟨aj h.me hb,h.wr.below hb,h.lo,hp⟩,av h.low hb,rfl⟩
theorem IA.next (h:IA w X gw gp R (k+1) true gb cap bs tl) {gp2 gb2 cap2:Nat} {bs2:List (Value × S47)} {tl2:List Value} (h2:IB w Y gw gp2 (bs.map (·.2)) 6 f gb2 cap2 bs2 tl2):IA w Y gw gp2 R k f gb2 cap2 bs2 tl2:=by
 have e:=h2.eq
 rw [psG_6] at e
 have e1:bs2.map (·.2)=(iD (bs.map (·.2))).1:=congrArg Prod.fst e
 have e2:f=(iD (bs.map (·.2))).2:=congrArg Prod.snd e
 have hb:=kI h.gok
 obtain ⟨m1,m2⟩:=h.more rfl
 unfold qw at m2
 refine ⟨h2.wk.row,h2.wk.me,h2.wk.lo,h2.low,by rw [e1];exact hb.gok,fun hf=>?_,fun hf=>?_⟩
 · rw [e2] at hf
   rw [if_pos hf] at m2
   have:=hb.less hf
   rw [e1]
   exact ⟨by omega,m2⟩
 rw [e2] at hf
 rw [if_neg (by rw [hf];decide)] at m2
 rw [e1];exact m2
theorem IB.next (h:IB w X gw gp x j f gb cap bs tl) {gb2 cap2:Nat} {bs2:List (Value × S47)} {tl2:List Value} {f2:Bool} (hw:Wk Y ⟨w.heap.size,gp⟩ gw gb2 cap2 bs2 tl2) (hb:Below w.heap.size X Y) (e1:bs2.map (·.2)=(pR j (bs.map (·.2))).1) (e2:f2=((pR j (bs.map (·.2))).2||f)):IB w Y gw gp x (j+1) f2 gb2 cap2 bs2 tl2:=by
 refine ⟨hw,h.low.trans hb,?_⟩
 have e:=h.eq
 have e3:bs.map (·.2)=(psG x j).1:=congrArg Prod.fst e
 have e4:f=(psG x j).2:=congrArg Prod.snd e
 rw [e1,e2,e3,e4]
 rfl
end
end Go.Proofs.Ytdkalnkplgfgoaa.Ln
