/- Lemmas and walks for the statements of the texts ZEZ..: the declarations that they need, taken together by a program of this session. Conditions: as each says. -/
import Derived.ChangeArms
import Derived.Deep.Slices
import Derived.Deep.Fields
import Derived.SizedLaws
import Derived.ChangeSame
import Derived.Test.YtdkalnkplgfgoaaZEa
import Derived.Test.YtdkalnkplgfgoaaZEk
import Derived.Test.YtdkalnkplgfgoaaZEl
set_option maxHeartbeats 4000000
set_option maxRecDepth 100000
set_option linter.unusedVariables false
set_option linter.unusedSimpArgs false
namespace Go.Proofs.Ytdkalnkplgfgoaa.Ln
open Go.RowKit Go.Maps Go.Proofs.YtdkalnkplgfgoaaW.PrintWords Go.Proofs.YtdkalnkplgfgoaaW.PrintLast Go.Proofs.YtdkalnkplgfgoaaW.PrintMore Go.Proofs.Ytdkalnkplgfgoaa.PA
def ldB (x:List S47) (t:Nat):Bool:=x.any (fun b=>b.f0.any (ldP (t:Int)))
def ldW (x:List S47) (k:Nat):List Bool:=(List.range 16).map (fun t=>decide (t<k)&&ldB x t)
theorem lN (x:List S47) (k:Nat):(ldW x k).length=16:=by simp [ldW]
theorem ldW_0 (x:List S47):ldW x 0=List.replicate 16 false:=by unfold ldW;simp;decide
theorem oP {x:List S47} {k t:Nat} (h:t<16):(ldW x k)[t]?=some (decide (t<k)&&ldB x t):=by
 unfold ldW
 rw [List.getElem?_map,List.getElem?_range h];rfl
theorem Af {x:List S47} {k:Nat} (h:k<16):ldW x (k+1)=(ldW x k).set k (ldB x k):=by
 apply List.ext_getElem?
 intro t
 by_cases ht:t<16
 · rw [oP ht,List.getElem?_set]
   by_cases e:k=t
   · subst e
     rw [if_pos rfl,if_pos (by rw [lN];exact h),decide_eq_true (by omega)];simp
   rw [if_neg e,oP ht]
   have:decide (t<k+1)=decide (t<k):=by simp;omega
   rw [this]
 rw [List.getElem?_eq_none (by rw [lN];omega),List.getElem?_eq_none (by rw [List.length_set,lN];omega)]
theorem ldc_set {ld:List Bool} {t:Nat} {b:Bool} (h:t<ld.length):(ldc ld).setIfInBounds t (.bool b)=ldc (ld.set t b):=by
 unfold ldc
 rw [List.setIfInBounds_toArray,List.map_set]
theorem st_at {c:List S45} (h:fE c=true) {i:S45} (hi:i∈c):stB i.f0 i.f3=true:=by
 unfold fE at h
 exact List.all_eq_true.1 h i hi
theorem code_hp {x:List S47} (hG:GOk x) (hP:vL x) {k:Nat} {b:S47} (hb:x[k]?=some b) (j:Nat) (hj:j+1<b.f0.length):eP.f 10000 (aV b.f0 (j:Int)).f0 (aV b.f0 (j:Int)).f1 (aV b.f0 (j:Int)).f2 (aV b.f0 (j:Int)).f3 (aV b.f0 ((j:Int)+1)).f0 (aV b.f0 ((j:Int)+1)).f1 (aV b.f0 ((j:Int)+1)).f2 (aV b.f0 ((j:Int)+1)).f3=some true:=by
 have hm:b∈x:=List.mem_of_getElem? hb
 rw [kw (by omega),show ((j:Int)+1)=((j+1:Nat):Int) from rfl,kw hj]
 exact pair_f (st_at (hG.all k b hb).code (List.getElem_mem _)) (hP.alu b hm j _ _ (List.getElem?_eq_getElem _) (List.getElem?_eq_getElem _)) (hP.load b hm j _ _ (List.getElem?_eq_getElem _) (List.getElem?_eq_getElem _))
theorem and15f:∀ t:Fin 16,Go.bits .and .u32 ((t.val:Nat):Int) 15=((t.val:Nat):Int):=by decide +kernel
theorem code_hs {x:List S47} (hG:GOk x) (hP:vL x) {k:Nat} {b:S47} (hb:x[k]?=some b) (j:Nat) (hj:j<b.f0.length) (h:(aV b.f0 (j:Int)).f0=2∨(aV b.f0 (j:Int)).f0=3):∃ t:Nat,t<16∧Go.bits .and .u32 (aV b.f0 (j:Int)).f3 15=(t:Int)∧(ldW x 16)[t]?=some true:=by
 have hm:b∈x:=List.mem_of_getElem? hb
 rw [kw hj] at h ⊢
 have hok:=hG.all k b hb
 have hi:b.f0[j]∈b.f0:=List.getElem_mem _
 have h16:=(gQ (st_at hok.code hi)).2.1 (by rcases h with h | h<;>simp [h])
 have h0:=(hok.rg _ hi).1
 have hl:=hP.store b hm _ hi h
 refine ⟨b.f0[j].f3.toNat,by omega,?_,?_⟩
 · have:=and15f ⟨b.f0[j].f3.toNat,by omega⟩
   rw [show ((b.f0[j].f3.toNat:Nat):Int)=b.f0[j].f3 by omega] at this
   rw [show ((b.f0[j].f3.toNat:Nat):Int)=b.f0[j].f3 by omega]
   exact this
 rw [oP (by omega),decide_eq_true (by omega),Bool.true_and]
 unfold ldB
 rw [xB x hG _ hl]
theorem byx_tx:∀ c∈tX,bI.f 10 c=some true:=by decide +kernel
theorem Ah {ld:List Bool} (h:ld.length=16):(ldc ld).size=16:=by simp [ldc,h]
theorem under89:Try.prog.underlying 89=some (.array 16 4):=by kernel_rfl
theorem info89:(Try.prog.info? 89).map (·.size)=some 16:=by kernel_rfl
theorem y9 (x:List S47):(fU x 0).length=x.length:=by unfold fU;rw [yX,List.length_set,List.length_replicate]
theorem uB (w:World) (A:Option Addr) (x:List S47) (cx:Nat) (hx:Kd.C k47 w A x.length x) (hcx:x.length≤cx) (hG:GOk x) (hP:vL x) :
 Calls Try.prog 32 #[.slice A x.length cx] w fun e w'=>e = .returned (.bool true)∧Below w.heap.size w w':=by
 have hu45:=Try.underlying45
 have hu47:=Try.underlying47
 obtain ⟨cm,hcm,hcl,hcg⟩:=za x hG
 have HX:=aa.mk (And.intro hx hcx)
 have HG:=aa.mk (And.intro hG hP)
 have HCM:=aa.mk (And.intro hcm (And.intro hcl hcg))
 clear hx hcx hG hP hcm hcl hcg
 go_enter Try.func32,Try.ntmps32
 go_upto_region 2 with (go_at_call 55;refine (aQ.calls 10000 A cx x (fU x 0) _ HX.out.1 HX.out.2 (reach_f x HG.out.1)).mono ?_;rintro e w1 ⟨v1,rfl,hr1,hb1⟩;have HV1:=aa.mk (And.intro hr1 hb1);clear hr1 hb1)
 obtain ⟨Ar,cr,er⟩:=Kd.gJ HV1.out.1
 subst er
 go_upto_region 3 with (go_at_call 56;refine (bi.calls 10000 A cx x cm _ (Kd.dI HX.out.1 HV1.out.2) HX.out.2 HCM.out.1).mono ?_;rintro e w2 ⟨v2,rfl,hr2,hb2⟩;have HV2:=aa.mk (And.intro hr2 hb2);clear hr2 hb2)
 obtain ⟨Ac,cc,ec⟩:=Kd.gJ HV2.out.1
 subst ec
 have HB2:aa (Below w.heap.size w w2):=⟨av HV1.out.2 HV2.out.2⟩
 have HX2:aa (Kd.C k47 w2 A x.length x):=⟨Kd.dI HX.out.1 HB2.out⟩
 have HR2:aa (Kd.bool.C w2 Ar (fU x 0).length (fU x 0)):=⟨Kd.dI (Kd.dW HV1.out.1).2.2 HV2.out.2⟩
 have HC2:aa ((Kd.int .i64).C w2 Ac cm.length cm):=⟨(Kd.dW HV2.out.1).2.2⟩
 clear HV1 HV2
 rw [y9] at HR2 ⊢
 rw [HCM.out.2.1] at HC2 ⊢
 go_upto_region 4 with (fail)
 refine forget (fun W=>∃ g,g=w2.heap.size∧CIc w2 W g (ldW x 0)) ⟨_,rfl,ai (Below.refl _ _) _,by rw [ldW_0];exact heap_alloc_new _ _⟩ ?_
 rintro W ⟨g,eg,hI⟩
 rw [←eg]
 have HI:=aa.mk hI
 have EG:aa (w2.heap.size≤g):=⟨by omega⟩
 clear eg hI
 go_wp2
 go_loopw [6] (fun v6 wr=>∃ k:Nat,k≤16∧v6 = .int .i64 k∧aa (CIc w2 wr g (ldW x k))) (fun v6 _=>16 - (intOf v6).toNat)
 case atStart=>exact ⟨0,by omega,rfl,HI⟩
 case round=>
  clear HI
  obtain ⟨k,hk,rfl,HI⟩:=hrel
  by_cases hlt:k<16
  · obtain ⟨z,ez⟩:∃ z:Int,z=(k:Int):=⟨_,rfl⟩
    rw [←ez]
    have i0:(0:Int)≤z:=by omega
    have i1:z<16:=by omega
    have EZ:=aa.mk ez
    have HLD:aa (aZ.f 20000 x z=some (ldB x k)):=⟨by rw [ez];exact loads_f x HG.out.1 (k:Int)⟩
    have ezk:z.toNat=k:=by omega
    have EZK:=aa.mk ezk
    clear ez hk ezk
    go_upto_region 6 with (go_at_call 57;refine (aZ.calls 20000 A cx x z (ldB x k) _ (Kd.dI HX2.out HI.out.b) HX.out.2 HLD.out).mono ?_;rintro e w5 ⟨rfl,hb5⟩;have HI5:=aa.mk (HI.out.below hb5);have c5:w5.cell? ⟨g,z.toNat,none⟩=some (.bool _):=(ae HI5.out.l z.toNat).trans (by rw [EZK.out];exact rW (oP hlt));have f5:=af HI5.out.l z.toNat;clear hb5)
    clear HI HLD
    go_wp2
    go_roundw
    case rel=>exact ⟨k+1,hlt,by rw [EZ.out];go_num,⟨⟨dz HI5.out.b EG.out,by rw [Af hlt];exact aM HI5.out.l z.toNat _ (by rw [EZK.out];exact ldc_set (by rw [lN];exact hlt))⟩⟩⟩
    case measure=>rw [EZ.out];simp [intOf];omega
  have hk16:k=16:=by omega
  subst hk16
  rw [show ((16:Nat):Int)=(16:Int) from rfl]
  clear hk hlt
  go_wp2
  go_loopw [7] (fun v7 wr=>∃ k:Nat,k≤x.length∧v7 = .int .i64 k∧aa (CIc w2 wr g (ldW x 16))) (fun v7 _=>x.length - (intOf v7).toNat)
  case atStart=>exact ⟨0,Nat.zero_le _,rfl,HI⟩
  case round=>
   clear HI
   obtain ⟨k,hk,rfl,HI⟩:=hrel
   by_cases hlt:k<x.length
   · obtain ⟨z,ez⟩:∃ z:Int,z=(k:Int):=⟨_,rfl⟩
     rw [←ez]
     have i0:(0:Int)≤z:=by omega
     have i1:z<(x.length:Int):=by omega
     have HB:aa (Below w2.heap.size w2 wr):=⟨HI.out.b⟩
     obtain ⟨ad,rfl⟩:=iK HX2 z (decide_eq_true i0) (decide_eq_true i1)
     obtain ⟨A0,c0,x0,x1,x2,x3,x4,x5,x6,x7,HA0,HL0,-,-⟩:=fe HX2 HB z (decide_eq_true i0) (decide_eq_true i1)
     have hbk:x[k]?=some (ah x z):=by rw [ez,jC hlt];exact List.getElem?_eq_getElem hlt
     obtain ⟨b,eb⟩:∃ b,b=ah x z:=⟨_,rfl⟩
     rw [←eb] at x0 x1 x2 x3 x4 x5 x6 x7 HA0 HL0 hbk
     have HBK:=aa.mk hbk
     have EZ:=aa.mk ez
     clear ez hk hbk eb
     go_upto_region 12 with (fail)
     refine forget (fun X=>∃ gb,gb=wr.heap.size∧Below wr.heap.size wr X∧X.heap[gb]?=some (.cells (b8 (.slice A0 b.f0.length c0,b)).toArray 47 (0,0))) ⟨_,rfl,ai (Below.refl _ _) _,heap_alloc_new _ _⟩ ?_
     clear x0 x1 x2 x3 x4 x5 x6 x7
     rintro X ⟨gb,egb,hbX,hBX⟩
     rw [←egb]
     have HIX:=aa.mk (HI.out.below hbX)
     have HBX:aa (Below w2.heap.size w2 X):=⟨HIX.out.b⟩
     have HBB:=aa.mk hBX
     clear HI HB egb hbX hBX
     have y0:X.cell? ⟨gb,0,none⟩=some (.slice A0 b.f0.length c0):=(ae HBB.out 0).trans rfl
     go_cut [9] (fun v9 wc=>∃ kn:Bool,v9 = .bool kn∧aa (kn=true→∃ i,b.f0.getLast?=some i∧i.f0=0)∧wc=X)
     case first=>
      by_cases hz:b.f0.length=0
      · rw [hz] at y0
        clear hz
        go_wp2
        go_meet
        exact ⟨false,rfl,⟨fun h=>by cases h⟩,rfl⟩
      have hl4:b.f0.length≤4096:=HG.out.1.len HBK.out
      have ew:wrap64 ((b.f0.length:Int) - 1)=(b.f0.length:Int) - 1:=by unfold wrap64;omega
      have j0:(0:Int)<(b.f0.length:Int):=by omega
      have j1:(0:Int)≤wrap64 ((b.f0.length:Int) - 1):=by rw [ew];omega
      have j2:wrap64 ((b.f0.length:Int) - 1)<(b.f0.length:Int):=by rw [ew];omega
      have HLA:aa (b.f0.getLast?=some (aV b.f0 (wrap64 ((b.f0.length:Int) - 1)))):=⟨by
       rw [ew,List.getLast?_eq_getElem?]
       unfold aV
       rw [List.getD_eq_getElem?_getD,show ((b.f0.length:Int) - 1).toNat=b.f0.length - 1 by omega,List.getElem?_eq_getElem (by omega)];rfl⟩
      obtain ⟨ad0,rfl,k0,-,-,-,-,-⟩:=gV HA0 HBX (wrap64 ((b.f0.length:Int) - 1)) (decide_eq_true j1) (decide_eq_true j2)
      clear hl4 ew hz
      by_cases hq:(aV b.f0 (wrap64 ((b.f0.length:Int) - 1))).f0=0
      · rw [hq] at k0
        have HQ:=aa.mk hq
        clear hq
        go_wp2
        go_meet
        exact ⟨true,rfl,⟨fun _=>⟨_,HLA.out,HQ.out⟩⟩,rfl⟩
      have hqb:((aV b.f0 (wrap64 ((b.f0.length:Int) - 1))).f0==0)=false:=beq_eq_false_iff_ne.mpr hq
      clear hq
      go_wp2
      go_meet
      exact ⟨false,rfl,⟨fun h=>by cases h⟩,rfl⟩
     case rest=>
      obtain ⟨kn,rfl,HKN,ewc⟩:=hcut
      have ewc':=ewc.symm
      clear ewc
      subst ewc'
      have hok:=HG.out.1.all k b HBK.out
      have hm:b∈x:=List.mem_of_getElem? HBK.out
      have HCODE:aa (∀ V,CIc w2 V g (ldW x 16)→Calls Try.prog 59 #[.slice (some ad) x.length cx,.slice A0 b.f0.length c0,.agg (ldc (ldW x 16))] V fun e w'=>e = .returned (.bool true)∧Below V.heap.size V w'):=
       ⟨fun V hV=>ut 10000 V _ A0 b.f0 c0 (ldW x 16) (lN _ _) (Kd.dI HA0.out hV.b) (by have:=HG.out.1.len HBK.out;omega) (fun j hj=>code_hp HG.out.1 HG.out.2 HBK.out j hj) (fun j hj h=>code_hs HG.out.1 HG.out.2 HBK.out j hj h)⟩
      obtain ⟨adr,rfl,r0⟩:=Kd.lG HR2.out z i0 i1
      rw [show pV false (fU x 0) z=true by unfold pV;rw [EZ.out,Int.toNat_natCast];exact HG.out.2.reach k hlt] at r0
      replace r0:=au HBX.out r0
      have y1:X.cell? ⟨gb,1,none⟩=some (.int .i64 b.f1):=(ae HBB.out 1).trans rfl
      have y2:X.cell? ⟨gb,2,none⟩=some (.int .u16 b.f2.f0):=(ae HBB.out 2).trans rfl
      have y6:X.cell? ⟨gb,6,none⟩=some (.int .i64 b.f3):=(ae HBB.out 6).trans rfl
      have y7:X.cell? ⟨gb,7,none⟩=some (.int .i64 b.f4):=(ae HBB.out 7).trans rfl
      rcases eO hok.ends with ⟨e1,-⟩ | ⟨e1,-⟩ | ⟨e1,ej,-⟩
      case' inl=>
       rw [e1] at y1
       clear hok hm e1
       go_upto_region 21 with (fail)
      case' inr.inl=>
       have hne:((b.f0.length:Int)==0)=false:=beq_eq_false_iff_ne.mpr (by have:=HG.out.2.bare b hm e1;have h:=List.length_pos_iff.2 this;omega)
       have hg:=bB hok.goal (by omega)
       have g0:0≤b.f3:=by omega
       have g1:b.f3<(x.length:Int):=hg.2
       obtain ⟨adc,rfl,cc0⟩:=Kd.kC HC2.out b.f3 g0 g1
       have hcv:(rd cm b.f3==1)=false:=beq_eq_false_iff_ne.mpr (by
        have h1:=HCM.out.2.2 b.f3.toNat (by omega)
        have h2:=HG.out.2.alone b hm e1
        unfold rd
        omega)
       replace cc0:=au HBX.out cc0
       rw [e1] at y1
       clear hok hm hg e1
       go_upto_region 21 with (fail)
      case' inr.inr=>
       have hne:(b.f3==b.f4)=false:=beq_eq_false_iff_ne.mpr (HG.out.2.test b hm e1)
       have HKB:aa (kn=true→bI.f 10 b.f2.f0=some true):=⟨fun h=>by
        obtain ⟨i,hi,h0⟩:=HKN.out h
        exact byx_tx _ (HG.out.2.known b hm e1 i hi h0)⟩
       rw [e1] at y1
       clear hok hm e1 ej
       cases kn
       case' false=>go_upto_region 21 with (fail)
       case' true=>go_upto_region 21 with (go_at_call 58;refine (bI.calls 10 _ _ _ (HKB.out rfl)).mono ?_;rintro e w' ⟨rfl,⟨nd,rfl⟩⟩)
      all_goals
       refine forget (fun V=>CIc w2 V g (ldW x 16)∧V.heap[gb]?=some (.cells (b8 (.slice A0 b.f0.length c0,b)).toArray 47 (0,0))) ⟨by first | exact HIX.out | exact HIX.out.below (aA (Below.refl _ _) _),by first | exact HBB.out | exact bg HBB.out _⟩ ?_
       clear y0 y1 y2 y6 y7 r0 HIX HBX HBB
       try clear cc0
       rintro V ⟨hV,hb⟩
       have y0:V.cell? ⟨gb,0,none⟩=some (.slice A0 b.f0.length c0):=(ae hb 0).trans rfl
       have HV:=aa.mk hV
       clear hV hb
       have HSZ:=aa.mk (Ah (lN x 16))
       go_wp2_with (first
        | (refine wpList_load_row rfl 89 (.tmp 5) rfl g rfl 89 (ldc (ldW x 16)) (0,0) _ HV.out.l under89 rfl (by rw [HSZ.out];exact info89) ?_)
        | (go_at_call 59;refine (HCODE.out _ (by first | exact HV.out | exact HV.out.below (aA (Below.refl _ _) _))).mono ?_;rintro e w6 ⟨rfl,hb6⟩;have HI6:=aa.mk (HV.out.below (by first | exact hb6 | exact av (aA (Below.refl _ _) _) hb6));clear hb6))
       go_roundw
       case rel=>exact ⟨k+1,hlt,by (have h9:=HG.out.1.few;have e9:=EZ.out;have ew:wrap64 (z+1)=z+1:=by unfold wrap64;omega);rw [ew,EZ.out];rfl,by first | exact HI6 | exact ⟨HI6.out.below (aA (Below.refl _ _) _)⟩⟩
       case measure=>(have h9:=HG.out.1.few;have e9:=EZ.out;have ew:wrap64 (z+1)=z+1:=by unfold wrap64;omega);simp [intOf,ew];omega
   have hkl:k=x.length:=by omega
   subst hkl
   go_wp2
   go_ret
   exact ⟨rfl,av HB2.out HI.out.b⟩
theorem nK (w:World) (p:List S45) (A:Option Addr) (c:Nat) (Ap:Option Addr) (l cp:Nat)
 (HO':Calls Try.prog 36 #[.slice A p.length c] w fun e w'=>e = .returned (.tuple #[.slice none 0 0,.int .i64 155])∧Below w.heap.size w w') :
 Calls Try.prog 10 #[.slice A p.length c,.slice Ap l cp] w fun e w'=>e = .returned (.bool true)∧Below w.heap.size w w':=by
 have HO:=aa.mk HO'
 clear HO'
 go_enter Try.func10,Try.ntmps10
 go_wp2_with (first | (go_at_call 36;refine HO.out.mono ?_;rintro e w1 ⟨rfl,hb⟩;have HB1:=aa.mk hb;clear hb) | (go_at_call 29;refine (ku w1).mono ?_;rintro e w2 ⟨rfl,hb⟩;have HB2:=aa.mk hb;clear hb))
 go_ret
 exact ⟨rfl,av HB1.out HB2.out⟩
theorem nL (w:World) (p:List S45) (A:Option Addr) (c:Nat) (pk:List Int) (Ap:Option Addr) (cp:Nat)
 (HO':Calls Try.prog 36 #[.slice A p.length c] w fun e w'=>∃ g Ag cg,e = .returned (.tuple #[.slice Ag g.length cg,.int .i64 0])∧Kd.C k47 w' Ag g.length g∧g.length≤cg∧GOk g∧Below w.heap.size w w')
 (HP:Kd.C (Kd.int .u8) w Ap pk.length pk) (hcp:pk.length≤cp) :
 Calls Try.prog 10 #[.slice A p.length c,.slice Ap pk.length cp] w fun e w'=>e = .returned (.bool true)∧Below w.heap.size w w':=by
 have HO:=aa.mk HO'
 have HP1:=aa.mk HP
 have HP2:=aa.mk hcp
 clear HO' HP hcp
 by_cases hpk:65536<pk.length
 · have h1:decide (65536<pk.length)=true:=decide_eq_true hpk
   have h2:decide ((65536:Int)<(pk.length:Int))=true:=decide_eq_true (by omega)
   go_enter Try.func10,Try.ntmps10
   go_wp2_with (first | (go_at_call 36;refine HO.out.mono ?_;rintro e w1 ⟨g,Ag,cg,rfl,hg,hcg,hG,hb⟩;have HB1:=aa.mk hb;clear hg hcg hG hb) | (go_at_call 29;refine (ku w1).mono ?_;rintro e w2 ⟨rfl,hb⟩;have HB2:=aa.mk hb;clear hb))
   go_ret
   exact ⟨rfl,av HB1.out HB2.out⟩
 have h1:decide (65536<pk.length)=false:=decide_eq_false (by omega)
 have h2:decide ((65536:Int)<(pk.length:Int))=false:=decide_eq_false (by omega)
 have HPK:=aa.mk (show pk.length≤65536 by omega)
 clear hpk
 go_enter Try.func10,Try.ntmps10
 go_upto_region 4 with (go_at_call 36;refine HO.out.mono ?_;rintro e w1 ⟨g,Ag,cg,rfl,hg,hcg,hG,hb⟩;have HGA:=aa.mk hg;have HCA:=aa.mk hcg;have HOK:=aa.mk hG;have HB1:=aa.mk hb;clear hg hcg hG hb)
 go_upto_region 5 with (first
  | (go_at_call 18;refine (bG.calls 10000 Ag cg g g w1 HGA.out HCA.out (cpb7 HOK.out)).mono ?_;rintro e w2 ⟨v,rfl,hs,hb⟩;obtain ⟨Ac,cc,rfl⟩:=Kd.gJ (Kd.S_R hs);have HS:=aa.mk (Kd.dW (Kd.S_R hs));have HN2:=aa.mk hb;have HB2:=aa.mk (av HB1.out hb);clear hs hb)
  | (go_at_call 27;refine (uF w2 g Ac cc HS.out.2.2 HS.out.2.1 HOK.out).mono ?_;rintro e w3 ⟨gx,cx,x,rfl,hx,hcx,hI,hb⟩;have HX:=aa.mk (And.intro hx (And.intro hcx hI));have HN3:=aa.mk (av HN2.out hb);have HB3:=aa.mk (av HB2.out hb);clear hx hcx hI hb))
 go_wp2_with (first
  | (go_at_call 34;refine (xS w3 g Ag cg x (some ⟨gx,0,none⟩) cx pk Ap cp (Kd.dI HGA.out HN3.out) HCA.out HX.out.1 HX.out.2.1 (Kd.dI HP1.out HB3.out) HP2.out HPK.out HOK.out HX.out.2.2).mono ?_;rintro e w4 ⟨rfl,hb⟩;have HN4:=aa.mk hb;have HB4:=aa.mk (av HB3.out hb);clear hb)
  | (go_at_call 32;refine (uB w4 (some ⟨gx,0,none⟩) x cx (Kd.dI HX.out.1 HN4.out) HX.out.2.1 HX.out.2.2.done.gok HX.out.2.2.done.gone).mono ?_;rintro e w5 ⟨rfl,hb⟩;have HB5:=aa.mk (av HB4.out hb);clear hb)
  | (go_at_call 29;refine (ku w5).mono ?_;rintro e w6 ⟨rfl,hb⟩;have HB6:=aa.mk (av HB5.out hb);clear hb))
 go_ret
 exact ⟨rfl,HB6.out⟩
theorem mQ (w:World) (p:List S45) (A:Option Addr) (c:Nat) (pk:List Int) (Ap:Option Addr) (cp:Nat) (HI:Kd.C k45 w A p.length p) (hc:p.length≤c)
 (HP:Kd.C (Kd.int .u8) w Ap pk.length pk) (hcp:pk.length≤cp) (hw:PrW p) :
 Calls Try.prog 10 #[.slice A p.length c,.slice Ap pk.length cp] w fun e w'=>e = .returned (.bool true)∧Below w.heap.size w w':=by
 rcases Ba w p A c HI hc hw with h | h
 · exact nK w p A c Ap pk.length cp h
 exact nL w p A c pk Ap cp h HP hcp
end Go.Proofs.Ytdkalnkplgfgoaa.Ln
namespace Go.Proofs.Ytdkalnkplgfgoaa.Rd
open Go.RowKit Go.Proofs.YtdkalnkplgfgoaaW.PrintWords Go.Proofs.YtdkalnkplgfgoaaW.PrintLast Go.Proofs.YtdkalnkplgfgoaaW.PrintMore Go.Proofs.Ytdkalnkplgfgoaa.PA Go.ChangeShapes Go.WideShapes Go.Deep
section
variable {H:Type} (enc:TypeId × Value→H) (P:Program) (w:World) (base:Nat) (spare:Nat→Bool) (held:Bool)
def Reading {α:Type} (t:TypeId) (d:Kd α) (W:α→Prop):Prop:=
 ∀ (n:Nat) (cs:List Value) (y:DataW H × List MemPlace),DataW.trod enc P w base spare held n t cs=some y→(y.1.weights P t).all (·≤reachBytes)=true→∃ x,d.K w x cs∧W x
end
section
variable {H:Type} {enc:TypeId × Value→H} {P:Program} {w:World} {base:Nat} {spare:Nat→Bool} {held:Bool}
theorem rd_int {t:TypeId} {k:IntKind} (ht:P.underlying t=some (.int k)):Reading enc P w base spare held t (Kd.int k) (fun x=>(Lit.int k x).wf=true):=by
 intro n cs y h _
 obtain ⟨x,rfl,_,hx⟩:=DataW.trod_int ht h
 exact ⟨x,rfl,hx⟩
theorem nW {α:Type} {Q:Nat→α→Prop}:∀ n:Nat,(∀ i,i<n→∃ x,Q i x)→∃ xs:List α,xs.length=n∧∀ i x,xs[i]?=some x→Q i x
 | 0,_=>⟨[],rfl,fun i x h=>by simp at h⟩
 | n+1,h=>by
  obtain ⟨xs,hl,hq⟩:=nW n (fun i hi=>h i (by omega))
  obtain ⟨x,hx⟩:=h n (by omega)
  refine ⟨xs++[x],by simp [hl],fun i z hz=>?_⟩
  by_cases e:i<xs.length
  · rw [List.getElem?_append_left e] at hz
    exact hq i z hz
  rw [List.getElem?_append_right (by omega)] at hz
  have h0:i - xs.length=0:=by
   have:=(List.getElem?_eq_some_iff.1 hz).1
   simp at this
   omega
  rw [h0] at hz
  have hzx:x=z:=by simpa using hz
  have hin:i=n:=by omega
  rw [←hzx,hin]
  exact hx
theorem kZ {t:TypeId}:∀ {l:List (DataW H)} {d:DataW H},d∈l→∀ n∈d.weights P t,n∈DataW.weightsAll P t l
 | x :: l,d,h,n,hn=>by
  simp only [DataW.weightsAll,List.mem_append]
  rcases List.mem_cons.1 h with rfl | h
  · exact .inl hn
  exact .inr (kZ h n hn)
theorem Bt {α:Type} {d:Kd α} {W:α→Prop} {t e:TypeId} {b:Nat} (ht:P.underlying t=some (.slice e)) (hC:P.cellsOf e=d.sz) (hb:P.bytesOf e=b) (h:Reading enc P w base spare held e d W) :
 Reading enc P w base spare held t (Kd.slice e d) (fun xs=>(∀ x∈xs,W x)∧xs.length*b≤reachBytes):=by
 intro n cs y hy hw
 rcases DataW.trod_slice ht hy with ⟨rfl,rfl⟩ | ⟨a,len,cap,elems,rest,m,rfl,rfl,rfl,h1,h2,h3,h4,h5,h6,h7⟩
 · refine ⟨[],⟨none,0,rfl,Nat.le_refl _,Kd.xX _ _⟩,fun x hx=>(by cases hx),by simp⟩
 have hwt:∀ z∈elems,(z.1.weights P e).all (·≤reachBytes)=true:=by
  intro z hz
  refine List.all_eq_true.2 fun q hq=>?_
  refine List.all_eq_true.1 hw q ?_
  simp only [DataW.weights,ht]
  refine List.mem_cons_of_mem _ (List.mem_append_left _ ?_)
  exact kZ (List.mem_map.2 ⟨z,hz,rfl⟩) q hq
 obtain ⟨xs,hl,hq⟩:=nW (Q:=fun i x=>∃ cs',w.cells? base (a.add (i*P.cellsOf e)) (P.cellsOf e)=some cs'∧d.K w x cs'∧W x) len (by
  intro i hi
  have he:=h5 i hi
  have hei:i<elems.length:=by omega
  rw [List.getElem?_eq_getElem hei] at he
  obtain ⟨cs',hc,ht'⟩:=Option.bind_eq_some_iff.1 he
  obtain ⟨x,hx,hW⟩:=h m cs' _ ht' (hwt _ (List.getElem_mem hei))
  exact ⟨x,cs',hc,hx,hW⟩)
 refine ⟨xs,⟨some a,cap,by rw [hl],by omega,⟨rfl,by unfold maxLen at h3;omega,fun _=>⟨a,rfl,?_⟩⟩⟩,?_,?_⟩
 · intro j p hj
   obtain ⟨cs',hc,hk,_⟩:=hq j p hj
   obtain ⟨_,hcl,hat⟩:=World.cells?_some hc
   refine ⟨cs',d.K_len hk,hk,fun i u hu=>?_⟩
   have hil:i<cs'.length:=(List.getElem?_eq_some_iff.1 hu).1
   have:=hat i (by omega)
   rw [←hC,←Go.Deep.add_add,this,hu]
 · intro x hx
   obtain ⟨i,hi,rfl⟩:=List.getElem_of_mem hx
   obtain ⟨_,_,_,hW⟩:=hq i _ (List.getElem?_eq_getElem hi)
   exact hW
 have:=List.all_eq_true.1 hw ((elems.length+rest.length)*P.bytesOf e) (by simp [DataW.weights,ht])
 rw [hb] at this
 have h9:(elems.length+rest.length)*b≤reachBytes:=by simpa using this
 have:xs.length*b≤(elems.length+rest.length)*b:=Nat.mul_le_mul_right _ (by omega)
 omega
theorem fields_of {t:TypeId} {fs:Array Field} {n:Nat} {cs:List Value} {y:DataW H × List MemPlace} (hs:P.underlying t=some (.struct fs)) (h:DataW.trod enc P w base spare held n t cs=some y) (hw:(y.1.weights P t).all (·≤reachBytes)=true) :
 cs.length=P.cellsOf t∧∃ m,∀ (j:Nat) (f:Field),fs[j]?=some f→∃ z:DataW H × List MemPlace,DataW.trod enc P w base spare held m f.type ((cs.drop f.offset).take (P.cellsOf f.type))=some z∧(z.1.weights P f.type).all (·≤reachBytes)=true:=by
 obtain ⟨xs,m,rfl,rfl,hl,hx,hf⟩:=DataW.trod_struct hs h
 refine ⟨hl,m,fun j f hj=>?_⟩
 have hjl:j<fs.size:=(Array.getElem?_eq_some_iff.1 hj).1
 have hj2:j<xs.length:=by omega
 refine ⟨xs[j],by rw [hf j f hj,List.getElem?_eq_getElem hj2],?_⟩
 refine List.all_eq_true.2 fun q hq=>?_
 refine List.all_eq_true.1 hw q ?_
 simp only [DataW.weights,hs]
 refine DataW.weights_mem_each (j:=j) (t:=f.type) (d:=xs[j].1) ?_ ?_ q hq
 · rw [List.getElem?_map,Array.getElem?_toList,hj];rfl
 rw [List.getElem?_map,List.getElem?_eq_getElem hj2];rfl
end
def WI (x:S45):Prop:=0≤x.f0∧x.f0<65536∧0≤x.f1∧x.f1<256∧0≤x.f2∧x.f2<256∧0≤x.f3∧x.f3<4294967296
theorem qZ {k:IntKind} {x:Int} (h:(Lit.int k x).wf=true):k.min≤x∧x≤k.max:=by
 simpa [Lit.wf] using h
theorem u8_of {x:Int} (h:(Lit.int .u8 x).wf=true):0≤x∧x<256:=by
 have h1:(0:Int)≤x:=(qZ h).1
 have h2:x≤(255:Int):=(qZ h).2
 omega
theorem u16_of {x:Int} (h:(Lit.int .u16 x).wf=true):0≤x∧x<65536:=by
 have h1:(0:Int)≤x:=(qZ h).1
 have h2:x≤(65535:Int):=(qZ h).2
 omega
theorem u32_of {x:Int} (h:(Lit.int .u32 x).wf=true):0≤x∧x<4294967296:=by
 have h1:(0:Int)≤x:=(qZ h).1
 have h2:x≤(4294967295:Int):=(qZ h).2
 omega
section
variable {H:Type} {enc:TypeId × Value→H} {w:World} {base:Nat} {spare:Nat→Bool} {held:Bool}
theorem rd_insn:Reading enc Try.prog w base spare held 45 k45 WI:=by
 intro n cs y h hw
 obtain ⟨hl,m,hf⟩:=fields_of Try.underlying45 h hw
 rw [show Try.prog.cellsOf 45=4 by kernel_rfl] at hl
 match cs,hl with
 | [c0,c1,c2,c3],_=>
  obtain ⟨z0,t0,_⟩:=hf 0 _ rfl
  obtain ⟨z1,t1,_⟩:=hf 1 _ rfl
  obtain ⟨z2,t2,_⟩:=hf 2 _ rfl
  obtain ⟨z3,t3,_⟩:=hf 3 _ rfl
  replace t0:DataW.trod enc Try.prog w base spare held m 43 (([c0,c1,c2,c3].drop 0).take (Try.prog.cellsOf 43))=some z0:=t0
  rw [show Try.prog.cellsOf 43=1 by kernel_rfl] at t0
  replace t1:DataW.trod enc Try.prog w base spare held m 5 (([c0,c1,c2,c3].drop 1).take (Try.prog.cellsOf 5))=some z1:=t1
  rw [show Try.prog.cellsOf 5=1 by kernel_rfl] at t1
  replace t2:DataW.trod enc Try.prog w base spare held m 5 (([c0,c1,c2,c3].drop 2).take (Try.prog.cellsOf 5))=some z2:=t2
  rw [show Try.prog.cellsOf 5=1 by kernel_rfl] at t2
  replace t3:DataW.trod enc Try.prog w base spare held m 41 (([c0,c1,c2,c3].drop 3).take (Try.prog.cellsOf 41))=some z3:=t3
  rw [show Try.prog.cellsOf 41=1 by kernel_rfl] at t3
  simp only [List.drop_zero,List.drop_succ_cons,List.take_succ_cons,List.take_zero] at t0 t1 t2 t3
  obtain ⟨x0,e0,_,w0⟩:=DataW.trod_int Try.underlying43 t0
  obtain ⟨x1,e1,_,w1⟩:=DataW.trod_int Try.underlying5 t1
  obtain ⟨x2,e2,_,w2⟩:=DataW.trod_int Try.underlying5 t2
  obtain ⟨x3,e3,_,w3⟩:=DataW.trod_int Try.underlying41 t3
  simp only [List.cons.injEq,and_true] at e0 e1 e2 e3
  subst e0 e1 e2 e3
  have a0:=u16_of w0
  have a1:=u8_of w1
  have a2:=u8_of w2
  have a3:=u32_of w3
  exact ⟨⟨x0,x1,x2,x3⟩,k45_mk w ⟨x0,x1,x2,x3⟩,a0.1,a0.2,a1.1,a1.2,a2.1,a2.2,a3.1,a3.2⟩
end
theorem vU {H:Type} {enc:TypeId × Value→H} {P:Program} {w:World} {base:Nat} {spare:Nat→Bool} {held:Bool} {α:Type} {d:Kd α} {W:α→Prop} {t e:TypeId} {b:Nat} {v:Value} {D:DataW H} {p:List MemPlace}
 (ht:P.underlying t=some (.slice e)) (hC:P.cellsOf e=d.sz) (hb:P.bytesOf e=b) (h:Reading enc P w base spare held e d W) (hv:∃ A l c,v = .slice A l c) (h0:DataW.Trod enc P w base spare held t v D p) (hw:(D.weights P t).all (·≤reachBytes)=true) :
 ∃ (A:Option Addr) (c:Nat) (xs:List α),v = .slice A xs.length c∧xs.length≤c∧d.C w A xs.length xs∧(∀ x∈xs,W x)∧xs.length*b≤reachBytes:=by
 obtain ⟨A0,l0,c0,rfl⟩:=hv
 obtain ⟨n,hn⟩:=h0
 obtain ⟨xs,⟨A,c,e0,hlc,hK⟩,hws,hl⟩:=Bt ht hC hb h n _ _ hn hw
 have e1:Value.slice A0 l0 c0 = .slice A xs.length c:=by simpa [Value.cells] using e0
 exact ⟨A,c,xs,e1,hlc,hK,hws,hl⟩
theorem qj {H:Type} {P:Program} {ts:List TypeId} {ds:List (DataW H)} (h:(DataW.weightsEach P ts ds).all (·≤reachBytes)=true) {j:Nat} {t:TypeId} {d:DataW H} (ht:ts[j]?=some t) (hd:ds[j]?=some d):(d.weights P t).all (·≤reachBytes)=true:=
 List.all_eq_true.2 fun q hq=>List.all_eq_true.1 h q (DataW.weights_mem_each ht hd q hq)
end Go.Proofs.Ytdkalnkplgfgoaa.Rd
