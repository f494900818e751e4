/- Lemmas and walks for the statements of the texts ZTZ..: the declarations that they need, taken together by a program of this session. Conditions: as each says. -/
import Derived.Deep.DeepCutAuto
import Derived.ArgAppend
import Derived.Test.YtdkalnkplgfgoaaZTb
import Derived.Test.YtdkalnkplgfgoaaZTc
import Derived.Test.YtdkalnkplgfgoaaZTd
import Derived.Test.YtdkalnkplgfgoaaZTe
import Derived.Test.YtdkalnkplgfgoaaZTi
set_option maxHeartbeats 8000000
set_option maxRecDepth 100000
set_option linter.unusedVariables false
set_option linter.unusedSimpArgs false
namespace Go.Proofs.Ytdkalnkplgfgoaa.Ln
open Go.RowKit Go.Maps Go.Proofs.YtdkalnkplgfgoaaW.PrintWords Go.Proofs.YtdkalnkplgfgoaaW.PrintLast Go.Proofs.YtdkalnkplgfgoaaW.PrintMore Go.Proofs.Ytdkalnkplgfgoaa.PA
structure DM (w X:World) (B:Bs) (gw gb cap:Nat) (tl:List Value) (L:Nat) (G:List S47) (ga gl j:Nat) (f:Bool) (bs:List (Value × S47)) (A:List Lw) (l:Lw):Prop where
 pd:PD w X B gw gb cap tl L G ga j f bs A
 lv:X.heap[gl]?=some (.cells (bn l) 167 (0,0))
 ne:gl≠ga∧B.n≤gl
theorem DM.put {w X Y:World} {B:Bs} {gw gb cap:Nat} {tl:List Value} {L:Nat} {G:List S47} {ga gl j:Nat} {f:Bool} {bs:List (Value × S47)} {A:List Lw} {l l':Lw} (h:DM w X B gw gb cap tl L G ga gl j f bs A l) (hk:Kp (fun x=>x=gl) X Y) (hl:Y.heap[gl]?=some (.cells (bn l') 167 (0,0))):DM w Y B gw gb cap tl L G ga gl j f bs A l':=
 ⟨h.pd.kp hk h.lv h.ne.1 h.ne.2,hl,h.ne⟩
theorem DM.vH {w X Y Z:World} {B:Bs} {gw gb cap:Nat} {tl:List Value} {L:Nat} {G:List S47} {ga gl j:Nat} {f:Bool} {bs:List (Value × S47)} {A:List Lw} {l:Lw} {v v':Value} {b:S47} {f2:Bool} (h:DM w X B gw gb cap tl L G ga gl (j+1) f bs A l) (hb:bs[j]?=some (v,b)) (hG:G.drop j=b :: G.drop (j+1))
 (hl:l=lvF b ((ddL (G.drop (j+1)) (j+1)).2.1.getD (b.f3.toNat - (j+1)) noW) ((ddL (G.drop (j+1)) (j+1)).2.1.getD (b.f4.toNat - (j+1)) noW)) (hv:v'.ownBlock=v.ownBlock) (hr:Y.heap[gb]?=some (.cells (bf (bs.set j (v',b)) tl) 47 (0,0))) (hc:Cd Y v' (bkF l b.f0).1)
 (hk:Kp (fun x=>x=gl∨x=gb∨some x=v.ownBlock) X Y) (hz:Z.heap[ga]?=some (.cells ((A.set j (bkF l b.f0).2.1).flatMap f18).toArray 167 (0,0))) (hkz:Kp (fun x=>x=ga) Y Z) (hf:f2=((bkF l b.f0).2.2||f)) :
 PD w Z B gw gb cap tl L G ga j f2 (bs.set j (v',⟨(bkF l b.f0).1,b.f1,b.f2,b.f3,b.f4⟩)) (A.set j (bkF l b.f0).2.1):=by
 have hkk:Kp (fun x=>(x=gl∨x=gb∨some x=v.ownBlock)∨x=ga) X Z:=(Kp.mono hk (fun x e => .inl e)).trans (Kp.mono hkz (fun x e => .inr e))
 have hgb:gb≠ga:=fun e=>by have h1:=h.pd.wk.row.row;have h2:=h.pd.at_;rw [e] at h1;exact bF h1 h2 (by decide) rfl
 refine h.pd.next hb hG hl (h.pd.wk.step hb hkk ?_ ?_ ?_ (fun g hg => .inl (by rw [←hv];exact hg))) (Kp.gW h.pd.low hkk (by have:=ay h.pd.wk.me;have:=h.pd.wk.lo;omega) ?_) hz hf
 · rintro x ((rfl | rfl | e) | rfl)
   · exact .inr (.inr ⟨_,_,_,h.lv,by decide,by decide,by decide⟩)
   · exact .inl rfl
   · exact .inr (.inl e)
   exact .inr (.inr ⟨_,_,_,h.pd.at_,by decide,by decide,by decide⟩)
 · rw [←Ah];exact (hkz.block gb (ay hr) hgb).trans hr
 · refine hc.kp hkz (fun g hg e=>?_)
   subst e
   rw [hv] at hg
   obtain ⟨cs,h1⟩:=(h.pd.wk.row.code j _ hb).lt hg
   exact bF h1 h.pd.at_ (by decide) rfl
 rintro x ((rfl | rfl | e) | rfl)
 · exact h.ne.2
 · exact h.pd.wk.row.lo.1
 · exact h.pd.wk.row.lo.2 _ (List.mem_of_getElem? hb) _ e.symm
 exact h.pd.lo
theorem sH (w:World) (B:Bs) (gw gb cap:Nat) (bs:List (Value × S47)) (tl:List Value) (hW:Wk w B gw gb cap bs tl) (hG:GOk (bs.map (·.2))) :
 Calls Try.prog 85 #[.pointer (some ⟨gw,0,none⟩)] w fun e w'=>e = .returned (.bool (iZ (bs.map (·.2))).2)∧(∃ bs',bs'.map (·.2)=(iZ (bs.map (·.2))).1∧Wk w' B gw gb cap bs' tl)∧Below B.n w w':=by
 obtain ⟨L,eL⟩:∃ L,L=bs.length:=⟨_,rfl⟩
 have hL:L≤4096:=by have:=hG.few;rw [List.length_map] at this;omega
 have hL0:0<L:=by have:=hG.some_;rw [List.length_map] at this;omega
 have c0:w.cell? ⟨gw,0,none⟩=some (.slice (some ⟨gb,0,none⟩) L cap):=by rw [eL];exact (ae hW.me 0).trans rfl
 have hmk:=tC L hL
 have hlt:=ay hW.me
 have HW:=aa.mk hW
 have HG:=aa.mk hG
 have EL:=aa.mk eL
 clear hW hG eL
 go_enter Try.func85,Try.ntmps85
 go_upto_region 3 with (fail)
 obtain ⟨G,eG⟩:∃ G,G=bs.map (·.2):=⟨_,rfl⟩
 refine forget (fun W=>∃ ga,ga=w.heap.size∧PD w W B gw gb cap tl L G ga L false bs (List.replicate L noW)) ⟨_,rfl,?_⟩ ?_
 · have hb:Below w.heap.size w (w.alloc (.cells ((List.replicate L noW).flatMap f18).toArray 167)):=ai (Below.refl _ _) _
   have hgl:G.length=L:=by rw [eG,List.length_map,EL.out]
   have hd:G.drop L=[]:=List.drop_eq_nil_of_le (by omega)
   refine ⟨HW.out.below hb,⟨hb.os,hb.tape,hb.output,hb.size,fun i hi=>hb.block i (by have:=HW.out.lo;omega)⟩,EL.out.symm,by rw [eG],by rw [hd,←eG,hd];rfl,heap_alloc_new _ _,List.length_replicate,by rw [hd];exact List.drop_eq_nil_of_le (by rw [List.length_replicate];exact Nat.le_refl _),by rw [hd];rfl,by have:=HW.out.lo;omega⟩
 have HGL:aa (G.length=L):=⟨by rw [eG,List.length_map,EL.out]⟩
 rw [←eG] at HG
 have EG:=aa.mk eG
 clear hmk hlt c0 eG
 rintro W ⟨ga,ega,hpd⟩
 rw [←ega]
 have HP:=aa.mk hpd
 have EGA:=aa.mk ega
 have c0:W.cell? ⟨gw,0,none⟩=some (.slice (some ⟨gb,0,none⟩) L cap):=by have h:=(ae hpd.wk.me 0).trans rfl;rw [hpd.len] at h;exact h
 clear hpd ega
 go_wp2
 go_loopw [3,5] (fun v3 v5 wr=>∃ (j:Nat) (z:Int) (f:Bool) (bsn:List (Value × S47)) (A:List Lw),j≤L∧v5 = .int .i64 z∧v3 = .bool f∧aa (z=(j:Int) - 1)∧aa (PD w wr B gw gb cap tl L G ga j f bsn A)) (fun _ v5 _=>(intOf v5+1).toNat)
 case atStart=>exact ⟨L,_,false,_,_,Nat.le_refl _,rfl,rfl,⟨rfl⟩,HP⟩
 case round=>
  clear HP c0
  obtain ⟨j,z,f,bsn,A,hj,rfl,rfl,HZ,HP⟩:=hrel
  cases j with
  | zero=>
   have hz:z = -1:=by have:=HZ.out;omega
   subst hz
   have e1:bsn.map (·.2)=(iZ G).1:=by have h:=HP.out.post;rw [List.drop_zero,List.drop_zero] at h;exact h
   have e2:f=(iZ G).2:=by have h:=HP.out.fnd;rw [List.drop_zero] at h;exact h
   have HE:=aa.mk (And.intro e1 e2)
   clear HZ e1 e2
   go_wp2
   go_ret
   rw [←EG.out]
   exact ⟨congrArg (fun x=>Ending.returned (Value.bool x)) HE.out.2,⟨bsn,HE.out.1,HP.out.wk⟩,HP.out.low⟩
  | succ q=>
   have hz:z=(q:Int):=by have:=HZ.out;omega
   subst hz
   clear HZ
   have hq:q<L:=hj
   obtain ⟨v,b,hb,hGq,hGd⟩:=HP.out.get hq HGL.out
   have i0:(0:Int)≤(q:Int):=by omega
   have i1:(q:Int)<(L:Int):=by omega
   have c0:wr.cell? ⟨gw,0,none⟩=some (.slice (some ⟨gb,0,none⟩) L cap):=by have h:=(ae HP.out.wk.me 0).trans rfl;rw [HP.out.len] at h;exact h
   have HB0:=aa.mk (And.intro hb (And.intro hGq hGd))
   have HBK:=aa.mk (HG.out.all q b hGq)
   have HLN:=aa.mk (HG.out.len hGq)
   clear hb hGq hGd
   go_upto_region 8 with (fail)
   refine forget (fun X=>∃ gl,gl=wr.heap.size∧DM w X B gw gb cap tl L G ga gl (q+1) f bsn A noW) ⟨_,rfl,HP.out.below (ai (Below.refl _ _) _),heap_alloc_new _ _,by have:=ay HP.out.at_;have:=HP.out.lo;omega⟩ ?_
   clear c0
   rintro X ⟨gl,egl,hdm⟩
   rw [←egl]
   have EGL:=aa.mk egl
   have HDM:=aa.mk hdm
   clear egl hdm HP
   have hec:=eB HBK.out.ends
   have gy:=bE HBK.out.goal
   have gn:=dw HBK.out.goal
   rw [HGL.out] at gy gn
   have HCC:aa (∀ (Y:World) (l:Lw),DM w Y B gw gb cap tl L G ga gl (q+1) f bsn A l→Y.cell? ⟨gb,q*8+1,none⟩=some (.int .i64 b.f1)∧Y.cell? ⟨gb,q*8+2,none⟩=some (.int .u16 b.f2.f0)∧Y.cell? ⟨gb,q*8+3,none⟩=some (.int .u8 b.f2.f1)∧Y.cell? ⟨gb,q*8+4,none⟩=some (.int .u8 b.f2.f2)∧Y.cell? ⟨gb,q*8+5,none⟩=some (.int .u32 b.f2.f3)∧Y.cell? ⟨gb,q*8+6,none⟩=some (.int .i64 b.f3)∧Y.cell? ⟨gb,q*8+7,none⟩=some (.int .i64 b.f4)):=⟨fun Y l h=>
    have g:=fun (jj:Nat) (hh:jj<8)=>(ae h.pd.wk.row.row (q*8+jj)).trans (bO HB0.out.1 hh)
    ⟨g 1 (by omega),g 2 (by omega),g 3 (by omega),g 4 (by omega),g 5 (by omega),g 6 (by omega),g 7 (by omega)⟩⟩
   obtain ⟨lv,elv⟩:∃ lv,lv=lvF b ((ddL (G.drop (q+1)) (q+1)).2.1.getD (b.f3.toNat - (q+1)) noW) ((ddL (G.drop (q+1)) (q+1)).2.1.getD (b.f4.toNat - (q+1)) noW):=⟨_,rfl⟩
   have ELV:=aa.mk elv
   clear elv
   obtain ⟨b1,b2,b3,b4,b5,b6,b7⟩:=HCC.out X _ HDM.out
   have HEC:=aa.mk hec
   have hcase:b.f1=1∨b.f1=2∨b.f1=3:=by rcases hec with h | h | h;exact .inl h.1;exact .inr (.inl h.1);exact .inr (.inr h.1)
   rcases hcase with h1 | h1 | h1
   · have H1:=aa.mk h1
     rw [h1] at b1
     clear h1 b6 b7 hec gy gn
     go_upto_region 17 with (fail)
     have hre:reB b.f2.f0=true:=by rcases HEC.out with h | h | h;exact h.2.1;have:=h.1;rw [H1.out] at this;cases this;have:=h.1;rw [H1.out] at this;cases this
     have HRD:=aa.mk (jF X gl noW b.f2 HDM.out.lv rfl HBK.out.rl (.inr (.inr hre)))
     unfold dQ at HRD
     clear hre
     go_upto_region 18 with (go_at_call 134;refine HRD.out.mono ?_;rintro e X2 ⟨rfl,hl2,hk2⟩;have HDM2:aa (DM w X2 B gw gb cap tl L G ga gl (q+1) f bsn A lv):=⟨HDM.out.put hk2 (by rw [ELV.out];unfold lvF;rw [if_pos H1.out];exact hl2)⟩;clear hl2 hk2)
     clear HRD HDM b2 b3 b4 b5 b1
     have HLL:aa (lv.length=18):=⟨by rw [ELV.out];unfold lvF;rw [if_pos H1.out];unfold rdF;rw [List.length_map,List.length_range]⟩
     go_upto_region 19 with (go_at_call 135;refine (lh X2 gl gb q lv bsn tl v b.f0 b HDM2.out.lv HLL.out HDM2.out.pd.wk.row.row HB0.out.1 (HDM2.out.pd.wk.row.code q _ HB0.out.1) HBK.out.code HBK.out.rg HLN.out).mono ?_;rintro e Y ⟨rfl,hl',⟨v',hv',hr,hc⟩,hk⟩;have HY:=aa.mk (And.intro hv' (And.intro hr (And.intro hc hk)));have HLY:aa (Y.heap[gl]?=some (.cells (f18 (bkF lv b.f0).2.1).toArray 167 (0,0))):=⟨by rw [←nW (uA HLL.out _)];exact hl'⟩;clear hl' hv' hr hc hk;obtain ⟨fa,efa⟩:∃ fa,fa=(bkF lv b.f0).2.2:=⟨_,rfl⟩;rw [←efa];have EFA:=aa.mk efa;clear efa;cases fa)
     · skip
       have HAY:aa (Y.heap[ga]?=some (.cells (A.flatMap f18).toArray 167 (0,0))∧q<A.length):=⟨⟨(HY.out.2.2.2.block ga (ay HDM2.out.pd.at_) (by
        rintro (e | e | e)
        · exact HDM2.out.ne.1 e.symm
        · exact bF HDM2.out.pd.at_ HDM2.out.pd.wk.row.row (by decide) e
        obtain ⟨cs,h1⟩:=(HDM2.out.pd.wk.row.code q _ HB0.out.1).lt e.symm
        exact bF HDM2.out.pd.at_ h1 (by decide) rfl)).trans HDM2.out.pd.at_,by rw [HDM2.out.pd.al];omega⟩⟩
       go_wp2_with (first
        | (refine wpList_load_row rfl 167 (.tmp 7) rfl gl rfl 167 (f18 (bkF lv b.f0).2.1).toArray (0,0) _ HLY.out Try.underlying167 rfl (by rw [List.size_toArray,eO];exact dh) ?_)
        | (refine ek rfl rfl 167 (.tmp 86) (.tmp 85) rfl eO jw ga q A (bkF lv b.f0).2.1 167 rfl rfl HAY.out.1 HAY.out.2 dh ?_;intro Z hz hkz;have HZ2:=aa.mk (And.intro hz hkz);clear hz hkz))
       have HEND:=aa.mk (HDM2.out.vH (f2:=(false||f)) HB0.out.1 HB0.out.2.2 ELV.out HY.out.1 HY.out.2.1 HY.out.2.2.1 HY.out.2.2.2 HZ2.out.1 HZ2.out.2 (by rw [←EFA.out]))
       clear HZ2 HAY HLY HY HDM2
       go_roundw
       case rel=>exact ⟨q,_,_,_,_,by omega,rfl,rfl,⟨rfl⟩,by first | exact HEND | (simpa using HEND)⟩
       case measure=>simp [intOf]<;>omega
     skip
     have HAY:aa (Y.heap[ga]?=some (.cells (A.flatMap f18).toArray 167 (0,0))∧q<A.length):=⟨⟨(HY.out.2.2.2.block ga (ay HDM2.out.pd.at_) (by
      rintro (e | e | e)
      · exact HDM2.out.ne.1 e.symm
      · exact bF HDM2.out.pd.at_ HDM2.out.pd.wk.row.row (by decide) e
      obtain ⟨cs,h1⟩:=(HDM2.out.pd.wk.row.code q _ HB0.out.1).lt e.symm
      exact bF HDM2.out.pd.at_ h1 (by decide) rfl)).trans HDM2.out.pd.at_,by rw [HDM2.out.pd.al];omega⟩⟩
     go_wp2_with (first
      | (refine wpList_load_row rfl 167 (.tmp 7) rfl gl rfl 167 (f18 (bkF lv b.f0).2.1).toArray (0,0) _ HLY.out Try.underlying167 rfl (by rw [List.size_toArray,eO];exact dh) ?_)
      | (refine ek rfl rfl 167 (.tmp 86) (.tmp 85) rfl eO jw ga q A (bkF lv b.f0).2.1 167 rfl rfl HAY.out.1 HAY.out.2 dh ?_;intro Z hz hkz;have HZ2:=aa.mk (And.intro hz hkz);clear hz hkz))
     have HEND:=aa.mk (HDM2.out.vH (f2:=(true||f)) HB0.out.1 HB0.out.2.2 ELV.out HY.out.1 HY.out.2.1 HY.out.2.2.1 HY.out.2.2.2 HZ2.out.1 HZ2.out.2 (by rw [←EFA.out]))
     clear HZ2 HAY HLY HY HDM2
     go_roundw
     case rel=>exact ⟨q,_,_,_,_,by omega,rfl,rfl,⟨rfl⟩,by first | exact HEND | (simpa using HEND)⟩
     case measure=>simp [intOf]<;>omega
   · have H1:=aa.mk h1
     have gy2:=gy (by rw [h1];decide)
     rw [h1] at b1
     obtain ⟨yk,eyk⟩:∃ k:Nat,b.f3=(k:Int):=⟨b.f3.toNat,by omega⟩
     rw [eyk] at b6
     have hyk:yk<L:=by omega
     have HYT:aa (b.f3.toNat=yk):=⟨by rw [eyk];rfl⟩
     have hlvy:=HDM.out.pd.lv gy2.1 gy2.2
     have HLY0:aa ((ddL (G.drop (q+1)) (q+1)).2.1.getD (b.f3.toNat - (q+1)) noW=A.getD yk noW):=⟨by rw [hlvy,HYT.out]⟩
     obtain ⟨y,ey⟩:∃ y,y=A.getD yk noW:=⟨_,rfl⟩
     rw [←ey] at HLY0
     have HAY0:aa (A[yk]?=some y):=⟨by rw [ey,List.getD_eq_getElem?_getD,List.getElem?_eq_getElem (by rw [HDM.out.pd.al];exact hyk)];rfl⟩
     have HYL:aa (y.length=18):=⟨by
      rw [←HLY0.out,List.getD_eq_getElem?_getD]
      cases e:(ddL (G.drop (q+1)) (q+1)).2.1[b.f3.toNat - (q+1)]? with
      | none=>rfl
      | some x=>exact xK _ _ x (List.mem_of_getElem? e)⟩
     have i2:(0:Int)≤(yk:Int):=by omega
     have i3:(yk:Int)<(L:Int):=by omega
     clear h1 gy2 eyk hlvy ey gy gn hec b7
     go_upto_region 10 with (first
      | (refine iQ rfl 167 (.tmp 41) rfl eO ga yk A y 167 rfl HDM.out.pd.at_ HAY0.out _ Try.underlying167 rfl dh ?_)
      | (refine iL (u := .agg (f18 y).toArray) (cs':=(f18 y).toArray) rfl rfl rfl rfl HDM.out.lv rfl rfl (by rw [List.size_toArray,eO];exact (Ln.u6 rfl).symm) (by exact dh) (fun u hu=>jw y u hu) ?_;intro w5 hr5 hk5 hb5;have HDY:aa (DM w w5 B gw gb cap tl L G ga gl (q+1) f bsn A y):=⟨HDM.out.put ⟨hb5.os,hb5.tape,hb5.output,hb5.size,fun x hx hne=>hk5 x hne⟩ (by rw [nW HYL.out];exact hr5)⟩;clear hr5 hk5 hb5))
     clear HDM b1 b2 b3 b4 b5 b6
     obtain ⟨b1,b2,b3,b4,b5,b6,b7⟩:=HCC.out w5 _ HDY.out
     rw [H1.out] at b1
     clear b2 b3 b4 b5 b6 b7
     go_upto_region 18 with (fail)
     have HDM2:aa (DM w w5 B gw gb cap tl L G ga gl (q+1) f bsn A lv):=⟨by have h:=HDY.out;rw [←HLY0.out] at h;rw [ELV.out];unfold lvF;rw [if_neg (by rw [H1.out];decide),if_pos H1.out];exact h⟩
     have HLVL:aa (lv.length=18):=⟨by rw [ELV.out];unfold lvF;rw [if_neg (by rw [H1.out];decide),if_pos H1.out,HLY0.out];exact HYL.out⟩
     clear HDY
     have HLL:aa (lv.length=18):=⟨HLVL.out⟩
     go_upto_region 19 with (go_at_call 135;refine (lh w5 gl gb q lv bsn tl v b.f0 b HDM2.out.lv HLL.out HDM2.out.pd.wk.row.row HB0.out.1 (HDM2.out.pd.wk.row.code q _ HB0.out.1) HBK.out.code HBK.out.rg HLN.out).mono ?_;rintro e Y ⟨rfl,hl',⟨v',hv',hr,hc⟩,hk⟩;have HY:=aa.mk (And.intro hv' (And.intro hr (And.intro hc hk)));have HLY:aa (Y.heap[gl]?=some (.cells (f18 (bkF lv b.f0).2.1).toArray 167 (0,0))):=⟨by rw [←nW (uA HLL.out _)];exact hl'⟩;clear hl' hv' hr hc hk;obtain ⟨fa,efa⟩:∃ fa,fa=(bkF lv b.f0).2.2:=⟨_,rfl⟩;rw [←efa];have EFA:=aa.mk efa;clear efa;cases fa)
     · skip
       have HAY:aa (Y.heap[ga]?=some (.cells (A.flatMap f18).toArray 167 (0,0))∧q<A.length):=⟨⟨(HY.out.2.2.2.block ga (ay HDM2.out.pd.at_) (by
        rintro (e | e | e)
        · exact HDM2.out.ne.1 e.symm
        · exact bF HDM2.out.pd.at_ HDM2.out.pd.wk.row.row (by decide) e
        obtain ⟨cs,h1⟩:=(HDM2.out.pd.wk.row.code q _ HB0.out.1).lt e.symm
        exact bF HDM2.out.pd.at_ h1 (by decide) rfl)).trans HDM2.out.pd.at_,by rw [HDM2.out.pd.al];omega⟩⟩
       go_wp2_with (first
        | (refine wpList_load_row rfl 167 (.tmp 7) rfl gl rfl 167 (f18 (bkF lv b.f0).2.1).toArray (0,0) _ HLY.out Try.underlying167 rfl (by rw [List.size_toArray,eO];exact dh) ?_)
        | (refine ek rfl rfl 167 (.tmp 86) (.tmp 85) rfl eO jw ga q A (bkF lv b.f0).2.1 167 rfl rfl HAY.out.1 HAY.out.2 dh ?_;intro Z hz hkz;have HZ2:=aa.mk (And.intro hz hkz);clear hz hkz))
       have HEND:=aa.mk (HDM2.out.vH (f2:=(false||f)) HB0.out.1 HB0.out.2.2 ELV.out HY.out.1 HY.out.2.1 HY.out.2.2.1 HY.out.2.2.2 HZ2.out.1 HZ2.out.2 (by rw [←EFA.out]))
       clear HZ2 HAY HLY HY HDM2
       go_roundw
       case rel=>exact ⟨q,_,_,_,_,by omega,rfl,rfl,⟨rfl⟩,by first | exact HEND | (simpa using HEND)⟩
       case measure=>simp [intOf]<;>omega
     skip
     have HAY:aa (Y.heap[ga]?=some (.cells (A.flatMap f18).toArray 167 (0,0))∧q<A.length):=⟨⟨(HY.out.2.2.2.block ga (ay HDM2.out.pd.at_) (by
      rintro (e | e | e)
      · exact HDM2.out.ne.1 e.symm
      · exact bF HDM2.out.pd.at_ HDM2.out.pd.wk.row.row (by decide) e
      obtain ⟨cs,h1⟩:=(HDM2.out.pd.wk.row.code q _ HB0.out.1).lt e.symm
      exact bF HDM2.out.pd.at_ h1 (by decide) rfl)).trans HDM2.out.pd.at_,by rw [HDM2.out.pd.al];omega⟩⟩
     go_wp2_with (first
      | (refine wpList_load_row rfl 167 (.tmp 7) rfl gl rfl 167 (f18 (bkF lv b.f0).2.1).toArray (0,0) _ HLY.out Try.underlying167 rfl (by rw [List.size_toArray,eO];exact dh) ?_)
      | (refine ek rfl rfl 167 (.tmp 86) (.tmp 85) rfl eO jw ga q A (bkF lv b.f0).2.1 167 rfl rfl HAY.out.1 HAY.out.2 dh ?_;intro Z hz hkz;have HZ2:=aa.mk (And.intro hz hkz);clear hz hkz))
     have HEND:=aa.mk (HDM2.out.vH (f2:=(true||f)) HB0.out.1 HB0.out.2.2 ELV.out HY.out.1 HY.out.2.1 HY.out.2.2.1 HY.out.2.2.2 HZ2.out.1 HZ2.out.2 (by rw [←EFA.out]))
     clear HZ2 HAY HLY HY HDM2
     go_roundw
     case rel=>exact ⟨q,_,_,_,_,by omega,rfl,rfl,⟨rfl⟩,by first | exact HEND | (simpa using HEND)⟩
     case measure=>simp [intOf]<;>omega
   have H1:=aa.mk h1
   have gy2:=gy (by rw [h1];decide)
   have gn2:=gn h1
   obtain ⟨mk,emk⟩:∃ k:Nat,b.f4=(k:Int):=⟨b.f4.toNat,by omega⟩
   have hmk:mk<L:=by omega
   have HMT:aa (b.f4.toNat=mk):=⟨by rw [emk];rfl⟩
   have hlvm:=HDM.out.pd.lv gn2.1 gn2.2
   have HLM0:aa ((ddL (G.drop (q+1)) (q+1)).2.1.getD (b.f4.toNat - (q+1)) noW=A.getD mk noW):=⟨by rw [hlvm,HMT.out]⟩
   obtain ⟨m,em⟩:∃ m,m=A.getD mk noW:=⟨_,rfl⟩
   rw [←em] at HLM0
   have HAM0:aa (A[mk]?=some m):=⟨by rw [em,List.getD_eq_getElem?_getD,List.getElem?_eq_getElem (by rw [HDM.out.pd.al];exact hmk)];rfl⟩
   have i4:(0:Int)≤(mk:Int):=by omega
   have i5:(mk:Int)<(L:Int):=by omega
   have EMK:=aa.mk emk
   clear hlvm em gn2 emk
   rw [h1] at b1
   obtain ⟨yk,eyk⟩:∃ k:Nat,b.f3=(k:Int):=⟨b.f3.toNat,by omega⟩
   rw [eyk] at b6
   have hyk:yk<L:=by omega
   have HYT:aa (b.f3.toNat=yk):=⟨by rw [eyk];rfl⟩
   have hlvy:=HDM.out.pd.lv gy2.1 gy2.2
   have HLY0:aa ((ddL (G.drop (q+1)) (q+1)).2.1.getD (b.f3.toNat - (q+1)) noW=A.getD yk noW):=⟨by rw [hlvy,HYT.out]⟩
   obtain ⟨y,ey⟩:∃ y,y=A.getD yk noW:=⟨_,rfl⟩
   rw [←ey] at HLY0
   have HAY0:aa (A[yk]?=some y):=⟨by rw [ey,List.getD_eq_getElem?_getD,List.getElem?_eq_getElem (by rw [HDM.out.pd.al];exact hyk)];rfl⟩
   have HYL:aa (y.length=18):=⟨by
    rw [←HLY0.out,List.getD_eq_getElem?_getD]
    cases e:(ddL (G.drop (q+1)) (q+1)).2.1[b.f3.toNat - (q+1)]? with
    | none=>rfl
    | some x=>exact xK _ _ x (List.mem_of_getElem? e)⟩
   have i2:(0:Int)≤(yk:Int):=by omega
   have i3:(yk:Int)<(L:Int):=by omega
   clear h1 gy2 eyk hlvy ey gy gn hec b7
   go_upto_region 10 with (first
    | (refine iQ rfl 167 (.tmp 41) rfl eO ga yk A y 167 rfl HDM.out.pd.at_ HAY0.out _ Try.underlying167 rfl dh ?_)
    | (refine iL (u := .agg (f18 y).toArray) (cs':=(f18 y).toArray) rfl rfl rfl rfl HDM.out.lv rfl rfl (by rw [List.size_toArray,eO];exact (Ln.u6 rfl).symm) (by exact dh) (fun u hu=>jw y u hu) ?_;intro w5 hr5 hk5 hb5;have HDY:aa (DM w w5 B gw gb cap tl L G ga gl (q+1) f bsn A y):=⟨HDM.out.put ⟨hb5.os,hb5.tape,hb5.output,hb5.size,fun x hx hne=>hk5 x hne⟩ (by rw [nW HYL.out];exact hr5)⟩;clear hr5 hk5 hb5))
   clear HDM b1 b2 b3 b4 b5 b6
   obtain ⟨b1,b2,b3,b4,b5,b6,b7⟩:=HCC.out w5 _ HDY.out
   rw [H1.out] at b1
   clear b2 b3 b4 b5 b6 b7
   go_upto_region 11 with (fail)
   go_wp2
   go_loopw [48] (fun v48 wr=>∃ k:Nat,k≤18∧v48 = .int .i64 k∧aa (DM w wr B gw gb cap tl L G ga gl (q+1) f bsn A (orP y m k))) (fun v48 _=>18 - (intOf v48).toNat)
   case atStart=>exact ⟨0,by omega,rfl,⟨by rw [orP_0 m HYL.out];exact HDY.out⟩⟩
   case round=>
    clear HDY b1
    obtain ⟨k,hk,rfl,HDK⟩:=hrel
    by_cases hk18:k<18
    · obtain ⟨b1,b2,b3,b4,b5,b6,b7⟩:=HCC.out wr _ HDK.out
      rw [EMK.out] at b7
      have i6:(0:Int)≤(k:Int):=by omega
      have i7:(k:Int)<18:=by omega
      have x0:wr.cell? ⟨gl,k,none⟩=some (.bool (inW y k)):=(ae HDK.out.lv k).trans ((kM (by rw [kT];exact hk18)).trans (by rw [oD hk18,decide_eq_false (Nat.lt_irrefl k)];simp))
      have x1:=ah HDK.out.lv k
      have m0:wr.cell? ⟨ga,mk*18+k,none⟩=some (.bool (inW m k)):=oN eO HDK.out.pd.at_ HAM0.out k _ (by unfold f18;rw [List.getElem?_map,List.getElem?_range hk18];rfl)
      have HS:=aa.mk (zJ (y:=y) (m:=m) hk18)
      clear b1 b2 b3 b4 b5 b6
      generalize inW m k=mb at m0 HS
      cases hyb:inW y k
      · rw [hyb] at x0 HS
        go_wp2
        have HD2:aa (DM w (wr.setCell ⟨gl,k,none⟩ (.bool mb)) B gw gb cap tl L G ga gl (q+1) f bsn A (orP y m (k+1))):=⟨HDK.out.put ((Kp.refl (fun x=>x=gl) wr).set (.inl rfl) _ _) (aI HDK.out.lv k _ (by rw [oU,←HS.out];rfl))⟩
        clear HDK
        go_roundw
        case rel=>exact ⟨k+1,by omega,by go_num,HD2⟩
        case measure=>simp [intOf];omega
      rw [hyb] at x0 HS
      go_wp2
      have HD2:aa (DM w (wr.setCell ⟨gl,k,none⟩ (.bool true)) B gw gb cap tl L G ga gl (q+1) f bsn A (orP y m (k+1))):=⟨HDK.out.put ((Kp.refl (fun x=>x=gl) wr).set (.inl rfl) _ _) (aI HDK.out.lv k _ (by rw [oU,←HS.out];rfl))⟩
      clear HDK
      go_roundw
      case rel=>exact ⟨k+1,by omega,by go_num,HD2⟩
      case measure=>simp [intOf];omega
    have hk8:k=18:=by omega
    subst hk8
    clear hk hk18
    rw [show ((18:Nat):Int)=(18:Int) from rfl]
    obtain ⟨X,rfl⟩:∃ X:World,X=wr:=⟨_,rfl⟩
    have HDX:aa (DM w X B gw gb cap tl L G ga gl (q+1) f bsn A ((List.range 18).map (fun j=>inW y j||inW m j))):=⟨by rw [←orP_18];exact HDK.out⟩
    obtain ⟨b1,b2,b3,b4,b5,b6,b7⟩:=HCC.out X _ HDX.out
    rw [H1.out] at b1
    have hjm:jmB b.f2.f0=true:=by rcases HEC.out with h | h | h;have:=h.1;rw [H1.out] at this;cases this;have:=h.1;rw [H1.out] at this;cases this;exact h.2.1
    have HRD:=aa.mk (jF X gl ((List.range 18).map (fun j=>inW y j||inW m j)) b.f2 HDX.out.lv (by rw [List.length_map,List.length_range]) HBK.out.rl (.inr (.inl hjm)))
    unfold dQ at HRD
    clear HDK b6 b7 hjm
    go_upto_region 18 with (go_at_call 134;refine HRD.out.mono ?_;rintro e X2 ⟨rfl,hl2,hk2⟩;have HDM2:aa (DM w X2 B gw gb cap tl L G ga gl (q+1) f bsn A lv):=⟨HDX.out.put hk2 (by rw [ELV.out];unfold lvF;rw [if_neg (by rw [H1.out];decide),if_neg (by rw [H1.out];decide),HLY0.out,HLM0.out];exact hl2)⟩;clear hl2 hk2)
    clear HRD HDX b2 b3 b4 b5 b1
    have HLL:aa (lv.length=18):=⟨by rw [ELV.out];unfold lvF;rw [if_neg (by rw [H1.out];decide),if_neg (by rw [H1.out];decide)];unfold rdF;rw [List.length_map,List.length_range]⟩
    go_upto_region 19 with (go_at_call 135;refine (lh X2 gl gb q lv bsn tl v b.f0 b HDM2.out.lv HLL.out HDM2.out.pd.wk.row.row HB0.out.1 (HDM2.out.pd.wk.row.code q _ HB0.out.1) HBK.out.code HBK.out.rg HLN.out).mono ?_;rintro e Y ⟨rfl,hl',⟨v',hv',hr,hc⟩,hk⟩;have HY:=aa.mk (And.intro hv' (And.intro hr (And.intro hc hk)));have HLY:aa (Y.heap[gl]?=some (.cells (f18 (bkF lv b.f0).2.1).toArray 167 (0,0))):=⟨by rw [←nW (uA HLL.out _)];exact hl'⟩;clear hl' hv' hr hc hk;obtain ⟨fa,efa⟩:∃ fa,fa=(bkF lv b.f0).2.2:=⟨_,rfl⟩;rw [←efa];have EFA:=aa.mk efa;clear efa;cases fa)
    · skip
      have HAY:aa (Y.heap[ga]?=some (.cells (A.flatMap f18).toArray 167 (0,0))∧q<A.length):=⟨⟨(HY.out.2.2.2.block ga (ay HDM2.out.pd.at_) (by
       rintro (e | e | e)
       · exact HDM2.out.ne.1 e.symm
       · exact bF HDM2.out.pd.at_ HDM2.out.pd.wk.row.row (by decide) e
       obtain ⟨cs,h1⟩:=(HDM2.out.pd.wk.row.code q _ HB0.out.1).lt e.symm
       exact bF HDM2.out.pd.at_ h1 (by decide) rfl)).trans HDM2.out.pd.at_,by rw [HDM2.out.pd.al];omega⟩⟩
      go_wp2_with (first
       | (refine wpList_load_row rfl 167 (.tmp 7) rfl gl rfl 167 (f18 (bkF lv b.f0).2.1).toArray (0,0) _ HLY.out Try.underlying167 rfl (by rw [List.size_toArray,eO];exact dh) ?_)
       | (refine ek rfl rfl 167 (.tmp 86) (.tmp 85) rfl eO jw ga q A (bkF lv b.f0).2.1 167 rfl rfl HAY.out.1 HAY.out.2 dh ?_;intro Z hz hkz;have HZ2:=aa.mk (And.intro hz hkz);clear hz hkz))
      have HEND:=aa.mk (HDM2.out.vH (f2:=(false||f)) HB0.out.1 HB0.out.2.2 ELV.out HY.out.1 HY.out.2.1 HY.out.2.2.1 HY.out.2.2.2 HZ2.out.1 HZ2.out.2 (by rw [←EFA.out]))
      clear HZ2 HAY HLY HY HDM2
      go_roundw
      case rel=>exact ⟨q,_,_,_,_,by omega,rfl,rfl,⟨rfl⟩,by first | exact HEND | (simpa using HEND)⟩
      case measure=>simp [intOf]<;>omega
    skip
    have HAY:aa (Y.heap[ga]?=some (.cells (A.flatMap f18).toArray 167 (0,0))∧q<A.length):=⟨⟨(HY.out.2.2.2.block ga (ay HDM2.out.pd.at_) (by
     rintro (e | e | e)
     · exact HDM2.out.ne.1 e.symm
     · exact bF HDM2.out.pd.at_ HDM2.out.pd.wk.row.row (by decide) e
     obtain ⟨cs,h1⟩:=(HDM2.out.pd.wk.row.code q _ HB0.out.1).lt e.symm
     exact bF HDM2.out.pd.at_ h1 (by decide) rfl)).trans HDM2.out.pd.at_,by rw [HDM2.out.pd.al];omega⟩⟩
    go_wp2_with (first
     | (refine wpList_load_row rfl 167 (.tmp 7) rfl gl rfl 167 (f18 (bkF lv b.f0).2.1).toArray (0,0) _ HLY.out Try.underlying167 rfl (by rw [List.size_toArray,eO];exact dh) ?_)
     | (refine ek rfl rfl 167 (.tmp 86) (.tmp 85) rfl eO jw ga q A (bkF lv b.f0).2.1 167 rfl rfl HAY.out.1 HAY.out.2 dh ?_;intro Z hz hkz;have HZ2:=aa.mk (And.intro hz hkz);clear hz hkz))
    have HEND:=aa.mk (HDM2.out.vH (f2:=(true||f)) HB0.out.1 HB0.out.2.2 ELV.out HY.out.1 HY.out.2.1 HY.out.2.2.1 HY.out.2.2.2 HZ2.out.1 HZ2.out.2 (by rw [←EFA.out]))
    clear HZ2 HAY HLY HY HDM2
    go_roundw
    case rel=>exact ⟨q,_,_,_,_,by omega,rfl,rfl,⟨rfl⟩,by first | exact HEND | (simpa using HEND)⟩
    case measure=>simp [intOf]<;>omega
theorem ow (w:World) (B:Bs) (gw gb cap:Nat) (bs:List (Value × S47)) (tl:List Value) (hW:Wk w B gw gb cap bs tl) (G:List S47) (hG:GOk G) (hL:bs.length=G.length) (lo j:Nat) (hag:∀ (i:Nat) (v:Value) (b:S47),lo≤i→bs[i]?=some (v,b)→G[i]?=some b) (hj:lo≤j∧j<G.length) :
 Calls Try.prog 136 #[.pointer (some ⟨gw,0,none⟩),.int .i64 j] w fun e w'=>e = .returned (.int .i64 (onG G j:Nat))∧w'=w:=by
 have c0:=d9 hW.me 0
 have HW:=aa.mk hW
 have HG:=aa.mk hG
 have HL:=aa.mk hL
 have HAG:=aa.mk hag
 have HJ:aa (lo≤j∧j<bs.length):=⟨by omega⟩
 have hfew:bs.length≤4096:=by have:=hG.few;omega
 clear hW hG hL hag hj
 go_enter Try.func136,Try.ntmps136
 go_wp2
 go_loop [1] (fun v1=>∃ k:Nat,v1 = .int .i64 k∧aa (lo≤k∧k<bs.length∧onG G j=onG G k)) (fun v1=>bs.length - (intOf v1).toNat)
 case atStart=>exact ⟨j,rfl,⟨HJ.out.1,HJ.out.2,rfl⟩⟩
 case round=>
  obtain ⟨k,rfl,HK⟩:=hrel
  have hk:k<bs.length:=HK.out.2.1
  obtain ⟨v,b,hb⟩:∃ v b,bs[k]?=some (v,b):=⟨bs[k].1,bs[k].2,List.getElem?_eq_getElem hk⟩
  have hGk:=HAG.out k v b HK.out.1 hb
  have hcd:Cd w v b.f0:=HW.out.row.code k _ hb
  obtain ⟨Av,cv,rfl⟩:=hcd.slice
  have i0:(0:Int)≤(k:Int):=by omega
  have i1:(k:Int)<(bs.length:Int):=by omega
  have g:=fun (jj:Nat) (hh:jj<8)=>(ae HW.out.row.row (k*8+jj)).trans (bO hb hh)
  have b0:w.cell? ⟨gb,k*8,none⟩=some (.slice Av b.f0.length cv):=g 0 (by omega)
  have b1:w.cell? ⟨gb,k*8+1,none⟩=some (.int .i64 b.f1):=g 1 (by omega)
  have b6:w.cell? ⟨gb,k*8+6,none⟩=some (.int .i64 b.f3):=g 6 (by omega)
  have HGK:=aa.mk hGk
  have hgy:=bE (HG.out.all k b hGk).goal
  clear g hb hGk hcd
  by_cases h1:b.f1=2
  · by_cases h0:b.f0.length=0
    · have hgy2:=hgy (by rw [h1];decide)
      have HB:aa (fw b=true):=⟨by unfold fw;rw [h1,h0];rfl⟩
      rw [h1] at b1
      rw [h0] at b0
      obtain ⟨y,hy⟩:∃ y:Nat,b.f3=(y:Int):=⟨b.f3.toNat,by omega⟩
      rw [hy] at b6
      have HY:aa (k<y∧y<bs.length∧b.f3.toNat=y):=⟨by have:=HL.out;omega⟩
      clear hgy hgy2 h1 h0 hy
      go_wp2
      go_round
      case rel=>exact ⟨y,rfl,⟨by have:=HY.out;have:=HK.out;omega,HY.out.2.1,by rw [HK.out.2.2,qF HG.out HGK.out HB.out,HY.out.2.2]⟩⟩
      case measure=>simp [intOf];have:=HY.out;omega
    have HB:aa (¬fw b=true):=⟨by unfold fw;rw [decide_eq_false h0];simp⟩
    rw [h1] at b1
    have h0':((b.f0.length:Int)==0)=false:=aX (by omega)
    have h0'':¬(b.f0=[]):=fun e=>h0 (by rw [e];rfl)
    clear hgy h1 h0
    go_wp2
    go_ret
    exact ⟨congrArg (fun x:Nat=>Ending.returned (Value.int .i64 (x:Int))) (HK.out.2.2.trans (oz HGK.out HB.out)).symm,rfl⟩
  have HB:aa (¬fw b=true):=⟨by unfold fw;rw [decide_eq_false h1];simp⟩
  have h1':(b.f1==2)=false:=aX h1
  clear hgy h1
  go_wp2
  go_ret
  exact ⟨congrArg (fun x:Nat=>Ending.returned (Value.int .i64 (x:Int))) (HK.out.2.2.trans (oz HGK.out HB.out)).symm,rfl⟩
theorem Wk.field {w:World} {B:Bs} {gw gb cap n j:Nat} {bs:List (Value × S47)} {tl:List Value} {v:Value} {b b':S47} {u:Value} (h:Wk w B gw gb cap bs tl) (hp:bs[n]?=some (v,b)) (hj:j<8) (e:(b8 (v,b)).set j u=b8 (v,b')) (hf:b'.f0=b.f0):Wk (w.setCell ⟨gb,n*8+j,none⟩ u) B gw gb cap (bs.set n (v,b')) tl:=by
 have hk:=(Kp.refl (fun x=>x=gb) w).set (g:=gb) (.inl rfl) (n*8+j) u
 refine h.step hp hk (fun x e => .inl e) (bz h.row.row hp (v,b') hj u e) ?_ (fun g hg => .inl hg)
 show Cd _ v b'.f0
 rw [hf]
 refine (h.row.code n _ hp).kp hk (fun g hg e=>?_)
 subst e
 obtain ⟨cs,hc⟩:=(h.row.code n _ hp).lt hg
 exact bF h.row.row hc (by decide) rfl
theorem Wk.low {w w2:World} {B:Bs} {gw gb cap:Nat} {bs:List (Value × S47)} {tl:List Value} {w0:World} (h:Wk w B gw gb cap bs tl) (hb:Below B.n w0 w) (hk:Kp (fun x=>x=gb) w w2):Below B.n w0 w2:=
 Kp.gW hb hk (by have:=ay h.me;have:=h.lo;omega) (by rintro x rfl;exact h.row.lo.1)
theorem PI.agree {w wr:World} {B:Bs} {gw gb cap L n:Nat} {tl:List Value} {G:List S47} {T R:List S47 × Bool} {f:Bool} {bs:List (Value × S47)} (h:PI w wr B gw gb cap tl L G T R n f bs) (q:Value × S47) :
 ∀ (i:Nat) (v:Value) (b:S47),n+1≤i→(bs.set n q)[i]?=some (v,b)→G[i]?=some b:=by
 intro i v b hi hb
 rw [List.getElem?_set_ne (by omega)] at hb
 have h2:((bs.map (·.2)).drop n)[i - n]?=(G.drop n)[i - n]?:=by rw [h.rest]
 rw [List.getElem?_drop,List.getElem?_drop,show n+(i - n)=i by omega,List.getElem?_map,hb] at h2
 exact h2.symm
theorem rz (w:World) (B:Bs) (gw gb cap:Nat) (bs:List (Value × S47)) (tl:List Value) (hW:Wk w B gw gb cap bs tl) (hG:GOk (bs.map (·.2))) :
 Calls Try.prog 86 #[.pointer (some ⟨gw,0,none⟩)] w fun e w'=>e = .returned (.bool (gJ (bs.map (·.2))).2)∧(∃ bs',bs'.map (·.2)=(gJ (bs.map (·.2))).1∧Wk w' B gw gb cap bs' tl)∧Below B.n w w':=by
 obtain ⟨L,eL⟩:∃ L,L=bs.length:=⟨_,rfl⟩
 have hL:L≤4096:=by have:=hG.few;rw [List.length_map] at this;omega
 have c0:w.cell? ⟨gw,0,none⟩=some (.slice (some ⟨gb,0,none⟩) L cap):=by rw [eL];exact (ae hW.me 0).trans rfl
 obtain ⟨G,eG⟩:∃ G,G=bs.map (·.2):=⟨_,rfl⟩
 rw [←eG] at hG ⊢
 have HGL:aa (G.length=L):=⟨by rw [eG,List.length_map,eL]⟩
 have HP:aa (PI w w B gw gb cap tl L G (gJ G) ((G.drop 0).map (fun b=>(goB G b).1),(G.drop 0).any (fun b=>(goB G b).2)) 0 false bs):=⟨⟨hW,Below.refl _ _,eL.symm,by rw [eG],by simp [gJ]⟩⟩
 have HG:=aa.mk hG
 clear hW hG eL eG
 go_enter Try.func86,Try.ntmps86
 go_wp2
 go_loopw [3,13] (fun v3 v13 wr=>∃ (n:Nat) (f:Bool) (bsn:List (Value × S47)),n≤L∧v13 = .int .i64 n∧v3 = .bool f∧aa (PI w wr B gw gb cap tl L G (gJ G) ((G.drop n).map (fun b=>(goB G b).1),(G.drop n).any (fun b=>(goB G b).2)) n f bsn)) (fun _ v13 _=>L - (intOf v13).toNat)
 case atStart=>exact ⟨0,false,_,Nat.zero_le _,rfl,rfl,HP⟩
 case round=>
  clear HP c0
  obtain ⟨n,f,bsn,hn,rfl,rfl,HP⟩:=hrel
  by_cases hlt:n<L
  · obtain ⟨v,b,hb,hGn,hGd⟩:=HP.out.at_ hlt
    have i0:(0:Int)≤(n:Int):=by omega
    have i1:(n:Int)<(L:Int):=by omega
    have c0:wr.cell? ⟨gw,0,none⟩=some (.slice (some ⟨gb,0,none⟩) L cap):=by have h:=(ae HP.out.wk.me 0).trans rfl;rw [HP.out.len] at h;exact h
    have g:=fun (jj:Nat) (hh:jj<8)=>(ae HP.out.wk.row.row (n*8+jj)).trans (bO hb hh)
    have b1:wr.cell? ⟨gb,n*8+1,none⟩=some (.int .i64 b.f1):=g 1 (by omega)
    have b6:wr.cell? ⟨gb,n*8+6,none⟩=some (.int .i64 b.f3):=g 6 (by omega)
    have z6:wr.frozen? ⟨gb,n*8+6,none⟩=false:=ah HP.out.wk.row.row (n*8+6)
    have HB0:=aa.mk (And.intro hb (And.intro hGn hGd))
    have HBK:=aa.mk (HG.out.all n b hGn)
    have hec:=eB HBK.out.ends
    have gy:=bE HBK.out.goal
    have gn:=dw HBK.out.goal
    rw [HGL.out] at gy gn
    have HGO:=fun (b':S47) (f2:Bool) (w2:World) (h1:(goB G b).1=b') (h2:f2=(f||(goB G b).2)) (h3:Wk w2 B gw gb cap (bsn.set n (v,b')) tl) (h4:Below B.n w w2)=>HP.out.next (R':=((G.drop (n+1)).map (fun b=>(goB G b).1),(G.drop (n+1)).any (fun b=>(goB G b).2))) (f2:=f2) HB0.out.1 HB0.out.2.2 (by rw [HB0.out.2.2,List.map_cons,h1]) (by rw [HB0.out.2.2,List.any_cons,←Bool.or_assoc,h2]) h3 h4
    have HGO2:=aa.mk HGO
    have hcase:b.f1=1∨b.f1=2∨b.f1=3:=by rcases hec with h | h | h;exact .inl h.1;exact .inr (.inl h.1);exact .inr (.inr h.1)
    clear g hb hGn hGd HGO hec
    rcases hcase with h1 | h1
    · have HE:aa (PI w wr B gw gb cap tl L G (gJ G) ((G.drop (n+1)).map (fun b=>(goB G b).1),(G.drop (n+1)).any (fun b=>(goB G b).2)) (n+1) f (bsn.set n (v,b))):=⟨HGO2.out b f wr (by unfold goB;rw [if_pos h1]) (by unfold goB;rw [if_pos h1];simp) (by rw [set_self HB0.out.1];exact HP.out.wk) HP.out.low⟩
      rw [h1] at b1
      clear h1 gy gn HGO2 b6 z6
      go_wp2
      go_roundw
      case rel=>exact ⟨n+1,f,_,by omega,by go_num,rfl,HE⟩
      case measure=>simp [intOf];omega
    have hne1:b.f1≠1:=by omega
    have gy2:=gy hne1
    obtain ⟨y,hy⟩:∃ y:Nat,b.f3=(y:Int):=⟨b.f3.toNat,by omega⟩
    have hyT:b.f3.toNat=y:=by rw [hy];rfl
    rw [hy] at b6
    have h1':(b.f1==1)=false:=aX hne1
    obtain ⟨yn,eyn⟩:∃ yn,yn=onG G y:=⟨_,rfl⟩
    have HON:=aa.mk (ow wr B gw gb cap bsn tl HP.out.wk G HG.out (by rw [HP.out.len,HGL.out]) (n+1) y (by have h:=HP.out.agree (v,b);rw [set_self HB0.out.1] at h;exact h) (by rw [HGL.out];omega))
    rw [←eyn] at HON
    have HY:=aa.mk (And.intro hyT (And.intro eyn hy))
    clear hy hyT eyn gy2 gy hne1
    go_upto_region 8 with (go_at_call 136;refine HON.out.mono ?_;rintro e w2 ⟨rfl,hw⟩;have hw':=hw.symm;clear hw;subst hw')
    clear HON
    have HMAP:aa (∀ (b':S47),b'.f0=b.f0→True):=⟨fun _ _=>trivial⟩
    go_cut [3] (fun s3 wx=>s3 = .bool (f||decide (yn≠y))∧wx=wr)
    case first=>
     by_cases e:yn=y
     · subst e
       cases f
       all_goals
        go_wp2
        go_meet
        exact ⟨by simp,rfl⟩
     have e':¬y=yn:=fun h=>e h.symm
     cases f
     all_goals
      go_wp2
      go_meet
      exact ⟨by first | (simp [e];done) | (simp [e];omega),rfl⟩
    case rest=>
     obtain ⟨rfl,hwx⟩:=hcut
     have hw':=hwx.symm
     clear hwx
     subst hw'
     obtain ⟨f1,ef1⟩:∃ f1,f1=(f||decide (yn≠y)):=⟨_,rfl⟩
     rw [←ef1]
     have EF1:=aa.mk ef1
     clear ef1
     go_upto_region 10 with (fail)
     have hwk:=HP.out.wk.field HB0.out.1 (j:=6) (b':=⟨b.f0,b.f1,b.f2,(yn:Int),b.f4⟩) (u := .int .i64 yn) (by omega) rfl rfl
     have hlow:=HP.out.wk.low HP.out.low ((Kp.refl (fun x=>x=gb) wr).set (g:=gb) (.inl rfl) (n*8+6) (.int .i64 yn))
     refine forget (fun V=>Wk V B gw gb cap (bsn.set n (v,⟨b.f0,b.f1,b.f2,(yn:Int),b.f4⟩)) tl∧Below B.n w V) ⟨hwk,hlow⟩ ?_
     clear hwk hlow b1 b6 z6 c0
     rintro V ⟨hwk,hlow⟩
     have g:=fun (jj:Nat) (hh:jj<8)=>(ae hwk.row.row (n*8+jj)).trans (bO (aG HB0.out.1) hh)
     have b1:V.cell? ⟨gb,n*8+1,none⟩=some (.int .i64 b.f1):=g 1 (by omega)
     have b7:V.cell? ⟨gb,n*8+7,none⟩=some (.int .i64 b.f4):=g 7 (by omega)
     have z7:V.frozen? ⟨gb,n*8+7,none⟩=false:=ah hwk.row.row (n*8+7)
     have HV:=aa.mk (And.intro hwk hlow)
     clear g hwk hlow
     rcases h1 with h1 | h1
     · have HE:aa (PI w V B gw gb cap tl L G (gJ G) ((G.drop (n+1)).map (fun b=>(goB G b).1),(G.drop (n+1)).any (fun b=>(goB G b).2)) (n+1) f1 (bsn.set n (v,⟨b.f0,b.f1,b.f2,(yn:Int),b.f4⟩))):=⟨HGO2.out _ f1 V (by unfold goB;rw [if_neg (by rw [h1];decide),if_pos h1,HY.out.1,←HY.out.2.1]) (by unfold goB;rw [if_neg (by rw [h1];decide),if_pos h1,HY.out.1,←HY.out.2.1,HY.out.2.2,EF1.out];congr 1;rw [decide_eq_decide];omega) HV.out.1 HV.out.2⟩
       rw [h1] at b1
       clear h1 gn HGO2 b7 z7 HV
       go_wp2
       go_roundw
       case rel=>exact ⟨n+1,f1,_,by omega,by go_num,rfl,HE⟩
       case measure=>simp [intOf];omega
     have gn2:=gn h1
     obtain ⟨m,hm⟩:∃ m:Nat,b.f4=(m:Int):=⟨b.f4.toNat,by omega⟩
     have hmT:b.f4.toNat=m:=by rw [hm];rfl
     rw [hm] at b7
     have h2':(b.f1==2)=false:=aX (by omega)
     obtain ⟨mn,emn⟩:∃ mn,mn=onG G m:=⟨_,rfl⟩
     have HON:=aa.mk (ow V B gw gb cap _ tl HV.out.1 G HG.out (by rw [List.length_set,HP.out.len,HGL.out]) (n+1) m (HP.out.agree _) (by rw [HGL.out];omega))
     rw [←emn] at HON
     have HM:=aa.mk (And.intro hmT (And.intro emn hm))
     have H1:=aa.mk h1
     have c0:V.cell? ⟨gw,0,none⟩=some (.slice (some ⟨gb,0,none⟩) L cap):=by have h:=(ae HV.out.1.me 0).trans rfl;rw [List.length_set,HP.out.len] at h;exact h
     clear hm hmT emn gn2 gn h1
     go_upto_region 12 with (go_at_call 136;refine HON.out.mono ?_;rintro e w2 ⟨rfl,hw⟩;have hw':=hw.symm;clear hw;subst hw')
     clear HON c0
     go_cut [3] (fun s3 wx=>s3 = .bool (f1||decide (mn≠m))∧wx=V)
     case first=>
      by_cases e:mn=m
      · subst e
        cases f1
        all_goals
         go_wp2
         go_meet
         exact ⟨by simp,rfl⟩
      have e':¬m=mn:=fun h=>e h.symm
      cases f1
      all_goals
       go_wp2
       go_meet
       exact ⟨by first | (simp [e];done) | (simp [e];omega),rfl⟩
     case rest=>
      obtain ⟨rfl,hwx⟩:=hcut
      have hw':=hwx.symm
      clear hwx
      subst hw'
      obtain ⟨f2,ef2⟩:∃ f2,f2=(f1||decide (mn≠m)):=⟨_,rfl⟩
      rw [←ef2]
      have EF2:=aa.mk ef2
      clear ef2
      go_upto_region 14 with (fail)
      have hwk:=HV.out.1.field (aG HB0.out.1) (j:=7) (b':=⟨b.f0,b.f1,b.f2,(yn:Int),(mn:Int)⟩) (u := .int .i64 mn) (by omega) rfl rfl
      have hlow:=HV.out.1.low HV.out.2 ((Kp.refl (fun x=>x=gb) V).set (g:=gb) (.inl rfl) (n*8+7) (.int .i64 mn))
      rw [set_set] at hwk
      refine forget (fun U=>Wk U B gw gb cap (bsn.set n (v,⟨b.f0,b.f1,b.f2,(yn:Int),(mn:Int)⟩)) tl∧Below B.n w U) ⟨hwk,hlow⟩ ?_
      clear hwk hlow b1 b7 z7 HV
      rintro U ⟨hwk,hlow⟩
      have HU:=aa.mk (And.intro hwk hlow)
      have hgo:goB G b=if yn=mn then (⟨b.f0,2,⟨0,0,0,0⟩,(yn:Int),0⟩,true) else (⟨b.f0,b.f1,b.f2,(yn:Int),(mn:Int)⟩,decide ((yn:Int)≠b.f3)||decide ((mn:Int)≠b.f4)):=by
       unfold goB
       rw [if_neg (by rw [H1.out];decide),if_neg (by rw [H1.out];decide),HY.out.1,HM.out.1,←HY.out.2.1,←HM.out.2.1]
      by_cases e:yn=mn
      · rw [if_pos e] at hgo
        have HGB:=aa.mk hgo
        have g:=fun (jj:Nat) (hh:jj<8)=>(ae hwk.row.row (n*8+jj)).trans (bO (aG HB0.out.1) hh)
        have b1:U.cell? ⟨gb,n*8+1,none⟩=some (.int .i64 b.f1):=g 1 (by omega)
        have b2:U.cell? ⟨gb,n*8+2,none⟩=some (.int .u16 b.f2.f0):=g 2 (by omega)
        have b3:U.cell? ⟨gb,n*8+3,none⟩=some (.int .u8 b.f2.f1):=g 3 (by omega)
        have b4:U.cell? ⟨gb,n*8+4,none⟩=some (.int .u8 b.f2.f2):=g 4 (by omega)
        have b5:U.cell? ⟨gb,n*8+5,none⟩=some (.int .u32 b.f2.f3):=g 5 (by omega)
        have b7:U.cell? ⟨gb,n*8+7,none⟩=some (.int .i64 mn):=g 7 (by omega)
        have z1:=ah hwk.row.row (n*8+1)
        have z2:=ah hwk.row.row (n*8+2)
        have z3:=ah hwk.row.row (n*8+3)
        have z4:=ah hwk.row.row (n*8+4)
        have z5:=ah hwk.row.row (n*8+5)
        have z7:=ah hwk.row.row (n*8+7)
        clear g hgo hwk hlow
        subst e
        go_wp2
        have hw1:=HU.out.1.field (aG HB0.out.1) (j:=1) (b':=⟨b.f0,2,b.f2,(yn:Int),(yn:Int)⟩) (u := .int .i64 2) (by omega) rfl rfl
        have hw2:=hw1.field (aG (aG HB0.out.1)) (j:=2) (b':=⟨b.f0,2,⟨0,b.f2.f1,b.f2.f2,b.f2.f3⟩,(yn:Int),(yn:Int)⟩) (u := .int .u16 0) (by omega) rfl rfl
        have hw3:=hw2.field (aG (aG (aG HB0.out.1))) (j:=3) (b':=⟨b.f0,2,⟨0,0,b.f2.f2,b.f2.f3⟩,(yn:Int),(yn:Int)⟩) (u := .int .u8 0) (by omega) rfl rfl
        have hw4:=hw3.field (aG (aG (aG (aG HB0.out.1)))) (j:=4) (b':=⟨b.f0,2,⟨0,0,0,b.f2.f3⟩,(yn:Int),(yn:Int)⟩) (u := .int .u8 0) (by omega) rfl rfl
        have hw5:=hw4.field (aG (aG (aG (aG (aG HB0.out.1))))) (j:=5) (b':=⟨b.f0,2,⟨0,0,0,0⟩,(yn:Int),(yn:Int)⟩) (u := .int .u32 0) (by omega) rfl rfl
        have hw6:=hw5.field (aG (aG (aG (aG (aG (aG HB0.out.1)))))) (j:=7) (b':=⟨b.f0,2,⟨0,0,0,0⟩,(yn:Int),0⟩) (u := .int .i64 0) (by omega) rfl rfl
        rw [set_set,set_set,set_set,set_set,set_set,set_set] at hw6
        have hlow6:=HU.out.1.low HU.out.2 (((((((Kp.refl (fun x=>x=gb) U).set (g:=gb) (.inl rfl) (n*8+1) (.int .i64 2)).set (g:=gb) (.inl rfl) (n*8+2) (.int .u16 0)).set (g:=gb) (.inl rfl) (n*8+3) (.int .u8 0)).set (g:=gb) (.inl rfl) (n*8+4) (.int .u8 0)).set (g:=gb) (.inl rfl) (n*8+5) (.int .u32 0)).set (g:=gb) (.inl rfl) (n*8+7) (.int .i64 0))
        have HE:=aa.mk (HGO2.out _ true _ (by rw [HGB.out]) (by rw [HGB.out];simp) hw6 hlow6)
        clear hw1 hw2 hw3 hw4 hw5 hw6 hlow6 HGO2 HU
        go_roundw
        case rel=>exact ⟨n+1,true,_,by omega,by go_num,rfl,HE⟩
        case measure=>simp [intOf];omega
      rw [if_neg e] at hgo
      have HE:=aa.mk (HGO2.out _ f2 U (by rw [hgo]) (by rw [hgo,EF2.out,EF1.out,HY.out.2.2,HM.out.2.2,Bool.or_assoc];congr 1;congr 1<;>(rw [decide_eq_decide];omega)) HU.out.1 HU.out.2)
      have e2:¬mn=yn:=fun h=>e h.symm
      clear hgo hwk hlow HGO2 HU
      go_wp2
      go_roundw
      case rel=>exact ⟨n+1,f2,_,by omega,by go_num,rfl,HE⟩
      case measure=>simp [intOf];omega
  have hnl:n=L:=by omega
  subst hnl
  obtain ⟨e1,e2⟩:=HP.out.done (by rw [List.drop_eq_nil_of_le (by rw [HGL.out];exact Nat.le_refl _)];rfl) (by rw [List.drop_eq_nil_of_le (by rw [HGL.out];exact Nat.le_refl _)];rfl)
  have HE:=aa.mk (And.intro e1 e2)
  clear e1 e2
  go_wp2
  go_ret
  exact ⟨congrArg (fun x=>Ending.returned (Value.bool x)) HE.out.2.symm,⟨bsn,HE.out.1,HP.out.wk⟩,HP.out.low⟩
theorem qd {p:Value × S47} (h:p.1.oneCell'=true):∀ u∈b8 p,u.oneCell'=true:=by
 intro u hu
 simp only [b8,List.mem_cons,List.not_mem_nil,or_false] at hu
 rcases hu with rfl | rfl | rfl | rfl | rfl | rfl | rfl | rfl
 · exact h
 all_goals rfl
theorem reps_b8 {W:World} {base:Nat} {ok:Nat→Prop} {bs:List (Value × S47)} {cs:List Value} (h:eu ((Kd.raw 8).M W base ok) 8 (bs.map b8) cs):cs=bs.flatMap b8:=by
 obtain ⟨h1,h2⟩:=h
 rw [List.length_map] at h1
 apply List.ext_getElem?
 intro q
 by_cases hq:q<bs.length*8
 · have hj:q / 8<bs.length:=by omega
   have h3:=h2 (q / 8) (b8 bs[q / 8]) (by rw [List.getElem?_map,List.getElem?_eq_getElem hj];rfl)
   have h4:(cs.drop (q / 8*8)).take 8=b8 bs[q / 8]:=h3.1
   have e1:cs[q]?=((cs.drop (q / 8*8)).take 8)[q % 8]?:=by
    rw [List.getElem?_take,List.getElem?_drop,if_pos (by omega)];congr 1;omega
   rw [e1,h4]
   have e2:=rc_fm bs (q / 8) bs[q / 8] (List.getElem?_eq_getElem hj) (q % 8) (by omega)
   rw [show q / 8*8+q % 8=q by omega] at e2
   rw [e2]
 rw [List.getElem?_eq_none (by omega),List.getElem?_eq_none (by rw [qN];omega)]
theorem oH {w:World} {base:Nat} {ok:Nat→Prop} {v:Value} {bs:List (Value × S47)} (h:(Kd.raw 8).R 47 w base ok v (bs.map b8)) (hne:bs≠[]) :
 ∃ gb cap tl,v = .slice (some ⟨gb,0,none⟩) bs.length cap∧base≤gb∧w.heap[gb]?=some (.cells (bf bs tl) 47 (0,0))∧(bs.flatMap b8++tl).length=cap*8∧bs.length≤cap∧cap≤maxLen:=by
 obtain ⟨_,inner,ho,hr⟩:=h
 obtain rfl:=reps_b8 hr
 rw [List.length_map] at ho
 rcases ho.2 with ⟨h1,h2⟩ | ⟨g,cap,cur,h1,hb,h3,h4,h5,h6,h7⟩
 · exact absurd (List.eq_nil_of_length_eq_zero h2) hne
 have e:=List.take_append_drop (bs.length*8) cur.toList
 rw [show cur.toList.take (bs.length*8)=bs.flatMap b8 from h7] at e
 exact ⟨g,cap,cur.toList.drop (bs.length*8),h1,hb,by rw [h3];unfold bf;rw [e],by rw [e,Array.length_toList,h6];rfl,h4,h5⟩
theorem info_in:(Try.prog.info? 3).map (fun i=>(i.zero,i.size,i.bytes))=some (some (.int .i64 0),1,8):=by kernel_rfl
def inC (l:List Int):Array Value:=(l.map (Value.int .i64)).toArray
theorem pO (L:Nat) (hL:L≤4096) (W:World):(Instr.makeSlice 70 (.int .i64 (L:Int)) (.int .i64 (L:Int))).run Try.prog W = .ok (.slice (some ⟨W.heap.size,0,none⟩) L L) (W.alloc (.cells (inC (List.replicate L 0)) 3)):=by
 obtain ⟨i,hi,hzz⟩:=Option.map_eq_some_iff.1 info_in
 simp only [Prod.mk.injEq] at hzz
 obtain ⟨hz,hs,hb⟩:=hzz
 have h:=run_make (P:=Try.prog) W 70 3 i _ Try.underlying70 hi hz .i64 .i64 L L (by omega) (Int.le_refl _) (by rw [hb];omega) (by omega)
 rw [Int.toNat_natCast,hs] at h
 have e:=kS (fun b:Int=>[Value.int .i64 b]) 0 1 rfl L
 refine h.trans ?_
 show Result.ok _ (World.alloc W (.cells (madeCells [Value.int .i64 0].toArray (L*1)) 3))=_
 rw [e]
 unfold inC
 rw [List.map_eq_flatMap]
theorem jY {l:List Int} {j:Nat} (h:j<l.length):(inC l)[j]?=some (.int .i64 (l.getD j 0)):=by
 unfold inC
 rw [List.getElem?_toArray,List.getElem?_map,List.getD_eq_getElem?_getD,List.getElem?_eq_getElem h];rfl
theorem qA {l:List Int} (j:Nat) (v:Int):(inC l).setIfInBounds j (.int .i64 v)=inC (l.set j v):=by
 unfold inC
 rw [List.setIfInBounds_toArray,←List.map_set]
theorem lD {l:List Bool} {j:Nat} (h:j<l.length):(boC l)[j]?=some (.bool (l.getD j false)):=by
 unfold boC
 rw [List.getElem?_toArray,List.getElem?_map,List.getD_eq_getElem?_getD,List.getElem?_eq_getElem h];rfl
theorem uD {l:List Bool} (j:Nat) (v:Bool):(boC l).setIfInBounds j (.bool v)=boC (l.set j v):=by
 unfold boC
 rw [List.setIfInBounds_toArray,←List.map_set]
def dpV (c:List Bool):List (Value × S47)→Nat→List (Value × S47)
 | [],_=>[]
 | p :: r,n=>if c.getD n false=true then (p.1,fG c p.2) :: dpV c r (n+1) else dpV c r (n+1)
theorem uH (c:List Bool):∀ (l:List (Value × S47)) (n:Nat),(dpV c l n).map (·.2)=dpL c (l.map (·.2)) n:=by
 intro l
 induction l with
 | nil=>intro n;rfl
 | cons p r ih=>
  intro n
  rw [dpV,List.map_cons,dpL]
  split
  · rw [List.map_cons,ih]
  exact ih _
theorem nC (c:List Bool):∀ (l:List (Value × S47)) (n:Nat),((dpV c l n).map (fun p=>(p.1,p.2.f0))).Sublist (l.map (fun p=>(p.1,p.2.f0))):=by
 intro l
 induction l with
 | nil=>intro n;exact List.Sublist.slnil
 | cons p r ih=>
  intro n
  rw [dpV]
  split
  · exact (ih (n+1)).cons_cons _
  exact (ih (n+1)).cons _
theorem dpV_app (c:List Bool):∀ (l r:List (Value × S47)) (n:Nat),dpV c (l++r) n=dpV c l n++dpV c r (n+l.length):=by
 intro l
 induction l with
 | nil=>intro r n;rfl
 | cons p l ih=>
  intro r n
  rw [List.cons_append,dpV,dpV,ih,List.length_cons,show n+1+l.length=n+(l.length+1) by omega]
  split<;>rfl
def Apt (bs:List (Value × S47)):Prop:=(bs.map (fun p=>(p.1,p.2.f0))).Pairwise (fun a b=>∀ g,a.1.ownBlock=some g→b.1.ownBlock≠some g)
theorem apt_of {w:World} {B gb cap:Nat} {bs:List (Value × S47)} {tl:List Value} (h:Wr8 w B gb cap bs tl):Apt bs:=by
 unfold Apt
 rw [List.pairwise_map,List.pairwise_iff_getElem]
 intro i j hi hj hij
 exact h.sep i j _ _ (by omega) (List.getElem?_eq_getElem hi) (List.getElem?_eq_getElem hj)
theorem uy {bs:List (Value × S47)} (h:Apt bs):∀ (n m:Nat) (p q:Value × S47),n≠m→bs[n]?=some p→bs[m]?=some q→∀ g,p.1.ownBlock=some g→q.1.ownBlock≠some g:=by
 unfold Apt at h
 rw [List.pairwise_map,List.pairwise_iff_getElem] at h
 intro n m p q hnm hp hq g hg hg2
 obtain ⟨h1,rfl⟩:=List.getElem?_eq_some_iff.1 hp
 obtain ⟨h2,rfl⟩:=List.getElem?_eq_some_iff.1 hq
 rcases Nat.lt_or_gt_of_ne hnm with h3 | h3
 · exact h n m h1 h2 h3 g hg hg2
 exact h m n h2 h1 h3 g hg2 hg
structure DR (w X:World) (gc gn L:Nat) (c:List Bool) (nm:List Int):Prop where
 low:Below w.heap.size w X
 cm:X.heap[gc]?=some (.cells (boC c) 4 (0,0))
 nb:X.heap[gn]?=some (.cells (inC nm) 3 (0,0))
 cl:c.length=L
 nl:nm.length=L
 lc:w.heap.size≤gc
 ln:w.heap.size≤gn
section
variable {w X Y:World} {gc gn gt L n:Nat} {c C:List Bool} {nm:List Int} {q q':Value × S47} {G:List S47} {b:S47}
theorem DR.ne (h:DR w X gc gn L c nm):gc≠gn:=bF h.cm h.nb (by decide)
theorem DR.below (h:DR w X gc gn L c nm) (hb:Below X.heap.size X Y):DR w Y gc gn L c nm:=⟨au h.low hb,ak h.cm hb,ak h.nb hb,h.cl,h.nl,h.lc,h.ln⟩
theorem DR.setc (h:DR w X gc gn L c nm) (j:Nat) (x:Bool):DR w (X.setCell ⟨gc,j,none⟩ (.bool x)) gc gn L (c.set j x) nm:=
 ⟨h.low.setCell h.lc _,aI h.cm j _ (uD j x),(Deep.blk_setCell_other _ _ _ _ h.ne.symm).trans h.nb,by rw [List.length_set];exact h.cl,h.nl,h.lc,h.ln⟩
theorem DR.rX (h:DR w X gc gn L c nm) (j:Nat) (x:Int):DR w (X.setCell ⟨gn,j,none⟩ (.int .i64 x)) gc gn L c (nm.set j x):=
 ⟨h.low.setCell h.ln _,(Deep.blk_setCell_other _ _ _ _ h.ne).trans h.cm,aI h.nb j _ (qA j x),h.cl,by rw [List.length_set];exact h.nl,h.lc,h.ln⟩
structure DT (w X:World) (gc gn L:Nat) (c:List Bool) (nm:List Int) (gt:Nat) (q:Value × S47):Prop where
 dr:DR w X gc gn L c nm
 bt:X.heap[gt]?=some (.cells (b8 q).toArray 47 (0,0))
 lt:w.heap.size≤gt
theorem DT.setc (h:DT w X gc gn L c nm gt q) (j:Nat) (x:Bool):DT w (X.setCell ⟨gc,j,none⟩ (.bool x)) gc gn L (c.set j x) nm gt q:=
 ⟨h.dr.setc j x,(Deep.blk_setCell_other _ _ _ _ (bF h.bt h.dr.cm (by decide))).trans h.bt,h.lt⟩
theorem DT.rX (h:DT w X gc gn L c nm gt q) (j:Nat) (x:Int):DT w (X.setCell ⟨gn,j,none⟩ (.int .i64 x)) gc gn L c (nm.set j x) gt q:=
 ⟨h.dr.rX j x,(Deep.blk_setCell_other _ _ _ _ (bF h.bt h.dr.nb (by decide))).trans h.bt,h.lt⟩
theorem DT.sett (h:DT w X gc gn L c nm gt q) {j:Nat} {u:Value} (e:(b8 q).set j u=b8 q'):DT w (X.setCell ⟨gt,j,none⟩ u) gc gn L c nm gt q':=
 ⟨⟨h.dr.low.setCell h.lt _,(Deep.blk_setCell_other _ _ _ _ (bF h.dr.cm h.bt (by decide))).trans h.dr.cm,(Deep.blk_setCell_other _ _ _ _ (bF h.dr.nb h.bt (by decide))).trans h.dr.nb,h.dr.cl,h.dr.nl,h.dr.lc,h.dr.ln⟩,
  aI h.bt j u (by rw [List.setIfInBounds_toArray,e]),h.lt⟩
structure DI (w X:World) (gc gn L:Nat) (C:List Bool) (G:List S47) (n:Nat) (c:List Bool) (nm:List Int):Prop where
 dr:DR w X gc gn L c nm
 cf:cmF (G.drop n) n c=C
 nf:∀ j,j<n→C.getD j false=true→nm.getD j 0=(bM C j:Nat)
theorem DI.at_ (h:DI w X gc gn L C G n c nm) (hG:GOk G):c.getD n false=C.getD n false:=by
 have e:=cm_o G.length (G.drop n) n c (fun j b hb=>by rw [List.getElem?_drop] at hb;exact hG.all (n+j) b hb) n (Nat.le_refl n)
 rw [h.cf] at e
 exact e.symm
theorem DI.skip (h:DI w X gc gn L C G n c nm) (hG:GOk G) (hd:G.drop n=b :: G.drop (n+1)) (hc:C.getD n false=false) (hY:DR w Y gc gn L c nm):DI w Y gc gn L C G (n+1) c nm:=by
 have e:=h.at_ hG
 rw [hc] at e
 refine ⟨hY,?_,fun j hj hcj=>?_⟩
 · have h2:=h.cf
   rw [hd,cmF,if_neg (by rw [e];decide)] at h2
   exact h2
 by_cases ej:j=n
 · subst ej;rw [hc] at hcj;cases hcj
 exact h.nf j (by omega) hcj
theorem DI.go (h:DI w X gc gn L C G n c nm) (hG:GOk G) (hd:G.drop n=b :: G.drop (n+1)) (hn:n<L) (hc:C.getD n false=true) (hY:DR w Y gc gn L (mkC b c) (nm.set n (bM C n:Nat))):DI w Y gc gn L C G (n+1) (mkC b c) (nm.set n (bM C n:Nat)):=by
 have e:=h.at_ hG
 rw [hc] at e
 refine ⟨hY,?_,fun j hj hcj=>?_⟩
 · have h2:=h.cf
   rw [hd,cmF,if_pos e] at h2
   exact h2
 rw [dm (by rw [h.dr.nl];exact hn)]
 by_cases ej:n=j
 · subst ej;rw [if_pos rfl]
 rw [if_neg ej];exact h.nf j (by omega) hcj
theorem DI.done (h:DI w X gc gn L C G L c nm) (hL:G.length=L):c=C:=by
 have:=h.cf
 rw [List.drop_eq_nil_of_le (by omega)] at this
 exact this
structure DO (w X:World) (gc gn L:Nat) (C:List Bool) (nm:List Int) (bs:List (Value × S47)) (n:Nat) (v:Value):Prop where
 dr:DR w X gc gn L C nm
 out:(Kd.raw 8).R 47 X w.heap.size (fun _=>True) v ((dpV C (bs.take n) 0).map b8)
theorem lJ {bs:List (Value × S47)} (h:bs[n]?=some q):dpV C (bs.take (n+1)) 0=dpV C (bs.take n) 0++(if C.getD n false=true then [(q.1,fG C q.2)] else []):=by
 have hn:=lT h
 rw [List.take_succ_eq_append_getElem hn,dpV_app]
 congr 1
 rw [List.length_take,Nat.min_eq_left (by omega),Nat.zero_add]
 have e:bs[n]=q:=by rw [List.getElem?_eq_getElem hn] at h;exact Option.some.inj h
 rw [e,dpV]
 rfl
theorem DO.skip {bs:List (Value × S47)} {v:Value} (h:DO w X gc gn L C nm bs n v) (hq:bs[n]?=some q) (hc:C.getD n false=false) (hb:Below X.heap.size X Y):DO w Y gc gn L C nm bs (n+1) v:=by
 refine ⟨h.dr.below hb,?_⟩
 rw [lJ hq,if_neg (by rw [hc];decide),List.append_nil]
 exact Kd.gT h.out hb
theorem DR.grown {v:Value} {bs:List (Value × S47)} (h:DR w X gc gn L C nm) (hr:(Kd.raw 8).R 47 X w.heap.size (fun _=>True) v (bs.map b8)) (hb:Below w.heap.size w Y) (hg:X.grownBy Y v.ownBlock):DR w Y gc gn L C nm:=
 ⟨hb,(hg.block _ (ay h.cm) (Kd.wN hr h.cm (by decide))).trans h.cm,(hg.block _ (ay h.nb) (Kd.wN hr h.nb (by decide))).trans h.nb,h.cl,h.nl,h.lc,h.ln⟩
theorem dpV_le:∀ (bs:List (Value × S47)) (n:Nat),(dpV C bs n).length≤bs.length:=by
 intro bs n
 have:=(nC C bs n).length_le
 rw [List.length_map,List.length_map] at this
 exact this
theorem drop_wk {B:Bs} {gw gb cap:Nat} {bs:List (Value × S47)} {tl:List Value} {v:Value} (hW:Wk w B gw gb cap bs tl) (hb:Below w.heap.size w X) (h:(Kd.raw 8).R 47 X w.heap.size (fun _=>True) v ((dpV C bs 0).map b8)) (hne:dpV C bs 0≠[]) :
 ∃ gb' cap' tl',Wk (X.setCell ⟨gw,0,none⟩ v) B gw gb' cap' (dpV C bs 0) tl'∧Below B.n w (X.setCell ⟨gw,0,none⟩ v):=by
 obtain ⟨gb',cap',tl',e,hge,hr,hs,hle,hmx⟩:=oH h hne
 have hgw:=ay hW.me
 have hlo:=hW.lo
 have hne2:gb'≠gw:=by omega
 have hk:=(Kp.refl (fun x=>x=gw) X).set (g:=gw) (.inl rfl) 0 v
 refine ⟨gb',cap',tl',⟨?_,⟨(Deep.blk_setCell_other _ _ _ _ hne2).trans hr,hs,hle,hmx,fun n p hp=>?_,?_,by omega,fun p hp g hg=>?_⟩,hlo,(Deep.blk_setCell_other _ _ _ _ (bF hW.ps hW.me (by decide))).trans (ak hW.ps hb)⟩,?_⟩
 · refine aI (ak hW.me hb) 0 _ ?_
   rw [e];rfl
 · have hm:(p.1,p.2.f0)∈(dpV C bs 0).map (fun p=>(p.1,p.2.f0)):=List.mem_map_of_mem (List.mem_of_getElem? hp)
   obtain ⟨q,hq,eq⟩:=List.mem_map.1 ((nC C bs 0).subset hm)
   simp only [Prod.mk.injEq] at eq
   obtain ⟨j,hj,rfl⟩:=List.getElem_of_mem hq
   have hcd:=hW.row.code j _ (List.getElem?_eq_getElem hj)
   rw [eq.1,eq.2] at hcd
   refine (hcd.below hb).kp hk (fun g hg e2=>?_)
   subst e2
   obtain ⟨cs,h1⟩:=hcd.lt hg
   exact bF hW.me h1 (by decide) rfl
 · have ha:Apt (dpV C bs 0):=by
    have h0:Apt bs:=apt_of hW.row
    unfold Apt at h0 ⊢
    exact List.Pairwise.sublist (nC C bs 0) h0
   exact uy ha
 · have hm:(p.1,p.2.f0)∈(dpV C bs 0).map (fun p=>(p.1,p.2.f0)):=List.mem_map_of_mem hp
   obtain ⟨q,hq,eq⟩:=List.mem_map.1 ((nC C bs 0).subset hm)
   simp only [Prod.mk.injEq] at eq
   exact hW.row.lo.2 q hq g (by rw [eq.1];exact hg)
 exact (show Below B.n w X from ⟨hb.os,hb.tape,hb.output,hb.size,fun i hi=>hb.block i (by omega)⟩).setCell hlo _
end
theorem sI (w:World) (B:Bs) (gw gb cap:Nat) (bs:List (Value × S47)) (tl:List Value) (hW:Wk w B gw gb cap bs tl) (hG:GOk (bs.map (·.2))) :
 Calls Try.prog 87 #[.pointer (some ⟨gw,0,none⟩)] w fun e w'=>e = .returned (.bool (gY (bs.map (·.2))).2)∧(∃ gb' cap' bs' tl',bs'.map (·.2)=(gY (bs.map (·.2))).1∧Wk w' B gw gb' cap' bs' tl')∧Below B.n w w':=by
 obtain ⟨L,eL⟩:∃ L,L=bs.length:=⟨_,rfl⟩
 have hL:L≤4096:=by have:=hG.few;rw [List.length_map] at this;omega
 have hL0:0<L:=by have:=hG.some_;rw [List.length_map] at this;omega
 have hui:=Try.underlying22
 have c0:w.cell? ⟨gw,0,none⟩=some (.slice (some ⟨gb,0,none⟩) L cap):=by rw [eL];exact (ae hW.me 0).trans rfl
 have hmk:=ou L hL
 have hmi:=pO L hL
 obtain ⟨G,eG⟩:∃ G,G=bs.map (·.2):=⟨_,rfl⟩
 rw [←eG] at hG ⊢
 have HGL:aa (G.length=L):=⟨by rw [eG,List.length_map,eL]⟩
 have HGB:aa (∀ (i:Nat) (v:Value) (b:S47),bs[i]?=some (v,b)→G[i]?=some b):=⟨fun i v b h=>by rw [eG,List.getElem?_map,h];rfl⟩
 obtain ⟨fi,efi⟩:∃ fi,fi=onG G 0:=⟨_,rfl⟩
 obtain ⟨C,eC⟩:∃ C,C=gX G fi:=⟨_,rfl⟩
 have hfi:fi<L:=by rw [efi];have:=(mM hG G.length 0 hG.some_).2;rw [←HGL.out];exact this
 have HON:=aa.mk (ow w B gw gb cap bs tl hW G hG (by rw [HGL.out,eL]) 0 0 (fun i v b _ h=>HGB.out i v b h) (by rw [HGL.out];omega))
 rw [←efi] at HON
 have HW:=aa.mk hW
 have HG:=aa.mk hG
 have EL:=aa.mk eL
 have EG:=aa.mk eG
 have EC:=aa.mk eC
 have EFI:=aa.mk efi
 have HC0:aa (C.length=L∧C.getD fi false=true):=⟨⟨by rw [eC];unfold gX;rw [cm_len,List.length_set,List.length_replicate,HGL.out],by rw [eC];exact cm_t _ _ _ _ (by rw [dm (by rw [List.length_replicate,HGL.out];exact hfi),if_pos rfl])⟩⟩
 clear hW hG eL eG eC efi
 go_enter Try.func87,Try.ntmps87
 go_upto_region 2 with (go_at_call 136;refine HON.out.mono ?_;rintro e w2 ⟨rfl,hw⟩;have hw':=hw.symm;clear hw;subst hw')
 clear HON
 go_upto_region 3 with (fail)
 refine forget (fun X=>∃ gc,gc=w.heap.size∧Below w.heap.size w X∧X.heap[gc]?=some (.cells (boC (List.replicate L false)) 4 (0,0))) ⟨_,rfl,ai (Below.refl _ _) _,heap_alloc_new _ _⟩ ?_
 rintro X ⟨gc,egc,hbX,hX⟩
 rw [←egc]
 have EGC:=aa.mk egc
 replace c0:X.cell? ⟨gw,0,none⟩=some (.slice (some ⟨gb,0,none⟩) L cap):=ax hbX c0
 have HX:=aa.mk (And.intro hbX hX)
 have k0:X.cell? ⟨gc,fi,none⟩=some (.bool ((List.replicate L false).getD fi false)):=(ae hX fi).trans (lD (by rw [List.length_replicate];exact hfi))
 have kz:X.frozen? ⟨gc,fi,none⟩=false:=ah hX fi
 have i0:(0:Int)≤(fi:Int):=by omega
 have i1:(fi:Int)<(L:Int):=by omega
 clear egc hbX hX hmk
 go_upto_region 4 with (fail)
 refine forget (fun Y=>Below w.heap.size w Y∧Y.heap[gc]?=some (.cells (boC ((List.replicate L false).set fi true)) 4 (0,0))) ⟨HX.out.1.setCell (by have:=EGC.out;show _≤gc;omega) _,aI HX.out.2 fi _ (uD fi true)⟩ ?_
 clear c0 k0 kz HX
 rintro Y ⟨hbY,hY⟩
 have c0:Y.cell? ⟨gw,0,none⟩=some (.slice (some ⟨gb,0,none⟩) L cap):=ax hbY (by rw [EL.out];exact (ae HW.out.me 0).trans rfl)
 have HY:=aa.mk (And.intro hbY hY)
 clear hbY hY
 go_upto_region 5 with (fail)
 refine forget (fun Z=>∃ gn,gn=Y.heap.size∧DI w Z gc gn L C G 0 ((List.replicate L false).set fi true) (List.replicate L 0)) ⟨_,rfl,⟨HY.out.1.alloc HY.out.1.size _,by rw [Deep.blk_alloc_lt _ _ _ (ay HY.out.2)];exact HY.out.2,heap_alloc_new _ _,by rw [List.length_set,List.length_replicate],List.length_replicate,by have:=EGC.out;omega,HY.out.1.size⟩,by rw [List.drop_zero,EC.out];unfold gX;rw [HGL.out],fun j hj=>by omega⟩ ?_
 clear c0 HY
 rintro Z ⟨gn,egn,hdi⟩
 rw [←egn]
 have HDI:=aa.mk hdi
 have c0:Z.cell? ⟨gw,0,none⟩=some (.slice (some ⟨gb,0,none⟩) L cap):=ax hdi.dr.low (by rw [EL.out];exact (ae HW.out.me 0).trans rfl)
 clear egn hdi hmi
 go_wp2
 go_loopw [6,34] (fun v6 v34 wr=>∃ (n:Nat) (c:List Bool) (nm:List Int),n≤L∧v34 = .int .i64 n∧v6 = .int .i64 (bM C n:Nat)∧aa (DI w wr gc gn L C G n c nm)) (fun _ v34 _=>L - (intOf v34).toNat)
 case atStart=>exact ⟨0,_,_,Nat.zero_le _,rfl,rfl,HDI⟩
 case round=>
  clear HDI c0
  obtain ⟨n,c,nm,hn,rfl,rfl,HDI⟩:=hrel
  have hnum:bM C n≤n:=by have:=(ic (c:=C) (Nat.zero_le n)).2;have e:bM C 0=0:=rfl;omega
  by_cases hlt:n<L
  · obtain ⟨v,b,hb⟩:∃ v b,bs[n]?=some (v,b):=⟨(bs[n]'(by rw [←EL.out];exact hlt)).1,(bs[n]'(by rw [←EL.out];exact hlt)).2,List.getElem?_eq_getElem (by rw [←EL.out];exact hlt)⟩
    have hGn:=HGB.out n v b hb
    have hGd:G.drop n=b :: G.drop (n+1):=by
     obtain ⟨h4,h5⟩:=List.getElem?_eq_some_iff.1 hGn
     rw [List.drop_eq_getElem_cons h4,h5]
    have hWr:=HW.out.below HDI.out.dr.low
    have hcd:Cd wr v b.f0:=hWr.row.code n _ hb
    obtain ⟨Av,cv,rfl⟩:=hcd.slice
    have i2:(0:Int)≤(n:Int):=by omega
    have i3:(n:Int)<(L:Int):=by omega
    have c0:wr.cell? ⟨gw,0,none⟩=some (.slice (some ⟨gb,0,none⟩) L cap):=by rw [EL.out];exact (ae hWr.me 0).trans rfl
    have g:=fun (jj:Nat) (hh:jj<8)=>(ae hWr.row.row (n*8+jj)).trans (bO hb hh)
    have b0:wr.cell? ⟨gb,n*8,none⟩=some (.slice Av b.f0.length cv):=g 0 (by omega)
    have b1:wr.cell? ⟨gb,n*8+1,none⟩=some (.int .i64 b.f1):=g 1 (by omega)
    have b2:wr.cell? ⟨gb,n*8+2,none⟩=some (.int .u16 b.f2.f0):=g 2 (by omega)
    have b3:wr.cell? ⟨gb,n*8+3,none⟩=some (.int .u8 b.f2.f1):=g 3 (by omega)
    have b4:wr.cell? ⟨gb,n*8+4,none⟩=some (.int .u8 b.f2.f2):=g 4 (by omega)
    have b5:wr.cell? ⟨gb,n*8+5,none⟩=some (.int .u32 b.f2.f3):=g 5 (by omega)
    have b6:wr.cell? ⟨gb,n*8+6,none⟩=some (.int .i64 b.f3):=g 6 (by omega)
    have b7:wr.cell? ⟨gb,n*8+7,none⟩=some (.int .i64 b.f4):=g 7 (by omega)
    have HB0:=aa.mk (And.intro hb (And.intro hGn hGd))
    have HBK:=aa.mk (HG.out.all n b hGn)
    clear g hb hGn hGd hWr hcd
    go_upto_region 9 with (fail)
    refine forget (fun X=>∃ gt,gt=wr.heap.size∧DT w X gc gn L c nm gt (.slice Av b.f0.length cv,b)) ⟨_,rfl,HDI.out.dr.below (ai (Below.refl _ _) _),heap_alloc_new _ _,HDI.out.dr.low.size⟩ ?_
    clear c0 b0 b1 b2 b3 b4 b5 b6 b7
    rintro X ⟨gt,egt,hdt⟩
    rw [←egt]
    have EGT:=aa.mk egt
    have HDT:=aa.mk hdt
    have k0:X.cell? ⟨gc,n,none⟩=some (.bool (c.getD n false)):=(ae hdt.dr.cm n).trans (lD (by rw [hdt.dr.cl];exact hlt))
    rw [HDI.out.at_ HG.out] at k0
    clear egt hdt
    cases hcn:C.getD n false with
    | false=>
     rw [hcn] at k0
     have HE:=aa.mk (HDI.out.skip HG.out HB0.out.2.2 hcn HDT.out.dr)
     have HNN:aa (bM C n=bM C (n+1)):=⟨(mi (by rw [hcn];decide)).symm⟩
     clear hcn HDI HDT
     go_wp2
     go_roundw
     case rel=>exact ⟨n+1,_,_,by omega,by go_num,by rw [HNN.out],HE⟩
     case measure=>simp [intOf];omega
    | true=>
     rw [hcn] at k0
     have HGO:=aa.mk (fun (Y:World)=>HDI.out.go (Y:=Y) HG.out HB0.out.2.2 hlt hcn)
     have HNN:aa (bM C n+1=bM C (n+1)):=⟨(lS hcn).symm⟩
     have nz:X.frozen? ⟨gn,n,none⟩=false:=ah HDT.out.dr.nb n
     have n0:X.cell? ⟨gn,n,none⟩=some (.int .i64 (nm.getD n 0)):=(ae HDT.out.dr.nb n).trans (jY (by rw [HDT.out.dr.nl];exact hlt))
     clear hcn
     go_upto_region 11 with (fail)
     refine forget (fun Y=>DT w Y gc gn L c (nm.set n (bM C n:Nat)) gt (.slice Av b.f0.length cv,b)) (HDT.out.rX n _) ?_
     clear k0 nz n0 HDI HDT
     intro Y hdt
     have HDT:=aa.mk hdt
     have b1:Y.cell? ⟨gt,1,none⟩=some (.int .i64 b.f1):=(ae hdt.bt 1).trans rfl
     have b6:Y.cell? ⟨gt,6,none⟩=some (.int .i64 b.f3):=(ae hdt.bt 6).trans rfl
     have hec:=eB HBK.out.ends
     have gy:=bE HBK.out.goal
     have gnn:=dw HBK.out.goal
     rw [HGL.out] at gy gnn
     have hcase:b.f1=1∨b.f1=2∨b.f1=3:=by rcases hec with h | h | h;exact .inl h.1;exact .inr (.inl h.1);exact .inr (.inr h.1)
     clear hdt hec
     rcases hcase with h1 | h1
     · have hmc:mkC b c=c:=by unfold mkC;rw [if_pos h1]
       have HE:=aa.mk (HGO.out Y (by rw [hmc];exact HDT.out.dr))
       rw [h1] at b1
       clear h1 gy gnn HGO HDT b6 hmc
       go_wp2
       go_roundw
       case rel=>exact ⟨n+1,_,_,by omega,by go_num,by rw [←HNN.out];go_num,HE⟩
       case measure=>simp [intOf];omega
     have hne1:b.f1≠1:=by omega
     have gy2:=gy hne1
     obtain ⟨y,hy⟩:∃ y:Nat,b.f3=(y:Int):=⟨b.f3.toNat,by omega⟩
     have hyT:b.f3.toNat=y:=by rw [hy];rfl
     rw [hy] at b6
     have h1':(b.f1==1)=false:=aX hne1
     have i4:(0:Int)≤(y:Int):=by omega
     have i5:(y:Int)<(L:Int):=by omega
     have hyL:y<L:=by omega
     have kz:Y.frozen? ⟨gc,y,none⟩=false:=ah HDT.out.dr.cm y
     have k0:Y.cell? ⟨gc,y,none⟩=some (.bool (c.getD y false)):=(ae HDT.out.dr.cm y).trans (lD (by rw [HDT.out.dr.cl];exact hyL))
     have HYT:=aa.mk hyT
     clear hy gy gy2 hne1 hyT
     go_upto_region 14 with (fail)
     refine forget (fun Z=>DT w Z gc gn L (c.set y true) (nm.set n (bM C n:Nat)) gt (.slice Av b.f0.length cv,b)) (HDT.out.setc y true) ?_
     clear b1 b6 kz k0 HDT
     intro Z hdt
     have HDT:=aa.mk hdt
     have b1:Z.cell? ⟨gt,1,none⟩=some (.int .i64 b.f1):=(ae hdt.bt 1).trans rfl
     have b7:Z.cell? ⟨gt,7,none⟩=some (.int .i64 b.f4):=(ae hdt.bt 7).trans rfl
     clear hdt
     rcases h1 with h1 | h1
     · have hmc:mkC b c=c.set y true:=by unfold mkC;rw [if_neg (by rw [h1];decide),if_neg (by rw [h1];decide),HYT.out]
       have HE:=aa.mk (HGO.out Z (by rw [hmc];exact HDT.out.dr))
       rw [h1] at b1
       clear h1 gnn HGO HDT b7 hmc h1'
       go_wp2
       go_roundw
       case rel=>exact ⟨n+1,_,_,by omega,by go_num,by rw [←HNN.out];go_num,HE⟩
       case measure=>simp [intOf];omega
     have gn2:=gnn h1
     obtain ⟨m,hm⟩:∃ m:Nat,b.f4=(m:Int):=⟨b.f4.toNat,by omega⟩
     have hmT:b.f4.toNat=m:=by rw [hm];rfl
     rw [hm] at b7
     have i6:(0:Int)≤(m:Int):=by omega
     have i7:(m:Int)<(L:Int):=by omega
     have hmL:m<L:=by omega
     have kz:Z.frozen? ⟨gc,m,none⟩=false:=ah HDT.out.dr.cm m
     have k0:Z.cell? ⟨gc,m,none⟩=some (.bool ((c.set y true).getD m false)):=(ae HDT.out.dr.cm m).trans (lD (by rw [HDT.out.dr.cl];exact hmL))
     have hmc:mkC b c=(c.set y true).set m true:=by unfold mkC;rw [if_neg (by rw [h1];decide),if_pos h1,HYT.out,hmT]
     have HE:=aa.mk (HGO.out _ (by rw [hmc];exact (HDT.out.setc m true).dr))
     rw [h1] at b1
     clear h1 gnn gn2 HGO HDT hmc h1' hm hmT
     go_wp2
     go_roundw
     case rel=>exact ⟨n+1,_,_,by omega,by go_num,by rw [←HNN.out];go_num,HE⟩
     case measure=>simp [intOf];omega
  have hnl:n=L:=by omega
  subst hnl
  have hcC:=HDI.out.done HGL.out
  subst hcC
  have hWr:=HW.out.below HDI.out.dr.low
  have c0:wr.cell? ⟨gw,0,none⟩=some (.slice (some ⟨gb,0,none⟩) n cap):=by rw [EL.out];exact (ae hWr.me 0).trans rfl
  have HWr:=aa.mk hWr
  clear hWr
  by_cases hq:bM c n=n
  · have hd:gY G=(G,false):=by
     unfold gY
     rw [←EFI.out,←EC.out,HGL.out,if_pos hq]
    have HD:=aa.mk hd
    clear hd
    rw [hq]
    go_wp2
    go_ret
    rw [HD.out]
    exact ⟨rfl,⟨gb,cap,bs,tl,EG.out.symm,HWr.out⟩,⟨HDI.out.dr.low.os,HDI.out.dr.low.tape,HDI.out.dr.low.output,HDI.out.dr.low.size,fun i hi=>HDI.out.dr.low.block i (by have:=ay HW.out.me;have:=HW.out.lo;omega)⟩⟩
  have hd:gY G=(dpL c G 0,true):=by
   unfold gY
   rw [←EFI.out,←EC.out,HGL.out,if_neg hq]
  have HD:=aa.mk hd
  have hne:dpV c bs 0≠[]:=by
   intro e
   have e2:=uH c bs 0
   rw [e,←EG.out] at e2
   have e3:=xN c G 0
   rw [←e2,HGL.out,Nat.zero_add] at e3
   have e4:=kJ hfi HC0.out.2
   have e5:bM c 0=0:=rfl
   have e6:(List.map (fun x:Value × S47=>x.2) []).length=0:=rfl
   omega
  have HNE:=aa.mk hne
  have hCl:∀ (j:Nat) (b:S47),G[j]?=some b→c.getD j false=true→(b.f1≠1→c.getD b.f3.toNat false=true)∧(b.f1=3→c.getD b.f4.toNat false=true):=by
   intro j b hj hc
   have h:=cm_cl G.length G 0 ((List.replicate G.length false).set fi true) (fun j b h=>by rw [Nat.zero_add];exact HG.out.all j b h) (by rw [List.length_set,List.length_replicate]) j b hj
   have e:=EC.out
   unfold gX at e
   rw [Nat.zero_add,←e] at h
   exact h hc
  have HCL:=aa.mk hCl
  have hq':((bM c n:Int)==(n:Int))=false:=aX (by omega)
  have HO:aa (DO w wr gc gn n c nm bs 0 (.slice none 0 0)):=⟨⟨HDI.out.dr,Kd.kX _ _ _ _ _⟩⟩
  have HNM:=aa.mk HDI.out.nf
  clear hd hne hCl HDI HWr hq hnum
  obtain ⟨wo,rfl⟩:∃ wo:World,wo=wr:=⟨_,rfl⟩
  go_wp2
  go_loopw [9,77] (fun v9 v77 wr=>∃ (k:Nat),k≤n∧v77 = .int .i64 k∧aa (DO w wr gc gn n c nm bs k v9)) (fun _ v77 _=>n - (intOf v77).toNat)
  case atStart=>exact ⟨0,Nat.zero_le _,rfl,HO⟩
  case round=>
   clear HO c0
   obtain ⟨k,hk,rfl,HO⟩:=hrel
   by_cases hlt2:k<n
   · obtain ⟨v,b,hb⟩:∃ v b,bs[k]?=some (v,b):=⟨(bs[k]'(by rw [←EL.out];exact hlt2)).1,(bs[k]'(by rw [←EL.out];exact hlt2)).2,List.getElem?_eq_getElem (by rw [←EL.out];exact hlt2)⟩
     have hGn:=HGB.out k v b hb
     have hWr:=HW.out.below HO.out.dr.low
     have hcd:Cd wr v b.f0:=hWr.row.code k _ hb
     obtain ⟨Av,cv,rfl⟩:=hcd.slice
     have i2:(0:Int)≤(k:Int):=by omega
     have i3:(k:Int)<(n:Int):=by omega
     have c0:wr.cell? ⟨gw,0,none⟩=some (.slice (some ⟨gb,0,none⟩) n cap):=by rw [EL.out];exact (ae hWr.me 0).trans rfl
     have g:=fun (jj:Nat) (hh:jj<8)=>(ae hWr.row.row (k*8+jj)).trans (bO hb hh)
     have b0:wr.cell? ⟨gb,k*8,none⟩=some (.slice Av b.f0.length cv):=g 0 (by omega)
     have b1:wr.cell? ⟨gb,k*8+1,none⟩=some (.int .i64 b.f1):=g 1 (by omega)
     have b2:wr.cell? ⟨gb,k*8+2,none⟩=some (.int .u16 b.f2.f0):=g 2 (by omega)
     have b3:wr.cell? ⟨gb,k*8+3,none⟩=some (.int .u8 b.f2.f1):=g 3 (by omega)
     have b4:wr.cell? ⟨gb,k*8+4,none⟩=some (.int .u8 b.f2.f2):=g 4 (by omega)
     have b5:wr.cell? ⟨gb,k*8+5,none⟩=some (.int .u32 b.f2.f3):=g 5 (by omega)
     have b6:wr.cell? ⟨gb,k*8+6,none⟩=some (.int .i64 b.f3):=g 6 (by omega)
     have b7:wr.cell? ⟨gb,k*8+7,none⟩=some (.int .i64 b.f4):=g 7 (by omega)
     have HB0:=aa.mk (And.intro hb hGn)
     have HBK:=aa.mk (HG.out.all k b hGn)
     have HLN:aa (((dpV c (bs.take k) 0).map b8).length≤4096):=⟨by
      have h1:=dpV_le (C:=c) (bs.take k) 0
      rw [List.length_take] at h1
      rw [List.length_map]
      omega⟩
     have k0:wr.cell? ⟨gc,k,none⟩=some (.bool (c.getD k false)):=(ae HO.out.dr.cm k).trans (lD (by rw [HO.out.dr.cl];exact hlt2))
     clear g hb hGn hWr hcd
     go_upto_region 23 with (fail)
     refine forget (fun X=>∃ gt,gt=wr.heap.size∧DT w X gc gn n c nm gt (.slice Av b.f0.length cv,b)∧Below wr.heap.size wr X) ⟨_,rfl,⟨HO.out.dr.below (ai (Below.refl _ _) _),heap_alloc_new _ _,HO.out.dr.low.size⟩,ai (Below.refl _ _) _⟩ ?_
     rintro X ⟨gt,egt,hdt,hbx⟩
     rw [←egt]
     replace k0:=ax hbx k0
     clear c0 b0 b1 b2 b3 b4 b5 b6 b7
     have EGT:=aa.mk egt
     have HDT:=aa.mk hdt
     have HBX:=aa.mk hbx
     cases hcn:c.getD k false with
     | false=>
      rw [hcn] at k0
      have HE:=aa.mk (HO.out.skip HB0.out.1 hcn hbx)
      clear egt hdt hbx hcn HDT HBX HO
      go_wp2
      go_roundw
      case rel=>exact ⟨k+1,by omega,by go_num,HE⟩
      case measure=>simp [intOf];omega
     | true=>
      rw [hcn] at k0
      have HCN:=aa.mk hcn
      obtain ⟨d,ed⟩:∃ d,d=fG c b:=⟨_,rfl⟩
      have ED:=aa.mk ed
      have hcl:=HCL.out k b HB0.out.2 hcn
      have hec:=eB HBK.out.ends
      have gy:=bE HBK.out.goal
      have gnn:=dw HBK.out.goal
      rw [HGL.out] at gy gnn
      have b1:X.cell? ⟨gt,1,none⟩=some (.int .i64 b.f1):=(ae hdt.bt 1).trans rfl
      have b6:X.cell? ⟨gt,6,none⟩=some (.int .i64 b.f3):=(ae hdt.bt 6).trans rfl
      have b7:X.cell? ⟨gt,7,none⟩=some (.int .i64 b.f4):=(ae hdt.bt 7).trans rfl
      have z6:X.frozen? ⟨gt,6,none⟩=false:=ah hdt.bt 6
      have hcase:b.f1=1∨b.f1=2∨b.f1=3:=by rcases hec with h | h | h;exact .inl h.1;exact .inr (.inl h.1);exact .inr (.inr h.1)
      clear egt hdt hbx hcn hec ed
      rcases hcase with h1 | h1
      · have ed1:d=b:=ED.out.trans (db1 h1)
        have HED1:=aa.mk (And.intro ed1 h1)
        rw [h1] at b1
        clear gy gnn hcl b6 b7 z6 h1 ed1
        go_upto_region 28 with (fail)
        have HTL:aa (DT w X gc gn n c nm gt (.slice Av b.f0.length cv,d)∧Below wr.heap.size wr X):=⟨by rw [HED1.out.1];exact HDT.out,HBX.out⟩
        clear HDT HBX b1 k0
        refine forget (fun Y=>DT w Y gc gn n c nm gt (.slice Av b.f0.length cv,d)∧Below wr.heap.size wr Y) HTL.out ?_
        clear HTL
        rintro Y ⟨hdt,hby⟩
        have y0:Y.cell? ⟨gt,0,none⟩=some (.slice Av b.f0.length cv):=(ae hdt.bt 0).trans rfl
        have y1:Y.cell? ⟨gt,1,none⟩=some (.int .i64 d.f1):=(ae hdt.bt 1).trans rfl
        have y2:Y.cell? ⟨gt,2,none⟩=some (.int .u16 d.f2.f0):=(ae hdt.bt 2).trans rfl
        have y3:Y.cell? ⟨gt,3,none⟩=some (.int .u8 d.f2.f1):=(ae hdt.bt 3).trans rfl
        have y4:Y.cell? ⟨gt,4,none⟩=some (.int .u8 d.f2.f2):=(ae hdt.bt 4).trans rfl
        have y5:Y.cell? ⟨gt,5,none⟩=some (.int .u32 d.f2.f3):=(ae hdt.bt 5).trans rfl
        have y6:Y.cell? ⟨gt,6,none⟩=some (.int .i64 d.f3):=(ae hdt.bt 6).trans rfl
        have y7:Y.cell? ⟨gt,7,none⟩=some (.int .i64 d.f4):=(ae hdt.bt 7).trans rfl
        have HDY:=aa.mk (And.intro hdt hby)
        clear hdt hby
        go_wp2_with (at_builtin;go_loud ((refine Kd.jL (Kd.raw 8) (w0:=w) (W:=Y) w.heap.size rfl (.tmp 105) (.tmp 107) 22 47 (.agg #[.slice none 0 0,.int .i64 0,.int .u16 0,.int .u8 0,.int .u8 0,.int .u32 0,.int .i64 0,.int .i64 0]) 56 rfl hui oo rfl (by decide) (by decide) _ _ (b8 (.slice Av b.f0.length cv,d)) (b8 (.slice Av b.f0.length cv,d)) (fun _=>True) (fun _=>False) rfl rfl ⟨rfl,rfl,qd rfl⟩ (fun _ h=>h.elim) (fun _ _=>trivial) (Kd.gT HO.out.out HDY.out.2) HDY.out.1.dr.low HDY.out.1.dr.low.size (by have:=HLN.out;omega) ?_);intro v1 w5 ho hb hg hat;have HN:aa (DO w w5 gc gn n c nm bs (k+1) v1):=⟨⟨HDY.out.1.dr.grown (Kd.gT HO.out.out HDY.out.2) hb hg,by rw [lJ HB0.out.1,if_pos HCN.out,List.map_append];have h:=ho;rw [ED.out] at h;exact h⟩⟩;clear ho hb hg hat))
        go_roundw
        case rel=>exact ⟨k+1,by omega,by go_num,HN⟩
        case measure=>simp [intOf];omega
      have hne1:b.f1≠1:=by omega
      have gy2:=gy hne1
      have hcy:=hcl.1 hne1
      obtain ⟨y,hy⟩:∃ y:Nat,b.f3=(y:Int):=⟨b.f3.toNat,by omega⟩
      have hyT:b.f3.toNat=y:=by rw [hy];rfl
      rw [hyT] at hcy
      rw [hy] at b6
      have h1':(b.f1==1)=false:=aX hne1
      have i4:(0:Int)≤(y:Int):=by omega
      have i5:(y:Int)<(n:Int):=by omega
      have hyL:y<n:=by omega
      have n0:X.cell? ⟨gn,y,none⟩=some (.int .i64 (bM c y:Nat)):=by
       rw [←HNM.out y hyL hcy];exact (ae HDT.out.dr.nb y).trans (jY (by rw [HDT.out.dr.nl];exact hyL))
      have HYT:=aa.mk (And.intro hyT hy)
      clear hy gy gy2 hne1 hyT hcy
      go_upto_region 26 with (fail)
      refine forget (fun Z=>DT w Z gc gn n c nm gt (.slice Av b.f0.length cv,⟨b.f0,b.f1,b.f2,(bM c y:Nat),b.f4⟩)∧Below wr.heap.size wr Z) ⟨HDT.out.sett (q':=(.slice Av b.f0.length cv,⟨b.f0,b.f1,b.f2,(bM c y:Nat),b.f4⟩)) (j:=6) rfl,HBX.out.setCell (by have:=EGT.out;show _≤gt;omega) _⟩ ?_
      clear b1 b6 b7 z6 n0 k0 HDT HBX
      rintro Z ⟨hdt,hbx⟩
      have HDT:=aa.mk hdt
      have HBX:=aa.mk hbx
      have b1:Z.cell? ⟨gt,1,none⟩=some (.int .i64 b.f1):=(ae hdt.bt 1).trans rfl
      have b7:Z.cell? ⟨gt,7,none⟩=some (.int .i64 b.f4):=(ae hdt.bt 7).trans rfl
      have z7:Z.frozen? ⟨gt,7,none⟩=false:=ah hdt.bt 7
      clear hdt hbx
      rcases h1 with h1 | h1
      · have ed1:d=⟨b.f0,b.f1,b.f2,(bM c y:Nat),b.f4⟩:=by rw [ED.out,db2 h1,HYT.out.1]
        have HED1:=aa.mk (And.intro ed1 h1)
        rw [h1] at b1
        clear gnn hcl b7 z7 h1 ed1 h1'
        go_upto_region 28 with (fail)
        have HTL:aa (DT w Z gc gn n c nm gt (.slice Av b.f0.length cv,d)∧Below wr.heap.size wr Z):=⟨by rw [HED1.out.1];exact HDT.out,HBX.out⟩
        clear HDT HBX b1
        refine forget (fun Y=>DT w Y gc gn n c nm gt (.slice Av b.f0.length cv,d)∧Below wr.heap.size wr Y) HTL.out ?_
        clear HTL
        rintro Y ⟨hdt,hby⟩
        have y0:Y.cell? ⟨gt,0,none⟩=some (.slice Av b.f0.length cv):=(ae hdt.bt 0).trans rfl
        have y1:Y.cell? ⟨gt,1,none⟩=some (.int .i64 d.f1):=(ae hdt.bt 1).trans rfl
        have y2:Y.cell? ⟨gt,2,none⟩=some (.int .u16 d.f2.f0):=(ae hdt.bt 2).trans rfl
        have y3:Y.cell? ⟨gt,3,none⟩=some (.int .u8 d.f2.f1):=(ae hdt.bt 3).trans rfl
        have y4:Y.cell? ⟨gt,4,none⟩=some (.int .u8 d.f2.f2):=(ae hdt.bt 4).trans rfl
        have y5:Y.cell? ⟨gt,5,none⟩=some (.int .u32 d.f2.f3):=(ae hdt.bt 5).trans rfl
        have y6:Y.cell? ⟨gt,6,none⟩=some (.int .i64 d.f3):=(ae hdt.bt 6).trans rfl
        have y7:Y.cell? ⟨gt,7,none⟩=some (.int .i64 d.f4):=(ae hdt.bt 7).trans rfl
        have HDY:=aa.mk (And.intro hdt hby)
        clear hdt hby
        go_wp2_with (at_builtin;go_loud ((refine Kd.jL (Kd.raw 8) (w0:=w) (W:=Y) w.heap.size rfl (.tmp 105) (.tmp 107) 22 47 (.agg #[.slice none 0 0,.int .i64 0,.int .u16 0,.int .u8 0,.int .u8 0,.int .u32 0,.int .i64 0,.int .i64 0]) 56 rfl hui oo rfl (by decide) (by decide) _ _ (b8 (.slice Av b.f0.length cv,d)) (b8 (.slice Av b.f0.length cv,d)) (fun _=>True) (fun _=>False) rfl rfl ⟨rfl,rfl,qd rfl⟩ (fun _ h=>h.elim) (fun _ _=>trivial) (Kd.gT HO.out.out HDY.out.2) HDY.out.1.dr.low HDY.out.1.dr.low.size (by have:=HLN.out;omega) ?_);intro v1 w5 ho hb hg hat;have HN:aa (DO w w5 gc gn n c nm bs (k+1) v1):=⟨⟨HDY.out.1.dr.grown (Kd.gT HO.out.out HDY.out.2) hb hg,by rw [lJ HB0.out.1,if_pos HCN.out,List.map_append];have h:=ho;rw [ED.out] at h;exact h⟩⟩;clear ho hb hg hat))
        go_roundw
        case rel=>exact ⟨k+1,by omega,by go_num,HN⟩
        case measure=>simp [intOf];omega
      have gn2:=gnn h1
      have hcm:=hcl.2 h1
      obtain ⟨m,hm⟩:∃ m:Nat,b.f4=(m:Int):=⟨b.f4.toNat,by omega⟩
      have hmT:b.f4.toNat=m:=by rw [hm];rfl
      rw [hmT] at hcm
      rw [hm] at b7
      have i6:(0:Int)≤(m:Int):=by omega
      have i7:(m:Int)<(n:Int):=by omega
      have hmL:m<n:=by omega
      have n0:Z.cell? ⟨gn,m,none⟩=some (.int .i64 (bM c m:Nat)):=by
       rw [←HNM.out m hmL hcm];exact (ae HDT.out.dr.nb m).trans (jY (by rw [HDT.out.dr.nl];exact hmL))
      have ed1:d=⟨b.f0,b.f1,b.f2,(bM c y:Nat),(bM c m:Nat)⟩:=by rw [ED.out,db3 h1,HYT.out.1,hmT]
      have HED1:=aa.mk (And.intro ed1 h1)
      rw [h1] at b1
      clear gnn gn2 hcl h1 ed1 h1' hm hmT hcm
      go_upto_region 28 with (fail)
      have HTL:aa (DT w (Z.setCell ⟨gt,7,none⟩ (.int .i64 (bM c m:Nat))) gc gn n c nm gt (.slice Av b.f0.length cv,d)∧Below wr.heap.size wr (Z.setCell ⟨gt,7,none⟩ (.int .i64 (bM c m:Nat)))):=⟨by rw [HED1.out.1];exact HDT.out.sett (q':=(.slice Av b.f0.length cv,⟨b.f0,b.f1,b.f2,(bM c y:Nat),(bM c m:Nat)⟩)) (j:=7) rfl,HBX.out.setCell (by have:=EGT.out;show _≤gt;omega) _⟩
      clear HDT HBX b1 b7 z7 n0
      refine forget (fun Y=>DT w Y gc gn n c nm gt (.slice Av b.f0.length cv,d)∧Below wr.heap.size wr Y) HTL.out ?_
      clear HTL
      rintro Y ⟨hdt,hby⟩
      have y0:Y.cell? ⟨gt,0,none⟩=some (.slice Av b.f0.length cv):=(ae hdt.bt 0).trans rfl
      have y1:Y.cell? ⟨gt,1,none⟩=some (.int .i64 d.f1):=(ae hdt.bt 1).trans rfl
      have y2:Y.cell? ⟨gt,2,none⟩=some (.int .u16 d.f2.f0):=(ae hdt.bt 2).trans rfl
      have y3:Y.cell? ⟨gt,3,none⟩=some (.int .u8 d.f2.f1):=(ae hdt.bt 3).trans rfl
      have y4:Y.cell? ⟨gt,4,none⟩=some (.int .u8 d.f2.f2):=(ae hdt.bt 4).trans rfl
      have y5:Y.cell? ⟨gt,5,none⟩=some (.int .u32 d.f2.f3):=(ae hdt.bt 5).trans rfl
      have y6:Y.cell? ⟨gt,6,none⟩=some (.int .i64 d.f3):=(ae hdt.bt 6).trans rfl
      have y7:Y.cell? ⟨gt,7,none⟩=some (.int .i64 d.f4):=(ae hdt.bt 7).trans rfl
      have HDY:=aa.mk (And.intro hdt hby)
      clear hdt hby
      go_wp2_with (at_builtin;go_loud ((refine Kd.jL (Kd.raw 8) (w0:=w) (W:=Y) w.heap.size rfl (.tmp 105) (.tmp 107) 22 47 (.agg #[.slice none 0 0,.int .i64 0,.int .u16 0,.int .u8 0,.int .u8 0,.int .u32 0,.int .i64 0,.int .i64 0]) 56 rfl hui oo rfl (by decide) (by decide) _ _ (b8 (.slice Av b.f0.length cv,d)) (b8 (.slice Av b.f0.length cv,d)) (fun _=>True) (fun _=>False) rfl rfl ⟨rfl,rfl,qd rfl⟩ (fun _ h=>h.elim) (fun _ _=>trivial) (Kd.gT HO.out.out HDY.out.2) HDY.out.1.dr.low HDY.out.1.dr.low.size (by have:=HLN.out;omega) ?_);intro v1 w5 ho hb hg hat;have HN:aa (DO w w5 gc gn n c nm bs (k+1) v1):=⟨⟨HDY.out.1.dr.grown (Kd.gT HO.out.out HDY.out.2) hb hg,by rw [lJ HB0.out.1,if_pos HCN.out,List.map_append];have h:=ho;rw [ED.out] at h;exact h⟩⟩;clear ho hb hg hat))
      go_roundw
      case rel=>exact ⟨k+1,by omega,by go_num,HN⟩
      case measure=>simp [intOf];omega
   have hkn:k=n:=by omega
   subst hkn
   have hout:=HO.out.out
   rw [List.take_of_length_le (by rw [←EL.out];exact Nat.le_refl _)] at hout
   have hwk:=drop_wk HW.out HO.out.dr.low hout HNE.out
   obtain ⟨gb2,cap2,tl2,e2,_,_,_,_,_⟩:=oH hout HNE.out
   have HWK:=aa.mk hwk
   have hme:=(HW.out.below HO.out.dr.low).me
   have c0:wr.cell? ⟨gw,0,none⟩=some (.slice (some ⟨gb,0,none⟩) k cap):=by rw [EL.out];exact (ae hme 0).trans rfl
   have z0:wr.frozen? ⟨gw,0,none⟩=false:=ah hme 0
   have HE:=aa.mk (uH c bs 0)
   clear hout hwk HO hme
   subst e2
   go_wp2
   go_ret
   obtain ⟨gb',cap',tl',h1,h2⟩:=HWK.out
   rw [HD.out]
   exact ⟨rfl,⟨gb',cap',_,by rw [HE.out,←EG.out],tl',h1⟩,h2⟩
section
variable {P:Program} {α:Type}
theorem Ai (d:Kd α) {Rr:α→List Value→Prop} {W:World} (base:Nat) (t ty e:TypeId) (i0:TypeInfo) (z:Value) (bytes:Nat)
 (ht:P.underlying t=some (.slice e)) (hi:P.info? e=some i0) (hz0:i0.zero=some z) (hz1:i0.size=d.sz) (hz2:i0.bytes=bytes) (hz:z.cells.size=d.sz) (hs0:0<d.sz)
 (v:Value) (xs ys:List α) (A:Option Addr) (m c:Nat) (ok okp:Nat→Prop)
 (HO:d.R e W base ok v xs) (HR:dH Rr d.sz W A m ys) (hKM:∀ x cs,Rr x cs→d.M W base okp x cs) (hokp:∀ k,okp k→ok k∧some k≠v.ownBlock) (hfresh:∀ k,W.heap.size≤k→ok k)
 (hbase:base≤W.heap.size) (hlen:xs.length+m≤140737488355328) (hl:(xs.length+m)*bytes≤140737488355328) :
 ∃ v1 w1,(Builtin.append_ #[t,t] ty #[v,.slice A m c]).run P W = .ok v1 w1∧d.R e w1 base ok v1 (xs++ys)∧W.grownBy w1 v.ownBlock∧(v1.ownBlock=v.ownBlock∨∃ b,v1.ownBlock=some b∧W.heap.size≤b):=by
 have hm:ys.length=m:=HR.1
 obtain ⟨hok,inner,hown,hr⟩:=HO
 rcases A with _ | ad
 · have h0:m=0:=by
    rcases Nat.eq_zero_or_pos m with h0 | h0
    · exact h0
    obtain ⟨ad,h,_⟩:=HR.2.2 h0
    cases h
   subst h0
   obtain rfl:ys=[]:=List.eq_nil_of_length_eq_zero hm
   refine ⟨v,W,?_,by rw [List.append_nil];exact ⟨hok,inner,hown,hr⟩,World.grownBy.refl W _,.inl rfl⟩
   rcases hown.2 with ⟨rfl,hn⟩ | ⟨g,cap,cur,rfl,_,_,hnc,_⟩
   · simp [Builtin.append_,run_underlying ht,sizeOf,typeInfo,hi,Builtin.lenOf,Builtin.firstCells]
   simp [Builtin.append_,run_underlying ht,sizeOf,typeInfo,hi,Builtin.lenOf,Builtin.firstCells,hnc,storeCells]
 obtain ⟨news,hnr,hnc⟩:=dH.yV HR
 have hnM:eu (d.M W base okp) d.sz ys news:=hnr.iO (fun p c hp=>hKM p c hp)
 have hone:∀ u∈news,u.oneCell'=true:=by
  intro u hu
  obtain ⟨q,hq,rfl⟩:=List.mem_iff_getElem.1 hu
  have hql:q / d.sz<ys.length:=by
   rw [Nat.div_lt_iff_lt_mul hs0]
   rw [←hnM.1]
   exact hq
  have hc:=hnM.2 (q / d.sz) _ (List.getElem?_eq_getElem hql)
  refine d.K_one (d.K_of_M hc) _ ?_
  rw [List.mem_iff_getElem?]
  refine ⟨q % d.sz,?_⟩
  rw [List.getElem?_take,if_pos (Nat.mod_lt _ hs0),List.getElem?_drop,Nat.mul_comm,Nat.div_add_mod,List.getElem?_eq_getElem hq]
 obtain ⟨v1,w1,hrun,h2,hg,_,hat⟩:=run_append_own_at (P:=P) W base t ty e i0 z d.sz bytes ht hi hz0 hz1 hz2 hz hs0 v xs.length inner hown ad m c news (by rw [hnM.1,hm]) hnc hone (by simp only [maxLen];omega) hl hbase
 have hat':v1.ownBlock=v.ownBlock∨∃ b,v1.ownBlock=some b∧W.heap.size≤b:=by
  rcases hat with hat | hat
  · exact .inl hat
  exact .inr ⟨_,hat,Nat.le_refl _⟩
 have hne:∀ k,some k≠v.ownBlock→k<W.heap.size→some k≠v1.ownBlock:=by
  intro k hk hlt
  rcases hat' with hat | ⟨b,hb,hle⟩
  · rw [hat];exact hk
  rw [hb]
  intro he
  injection he with he
  omega
 have step:∀ {q:α} {c:List Value} {o:Nat→Prop},d.M W base o q c→(∀ k,o k→ok k∧some k≠v.ownBlock)→d.M w1 base (fun k=>ok k∧some k≠v1.ownBlock) q c:=by
  intro q c o hq ho
  have h1:=d.M_move (w1:=w1) (fun k hk=>hg.block k hk.2.2.1 (ho k hk.1).2) (d.M_bound hq)
  exact d.M_mono (fun k hk=>⟨(ho k hk.1).1,hne k (ho k hk.1).2 hk.2.2.1⟩) h1
 refine ⟨v1,w1,hrun,⟨fun k hk=>?_,inner++news,by rw [List.length_append,hm];exact h2,Kd.mO (hr.iO (fun _ _ hq=>step hq (fun _ hk=>hk))) (hnM.iO (fun _ _ hq=>step hq hokp))⟩,hg,hat'⟩
 rcases hat' with hat | ⟨b,hb,hle⟩
 · exact hok k (hat ▸ hk)
 rw [hb] at hk
 injection hk with hk
 exact hfresh k (by omega)
variable {ops:Array Oper} {o:Oper} {a:Act} {Q:Exit→Act→World→Prop} {Kc:Act→World→Prop}
end
section
variable {P:Program} {α:Type} {ops:Array Oper} {o:Oper} {a:Act} {Q:Exit→Act→World→Prop} {Kc:Act→World→Prop}
theorem ve (d:Kd α) {Rr:α→List Value→Prop} {w0 W:World} (base:Nat) (s x:Operand) (t e:TypeId) (z:Value) (bytes:Nat) (hg:o.guard=none)
 (ho:o.op = .call {callee := .builtin .append,args:=#[s,x],argTypes:=#[t,t]})
 (ht:P.underlying t=some (.slice e)) (hinfo:(P.info? e).map (fun i=>(i.zero,i.size,i.bytes))=some (some z,d.sz,bytes)) (hz:z.cells.size=d.sz) (hs0:0<d.sz) (hb0:0<bytes)
 (v:Value) (xs ys:List α) (A:Option Addr) (m c:Nat) (hs:a.eval s=v) (hx:a.eval x = .slice A m c)
 (HO:d.R e W base (fun _=>True) v xs) (HR:dH Rr d.sz W A m ys) (hKM:∀ x cs,Rr x cs→d.M W base (fun _=>False) x cs)
 (HB:Below base w0 W) (hbase:base≤W.heap.size) (hl:(xs.length+m)*bytes≤140737488355328)
 (h:∀ v1 w1,d.R e w1 base (fun _=>True) v1 (xs++ys)→Below base w0 w1→W.grownBy w1 v.ownBlock→(v1.ownBlock=v.ownBlock∨∃ b,v1.ownBlock=some b∧W.heap.size≤b)→Kc (a.put o.dst v1) w1) :
 if Region.wanted o (yielded ops a.tmps)=true then Oper.wp P o a W Kc Q else Kc (a.put o.dst undef) W:=by
 have hw:Region.wanted o (yielded ops a.tmps)=true:=by simp [Region.wanted,hg]
 rw [if_pos hw]
 obtain ⟨i0,hi,hzz⟩:=Option.map_eq_some_iff.1 hinfo
 simp only [Prod.mk.injEq] at hzz
 obtain ⟨hz0,hz1,hz2⟩:=hzz
 have hlen:xs.length+m≤140737488355328:=Nat.le_trans (Nat.le_mul_of_pos_right _ hb0) hl
 have hown:=(Kd.uq HO)
 obtain ⟨v1,w1,hr1,h1,hg1,hat⟩:=Ai d base t o.type e i0 z bytes ht hi hz0 hz1 hz2 hz hs0 v xs ys A m c (fun _=>True) (fun _=>False) HO HR hKM (fun _ h=>h.elim) (fun _ _=>trivial) hbase hlen hl
 unfold Oper.wp execOp
 simp only [ho,resolve,invoke,builtin,Sem.run_bind,Sem.run_pure,Result.andThen_ok,List.map_toArray,List.map_cons,List.map_nil,hs,hx,hr1]
 obtain ⟨inner,hown⟩:=hown
 exact h v1 w1 h1 (HB.grown hg1 hbase (iJ hown)) hg1 hat
end
theorem Cd.c {w:World} {A:Option Addr} {n cap:Nat} {c:List S45} (h:Cd w (.slice A n cap) c):k45.C w A n c:=by
 have hr:=mY (base:=0) (ok:=fun _=>True) h (fun _ _=>⟨Nat.zero_le _,trivial⟩)
 obtain ⟨e,_,h2⟩:=Kd.iW hr
 rw [e];exact h2
def tO (w:World) (gb n:Nat) (q:Value × S47):World:=(((((((w.setCell ⟨gb,n*8,none⟩ q.1).setCell ⟨gb,n*8+1,none⟩ (.int .i64 q.2.f1)).setCell ⟨gb,n*8+2,none⟩ (.int .u16 q.2.f2.f0)).setCell ⟨gb,n*8+3,none⟩ (.int .u8 q.2.f2.f1)).setCell ⟨gb,n*8+4,none⟩ (.int .u8 q.2.f2.f2)).setCell ⟨gb,n*8+5,none⟩ (.int .u32 q.2.f2.f3)).setCell ⟨gb,n*8+6,none⟩ (.int .i64 q.2.f3)).setCell ⟨gb,n*8+7,none⟩ (.int .i64 q.2.f4)
theorem rP {W:World} {gb n:Nat} {bs:List (Value × S47)} {tl:List Value} {p:Value × S47} (h:W.heap[gb]?=some (.cells (bf bs tl) 47 (0,0))) (hp:bs[n]?=some p) (q:Value × S47):(tO W gb n q).heap[gb]?=some (.cells (bf (bs.set n q) tl) 47 (0,0)):=by
 have h0:=bz (j:=0) h hp (q.1,p.2) (by omega) q.1 rfl
 have h1:=bz (j:=1) h0 (aG hp) (q.1,⟨p.2.f0,q.2.f1,p.2.f2,p.2.f3,p.2.f4⟩) (by omega) (.int .i64 q.2.f1) rfl
 rw [set_set] at h1
 have h2:=bz (j:=2) h1 (aG hp) (q.1,⟨p.2.f0,q.2.f1,⟨q.2.f2.f0,p.2.f2.f1,p.2.f2.f2,p.2.f2.f3⟩,p.2.f3,p.2.f4⟩) (by omega) (.int .u16 q.2.f2.f0) rfl
 rw [set_set] at h2
 have h3:=bz (j:=3) h2 (aG hp) (q.1,⟨p.2.f0,q.2.f1,⟨q.2.f2.f0,q.2.f2.f1,p.2.f2.f2,p.2.f2.f3⟩,p.2.f3,p.2.f4⟩) (by omega) (.int .u8 q.2.f2.f1) rfl
 rw [set_set] at h3
 have h4:=bz (j:=4) h3 (aG hp) (q.1,⟨p.2.f0,q.2.f1,⟨q.2.f2.f0,q.2.f2.f1,q.2.f2.f2,p.2.f2.f3⟩,p.2.f3,p.2.f4⟩) (by omega) (.int .u8 q.2.f2.f2) rfl
 rw [set_set] at h4
 have h5:=bz (j:=5) h4 (aG hp) (q.1,⟨p.2.f0,q.2.f1,q.2.f2,p.2.f3,p.2.f4⟩) (by omega) (.int .u32 q.2.f2.f3) rfl
 rw [set_set] at h5
 have h6:=bz (j:=6) h5 (aG hp) (q.1,⟨p.2.f0,q.2.f1,q.2.f2,q.2.f3,p.2.f4⟩) (by omega) (.int .i64 q.2.f3) rfl
 rw [set_set] at h6
 have h7:=bz (j:=7) h6 (aG hp) q (by omega) (.int .i64 q.2.f4) rfl
 rw [set_set] at h7
 exact h7
theorem uO {S:Nat→Prop} {w W:World} {gb n:Nat} {q:Value × S47} (h:Kp S w W) (hS:S gb):Kp S w (tO W gb n q):=
 (((((((h.set (.inl hS) _ _).set (.inl hS) _ _).set (.inl hS) _ _).set (.inl hS) _ _).set (.inl hS) _ _).set (.inl hS) _ _).set (.inl hS) _ _).set (.inl hS) _ _
structure JR (w X:World) (gn L:Nat) (nm:List Int):Prop where
 low:Below w.heap.size w X
 nb:X.heap[gn]?=some (.cells (inC nm) 3 (0,0))
 nl:nm.length=L
 ln:w.heap.size≤gn
structure JT (w X:World) (gn L:Nat) (nm:List Int) (gt:Nat) (q:Value × S47):Prop where
 jr:JR w X gn L nm
 bt:X.heap[gt]?=some (.cells (b8 q).toArray 47 (0,0))
 lt:w.heap.size≤gt
section
variable {w X Y:World} {B:Bs} {gw gb cap gn gt L n a:Nat} {nm:List Int} {q:Value × S47} {G:List S47} {b nx:S47} {bs:List (Value × S47)} {tl:List Value} {fr:List Nat} {f:Bool} {T:List S47 × Bool}
theorem JR.below (h:JR w X gn L nm) (hb:Below X.heap.size X Y):JR w Y gn L nm:=⟨au h.low hb,ak h.nb hb,h.nl,h.ln⟩
theorem JR.rX (h:JR w X gn L nm) (j:Nat) (x:Int):JR w (X.setCell ⟨gn,j,none⟩ (.int .i64 x)) gn L (nm.set j x):=⟨h.low.setCell h.ln _,aI h.nb j _ (qA j x),by rw [List.length_set];exact h.nl,h.ln⟩
theorem JT.rX (h:JT w X gn L nm gt q) (j:Nat) (x:Int):JT w (X.setCell ⟨gn,j,none⟩ (.int .i64 x)) gn L (nm.set j x) gt q:=⟨h.jr.rX j x,(Deep.blk_setCell_other _ _ _ _ (bF h.bt h.jr.nb (by decide))).trans h.bt,h.lt⟩
structure JI (w X:World) (gn L:Nat) (G:List S47) (n:Nat) (nm:List Int):Prop where
 jr:JR w X gn L nm
 eq:∀ t,t<L→nm.getD t 0=(jV (G.take n) t:Nat)
theorem cE_le (t:Nat) (b:S47):cE t b≤2:=by unfold cE;split<;>split<;>omega
theorem xI (t:Nat):∀ G:List S47,jV G t≤2*G.length:=by
 intro G
 induction G with
 | nil=>exact Nat.le_refl _
 | cons b r ih=>
  have h:jV (b :: r) t=cE t b+jV r t:=by unfold jV;rw [List.map_cons,List.sum_cons]
  have:=cE_le t b
  rw [h,List.length_cons];omega
theorem xJ (h:G[n]?=some b) (t:Nat):jV (G.take (n+1)) t=jV (G.take n) t+cE t b:=by
 obtain ⟨h1,rfl⟩:=List.getElem?_eq_some_iff.1 h
 unfold jV
 rw [List.take_succ_eq_append_getElem h1,List.map_append,List.sum_append]
 show _+(cE t G[n]+0)=_
 omega
theorem JI.next (h:JI w X gn L G n nm) (hb:G[n]?=some b) {nm':List Int} (hY:JR w Y gn L nm') (e:∀ t,t<L→nm'.getD t 0=nm.getD t 0+(cE t b:Nat)):JI w Y gn L G (n+1) nm':=
 ⟨hY,fun t ht=>by rw [e t ht,h.eq t ht,xJ hb];omega⟩
theorem cE1 (h:b.f1=1) (t:Nat):cE t b=0:=by unfold cE;rw [if_neg (by rw [h];omega),if_neg (by rw [h];omega)]
theorem cE2 (h:b.f1=2) (t:Nat):cE t b=if b.f3.toNat=t then 1 else 0:=by
 unfold cE
 rw [if_neg (show ¬(b.f1=3∧b.f4.toNat=t) by rw [h];omega),Nat.add_zero]
 by_cases e:b.f3.toNat=t
 · rw [if_pos ⟨by rw [h];decide,e⟩,if_pos e]
 rw [if_neg (fun q=>e q.2),if_neg e]
theorem cE3 (h:b.f1=3) (t:Nat):cE t b=(if b.f3.toNat=t then 1 else 0)+(if b.f4.toNat=t then 1 else 0):=by
 unfold cE
 congr 1
 · by_cases e:b.f3.toNat=t
   · rw [if_pos ⟨by rw [h];decide,e⟩,if_pos e]
   rw [if_neg (fun q=>e q.2),if_neg e]
 by_cases e:b.f4.toNat=t
 · rw [if_pos ⟨h,e⟩,if_pos e]
 rw [if_neg (fun q=>e q.2),if_neg e]
def frI (fr:List Nat):List Int:=fr.map (fun n:Nat=>(n:Int))
theorem qp (fr:List Nat) (t:Nat):(frI fr).getD t 0=(fr.getD t 0:Nat):=by
 unfold frI
 rw [List.getD_eq_getElem?_getD,List.getElem?_map,List.getD_eq_getElem?_getD]
 cases fr[t]?<;>rfl
theorem frI_set (fr:List Nat) (t:Nat):(frI fr).set t 0=frI (fr.set t 0):=by
 unfold frI
 rw [List.map_set];rfl
theorem JI.done (h:JI w X gn L G L nm) (hL:G.length=L):nm=frI (frG G):=by
 have hl:(frI (frG G)).length=L:=by unfold frI frG;rw [List.length_map,List.length_map,List.length_range,hL]
 have hf:=fr_0 G
 apply List.ext_getElem?
 intro t
 by_cases ht:t<L
 · have e1:=h.eq t ht
   rw [List.take_of_length_le (by omega)] at e1
   have e2:=qp (frG G) t
   rw [hf.eq t (by omega)] at e2
   rw [List.getElem?_eq_getElem (by rw [h.jr.nl];exact ht),List.getElem?_eq_getElem (by rw [hl];exact ht)]
   rw [List.getD_eq_getElem?_getD,List.getElem?_eq_getElem (by rw [h.jr.nl];exact ht)] at e1
   rw [List.getD_eq_getElem?_getD,List.getElem?_eq_getElem (by rw [hl];exact ht)] at e2
   exact congrArg some (e1.trans e2.symm)
 rw [List.getElem?_eq_none (by rw [h.jr.nl];omega),List.getElem?_eq_none (by rw [hl];omega)]
structure JS (w X:World) (B:Bs) (gw gb cap:Nat) (tl:List Value) (gn L:Nat) (bs:List (Value × S47)) (fr:List Nat):Prop where
 wk:Wk X B gw gb cap bs tl
 len:bs.length=L
 low:Below B.n w X
 nb:X.heap[gn]?=some (.cells (inC (frI fr)) 3 (0,0))
 lo:B.n≤gn
 gok:GOk (bs.map (·.2))
 frk:qY (bs.map (·.2)) fr
theorem JS.below (h:JS w X B gw gb cap tl gn L bs fr) (hb:Below X.heap.size X Y):JS w Y B gw gb cap tl gn L bs fr:=
 ⟨h.wk.below hb,h.len,h.low.trans ⟨hb.os,hb.tape,hb.output,hb.size,fun i hi=>hb.block i (by have:=ay h.wk.me;have:=h.wk.lo;omega)⟩,ak h.nb hb,h.lo,h.gok,h.frk⟩
structure JL (w X:World) (B:Bs) (gw gb cap:Nat) (tl:List Value) (gn L:Nat) (T:List S47 × Bool) (a:Nat) (f:Bool) (bs:List (Value × S47)) (fr:List Nat):Prop where
 js:JS w X B gw gb cap tl gn L bs fr
 res:T=((jnL (L - a) (bs.map (·.2)) fr a).1,f||(jnL (L - a) (bs.map (·.2)) fr a).2)
structure JW (w X:World) (B:Bs) (gw gb cap:Nat) (tl:List Value) (gn L:Nat) (T:List S47 × Bool) (a:Nat) (f:Bool) (bs:List (Value × S47)) (fr:List Nat):Prop where
 js:JS w X B gw gb cap tl gn L bs fr
 res:∃ j,T=((jnL (L - (a+1)) (jnW j (bs.map (·.2)) fr a).1 (jnW j (bs.map (·.2)) fr a).2.1 (a+1)).1,(f||(jnW j (bs.map (·.2)) fr a).2.2)||(jnL (L - (a+1)) (jnW j (bs.map (·.2)) fr a).1 (jnW j (bs.map (·.2)) fr a).2.1 (a+1)).2) ∧
  ∀ b,(bs.map (·.2))[a]?=some b→b.f1=2→L≤j+b.f3.toNat
theorem JL.enter (h:JL w X B gw gb cap tl gn L T a f bs fr) (ha:a<L):JW w X B gw gb cap tl gn L T a f bs fr:=by
 refine ⟨h.js,L,?_,fun b _ _=>by omega⟩
 have e:=h.res
 rw [show L - a=(L - (a+1))+1 by omega,jnL] at e
 rw [List.length_map,h.js.len] at e
 rw [e,Bool.or_assoc]
theorem JW.leave (h:JW w X B gw gb cap tl gn L T a f bs fr) (hn:jnY (bs.map (·.2)) fr a=none):JL w X B gw gb cap tl gn L T (a+1) f bs fr:=by
 obtain ⟨j,e,_⟩:=h.res
 refine ⟨h.js,?_⟩
 have e2:jnW j (bs.map (·.2)) fr a=(bs.map (·.2),fr,false):=by
  cases j with
  | zero=>rfl
  | succ j=>rw [jnW,hn]
 rw [e2] at e
 rw [e,Bool.or_false]
theorem JW.step (h:JW w X B gw gb cap tl gn L T a f bs fr) {v v1 vn:Value} {y:Nat} (hyT:b.f3.toNat=y) (hb:bs[a]?=some (v,b)) (hx:bs[y]?=some (vn,nx)) (h2:b.f1=2) (h1:fr.getD y 0=1)
 (hwk:Wk Y B gw gb cap ((bs.set a (v1,mgB b nx)).set y (.slice none 0 0,ji)) tl) (hlow:Below B.n w Y) (hnb:Y.heap[gn]?=some (.cells (inC (frI (fr.set y 0))) 3 (0,0))) :
 JW w Y B gw gb cap tl gn L T a true ((bs.set a (v1,mgB b nx)).set y (.slice none 0 0,ji)) (fr.set y 0):=by
 subst hyT
 have hy:jnY (bs.map (·.2)) fr a=some (b,nx):=by
  unfold jnY
  rw [List.getElem?_map,hb]
  dsimp only [Option.map_some]
  rw [if_pos ⟨h2,h1⟩,List.getElem?_map,hx];rfl
 have hm:=y8 h.js.gok h.js.frk hy
 have eg:((bs.set a (v1,mgB b nx)).set b.f3.toNat (.slice none 0 0,ji)).map (·.2)=jn1 (bs.map (·.2)) a b.f3.toNat b nx:=by
  unfold jn1
  rw [List.map_set,List.map_set]
 obtain ⟨l1,l2,l3⟩:=hm.lt
 obtain ⟨j,e,hj⟩:=h.res
 have hL:(bs.map (·.2)).length=L:=by rw [List.length_map,h.js.len]
 have hj1:=hj b (by rw [List.getElem?_map,hb];rfl) h2
 obtain ⟨j',rfl⟩:∃ j',j=j'+1:=⟨j - 1,by omega⟩
 have ew:jnW (j'+1) (bs.map (·.2)) fr a=((jnW j' (jn1 (bs.map (·.2)) a b.f3.toNat b nx) (fr.set b.f3.toNat 0) a).1,(jnW j' (jn1 (bs.map (·.2)) a b.f3.toNat b nx) (fr.set b.f3.toNat 0) a).2.1,true):=by
  rw [jnW,hy]
 refine ⟨⟨hwk,by rw [List.length_set,List.length_set,h.js.len],hlow,hnb,h.js.lo,by rw [eg];exact (lg.one hm).gok,by rw [eg];exact fr_mg h.js.frk hm⟩,j',?_,?_⟩
 · rw [ew] at e
   rw [eg,e,Bool.or_true,Bool.true_or,Bool.true_or,Bool.true_or]
 intro c hc hc2
 rw [eg,hm.get.1] at hc
 cases hc
 have hgn:=bE (h.js.gok.all _ nx hm.nx).goal (by show nx.f1≠1;have e3:nx.f1=2:=hc2;omega)
 show L≤j'+nx.f3.toNat
 omega
theorem join_wk {U1 U:World} {v v1 vn:Value} {y:Nat} (h:JS w X B gw gb cap tl gn L bs fr) (hb:bs[a]?=some (v,b)) (hx:bs[y]?=some (vn,nx)) (hay:a≠y) (hk1:Kp (fun x=>x=gb∨x=gn∨some x=v.ownBlock) X U1)
 (hr1:U1.heap[gb]?=some (.cells (bf (bs.set a (v1,mgB b nx)) tl) 47 (0,0))) (hc:Cd U1 v1 (b.f0++nx.f0)) (hat:v1.ownBlock=v.ownBlock∨∃ g,v1.ownBlock=some g∧X.heap.size≤g) (hk2:Kp (fun x=>x=gb) U1 U)
 (hr2:U.heap[gb]?=some (.cells (bf ((bs.set a (v1,mgB b nx)).set y (.slice none 0 0,ji)) tl) 47 (0,0))):Wk U B gw gb cap ((bs.set a (v1,mgB b nx)).set y (.slice none 0 0,ji)) tl∧Below B.n w U:=by
 have hB:B.n≤X.heap.size:=by have:=ay h.wk.me;have:=h.wk.lo;omega
 have w1:Wk U1 B gw gb cap (bs.set a (v1,mgB b nx)) tl:=by
  refine h.wk.step hb hk1 ?_ hr1 hc (fun g hg=>?_)
  · rintro x (e | e | e)
    · exact .inl e
    · subst e;exact .inr (.inr ⟨_,_,_,h.nb,by decide,by decide,by decide⟩)
    exact .inr (.inl e)
  rcases hat with e | ⟨g',e,hle⟩
  · exact .inl (by rw [←e];exact hg)
  right
  have e2:v1.ownBlock=some g:=hg
  rw [e] at e2
  injection e2 with e2
  omega
 have w2:Wk U B gw gb cap ((bs.set a (v1,mgB b nx)).set y (.slice none 0 0,ji)) tl:=
  w1.step (p:=(vn,nx)) (by rw [List.getElem?_set_ne hay];exact hx) hk2 (fun x e => .inl e) hr2 (.inl ⟨rfl,rfl⟩) (fun g hg=>by cases hg)
 refine ⟨w2,w1.low (Kp.gW h.low hk1 hB ?_) hk2⟩
 rintro x (e | e | e)
 · subst e;exact h.wk.row.lo.1
 · subst e;exact h.lo
 exact h.wk.row.lo.2 _ (List.mem_of_getElem? hb) _ e.symm
def mJ (w:World) (gb a L:Nat):Nat:=if intOf (cellV w ⟨gb,a*8+1,none⟩)=2 then L - (intOf (cellV w ⟨gb,a*8+6,none⟩)).toNat else 0
theorem mJ_eq {v:Value} (h:X.heap[gb]?=some (.cells (bf bs tl) 47 (0,0))) (hb:bs[a]?=some (v,b)):mJ X gb a L=if b.f1=2 then L - b.f3.toNat else 0:=by
 have e1:X.cell? ⟨gb,a*8+1,none⟩=some (.int .i64 b.f1):=(ae h (a*8+1)).trans (bO hb (by omega))
 have e6:X.cell? ⟨gb,a*8+6,none⟩=some (.int .i64 b.f3):=(ae h (a*8+6)).trans (bO hb (by omega))
 unfold mJ cellV
 rw [e1,e6]
 rfl
end
end Go.Proofs.Ytdkalnkplgfgoaa.Ln
