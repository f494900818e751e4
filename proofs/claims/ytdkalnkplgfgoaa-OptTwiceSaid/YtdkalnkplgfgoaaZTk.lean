/- Lemmas and walks for the statements of the texts ZTZ..: the declarations that they need, taken together by a program of this session. Conditions: as each says. -/
import Derived.Deep.LoopGhost
import Derived.ChangeArms
import Derived.Deep.Slices
import Derived.Deep.Fields
import Derived.SizedLaws
import Derived.ChangeSame
import Derived.ArgAppend
import Derived.Test.YtdkalnkplgfgoaaZTa
import Derived.Test.YtdkalnkplgfgoaaZTb
import Derived.Test.YtdkalnkplgfgoaaZTc
import Derived.Test.YtdkalnkplgfgoaaZTd
import Derived.Test.YtdkalnkplgfgoaaZTf
import Derived.Test.YtdkalnkplgfgoaaZTg
import Derived.Test.YtdkalnkplgfgoaaZTh
import Derived.Test.YtdkalnkplgfgoaaZTj
set_option maxHeartbeats 8000000
set_option maxRecDepth 100000
set_option linter.unusedVariables false
set_option linter.unusedSimpArgs false
namespace Go.Proofs.Ytdkalnkplgfgoaa.Ln
open Go.RowKit Go.Maps Go.Proofs.YtdkalnkplgfgoaaW.PrintWords Go.Proofs.YtdkalnkplgfgoaaW.PrintLast Go.Proofs.YtdkalnkplgfgoaaW.PrintMore Go.Proofs.Ytdkalnkplgfgoaa.PA
theorem sU (w:World) (B:Bs) (gw gb cap:Nat) (bs:List (Value × S47)) (tl:List Value) (hW:Wk w B gw gb cap bs tl) (hG:GOk (bs.map (·.2))) :
 Calls Try.prog 88 #[.pointer (some ⟨gw,0,none⟩)] w fun e w'=>e = .returned (.bool (jC (bs.map (·.2))).2)∧(∃ bs',bs'.map (·.2)=(jC (bs.map (·.2))).1∧Wk w' B gw gb cap bs' tl)∧Below B.n w w':=by
 obtain ⟨L,eL⟩:∃ L,L=bs.length:=⟨_,rfl⟩
 have hL:L≤4096:=by have:=hG.few;rw [List.length_map] at this;omega
 have hL0:0<L:=by have:=hG.some_;rw [List.length_map] at this;omega
 have hu:=Try.underlying26
 have c0:w.cell? ⟨gw,0,none⟩=some (.slice (some ⟨gb,0,none⟩) L cap):=by rw [eL];exact (ae hW.me 0).trans rfl
 have hmi:=pO L hL
 obtain ⟨G,eG⟩:∃ G,G=bs.map (·.2):=⟨_,rfl⟩
 rw [←eG] at hG ⊢
 have HGL:aa (G.length=L):=⟨by rw [eG,List.length_map,eL]⟩
 have HGB:aa (∀ (i:Nat) (v:Value) (b:S47),bs[i]?=some (v,b)→G[i]?=some b):=⟨fun i v b h=>by rw [eG,List.getElem?_map,h];rfl⟩
 have HW:=aa.mk hW
 have HG:=aa.mk hG
 have EL:=aa.mk eL
 have EG:=aa.mk eG
 clear hW hG eL eG
 go_enter Try.func88,Try.ntmps88
 go_upto_region 2 with (fail)
 refine forget (fun Z=>∃ gn,gn=w.heap.size∧JI w Z gn L G 0 (List.replicate L 0)) ⟨_,rfl,⟨ai (Below.refl _ _) _,heap_alloc_new _ _,List.length_replicate,Nat.le_refl _⟩,fun t ht=>by rw [List.take_zero,List.getD_eq_getElem?_getD,List.getElem?_replicate];split<;>rfl⟩ ?_
 clear c0
 rintro Z ⟨gn,egn,hji⟩
 rw [←egn]
 have HJI:=aa.mk hji
 have c0:Z.cell? ⟨gw,0,none⟩=some (.slice (some ⟨gb,0,none⟩) L cap):=ax hji.jr.low (by rw [EL.out];exact (ae HW.out.me 0).trans rfl)
 clear egn hji hmi
 go_wp2
 go_loopw [22] (fun v22 wr=>∃ (n:Nat) (nm:List Int),n≤L∧v22 = .int .i64 n∧aa (JI w wr gn L G n nm)) (fun v22 _=>L - (intOf v22).toNat)
 case atStart=>exact ⟨0,_,Nat.zero_le _,rfl,HJI⟩
 case round=>
  clear HJI c0
  obtain ⟨n,nm,hn,rfl,HJI⟩:=hrel
  by_cases hlt:n<L
  · obtain ⟨v,b,hb⟩:∃ v b,bs[n]?=some (v,b):=⟨(bs[n]'(by rw [←EL.out];exact hlt)).1,(bs[n]'(by rw [←EL.out];exact hlt)).2,List.getElem?_eq_getElem (by rw [←EL.out];exact hlt)⟩
    have hGn:=HGB.out n v b hb
    have hWr:=HW.out.below HJI.out.jr.low
    have hcd:Cd wr v b.f0:=hWr.row.code n _ hb
    obtain ⟨Av,cv,rfl⟩:=hcd.slice
    have i2:(0:Int)≤(n:Int):=by omega
    have i3:(n:Int)<(L:Int):=by omega
    have g:=fun (jj:Nat) (hh:jj<8)=>(ae hWr.row.row (n*8+jj)).trans (bO hb hh)
    have b0:wr.cell? ⟨gb,n*8,none⟩=some (.slice Av b.f0.length cv):=g 0 (by omega)
    have b1:wr.cell? ⟨gb,n*8+1,none⟩=some (.int .i64 b.f1):=g 1 (by omega)
    have b2:wr.cell? ⟨gb,n*8+2,none⟩=some (.int .u16 b.f2.f0):=g 2 (by omega)
    have b3:wr.cell? ⟨gb,n*8+3,none⟩=some (.int .u8 b.f2.f1):=g 3 (by omega)
    have b4:wr.cell? ⟨gb,n*8+4,none⟩=some (.int .u8 b.f2.f2):=g 4 (by omega)
    have b5:wr.cell? ⟨gb,n*8+5,none⟩=some (.int .u32 b.f2.f3):=g 5 (by omega)
    have b6:wr.cell? ⟨gb,n*8+6,none⟩=some (.int .i64 b.f3):=g 6 (by omega)
    have b7:wr.cell? ⟨gb,n*8+7,none⟩=some (.int .i64 b.f4):=g 7 (by omega)
    have HGN:=aa.mk hGn
    have HBK:=aa.mk (HG.out.all n b hGn)
    clear g hb hGn hWr hcd
    go_upto_region 5 with (fail)
    refine forget (fun X=>∃ gt,gt=wr.heap.size∧JT w X gn L nm gt (.slice Av b.f0.length cv,b)) ⟨_,rfl,HJI.out.jr.below (ai (Below.refl _ _) _),heap_alloc_new _ _,HJI.out.jr.low.size⟩ ?_
    clear b0 b1 b2 b3 b4 b5 b6 b7
    rintro X ⟨gt,egt,hdt⟩
    rw [←egt]
    have HJT:=aa.mk hdt
    have b1:X.cell? ⟨gt,1,none⟩=some (.int .i64 b.f1):=(ae hdt.bt 1).trans rfl
    have b6:X.cell? ⟨gt,6,none⟩=some (.int .i64 b.f3):=(ae hdt.bt 6).trans rfl
    have hec:=eB HBK.out.ends
    have gy:=bE HBK.out.goal
    have gnn:=dw HBK.out.goal
    rw [HGL.out] at gy gnn
    have hcase:b.f1=1∨b.f1=2∨b.f1=3:=by rcases hec with h | h | h;exact .inl h.1;exact .inr (.inl h.1);exact .inr (.inr h.1)
    clear hdt hec egt
    rcases hcase with h1 | h1
    · have HE:aa (JI w X gn L G (n+1) nm):=⟨HJI.out.next HGN.out HJT.out.jr (fun t _=>by rw [cE1 h1];simp)⟩
      rw [h1] at b1
      clear h1 gy gnn HJT HJI b6
      go_wp2
      go_roundw
      case rel=>exact ⟨n+1,_,by omega,by go_num,HE⟩
      case measure=>simp [intOf];omega
    have hne1:b.f1≠1:=by omega
    have gy2:=gy hne1
    obtain ⟨y,hy⟩:∃ y:Nat,b.f3=(y:Int):=⟨b.f3.toNat,by omega⟩
    have hyT:b.f3.toNat=y:=by rw [hy];rfl
    rw [hy] at b6
    have h1':(b.f1==1)=false:=aX hne1
    have i4:(0:Int)≤(y:Int):=by omega
    have i5:(y:Int)<(L:Int):=by omega
    have hyL:y<L:=by omega
    obtain ⟨cy,ecy⟩:∃ cy,cy=jV (G.take n) y:=⟨_,rfl⟩
    have hcy:cy≤8192:=by have:=xI y (G.take n);rw [List.length_take] at this;omega
    have hgy:nm.getD y 0=(cy:Int):=by rw [HJI.out.eq y hyL,ecy]
    have kz:X.frozen? ⟨gn,y,none⟩=false:=ah HJT.out.jr.nb y
    have k0:X.cell? ⟨gn,y,none⟩=some (.int .i64 (cy:Int)):=by rw [←hgy];exact (ae HJT.out.jr.nb y).trans (jY (by rw [HJT.out.jr.nl];exact hyL))
    have HYT:=aa.mk (And.intro hyT hgy)
    clear hy gy gy2 hne1 hyT hgy ecy
    go_upto_region 7 with (fail)
    refine forget (fun Z=>JT w Z gn L (nm.set y ((cy:Int)+1)) gt (.slice Av b.f0.length cv,b)) (HJT.out.rX y _) ?_
    clear b1 b6 kz k0 HJT
    intro Z hdt
    have HJT:=aa.mk hdt
    have b1:Z.cell? ⟨gt,1,none⟩=some (.int .i64 b.f1):=(ae hdt.bt 1).trans rfl
    have b7:Z.cell? ⟨gt,7,none⟩=some (.int .i64 b.f4):=(ae hdt.bt 7).trans rfl
    have hS1:∀ t,(nm.set y ((cy:Int)+1)).getD t 0=nm.getD t 0+(if y=t then 1 else 0):=by
     intro t
     rw [dm (by rw [HJI.out.jr.nl];exact hyL)]
     split
     · rename_i e;subst e;rw [HYT.out.2]
     omega
    have HS1:=aa.mk hS1
    clear hdt hS1
    rcases h1 with h1 | h1
    · have HE:aa (JI w Z gn L G (n+1) (nm.set y ((cy:Int)+1))):=⟨HJI.out.next HGN.out HJT.out.jr (fun t _=>by rw [HS1.out t,cE2 h1,HYT.out.1];split<;>rfl)⟩
      rw [h1] at b1
      clear h1 gnn HJT b7 h1' HJI
      go_wp2
      go_roundw
      case rel=>exact ⟨n+1,_,by omega,by go_num,HE⟩
      case measure=>simp [intOf];omega
    have gn2:=gnn h1
    obtain ⟨m,hm⟩:∃ m:Nat,b.f4=(m:Int):=⟨b.f4.toNat,by omega⟩
    have hmT:b.f4.toNat=m:=by rw [hm];rfl
    rw [hm] at b7
    have i6:(0:Int)≤(m:Int):=by omega
    have i7:(m:Int)<(L:Int):=by omega
    have hmL:m<L:=by omega
    obtain ⟨cm,ecm⟩:∃ cm:Nat,(nm.set y ((cy:Int)+1)).getD m 0=(cm:Int):=⟨jV (G.take n) m+(if y=m then 1 else 0),by rw [HS1.out m,HJI.out.eq m hmL];split<;>rfl⟩
    have hcm:cm≤8193:=by
     have h:=HS1.out m
     rw [ecm,HJI.out.eq m hmL] at h
     have h2:=xI m (G.take n)
     rw [List.length_take] at h2
     split at h<;>omega
    have kz:Z.frozen? ⟨gn,m,none⟩=false:=ah HJT.out.jr.nb m
    have k0:Z.cell? ⟨gn,m,none⟩=some (.int .i64 (cm:Int)):=by rw [←ecm];exact (ae HJT.out.jr.nb m).trans (jY (by rw [HJT.out.jr.nl];exact hmL))
    have HE:aa (JI w (Z.setCell ⟨gn,m,none⟩ (.int .i64 ((cm:Int)+1))) gn L G (n+1) ((nm.set y ((cy:Int)+1)).set m ((cm:Int)+1))):=⟨HJI.out.next HGN.out (HJT.out.rX m _).jr (fun t _=>by
     rw [dm (by rw [HJT.out.jr.nl];exact hmL),cE3 h1,HYT.out.1,hmT]
     have h:=HS1.out t
     by_cases e:m=t
     · subst e;rw [if_pos rfl,←ecm,h,if_pos rfl];split<;>omega
     rw [if_neg e,h,if_neg e];split<;>omega)⟩
    rw [h1] at b1
    clear h1 gnn gn2 HJT h1' hm hmT ecm HJI
    go_wp2
    go_roundw
    case rel=>exact ⟨n+1,_,by omega,by go_num,HE⟩
    case measure=>simp [intOf];omega
  have hnl:n=L:=by omega
  subst hnl
  obtain ⟨T,eT⟩:∃ T,T=jC G:=⟨_,rfl⟩
  have ET:=aa.mk eT
  have hB0:Below B.n w wr:=⟨HJI.out.jr.low.os,HJI.out.jr.low.tape,HJI.out.jr.low.output,HJI.out.jr.low.size,fun i hi=>HJI.out.jr.low.block i (by have:=ay HW.out.me;have:=HW.out.lo;omega)⟩
  have HJ0:aa (JL w wr B gw gb cap tl gn n T 0 false bs (frG G)):=⟨⟨⟨HW.out.below HJI.out.jr.low,EL.out.symm,hB0,by rw [←HJI.out.done HGL.out];exact HJI.out.jr.nb,by have:=HJI.out.jr.ln;have:=ay HW.out.me;have:=HW.out.lo;omega,by rw [←EG.out];exact HG.out,by rw [←EG.out];exact fr_0 G⟩,by rw [eT,←EG.out,Bool.false_or];unfold jC;rw [HGL.out];rfl⟩⟩
  have c0:wr.cell? ⟨gw,0,none⟩=some (.slice (some ⟨gb,0,none⟩) n cap):=by rw [EL.out];exact (ae HJ0.out.js.wk.me 0).trans rfl
  clear hB0 eT HJI hlt
  obtain ⟨wo,rfl⟩:∃ wo:World,wo=wr:=⟨_,rfl⟩
  go_wp2
  go_loopw [6,52] (fun v6 v52 wr=>∃ (a:Nat) (f:Bool) (bsn:List (Value × S47)) (fr:List Nat),a≤n∧v52 = .int .i64 a∧v6 = .bool f∧aa (JL w wr B gw gb cap tl gn n T a f bsn fr)) (fun _ v52 _=>n - (intOf v52).toNat)
  case atStart=>exact ⟨0,false,_,_,Nat.zero_le _,rfl,rfl,HJ0⟩
  case round=>
   clear HJ0 c0
   obtain ⟨a,f,bsn,fr,ha,rfl,rfl,HJL⟩:=hrel
   by_cases hlt:a<n
   · have i0:(0:Int)≤(a:Int):=by omega
     have i1:(a:Int)<(n:Int):=by omega
     have c0:wr.cell? ⟨gw,0,none⟩=some (.slice (some ⟨gb,0,none⟩) n cap):=by have h:=(ae HJL.out.js.wk.me 0).trans rfl;rw [HJL.out.js.len] at h;exact h
     have HJW:=aa.mk (HJL.out.enter hlt)
     clear HJL
     obtain ⟨wp,rfl⟩:∃ wp:World,wp=wr:=⟨_,rfl⟩
     go_wp2
     go_loopw [6] (fun v6 wr=>∃ (f:Bool) (bsn:List (Value × S47)) (fr:List Nat),v6 = .bool f∧aa (JW w wr B gw gb cap tl gn n T a f bsn fr)) (fun _ wr=>mJ wr gb a n)
     case atStart=>exact ⟨f,_,_,rfl,HJW⟩
     case round=>
      clear HJW c0
      obtain ⟨f,bsn,fr,rfl,HJW⟩:=hrel
      have hgl:(bsn.map (·.2)).length=n:=by rw [List.length_map,HJW.out.js.len]
      obtain ⟨v,b,hb⟩:∃ v b,bsn[a]?=some (v,b):=⟨(bsn[a]'(by rw [HJW.out.js.len];exact hlt)).1,(bsn[a]'(by rw [HJW.out.js.len];exact hlt)).2,List.getElem?_eq_getElem (by rw [HJW.out.js.len];exact hlt)⟩
      have hga:(bsn.map (·.2))[a]?=some b:=by rw [List.getElem?_map,hb];rfl
      have b1:wr.cell? ⟨gb,a*8+1,none⟩=some (.int .i64 b.f1):=(ae HJW.out.js.wk.row.row (a*8+1)).trans (bO hb (by omega))
      by_cases h2:b.f1=2
      · have hgy:=bE (HJW.out.js.gok.all a b hga).goal (by omega)
        rw [hgl] at hgy
        obtain ⟨y,hy⟩:∃ y:Nat,b.f3=(y:Int):=⟨b.f3.toNat,by omega⟩
        have hyT:b.f3.toNat=y:=by rw [hy];rfl
        have hay:a<y:=by omega
        have hyL:y<n:=by omega
        have b6:wr.cell? ⟨gb,a*8+6,none⟩=some (.int .i64 (y:Int)):=by rw [←hy];exact (ae HJW.out.js.wk.row.row (a*8+6)).trans (bO hb (by omega))
        have i4:(0:Int)≤(y:Int):=by omega
        have i5:(y:Int)<(n:Int):=by omega
        have hfl:(frI fr).length=n:=by unfold frI;rw [List.length_map,HJW.out.js.frk.len,hgl]
        have k0:wr.cell? ⟨gn,y,none⟩=some (.int .i64 (fr.getD y 0:Nat)):=by rw [←qp];exact (ae HJW.out.js.nb y).trans (jY (by rw [hfl];exact hyL))
        by_cases h1:fr.getD y 0=1
        · obtain ⟨vn,nx,hx⟩:∃ v b,bsn[y]?=some (v,b):=⟨(bsn[y]'(by rw [HJW.out.js.len];exact hyL)).1,(bsn[y]'(by rw [HJW.out.js.len];exact hyL)).2,List.getElem?_eq_getElem (by rw [HJW.out.js.len];exact hyL)⟩
          rw [h1] at k0
          rw [h2] at b1
          have c0:wr.cell? ⟨gw,0,none⟩=some (.slice (some ⟨gb,0,none⟩) n cap):=by have h:=(ae HJW.out.js.wk.me 0).trans rfl;rw [HJW.out.js.len] at h;exact h
          have HB:=aa.mk (And.intro hb (And.intro hx (And.intro hyT (And.intro h2 h1))))
          have HLEN:aa (b.f0.length≤4096∧nx.f0.length≤4096):=⟨HJW.out.js.gok.len hga,HJW.out.js.gok.len (by rw [List.getElem?_map,hx];rfl)⟩
          have HMJ:aa (mJ wr gb a n=n - y):=⟨by rw [mJ_eq HJW.out.js.wk.row.row hb,if_pos h2,hyT]⟩
          have HGY:aa (nx.f1=2→y<nx.f3.toNat):=⟨fun e=>by have h:=bE (HJW.out.js.gok.all y nx (by rw [List.getElem?_map,hx];rfl)).goal (by omega);omega⟩
          have hcb:Cd wr v b.f0:=HJW.out.js.wk.row.code a _ hb
          have hcn:Cd wr vn nx.f0:=HJW.out.js.wk.row.code y _ hx
          obtain ⟨Ab,cb,rfl⟩:=hcb.slice
          obtain ⟨An,cn,rfl⟩:=hcn.slice
          have HFL:=aa.mk hfl
          clear hga hgl hgy hb hx hy hyT hcb hcn h1 h2 hfl
          go_upto_region 16 with (fail)
          go_quiet (fail)
          go_upto_region 17 with (fail)
          refine forget (fun X=>JW w X B gw gb cap tl gn n T a f bsn fr∧Below wr.heap.size wr X) ⟨⟨HJW.out.js.below jU,HJW.out.res⟩,by repeat (first | (with_reducible exact Below.refl _ _) | apply aj | apply af)⟩ ?_
          clear b1 b6 k0 c0 HJW
          rintro X ⟨hjw,hbx⟩
          have hb:=HB.out.1
          have hx:=HB.out.2.1
          have hrow:=hjw.js.wk.row.row
          have hcb:=hjw.js.wk.row.code a _ hb
          have hcn:=hjw.js.wk.row.code y _ hx
          have p0:X.cell? ⟨gb,a*8,none⟩=some (.slice Ab b.f0.length cb):=(ae hrow (a*8+0)).trans (bO hb (by omega))
          have q0:X.cell? ⟨gb,y*8,none⟩=some (.slice An nx.f0.length cn):=(ae hrow (y*8+0)).trans (bO hx (by omega))
          have HRB:aa (k45.R 45 X.drew B.n (fun _=>True) (.slice Ab b.f0.length cb) b.f0):=⟨mY (hcb.below (af (Below.refl _ _))) (fun g hg=>⟨hjw.js.wk.row.lo.2 _ (List.mem_of_getElem? hb) g hg,trivial⟩)⟩
          have HCN:aa (k45.C X.drew An nx.f0.length nx.f0):=⟨Cd.c (hcn.below (af (Below.refl _ _)))⟩
          have HLW:aa (Below B.n w X.drew∧B.n≤X.drew.heap.size):=⟨⟨hjw.js.low.trans ⟨rfl,rfl,rfl,Nat.le_refl _,fun _ _=>rfl⟩,by have h1:=ay hjw.js.wk.me;have h2:=hjw.js.wk.lo;show B.n≤X.heap.size;omega⟩⟩
          have HNO:aa (∀ x,some x=(Value.slice Ab b.f0.length cb).ownBlock→x≠gb∧x≠gn):=⟨fun x e=>by
           obtain ⟨cs,h1⟩:=hcb.lt e.symm
           exact ⟨bF h1 hrow (by decide),bF h1 hjw.js.nb (by decide)⟩⟩
          have HJW:=aa.mk hjw
          have HBX:=aa.mk hbx
          clear hb hx hrow hcb hcn hjw hbx
          refine fF 10 (fun w'=>w'.cell? ⟨gb,a*8,none⟩=some (.slice Ab b.f0.length cb)∧w'.cell? ⟨gb,y*8,none⟩=some (.slice An nx.f0.length cn)) [8] ⟨p0,q0⟩ (fun hHeld=>?_)
          refine bi 0 85 ?_
          refine bi 1 86 ?_
          refine bi 2 87 ?_
          refine bi 4 89 ?_
          refine bi 5 90 ?_
          refine bi 6 91 ?_
          refine dn 3 88 hHeld ?_
          refine dn 7 92 hHeld ?_
          refine gD 8 (some 93) (fun K hK=>?_)
          refine ve k45 (Rr:=k45.K X.drew) (w0:=w) (W:=X.drew) B.n (.tmp 88) (.tmp 92) 26 45 (.agg #[.int .u16 0,.int .u8 0,.int .u8 0,.int .u32 0]) 8 (by rfl) (by rfl) hu mh rfl (by decide) (by decide) (.slice Ab b.f0.length cb) b.f0 nx.f0 An nx.f0.length cn (by rfl) (by rfl) HRB.out HCN.out (fun x cs h=>by obtain rfl:=jP h;exact kR _ _ _ x) HLW.out.1 HLW.out.2 (by have:=HLEN.out;omega) ?_
          intro v1 w1 hR hB hG hat
          obtain ⟨A1,cc1,rfl⟩:=Kd.iU hR
          have HAP:=aa.mk (And.intro hR (And.intro hG hat))
          clear hR hB hG hat
          refine hK.out _ _ ?_
          clear hK K
          refine gF 93 ?_
          refine bi 9 10 ?_
          refine fO (by kernel_rfl) ?_
          go_upto_region 18 with (fail)
          refine forget (fun Y=>Kp (fun x=>some x=(Value.slice Ab b.f0.length cb).ownBlock) X Y∧Cd Y (.slice A1 (b.f0.length+nx.f0.length) cc1) (b.f0++nx.f0)) ⟨((Kp.refl _ X).below (af (Below.refl _ _))).grown HAP.out.2.1 (fun b hb => .inl hb.symm),by have h:=lF HAP.out.1;rw [List.length_append] at h;exact h⟩ ?_
          have HAT:aa ((Value.slice A1 (b.f0.length+nx.f0.length) cc1).ownBlock=(Value.slice Ab b.f0.length cb).ownBlock∨∃ g,(Value.slice A1 (b.f0.length+nx.f0.length) cc1).ownBlock=some g∧X.heap.size≤g):=⟨by have h:=HAP.out.2.2;rw [List.length_append] at h;exact h⟩
          clear p0 q0 HRB HCN HLW HAP
          rintro Y ⟨hky,hcy⟩
          have hrow:Y.heap[gb]?=some (.cells (bf bsn tl) 47 (0,0)):=(hky.block gb (ay HJW.out.js.wk.row.row) (fun e=>(HNO.out gb e).1 rfl)).trans HJW.out.js.wk.row.row
          have hnb:Y.heap[gn]?=some (.cells (inC (frI fr)) 3 (0,0)):=(hky.block gn (ay HJW.out.js.nb) (fun e=>(HNO.out gn e).2 rfl)).trans HJW.out.js.nb
          have b6:Y.cell? ⟨gb,a*8+6,none⟩=some (.int .i64 (y:Int)):=by
           have e:b.f3=(y:Int):=by
            have h:=HB.out.2.2.1
            have hgy:=bE (HJW.out.js.gok.all a b (by rw [List.getElem?_map,HB.out.1];rfl)).goal (by have:=HB.out.2.2.2.1;omega)
            omega
           rw [←e];exact (ae hrow (a*8+6)).trans (bO HB.out.1 (by omega))
          have kz:Y.frozen? ⟨gn,y,none⟩=false:=ah hnb y
          have k0:Y.cell? ⟨gn,y,none⟩=some (.int .i64 (fr.getD y 0:Nat)):=by rw [←qp];exact (ae hnb y).trans (jY (by rw [HFL.out];exact hyL))
          have HY:=aa.mk (And.intro hky (And.intro hcy (And.intro hrow hnb)))
          clear hky hcy hrow hnb
          go_upto_region 19 with (fail)
          refine forget (fun Z=>Kp (fun x=>x=gb∨x=gn∨some x=(Value.slice Ab b.f0.length cb).ownBlock) X Z∧Cd Z (.slice A1 (b.f0.length+nx.f0.length) cc1) (b.f0++nx.f0)∧Z.heap[gb]?=some (.cells (bf bsn tl) 47 (0,0))∧Z.heap[gn]?=some (.cells (inC (frI (fr.set y 0))) 3 (0,0)))
           ⟨(Kp.mono HY.out.1 (fun x e => .inr (.inr e))).set (.inl (.inr (.inl rfl))) _ _,HY.out.2.1.kp ((Kp.refl (fun x=>x=gn) Y).set (.inl rfl) _ _) (fun g hg e=>by
            subst e
            obtain ⟨cs,h1⟩:=HY.out.2.1.lt hg
            exact bF h1 HY.out.2.2.2 (by decide) rfl),(Deep.blk_setCell_other _ _ _ _ (bF HY.out.2.2.1 HY.out.2.2.2 (by decide))).trans HY.out.2.2.1,aI HY.out.2.2.2 y _ ((qA y 0).trans (by rw [frI_set]))⟩ ?_
          clear b6 kz k0 HY
          rintro Z ⟨hkz,hcz,hrow,hnb⟩
          have g:=fun (jj:Nat) (hh:jj<8)=>(ae hrow (y*8+jj)).trans (bO HB.out.2.1 hh)
          have q1:Z.cell? ⟨gb,y*8+1,none⟩=some (.int .i64 nx.f1):=g 1 (by omega)
          have q2:Z.cell? ⟨gb,y*8+2,none⟩=some (.int .u16 nx.f2.f0):=g 2 (by omega)
          have q3:Z.cell? ⟨gb,y*8+3,none⟩=some (.int .u8 nx.f2.f1):=g 3 (by omega)
          have q4:Z.cell? ⟨gb,y*8+4,none⟩=some (.int .u8 nx.f2.f2):=g 4 (by omega)
          have q5:Z.cell? ⟨gb,y*8+5,none⟩=some (.int .u32 nx.f2.f3):=g 5 (by omega)
          have q6:Z.cell? ⟨gb,y*8+6,none⟩=some (.int .i64 nx.f3):=g 6 (by omega)
          have q7:Z.cell? ⟨gb,y*8+7,none⟩=some (.int .i64 nx.f4):=g 7 (by omega)
          have z0:Z.frozen? ⟨gb,a*8,none⟩=false:=ah hrow (a*8+0)
          have z1:=ah hrow (a*8+1)
          have z2:=ah hrow (a*8+2)
          have z3:=ah hrow (a*8+3)
          have z4:=ah hrow (a*8+4)
          have z5:=ah hrow (a*8+5)
          have z6:=ah hrow (a*8+6)
          have z7:=ah hrow (a*8+7)
          have p0:Z.cell? ⟨gb,a*8,none⟩=some (.slice Ab b.f0.length cb):=(ae hrow (a*8+0)).trans (bO HB.out.1 (by omega))
          have p1:Z.cell? ⟨gb,a*8+1,none⟩=some (.int .i64 b.f1):=(ae hrow (a*8+1)).trans (bO HB.out.1 (by omega))
          have p2:Z.cell? ⟨gb,a*8+2,none⟩=some (.int .u16 b.f2.f0):=(ae hrow (a*8+2)).trans (bO HB.out.1 (by omega))
          have p3:Z.cell? ⟨gb,a*8+3,none⟩=some (.int .u8 b.f2.f1):=(ae hrow (a*8+3)).trans (bO HB.out.1 (by omega))
          have p4:Z.cell? ⟨gb,a*8+4,none⟩=some (.int .u8 b.f2.f2):=(ae hrow (a*8+4)).trans (bO HB.out.1 (by omega))
          have p5:Z.cell? ⟨gb,a*8+5,none⟩=some (.int .u32 b.f2.f3):=(ae hrow (a*8+5)).trans (bO HB.out.1 (by omega))
          have p6:Z.cell? ⟨gb,a*8+6,none⟩=some (.int .i64 b.f3):=(ae hrow (a*8+6)).trans (bO HB.out.1 (by omega))
          have p7:Z.cell? ⟨gb,a*8+7,none⟩=some (.int .i64 b.f4):=(ae hrow (a*8+7)).trans (bO HB.out.1 (by omega))
          have HZ:=aa.mk (And.intro hkz (And.intro hcz (And.intro hrow hnb)))
          clear g hkz hcz hrow hnb
          refine fF 21 (fun w'=>w'.cell? ⟨gb,y*8+1,none⟩=some (.int .i64 nx.f1)∧w'.cell? ⟨gb,y*8+2,none⟩=some (.int .u16 nx.f2.f0)∧w'.cell? ⟨gb,y*8+3,none⟩=some (.int .u8 nx.f2.f1)∧w'.cell? ⟨gb,y*8+4,none⟩=some (.int .u8 nx.f2.f2)∧w'.cell? ⟨gb,y*8+5,none⟩=some (.int .u32 nx.f2.f3)∧w'.cell? ⟨gb,y*8+6,none⟩=some (.int .i64 nx.f3)∧w'.cell? ⟨gb,y*8+7,none⟩=some (.int .i64 nx.f4)∧w'.frozen? ⟨gb,a*8,none⟩=false∧w'.frozen? ⟨gb,a*8+1,none⟩=false∧w'.frozen? ⟨gb,a*8+2,none⟩=false∧w'.frozen? ⟨gb,a*8+3,none⟩=false∧w'.frozen? ⟨gb,a*8+4,none⟩=false∧w'.frozen? ⟨gb,a*8+5,none⟩=false∧w'.frozen? ⟨gb,a*8+6,none⟩=false∧w'.frozen? ⟨gb,a*8+7,none⟩=false∧w'.cell? ⟨gb,a*8,none⟩=some (.slice Ab b.f0.length cb)∧w'.cell? ⟨gb,a*8+1,none⟩=some (.int .i64 b.f1)∧w'.cell? ⟨gb,a*8+2,none⟩=some (.int .u16 b.f2.f0)∧w'.cell? ⟨gb,a*8+3,none⟩=some (.int .u8 b.f2.f1)∧w'.cell? ⟨gb,a*8+4,none⟩=some (.int .u8 b.f2.f2)∧w'.cell? ⟨gb,a*8+5,none⟩=some (.int .u32 b.f2.f3)∧w'.cell? ⟨gb,a*8+6,none⟩=some (.int .i64 b.f3)∧w'.cell? ⟨gb,a*8+7,none⟩=some (.int .i64 b.f4)) [20] ⟨q1,q2,q3,q4,q5,q6,q7,z0,z1,z2,z3,z4,z5,z6,z7,p0,p1,p2,p3,p4,p5,p6,p7⟩ (fun hHeld=>?_)
          refine bi 0 100 ?_
          refine bi 1 101 ?_
          refine bi 2 102 ?_
          refine bi 3 103 ?_
          refine bi 4 104 ?_
          refine bi 6 106 ?_
          refine bi 7 107 ?_
          refine bi 8 108 ?_
          refine bi 10 110 ?_
          refine bi 11 111 ?_
          refine bi 12 112 ?_
          refine bi 14 114 ?_
          refine bi 15 115 ?_
          refine bi 16 116 ?_
          refine dn 5 105 hHeld ?_
          refine dn 9 109 hHeld ?_
          refine dn 13 113 hHeld ?_
          refine dn 17 117 hHeld ?_
          refine bi 18 118 ?_
          refine bi 19 119 ?_
          refine gD 20 none (fun K hK=>?_)
          refine iD ?_
          refine hK.out _ _ ?_
          clear hK K
          refine fO (by kernel_rfl) ?_
          go_upto_region 20 with (fail)
          refine forget (fun U=>Kp (fun x=>x=gb∨x=gn∨some x=(Value.slice Ab b.f0.length cb).ownBlock) X U∧Cd U (.slice A1 (b.f0.length+nx.f0.length) cc1) (b.f0++nx.f0)∧U.heap[gb]?=some (.cells (bf (bsn.set a ((.slice A1 (b.f0.length+nx.f0.length) cc1),mgB b nx)) tl) 47 (0,0))∧U.heap[gn]?=some (.cells (inC (frI (fr.set y 0))) 3 (0,0)))
           (by
             have hk8:Kp (fun x=>x=gb) Z (tO Z gb a ((.slice A1 (b.f0.length+nx.f0.length) cc1),mgB b nx)).drew:=(uO (Kp.refl (fun x=>x=gb) Z) rfl).below (af (Below.refl _ _))
             have hk9:Kp (fun x=>x=gb∨x=gn∨some x=(Value.slice Ab b.f0.length cb).ownBlock) X (tO Z gb a ((.slice A1 (b.f0.length+nx.f0.length) cc1),mgB b nx)).drew:=HZ.out.1.trans (Kp.mono hk8 (fun x e => .inl e))
             have hc9:Cd (tO Z gb a ((.slice A1 (b.f0.length+nx.f0.length) cc1),mgB b nx)).drew (.slice A1 (b.f0.length+nx.f0.length) cc1) (b.f0++nx.f0):=HZ.out.2.1.kp hk8 (fun g hg e=>by
              subst e
              obtain ⟨cs,h1⟩:=HZ.out.2.1.lt hg
              exact bF h1 HZ.out.2.2.1 (by decide) rfl)
             have hr9:=aY (rP HZ.out.2.2.1 HB.out.1 ((.slice A1 (b.f0.length+nx.f0.length) cc1),mgB b nx))
             have hn9:=(hk8.block gn (ay HZ.out.2.2.2) (bF HZ.out.2.2.2 HZ.out.2.2.1 (by decide))).trans HZ.out.2.2.2
             exact ⟨hk9,hc9,hr9,hn9⟩) ?_
          clear p0 p1 p2 p3 p4 p5 p6 p7 q1 q2 q3 q4 q5 q6 q7 z0 z1 z2 z3 z4 z5 z6 z7 HZ
          rintro U ⟨hku,hcu,hrow,hnb⟩
          have z0:U.frozen? ⟨gb,y*8,none⟩=false:=ah hrow (y*8+0)
          have z1:=ah hrow (y*8+1)
          have z2:=ah hrow (y*8+2)
          have z3:=ah hrow (y*8+3)
          have z4:=ah hrow (y*8+4)
          have z5:=ah hrow (y*8+5)
          have z6:=ah hrow (y*8+6)
          have z7:=ah hrow (y*8+7)
          have hx2:(bsn.set a ((.slice A1 (b.f0.length+nx.f0.length) cc1),mgB b nx))[y]?=some (.slice An nx.f0.length cn,nx):=by rw [List.getElem?_set_ne (by omega)];exact HB.out.2.1
          have q0:U.cell? ⟨gb,y*8,none⟩=some (.slice An nx.f0.length cn):=(ae hrow (y*8+0)).trans (bO hx2 (by omega))
          have q1:U.cell? ⟨gb,y*8+1,none⟩=some (.int .i64 nx.f1):=(ae hrow (y*8+1)).trans (bO hx2 (by omega))
          have q2:U.cell? ⟨gb,y*8+2,none⟩=some (.int .u16 nx.f2.f0):=(ae hrow (y*8+2)).trans (bO hx2 (by omega))
          have q3:U.cell? ⟨gb,y*8+3,none⟩=some (.int .u8 nx.f2.f1):=(ae hrow (y*8+3)).trans (bO hx2 (by omega))
          have q4:U.cell? ⟨gb,y*8+4,none⟩=some (.int .u8 nx.f2.f2):=(ae hrow (y*8+4)).trans (bO hx2 (by omega))
          have q5:U.cell? ⟨gb,y*8+5,none⟩=some (.int .u32 nx.f2.f3):=(ae hrow (y*8+5)).trans (bO hx2 (by omega))
          have q6:U.cell? ⟨gb,y*8+6,none⟩=some (.int .i64 nx.f3):=(ae hrow (y*8+6)).trans (bO hx2 (by omega))
          have q7:U.cell? ⟨gb,y*8+7,none⟩=some (.int .i64 nx.f4):=(ae hrow (y*8+7)).trans (bO hx2 (by omega))
          have hr2:=rP hrow hx2 (.slice none 0 0,ji)
          have hk2:Kp (fun x=>x=gb) U (tO U gb y (.slice none 0 0,ji)):=uO (Kp.refl _ U) rfl
          have hwk:=join_wk HJW.out.js HB.out.1 HB.out.2.1 (by omega) hku hrow hcu HAT.out hk2 hr2
          have HEND:=aa.mk (HJW.out.step HB.out.2.2.1 HB.out.1 HB.out.2.1 HB.out.2.2.2.1 HB.out.2.2.2.2 hwk.1 hwk.2 ((hk2.block gn (ay hnb) (bF hnb hrow (by decide))).trans hnb))
          have hnew:((bsn.set a ((.slice A1 (b.f0.length+nx.f0.length) cc1),mgB b nx)).set y (.slice none 0 0,ji))[a]?=some ((.slice A1 (b.f0.length+nx.f0.length) cc1),mgB b nx):=by rw [List.getElem?_set_ne (by omega)];exact aG HB.out.1
          have HME:aa (mJ (tO U gb y (.slice none 0 0,ji)) gb a n<mJ wr gb a n):=⟨by
           rw [HMJ.out,mJ_eq hr2 hnew]
           show (if nx.f1=2 then n - nx.f3.toNat else 0)<_
           split
           · rename_i e;have:=HGY.out e;omega
           omega⟩
          clear hku hcu hrow hnb hx2 hr2 hk2 hwk hnew
          go_wp2
          go_roundw
          case rel=>exact ⟨true,_,_,rfl,HEND⟩
          case measure=>exact HME.out
        have h1':((fr.getD y 0:Nat):Int)≠1:=by omega
        have h1b:(((fr.getD y 0:Nat):Int)==1)=false:=aX h1'
        have HE:aa (JL w wr B gw gb cap tl gn n T (a+1) f bsn fr):=⟨HJW.out.leave (by
         unfold jnY
         rw [hga]
         dsimp only
         rw [if_neg (by rw [hyT];exact fun q=>h1 q.2)])⟩
        rw [h2] at b1
        obtain ⟨fy,efy⟩:∃ fy,fy=fr.getD y 0:=⟨_,rfl⟩
        rw [←efy] at k0 h1b h1'
        clear hga hgl hgy hb hy hyT h1 h2 hfl HJW efy
        go_wp2
        go_roundw
        case rel=>exact ⟨a+1,f,_,_,by omega,by go_num,rfl,HE⟩
        case measure=>simp [intOf];omega
      have h2b:(b.f1==2)=false:=aX h2
      have HE:aa (JL w wr B gw gb cap tl gn n T (a+1) f bsn fr):=⟨HJW.out.leave (by
       unfold jnY
       rw [hga]
       dsimp only
       rw [if_neg (fun q=>h2 q.1)])⟩
      clear hga hgl hb h2 HJW
      go_wp2
      go_roundw
      case rel=>exact ⟨a+1,f,_,_,by omega,by go_num,rfl,HE⟩
      case measure=>simp [intOf];omega
   have han:a=n:=by omega
   subst han
   have hres:=HJL.out.res
   rw [Nat.sub_self,jnL,Bool.or_false] at hres
   have HE:=aa.mk hres
   clear hres hlt
   go_wp2
   go_ret
   rw [←ET.out,HE.out]
   exact ⟨rfl,⟨bsn,rfl,HJL.out.js.wk⟩,HJL.out.js.low⟩
theorem qK (w:World):Calls Try.prog 53 #[] w fun e w'=>e = .returned (.slice (some ⟨w.heap.size,0,none⟩) 6 6)∧w'=w.alloc (.cells psC 86):=by
 go_enter Try.func53,Try.ntmps53
 go_wp2
 go_ret
 exact ⟨rfl,rfl⟩
structure BI (w X:World) (gw:Nat) (vw:Value) (bs:List (Value × S47)):Prop where
 low:Below w.heap.size w X
 me:X.heap[gw]?=some (.cells #[vw] 83 (0,0))
 lo:w.heap.size≤gw
 out:(Kd.raw 8).R 47 X w.heap.size (fun _=>True) vw (bs.map b8)
 code:∀ (i:Nat) (p:Value × S47),bs[i]?=some p→Cd X p.1 p.2.f0
 apt:Apt bs
 own:∀ p∈bs,∀ g,p.1.ownBlock=some g→w.heap.size≤g
section
variable {w X Y:World} {gw:Nat} {vw:Value} {bs:List (Value × S47)} {b:S47}
theorem BI.below (h:BI w X gw vw bs) (hb:Below X.heap.size X Y):BI w Y gw vw bs:=
 ⟨au h.low hb,ak h.me hb,h.lo,Kd.gT h.out hb,fun i p hp=>(h.code i p hp).below hb,h.apt,h.own⟩
theorem BI.snoc {w5:World} {vc v1:Value} (H:BI w X gw vw bs) (hb:Below X.heap.size X Y) (hc:Cd Y vc b.f0) (hvc:∀ g,vc.ownBlock=some g→X.heap.size≤g)
 (hR:(Kd.raw 8).R 47 w5 w.heap.size (fun _=>True) v1 (bs.map b8++[b8 (vc,b)])) (hB:Below w.heap.size w w5) (hG:Y.drew.grownBy w5 vw.ownBlock):BI w (w5.setCell ⟨gw,0,none⟩ v1) gw v1 (bs++[(vc,b)]):=by
 have HY:=H.below hb
 have hk:Kp (fun x=>some x=vw.ownBlock) Y w5:=((Kp.refl _ Y).below (af (Below.refl _ _))).grown hG (fun b hb => .inl hb.symm)
 have hme:w5.heap[gw]?=some (.cells #[vw] 83 (0,0)):=(hk.block gw (ay HY.me) (Kd.wN HY.out HY.me (by decide))).trans HY.me
 have hcd:∀ (v:Value) (c:List S45),Cd Y v c→Cd (w5.setCell ⟨gw,0,none⟩ v1) v c:=by
  intro v c hv
  have h1:Cd w5 v c:=hv.kp hk (fun g hg=>by
   obtain ⟨cs,h1⟩:=hv.lt hg
   exact Kd.wN HY.out h1 (by decide))
  exact h1.kp ((Kp.refl (fun x=>x=gw) w5).set (.inl rfl) 0 v1) (fun g hg e=>by
   subst e
   obtain ⟨cs,h2⟩:=h1.lt hg
   exact bF hme h2 (by decide) rfl)
 refine ⟨hB.setCell H.lo _,aI hme 0 v1 rfl,H.lo,?_,?_,?_,?_⟩
 · rw [List.map_append]
   exact Kd.R_set hR hme (by decide) 0 v1
 · intro i p hp
   by_cases hi:i<bs.length
   · rw [List.getElem?_append_left hi] at hp
     exact hcd _ _ (HY.code i p hp)
   rw [List.getElem?_append_right (by omega)] at hp
   have h0:i - bs.length=0:=by
    have:=(List.getElem?_eq_some_iff.1 hp).1
    simp at this
    omega
   rw [h0] at hp
   cases hp
   exact hcd _ _ hc
 · have ha:=H.apt
   unfold Apt at ha ⊢
   rw [List.map_append]
   refine List.pairwise_append.2 ⟨ha,List.pairwise_singleton _ _,?_⟩
   intro p hp q hq g hg hg2
   obtain ⟨p',hp',rfl⟩:=List.mem_map.1 hp
   obtain rfl:=List.mem_singleton.1 hq
   obtain ⟨j,hj,rfl⟩:=List.getElem_of_mem hp'
   obtain ⟨cs,h1⟩:=(H.code j _ (List.getElem?_eq_getElem hj)).lt hg
   have h2:=ay h1
   have h3:=hvc g hg2
   omega
 intro p hp g hg
 rcases List.mem_append.1 hp with h | h
 · exact H.own p h g hg
 obtain rfl:=List.mem_singleton.1 h
 have:=hvc g hg
 have:=H.low.size
 omega
end
def oF:Nat→List S47→List S47 × Bool
 | 0=>iI
 | 1=>iq
 | 2=>iZ
 | 3=>gJ
 | 4=>gY
 | _=>jC
theorem qJ (j:Nat) {g:List S47} (hg:GOk g):iM g (oF j g).1 (oF j g).2:=by
 match j with
 | 0=>exact jy hg
 | 1=>exact jo hg
 | 2=>exact jq hg
 | 3=>exact jA hg
 | 4=>exact jv hg
 | _+5=>exact mH hg
def psG (g:List S47):Nat→List S47 × Bool
 | 0=>(g,false)
 | j+1=>((oF j (psG g j).1).1,(oF j (psG g j).1).2||(psG g j).2)
theorem psG_6 (g:List S47):psG g 6=gG g:=by
 unfold gG
 simp only [psG,oF,r1,r2,r3,r4,r5,r6,Bool.or_false]
theorem psG_ok {g:List S47} (hg:GOk g):∀ j,GOk (psG g j).1:=by
 intro j
 induction j with
 | zero=>exact hg
 | succ j ih=>exact (qJ j ih).gok
structure IA (w X:World) (gw gp:Nat) (R:List S47) (k:Nat) (f:Bool) (gb cap:Nat) (bs:List (Value × S47)) (tl:List Value):Prop where
 wr:Wr8 X w.heap.size gb cap bs tl
 me:X.heap[gw]?=some (.cells #[.slice (some ⟨gb,0,none⟩) bs.length cap] 83 (0,0))
 lo:w.heap.size≤gw
 low:Below w.heap.size w X
 gok:GOk (bs.map (·.2))
 more:f=true→phG (bs.map (·.2))<k∧o8 k (bs.map (·.2))=R
 done:f=false→bs.map (·.2)=R
structure IB (w X:World) (gw gp:Nat) (x:List S47) (j:Nat) (f:Bool) (gb cap:Nat) (bs:List (Value × S47)) (tl:List Value):Prop where
 wk:Wk X ⟨w.heap.size,gp⟩ gw gb cap bs tl
 low:Below w.heap.size w X
 eq:(bs.map (·.2),f)=psG x j
section
variable {w X Y:World} {gw gp k gb cap j:Nat} {R x:List S47} {f:Bool} {bs:List (Value × S47)} {tl:List Value}
theorem IA.start {gp':Nat} (h:IA w X gw gp R k f gb cap bs tl) (hb:Below X.heap.size X Y) (hp:Y.heap[gp']?=some (.cells psC 86 (0,0))):IB w Y gw gp' (bs.map (·.2)) 0 false gb cap bs tl:=
 ⟨⟨ak h.me hb,h.wr.below hb,h.lo,hp⟩,au h.low hb,rfl⟩
theorem IA.next (h:IA w X gw gp R (k+1) true gb cap bs tl) {gp2 gb2 cap2:Nat} {bs2:List (Value × S47)} {tl2:List Value} (h2:IB w Y gw gp2 (bs.map (·.2)) 6 f gb2 cap2 bs2 tl2):IA w Y gw gp2 R k f gb2 cap2 bs2 tl2:=by
 have e:=h2.eq
 rw [psG_6] at e
 have e1:bs2.map (·.2)=(gG (bs.map (·.2))).1:=congrArg Prod.fst e
 have e2:f=(gG (bs.map (·.2))).2:=congrArg Prod.snd e
 have hb:=j6 h.gok
 obtain ⟨m1,m2⟩:=h.more rfl
 unfold o8 at m2
 refine ⟨h2.wk.row,h2.wk.me,h2.wk.lo,h2.low,by rw [e1];exact hb.gok,fun hf=>?_,fun hf=>?_⟩
 · rw [e2] at hf
   rw [if_pos hf] at m2
   have:=hb.less hf
   rw [e1]
   exact ⟨by omega,m2⟩
 rw [e2] at hf
 rw [if_neg (by rw [hf];decide)] at m2
 rw [e1];exact m2
theorem IB.next (h:IB w X gw gp x j f gb cap bs tl) {gb2 cap2:Nat} {bs2:List (Value × S47)} {tl2:List Value} {f2:Bool} (hw:Wk Y ⟨w.heap.size,gp⟩ gw gb2 cap2 bs2 tl2) (hb:Below w.heap.size X Y) (e1:bs2.map (·.2)=(oF j (bs.map (·.2))).1) (e2:f2=((oF j (bs.map (·.2))).2||f)):IB w Y gw gp x (j+1) f2 gb2 cap2 bs2 tl2:=by
 refine ⟨hw,h.low.trans hb,?_⟩
 have e:=h.eq
 have e3:bs.map (·.2)=(psG x j).1:=congrArg Prod.fst e
 have e4:f=(psG x j).2:=congrArg Prod.snd e
 rw [e1,e2,e3,e4]
 rfl
end
theorem BI.ia {w X:World} {gw:Nat} {vw:Value} {bs:List (Value × S47)} {g:List S47} (H:BI w X gw vw bs) (e:bs.map (·.2)=g) (hG:GOk g):∃ gb cap tl,IA w X gw 0 (o8 (phG g+1) g) (phG g+1) true gb cap bs tl:=by
 have hne:bs≠[]:=by
  intro h
  have:=hG.some_
  rw [←e,h] at this
  exact absurd this (by decide)
 obtain ⟨gb,cap,tl,e2,hge,hr,hs,hle,hmx⟩:=oH H.out hne
 exact ⟨gb,cap,tl,⟨hr,hs,hle,hmx,H.code,uy H.apt,hge,H.own⟩,by rw [←e2];exact H.me,H.lo,H.low,by rw [e];exact hG,fun _=>by rw [e];exact ⟨Nat.lt_succ_self _,rfl⟩,fun h=>by cases h⟩
theorem xO (X:World):Cd (X.alloc (.cells #[] 45)) (.slice (some ⟨X.heap.size,0,none⟩) 0 0) []:=
 .inr ⟨X.heap.size,0,[],rfl,⟨heap_alloc_new _ _,Nat.le_refl _,Nat.zero_le _,rfl⟩⟩
theorem om (w:World) (g:List S47) (A:Option Addr) (c k:Nat) (r:Int) (HG0:Kd.C k47 w A g.length g) (hc:g.length≤c) (hck:bJ.f k g=some (r,0)) (hG:GOk g) :
 Calls Try.prog 27 #[.slice A g.length c] w fun e w'=>∃ gb cap bs tl,e = .returned (.tuple #[.slice (some ⟨gb,0,none⟩) bs.length cap,.int .i64 0])∧Wr8 w' w.heap.size gb cap bs tl∧bs.map (·.2)=o8 (phG g+1) g∧Below w.heap.size w w':=by
 have hL:g.length≤4096:=hG.few
 have hu:=Try.underlying26
 have hub:=Try.underlying22
 have HA:=aa.mk HG0
 have HCK:=aa.mk (And.intro hc hck)
 have HG:=aa.mk hG
 clear HG0 hc hck hG
 go_enter Try.func27,Try.ntmps27
 go_upto_region 2 with (go_at_call 52;refine (bJ.calls k A c g r 0 w HA.out HCK.out.1 HCK.out.2).mono ?_;rintro e w2 ⟨rfl,hb2⟩;have HB2:=aa.mk hb2;clear hb2)
 go_upto_region 5 with (fail)
 refine forget (fun X=>∃ gw,gw=w2.heap.size∧BI w X gw (.slice none 0 0) []) ⟨_,rfl,ai HB2.out _,heap_alloc_new _ _,HB2.out.size,Kd.kX _ _ _ _ _,fun i p h=>by simp at h,List.Pairwise.nil,fun p h=>by cases h⟩ ?_
 rintro X ⟨gw,egw,hbi⟩
 rw [←egw]
 have HBI:=aa.mk hbi
 clear egw hbi
 go_wp2
 go_loopw [23] (fun v23 wr=>∃ (n:Nat) (vw:Value) (bsn:List (Value × S47)),n≤g.length∧v23 = .int .i64 n∧aa (BI w wr gw vw bsn)∧aa (bsn.map (·.2)=g.take n)) (fun v23 _=>g.length - (intOf v23).toNat)
 case atStart=>exact ⟨0,_,[],Nat.zero_le _,rfl,HBI,⟨by rw [List.take_zero];rfl⟩⟩
 case round=>
  clear HBI
  obtain ⟨n,vw,bsn,hn,rfl,HBI,HTK⟩:=hrel
  obtain ⟨Aw,lw,cw,rfl⟩:∃ Aw lw cw,vw = .slice Aw lw cw:=by
   obtain ⟨A,c,e⟩:=Kd.iU HBI.out.out
   exact ⟨_,_,_,e⟩
  by_cases hlt:n<g.length
  · obtain ⟨a1,A1,c1,rfl,x0,x1,x2,x3,x4,x5,x6,x7,hl1,hi1⟩:=nQ HA.out (n:Int) (by omega) (by omega)
    have hbl:=HBI.out.low
    replace x0:=ax hbl x0
    replace x1:=ax hbl x1
    replace x2:=ax hbl x2
    replace x3:=ax hbl x3
    replace x4:=ax hbl x4
    replace x5:=ax hbl x5
    replace x6:=ax hbl x6
    replace x7:=ax hbl x7
    rw [Int.toNat_natCast] at x0 x1 x2 x3 x4 x5 x6 x7
    have htk:g.take n++[av g (n:Int)]=g.take (n+1):=by rw [List.take_succ_eq_append_getElem hlt,j4 hlt]
    have hgl:(av g (n:Int)).f0.length≤4096:=HG.out.len (j:=n) (by rw [j4 hlt];exact List.getElem?_eq_getElem hlt)
    have HT:=aa.mk htk
    generalize av g (n:Int)=b at *
    have HI:=aa.mk (And.intro (Kd.bY hi1 hbl) (And.intro hl1 hgl))
    have p0:(0:Int)≤(n:Int):=by omega
    have p1:(n:Int)<(g.length:Int):=by omega
    clear hi1 hl1 hgl hbl htk
    go_upto_region 8 with (fail)
    refine forget (fun Y=>∃ gt,gt=wr.heap.size∧Below wr.heap.size wr Y∧Y.heap[gt]?=some (.cells (b8 (.slice A1 b.f0.length c1,b)).toArray 47 (0,0))) ⟨_,rfl,ai (Below.refl _ _) _,heap_alloc_new _ _⟩ ?_
    clear x0 x1 x2 x3 x4 x5 x6 x7
    rintro V ⟨gt,egt,hbv,hbt⟩
    rw [←egt]
    have EGT:=aa.mk egt
    have HV:=aa.mk (And.intro hbv hbt)
    have y0:=d9 hbt 0
    have ya:(V.alloc (.cells #[] 45)).cell? ⟨gt,0,none⟩=some (.slice A1 b.f0.length c1):=ax (ai (Below.refl _ _) _) y0
    have HCV:aa (k45.C (V.alloc (.cells #[] 45)) A1 b.f0.length b.f0):=⟨Kd.iE (Kd.bY HI.out.1 hbv) _⟩
    have HRE:aa (k45.R 45 (V.alloc (.cells #[] 45)) V.heap.size (fun _=>True) (.slice (some ⟨V.heap.size,0,none⟩) 0 0) []):=⟨mY (xO V) (fun g hg=>⟨by cases hg;exact Nat.le_refl _,trivial⟩)⟩
    clear egt hbv hbt
    go_upto_region 9 with (at_builtin;go_loud ((refine Kd.jG k45 (w0:=V) V.heap.size rfl (.tmp 27) (.tmp 29) 26 45 (.agg #[.int .u16 0,.int .u8 0,.int .u8 0,.int .u32 0]) 8 rfl hu mh rfl (by decide) (by decide) _ _ b.f0 _ b.f0.length c1 (fun _=>True) (fun _=>False) rfl rfl HRE.out HCV.out (fun x cs h=>by obtain rfl:=jP h;exact kR _ _ _ x) (fun _ h=>h.elim) (fun _ _=>trivial) (ai (Below.refl _ _) _) (ai (Below.refl _ _) _).size (by have:=HI.out.2.2;simp only [List.length_nil];omega) ?_);intro v1 w5 ho hb hg hat;rw [List.nil_append] at ho;obtain ⟨Ac,cc,e2⟩:=Kd.iU ho;subst e2;have HC5:=aa.mk (And.intro ho hb);have y50:w5.cell? ⟨gt,0,none⟩=some (.slice A1 b.f0.length c1):=(ae (ak HV.out.2 hb) 0).trans rfl;have y5f:w5.frozen? ⟨gt,0,none⟩=false:=ah (ak HV.out.2 hb) 0;clear ho hb hg hat))
    have HVC:aa (∀ g,(Value.slice Ac b.f0.length cc).ownBlock=some g→wr.heap.size≤g):=⟨fun g hg=>by
     obtain ⟨_,inner,ho2,_⟩:=HC5.out.1
     have h1:=iJ ho2 g hg
     have h2:=HV.out.1.size
     omega⟩
    refine forget (fun Y=>Y.heap[gt]?=some (.cells (b8 (.slice Ac b.f0.length cc,b)).toArray 47 (0,0))∧Cd Y (.slice Ac b.f0.length cc) b.f0∧Below wr.heap.size wr Y) ⟨aI (ak HV.out.2 HC5.out.2) 0 _ rfl,(lF HC5.out.1).kp ((Kp.refl (fun x=>x=gt) w5).set (.inl rfl) 0 _) (fun g hg e=>by
     subst e
     obtain ⟨cs,h2⟩:=(lF HC5.out.1).lt hg
     exact bF (ak HV.out.2 HC5.out.2) h2 (by decide) rfl),(au HV.out.1 HC5.out.2).setCell (by have:=EGT.out;show _≤gt;omega) _⟩ ?_
    clear y0 ya HCV HRE HC5 y50 y5f HV
    rintro Y ⟨hbt,hcd,hby⟩
    have HBY:=aa.mk (HBI.out.below hby)
    have HCD:=aa.mk (And.intro hcd hby)
    have HLB:aa ((bsn.map b8).length≤4096):=⟨by
     have h:=congrArg List.length HTK.out
     rw [List.length_map,List.length_take] at h
     rw [List.length_map];omega⟩
    have c0:=d9 HBY.out.me 0
    have cf:Y.frozen? ⟨gw,0,none⟩=false:=ah HBY.out.me 0
    have y0:=d9 hbt 0
    have y1:=d9 hbt 1
    have y2:=d9 hbt 2
    have y3:=d9 hbt 3
    have y4:=d9 hbt 4
    have y5:=d9 hbt 5
    have y6:=d9 hbt 6
    have y7:=d9 hbt 7
    clear hbt hcd hby
    refine fF 11 (fun w'=>w'.cell? ⟨gw,0,none⟩=some (.slice Aw lw cw)∧w'.frozen? ⟨gw,0,none⟩=false∧w'.cell? ⟨gt,0,none⟩=some (.slice Ac b.f0.length cc)∧w'.cell? ⟨gt,1,none⟩=some (.int .i64 b.f1)∧w'.cell? ⟨gt,2,none⟩=some (.int .u16 b.f2.f0)∧w'.cell? ⟨gt,3,none⟩=some (.int .u8 b.f2.f1)∧w'.cell? ⟨gt,4,none⟩=some (.int .u8 b.f2.f2)∧w'.cell? ⟨gt,5,none⟩=some (.int .u32 b.f2.f3)∧w'.cell? ⟨gt,6,none⟩=some (.int .i64 b.f3)∧w'.cell? ⟨gt,7,none⟩=some (.int .i64 b.f4)) [7,10] ⟨c0,cf,y0,y1,y2,y3,y4,y5,y6,y7⟩ (fun hHeld=>?_)
    refine bi 0 32 ?_
    refine bi 1 33 ?_
    refine bi 2 34 ?_
    refine bi 3 35 ?_
    refine dn 4 36 hHeld ?_
    refine dn 5 37 hHeld ?_
    refine jD 6 (some 38) (fun K hK=>?_)
    refine AO (w1:=?_) (v:=?_) (by rfl) rfl ?_ ?_
    rotate_left 2
    · go_simp
      constructor
      · rfl
      rfl
    refine hK.out _ _ ⟨(ax (af (ai (Below.refl _ _) _)) c0),(ah (ak HBY.out.me (af (ai (Below.refl _ _) _))) 0),(ax (af (ai (Below.refl _ _) _)) y0),(ax (af (ai (Below.refl _ _) _)) y1),(ax (af (ai (Below.refl _ _) _)) y2),(ax (af (ai (Below.refl _ _) _)) y3),(ax (af (ai (Below.refl _ _) _)) y4),(ax (af (ai (Below.refl _ _) _)) y5),(ax (af (ai (Below.refl _ _) _)) y6),(ax (af (ai (Below.refl _ _) _)) y7)⟩ (fun hHeld=>?_)
    clear hK K
    refine gF 38 ?_
    refine gD 7 (some 39) (fun K hK=>?_)
    refine o6 (Kd.raw 8) (w0:=w) (W:=Y) w.heap.size (.tmp 36) (.tmp 38) 22 47 (.agg #[.slice none 0 0,.int .i64 0,.int .u16 0,.int .u8 0,.int .u8 0,.int .u32 0,.int .i64 0,.int .i64 0]) 56 (by rfl) (by rfl) hub oo rfl (by decide) (by decide) (.slice Aw lw cw) (bsn.map b8) (b8 (.slice Ac b.f0.length cc,b)) (b8 (.slice Ac b.f0.length cc,b)) (by rfl) (by rfl) ⟨rfl,rfl,qd rfl⟩ HBY.out.out HBY.out.low HBY.out.low.size (by have:=HLB.out;omega) ?_
    intro v1 w1 hR hB hG
    obtain ⟨A2,l2,cc2,e2⟩:∃ A2 l2 cc2,v1 = .slice A2 l2 cc2:=by (obtain ⟨A,c,e⟩:=Kd.iU hR;exact ⟨_,_,_,e⟩)
    have HAP:=aa.mk (And.intro hR (And.intro hB hG))
    have hme1:w1.heap[gw]?=some (.cells #[.slice Aw lw cw] 83 (0,0)):=(hG.block gw (ay HBY.out.me) (Kd.wN HBY.out.out HBY.out.me (by decide))).trans HBY.out.me
    have w10:=d9 hme1 0
    have w1f:w1.frozen? ⟨gw,0,none⟩=false:=ah hme1 0
    clear hR hB hG hme1
    subst e2
    refine hK.out _ _ ?_
    clear hK K
    refine gF 39 ?_
    refine bi 8 40 ?_
    refine bi 9 41 ?_
    refine gD 10 none (fun K hK=>?_)
    refine iD ?_
    refine hK.out _ _ ?_
    clear hK K
    refine fO (by kernel_rfl) ?_
    have HE:aa (BI w (w1.setCell ⟨gw,0,none⟩ (.slice A2 l2 cc2)) gw (.slice A2 l2 cc2) (bsn++[(.slice Ac b.f0.length cc,b)])):=⟨HBI.out.snoc HCD.out.2 HCD.out.1 HVC.out HAP.out.1 HAP.out.2.1 HAP.out.2.2⟩
    have HTE:aa ((bsn++[(Value.slice Ac b.f0.length cc,b)]).map (·.2)=g.take (n+1)):=⟨by rw [List.map_append,HTK.out,←HT.out];rfl⟩
    clear HBI HBY HCD HAP c0 cf y0 y1 y2 y3 y4 y5 y6 y7 w10 w1f
    go_wp2
    go_roundw
    case rel=>exact ⟨n+1,_,_,by omega,by go_num,HE,HTE⟩
    case measure=>simp [intOf];omega
  have hnl:n=g.length:=by omega
  subst hnl
  have HTG:aa (bsn.map (·.2)=g):=⟨by have h:=HTK.out;rw [List.take_length] at h;exact h⟩
  obtain ⟨gb,cap,tl,hia⟩:=HBI.out.ia HTG.out HG.out
  obtain ⟨R,eR⟩:∃ R,R=o8 (phG g+1) g:=⟨_,rfl⟩
  rw [←eR] at hia
  have HIA:=aa.mk hia
  have ER:=aa.mk eR
  clear hia eR HBI HTK
  obtain ⟨wo,rfl⟩:∃ wo:World,wo=wr:=⟨_,rfl⟩
  go_wp2
  go_loopg [9] (phG g+1) (fun kq v9 w'=>∃ (f:Bool) (gb cap:Nat) (bsn:List (Value × S47)) (tl:List Value) (gp:Nat),v9 = .bool f∧aa (IA w w' gw gp R kq f gb cap bsn tl))
  case atStart=>exact ⟨true,gb,cap,bsn,tl,0,rfl,HIA⟩
  case round=>
   clear HIA
   obtain ⟨f,gb,cap,bsn,tl,gp,rfl,HIA⟩:=hrel
   cases f with
   | false=>
    have c0:=d9 HIA.out.me 0
    go_wp2
    go_ret2
    exact ⟨gb,cap,bsn,tl,rfl,HIA.out.wr,by rw [HIA.out.done rfl,ER.out],HIA.out.low⟩
   | true=>
    cases gk with
    | zero=>exact absurd (HIA.out.more rfl).1 (Nat.not_lt_zero _)
    | succ kq=>
     obtain ⟨wp,rfl⟩:∃ wp:World,wp=wr:=⟨_,rfl⟩
     go_wp2_with (go_at_call 53;refine (qK wp).mono ?_;rintro e w3 ⟨rfl,rfl⟩)
     refine forget (fun X=>∃ gp,gp=wp.heap.size∧IB w X gw gp (bsn.map (·.2)) 0 false gb cap bsn tl) ⟨_,rfl,HIA.out.start (ai (Below.refl _ _) _) (heap_alloc_new _ _)⟩ ?_
     rintro X ⟨gp2,egp,hib⟩
     rw [←egp]
     have HIB:=aa.mk hib
     clear egp hib
     go_loopw [9,46] (fun v9 v46 wr=>∃ (j:Nat) (f:Bool) (gb cap:Nat) (bs:List (Value × S47)) (tl:List Value),j≤6∧v46 = .int .i64 j∧v9 = .bool f∧aa (IB w wr gw gp2 (bsn.map (·.2)) j f gb cap bs tl)) (fun _ v46 _=>6 - (intOf v46).toNat)
     case atStart=>exact ⟨0,false,gb,cap,bsn,tl,by omega,rfl,rfl,HIB⟩
     case round=>
      clear HIB
      obtain ⟨j,f,gb2,cap2,bs2,tl2,hj,rfl,rfl,HIB⟩:=hrel
      have HGK:aa (GOk (bs2.map (·.2))):=⟨by rw [show bs2.map (·.2)=(psG (bsn.map (·.2)) j).1 from congrArg Prod.fst HIB.out.eq];exact psG_ok HIA.out.gok j⟩
      by_cases h6:j<6
      · have i0:(0:Int)≤(j:Int):=by omega
        have i1:(j:Int)<6:=by omega
        have hcase:j=0∨j=1∨j=2∨j=3∨j=4∨j=5:=by omega
        rcases hcase with hj0 | hj0 | hj0 | hj0 | hj0 | hj0
        · have pc:wr.cell? ⟨gp2,j,none⟩=some (.func (.func 83) #[] #[]):=(ae HIB.out.wk.ps j).trans (by rw [hj0];rfl)
          have HCALL:=aa.mk (sK wr ⟨w.heap.size,gp2⟩ gw gb2 cap2 bs2 tl2 HIB.out.wk HGK.out)
          have HJ0:=aa.mk hj0
          clear hj0
          go_upto_region 18 with (go_at_call 83;refine HCALL.out.mono ?_;rintro e w4 ⟨rfl,⟨bs3,e3,hw3⟩,hb3⟩;have H3:=aa.mk (And.intro e3 (And.intro hw3 hb3));clear e3 hw3 hb3;obtain ⟨fb,efb⟩:∃ fb,fb=(iI (bs2.map (·.2))).2:=⟨_,rfl⟩;rw [←efb];have EFB:=aa.mk efb;clear efb;cases fb)
          · have HN:aa (IB w w4 gw gp2 (bsn.map (·.2)) (j+1) f gb2 cap2 bs3 tl2):=⟨HIB.out.next H3.out.2.1 H3.out.2.2 (by rw [HJ0.out];exact H3.out.1) (by rw [HJ0.out];show f=((iI _).2||f);rw [←EFB.out];cases f<;>rfl)⟩
            clear pc HCALL H3 HIB EFB
            go_wp2
            go_roundw
            case rel=>exact ⟨j+1,f,_,_,_,_,by omega,by go_num,rfl,HN⟩
            case measure=>simp [intOf];omega
          have HN:aa (IB w w4 gw gp2 (bsn.map (·.2)) (j+1) true gb2 cap2 bs3 tl2):=⟨HIB.out.next H3.out.2.1 H3.out.2.2 (by rw [HJ0.out];exact H3.out.1) (by rw [HJ0.out];show true=((iI _).2||f);rw [←EFB.out];rfl)⟩
          clear pc HCALL H3 HIB EFB
          go_wp2
          go_roundw
          case rel=>exact ⟨j+1,true,_,_,_,_,by omega,by go_num,rfl,HN⟩
          case measure=>simp [intOf];omega
        · have pc:wr.cell? ⟨gp2,j,none⟩=some (.func (.func 84) #[] #[]):=(ae HIB.out.wk.ps j).trans (by rw [hj0];rfl)
          have HCALL:=aa.mk (qm wr ⟨w.heap.size,gp2⟩ gw gb2 cap2 bs2 tl2 HIB.out.wk HGK.out)
          have HJ0:=aa.mk hj0
          clear hj0
          go_upto_region 18 with (go_at_call 84;refine HCALL.out.mono ?_;rintro e w4 ⟨rfl,⟨bs3,e3,hw3⟩,hb3⟩;have H3:=aa.mk (And.intro e3 (And.intro hw3 hb3));clear e3 hw3 hb3;obtain ⟨fb,efb⟩:∃ fb,fb=(iq (bs2.map (·.2))).2:=⟨_,rfl⟩;rw [←efb];have EFB:=aa.mk efb;clear efb;cases fb)
          · have HN:aa (IB w w4 gw gp2 (bsn.map (·.2)) (j+1) f gb2 cap2 bs3 tl2):=⟨HIB.out.next H3.out.2.1 H3.out.2.2 (by rw [HJ0.out];exact H3.out.1) (by rw [HJ0.out];show f=((iq _).2||f);rw [←EFB.out];cases f<;>rfl)⟩
            clear pc HCALL H3 HIB EFB
            go_wp2
            go_roundw
            case rel=>exact ⟨j+1,f,_,_,_,_,by omega,by go_num,rfl,HN⟩
            case measure=>simp [intOf];omega
          have HN:aa (IB w w4 gw gp2 (bsn.map (·.2)) (j+1) true gb2 cap2 bs3 tl2):=⟨HIB.out.next H3.out.2.1 H3.out.2.2 (by rw [HJ0.out];exact H3.out.1) (by rw [HJ0.out];show true=((iq _).2||f);rw [←EFB.out];rfl)⟩
          clear pc HCALL H3 HIB EFB
          go_wp2
          go_roundw
          case rel=>exact ⟨j+1,true,_,_,_,_,by omega,by go_num,rfl,HN⟩
          case measure=>simp [intOf];omega
        · have pc:wr.cell? ⟨gp2,j,none⟩=some (.func (.func 85) #[] #[]):=(ae HIB.out.wk.ps j).trans (by rw [hj0];rfl)
          have HCALL:=aa.mk (sH wr ⟨w.heap.size,gp2⟩ gw gb2 cap2 bs2 tl2 HIB.out.wk HGK.out)
          have HJ0:=aa.mk hj0
          clear hj0
          go_upto_region 18 with (go_at_call 85;refine HCALL.out.mono ?_;rintro e w4 ⟨rfl,⟨bs3,e3,hw3⟩,hb3⟩;have H3:=aa.mk (And.intro e3 (And.intro hw3 hb3));clear e3 hw3 hb3;obtain ⟨fb,efb⟩:∃ fb,fb=(iZ (bs2.map (·.2))).2:=⟨_,rfl⟩;rw [←efb];have EFB:=aa.mk efb;clear efb;cases fb)
          · have HN:aa (IB w w4 gw gp2 (bsn.map (·.2)) (j+1) f gb2 cap2 bs3 tl2):=⟨HIB.out.next H3.out.2.1 H3.out.2.2 (by rw [HJ0.out];exact H3.out.1) (by rw [HJ0.out];show f=((iZ _).2||f);rw [←EFB.out];cases f<;>rfl)⟩
            clear pc HCALL H3 HIB EFB
            go_wp2
            go_roundw
            case rel=>exact ⟨j+1,f,_,_,_,_,by omega,by go_num,rfl,HN⟩
            case measure=>simp [intOf];omega
          have HN:aa (IB w w4 gw gp2 (bsn.map (·.2)) (j+1) true gb2 cap2 bs3 tl2):=⟨HIB.out.next H3.out.2.1 H3.out.2.2 (by rw [HJ0.out];exact H3.out.1) (by rw [HJ0.out];show true=((iZ _).2||f);rw [←EFB.out];rfl)⟩
          clear pc HCALL H3 HIB EFB
          go_wp2
          go_roundw
          case rel=>exact ⟨j+1,true,_,_,_,_,by omega,by go_num,rfl,HN⟩
          case measure=>simp [intOf];omega
        · have pc:wr.cell? ⟨gp2,j,none⟩=some (.func (.func 86) #[] #[]):=(ae HIB.out.wk.ps j).trans (by rw [hj0];rfl)
          have HCALL:=aa.mk (rz wr ⟨w.heap.size,gp2⟩ gw gb2 cap2 bs2 tl2 HIB.out.wk HGK.out)
          have HJ0:=aa.mk hj0
          clear hj0
          go_upto_region 18 with (go_at_call 86;refine HCALL.out.mono ?_;rintro e w4 ⟨rfl,⟨bs3,e3,hw3⟩,hb3⟩;have H3:=aa.mk (And.intro e3 (And.intro hw3 hb3));clear e3 hw3 hb3;obtain ⟨fb,efb⟩:∃ fb,fb=(gJ (bs2.map (·.2))).2:=⟨_,rfl⟩;rw [←efb];have EFB:=aa.mk efb;clear efb;cases fb)
          · have HN:aa (IB w w4 gw gp2 (bsn.map (·.2)) (j+1) f gb2 cap2 bs3 tl2):=⟨HIB.out.next H3.out.2.1 H3.out.2.2 (by rw [HJ0.out];exact H3.out.1) (by rw [HJ0.out];show f=((gJ _).2||f);rw [←EFB.out];cases f<;>rfl)⟩
            clear pc HCALL H3 HIB EFB
            go_wp2
            go_roundw
            case rel=>exact ⟨j+1,f,_,_,_,_,by omega,by go_num,rfl,HN⟩
            case measure=>simp [intOf];omega
          have HN:aa (IB w w4 gw gp2 (bsn.map (·.2)) (j+1) true gb2 cap2 bs3 tl2):=⟨HIB.out.next H3.out.2.1 H3.out.2.2 (by rw [HJ0.out];exact H3.out.1) (by rw [HJ0.out];show true=((gJ _).2||f);rw [←EFB.out];rfl)⟩
          clear pc HCALL H3 HIB EFB
          go_wp2
          go_roundw
          case rel=>exact ⟨j+1,true,_,_,_,_,by omega,by go_num,rfl,HN⟩
          case measure=>simp [intOf];omega
        · have pc:wr.cell? ⟨gp2,j,none⟩=some (.func (.func 87) #[] #[]):=(ae HIB.out.wk.ps j).trans (by rw [hj0];rfl)
          have HCALL:=aa.mk (sI wr ⟨w.heap.size,gp2⟩ gw gb2 cap2 bs2 tl2 HIB.out.wk HGK.out)
          have HJ0:=aa.mk hj0
          clear hj0
          go_upto_region 18 with (go_at_call 87;refine HCALL.out.mono ?_;rintro e w4 ⟨rfl,⟨gb3,cap3,bs3,tl3,e3,hw3⟩,hb3⟩;have H3:=aa.mk (And.intro e3 (And.intro hw3 hb3));clear e3 hw3 hb3;obtain ⟨fb,efb⟩:∃ fb,fb=(gY (bs2.map (·.2))).2:=⟨_,rfl⟩;rw [←efb];have EFB:=aa.mk efb;clear efb;cases fb)
          · have HN:aa (IB w w4 gw gp2 (bsn.map (·.2)) (j+1) f gb3 cap3 bs3 tl3):=⟨HIB.out.next H3.out.2.1 H3.out.2.2 (by rw [HJ0.out];exact H3.out.1) (by rw [HJ0.out];show f=((gY _).2||f);rw [←EFB.out];cases f<;>rfl)⟩
            clear pc HCALL H3 HIB EFB
            go_wp2
            go_roundw
            case rel=>exact ⟨j+1,f,_,_,_,_,by omega,by go_num,rfl,HN⟩
            case measure=>simp [intOf];omega
          have HN:aa (IB w w4 gw gp2 (bsn.map (·.2)) (j+1) true gb3 cap3 bs3 tl3):=⟨HIB.out.next H3.out.2.1 H3.out.2.2 (by rw [HJ0.out];exact H3.out.1) (by rw [HJ0.out];show true=((gY _).2||f);rw [←EFB.out];rfl)⟩
          clear pc HCALL H3 HIB EFB
          go_wp2
          go_roundw
          case rel=>exact ⟨j+1,true,_,_,_,_,by omega,by go_num,rfl,HN⟩
          case measure=>simp [intOf];omega
        have pc:wr.cell? ⟨gp2,j,none⟩=some (.func (.func 88) #[] #[]):=(ae HIB.out.wk.ps j).trans (by rw [hj0];rfl)
        have HCALL:=aa.mk (sU wr ⟨w.heap.size,gp2⟩ gw gb2 cap2 bs2 tl2 HIB.out.wk HGK.out)
        have HJ0:=aa.mk hj0
        clear hj0
        go_upto_region 18 with (go_at_call 88;refine HCALL.out.mono ?_;rintro e w4 ⟨rfl,⟨bs3,e3,hw3⟩,hb3⟩;have H3:=aa.mk (And.intro e3 (And.intro hw3 hb3));clear e3 hw3 hb3;obtain ⟨fb,efb⟩:∃ fb,fb=(jC (bs2.map (·.2))).2:=⟨_,rfl⟩;rw [←efb];have EFB:=aa.mk efb;clear efb;cases fb)
        · have HN:aa (IB w w4 gw gp2 (bsn.map (·.2)) (j+1) f gb2 cap2 bs3 tl2):=⟨HIB.out.next H3.out.2.1 H3.out.2.2 (by rw [HJ0.out];exact H3.out.1) (by rw [HJ0.out];show f=((jC _).2||f);rw [←EFB.out];cases f<;>rfl)⟩
          clear pc HCALL H3 HIB EFB
          go_wp2
          go_roundw
          case rel=>exact ⟨j+1,f,_,_,_,_,by omega,by go_num,rfl,HN⟩
          case measure=>simp [intOf];omega
        have HN:aa (IB w w4 gw gp2 (bsn.map (·.2)) (j+1) true gb2 cap2 bs3 tl2):=⟨HIB.out.next H3.out.2.1 H3.out.2.2 (by rw [HJ0.out];exact H3.out.1) (by rw [HJ0.out];show true=((jC _).2||f);rw [←EFB.out];rfl)⟩
        clear pc HCALL H3 HIB EFB
        go_wp2
        go_roundw
        case rel=>exact ⟨j+1,true,_,_,_,_,by omega,by go_num,rfl,HN⟩
        case measure=>simp [intOf];omega
      have hj6:j=6:=by omega
      have h7:¬(j:Int)<6:=by omega
      have HE:=aa.mk (HIA.out.next (f:=f) (by rw [←hj6];exact HIB.out))
      clear hj6 HIB HGK
      go_wp2
      go_roundg kq
      case measure=>omega
      case rel=>exact ⟨f,gb2,cap2,bs2,tl2,gp2,rfl,HE⟩
theorem oh (w:World) (g:List S47) (A:Option Addr) (c k:Nat) (r e1:Int) (HG0:Kd.C k47 w A g.length g) (hc:g.length≤c) (hck:bJ.f k g=some (r,e1)) (he:e1≠0) :
 Calls Try.prog 27 #[.slice A g.length c] w fun e w'=>e = .returned (.tuple #[.slice none 0 0,.int .i64 170])∧Below w.heap.size w w':=by
 have HA:=aa.mk HG0
 have HCK:=aa.mk (And.intro hc hck)
 have he2:(e1 != 0)=true:=bne_iff_ne.mpr he
 have he3:(e1==0)=false:=aX he
 clear HG0 hc hck he
 go_enter Try.func27,Try.ntmps27
 go_wp2_with (go_at_call 52;refine (bJ.calls k A c g r e1 w HA.out HCK.out.1 HCK.out.2).mono ?_;rintro e w2 ⟨rfl,hb2⟩;have HB2:=aa.mk hb2;clear hb2)
 go_ret2
 exact ⟨rfl,HB2.out⟩
theorem sN (g:List S47) (hF:Fit g) (k:Nat) (hk:10000≤k):∃ r:Int × Int,bJ.f k g=some r∧(r.2=0↔TkB g=true):=by
 unfold bJ.f TkB
 by_cases a:(g.length:Int)=0
 · rw [if_pos a,decide_eq_false (by omega:¬0<g.length)];exact ⟨_,rfl,by simp⟩
 rw [if_neg a,decide_eq_true (by omega:0<g.length)]
 by_cases b:(g.length:Int)>4096
 · rw [if_pos b,decide_eq_false (by omega:¬g.length≤4096)];exact ⟨_,rfl,by simp⟩
 rw [if_neg b,decide_eq_true (by omega:g.length≤4096)]
 obtain ⟨r,e,h⟩:=gck_l g (by omega) hF g.length 0 rfl (by omega) 4096 (by omega) (by omega) k (by omega)
 rw [show ((0:Nat):Int)=0 from rfl] at e h
 rw [show (4096:Int) - 4096=0 from rfl] at e
 rw [List.drop_zero] at h
 exact ⟨r,e,by simpa using h⟩
def gA2:List S47:=[⟨[],2,⟨0,0,0,0⟩,1,0⟩,⟨[],1,⟨6,0,0,7⟩,0,0⟩]
theorem aw2_ck:bJ.f 10000 gA2=some (0,0):=by kernel_rfl
theorem aw2_tk:TkB gA2=true:=by decide +kernel
theorem aw2_imp:o8 (phG gA2+1) gA2=[⟨[],1,⟨6,0,0,7⟩,0,0⟩]:=by kernel_rfl
theorem aw2_ok:GOk gA2:=yA aw2_tk (by
 intro b hb
 have h:b=⟨[],2,⟨0,0,0,0⟩,1,0⟩∨b=⟨[],1,⟨6,0,0,7⟩,0,0⟩:=by simpa [gA2] using hb
 rcases h with rfl | rfl
 · exact ⟨fun i hi=>(by cases hi),by unfold Rg;decide⟩
 exact ⟨fun i hi=>(by cases hi),by unfold Rg;decide⟩)
theorem R_made' {α:Type} (d:Kd α) (W:World) (e:Nat) (xs:List α) (inner:List Value) (hrep:eu (d.M W W.heap.size (fun _=>True)) d.sz xs inner) (hm:xs.length≤9223372036854775807) :
 d.R e (W.alloc (.cells inner.toArray e)) W.heap.size (fun _=>True) (.slice (some ⟨W.heap.size,0,none⟩) xs.length xs.length) xs:=by
 refine ⟨fun _ _=>trivial,inner,?_,?_⟩
 · have h2:=World.ownsRow_lit (base:=W.heap.size) (e:=e) (size:=d.sz) W inner.toArray xs.length (Nat.le_refl _) (by simpa [maxLen] using hm) (by simpa using hrep.1)
   simpa using h2
 refine hrep.iO (fun p c hp=>d.M_mono (fun k hk=>⟨trivial,fun he=>?_⟩) (d.um (d.M_bound hp) (ai (Below.refl _ _) _)))
 have h3:k=W.heap.size:=by simpa [Value.ownBlock] using he
 have:=hk.2.2.1
 omega
theorem eu.one' {α:Type} {R:α→List Value→Prop} {size:Nat} {p:α} {c:List Value} (h:R p c) (hl:c.length=size):eu R size [p] c:=by
 have:=eu.snoc (eu.none R size) h hl
 simpa using this
def cA2:List Value:=[.slice none 0 0,.int .i64 2,.int .u16 0,.int .u8 0,.int .u8 0,.int .u32 0,.int .i64 1,.int .i64 0,.slice none 0 0,.int .i64 1,.int .u16 6,.int .u8 0,.int .u8 0,.int .u32 7,.int .i64 0,.int .i64 0]
theorem aw2_C (w:World):Kd.C k47 (w.alloc (.cells #[.slice none 0 0,.int .i64 2,.int .u16 0,.int .u8 0,.int .u8 0,.int .u32 0,.int .i64 1,.int .i64 0,.slice none 0 0,.int .i64 1,.int .u16 6,.int .u8 0,.int .u8 0,.int .u32 7,.int .i64 0,.int .i64 0] 47)) (some ⟨w.heap.size,0,none⟩) 2 gA2:=by
 have h:=Kd.mZ (R_made' k47 w 47 gA2 cA2 (by
  have h1:=eu.one' (nH w w.heap.size (fun _=>True) ⟨[],2,⟨0,0,0,0⟩,1,0⟩ (Kd.kX _ _ _ _ _)) rfl
  exact eu.snoc h1 (nH w w.heap.size (fun _=>True) ⟨[],1,⟨6,0,0,7⟩,0,0⟩ (Kd.kX _ _ _ _ _)) rfl) (by decide))
 obtain ⟨A,c,he,hl,hc⟩:=h
 injection he with h1 h2 h3
 subst h1
 exact hc
theorem qc:gA2.length=2:=rfl
theorem sS (w W:World) (a:Addr) (h:Kd.C k47 W (some a) 2 gA2) :
 Calls Try.prog 27 #[.slice (some a) 2 2] W fun e w'=>∃ gb cap bs tl,e = .returned (.tuple #[.slice (some ⟨gb,0,none⟩) bs.length cap,.int .i64 0])∧Wr8 w' W.heap.size gb cap bs tl∧bs.map (·.2)=[⟨[],1,⟨6,0,0,7⟩,0,0⟩]∧Below W.heap.size W w':=by
 have h1:=om W gA2 (some a) 2 10000 0 (by rw [qc];exact h) (by rw [qc];exact Nat.le_refl 2) aw2_ck aw2_ok
 rw [aw2_imp,qc] at h1
 exact h1
theorem aw_one {bs:List (Value × S47)} (h:bs.map (·.2)=[⟨[],1,⟨6,0,0,7⟩,0,0⟩]):∃ v,bs=[(v,⟨[],1,⟨6,0,0,7⟩,0,0⟩)]:=by
 have hl:=congrArg List.length h
 rw [List.length_map] at hl
 obtain ⟨p,rfl⟩:=List.length_eq_one_iff.1 hl
 have e:p.2=⟨[],1,⟨6,0,0,7⟩,0,0⟩:=by simpa using h
 exact ⟨p.1,by rw [←e]⟩
theorem jI (w:World):Calls Try.prog 29 #[] w fun e w'=>e = .returned (.bool true)∧Below w.heap.size w w':=by
 have HG1:=aa.mk (aw2_C w)
 go_enter Try.func29,Try.ntmps29
 go_upto_region 2 with (go_at_call 27;refine (sS w _ _ HG1.out).mono ?_;rintro e w1 ⟨gb,cap,bs,tl,rfl,hr,hbs,hb⟩;obtain ⟨v1,rfl⟩:=aw_one hbs;have HR:=aa.mk (And.intro hr hb);have hrow:=hr.row;clear hr hbs hb)
 go_wp2_with (go_at_call 27;refine (oh w1 [] none 0 10000 0 150 (Kd.wG _ _) (Nat.le_refl _) rfl (by decide)).mono ?_;rintro e w2 ⟨rfl,hb2⟩;have HB2:=aa.mk hb2;have hr2:=ak hrow hb2;have q2:w2.cell? ⟨gb,2,none⟩=some (.int .u16 6):=(ae hr2 2).trans rfl;have q3:w2.cell? ⟨gb,3,none⟩=some (.int .u8 0):=(ae hr2 3).trans rfl;have q4:w2.cell? ⟨gb,4,none⟩=some (.int .u8 0):=(ae hr2 4).trans rfl;have q5:w2.cell? ⟨gb,5,none⟩=some (.int .u32 7):=(ae hr2 5).trans rfl;clear hb2 hrow hr2)
 go_ret
 exact ⟨rfl,au (au (ai (Below.refl _ _) _) HR.out.2) HB2.out⟩
theorem cpi7 (c:List S45) (h:c.length<17592186044416):dx.f c=some c:=by
 unfold dx.f
 rw [Option.bind_some,if_pos (by simpa using h)]
 rfl
theorem cpb7_l (g:List S47) (hg:g.length≤1000000000) (hc:∀ b∈g,b.f0.length<17592186044416):∀ (d j:Nat),g.length - j=d→j≤g.length→∀ k,d+1≤k→aU.l0 k g (g.take j) (j:Int)=some g:=by
 intro d
 induction d with
 | zero=>
  intro j hd hj k hk
  obtain ⟨k,rfl⟩:∃ m,k=m+1:=⟨k - 1,by omega⟩
  rw [aU.l0,if_neg (by omega),List.take_of_length_le (by omega)]
 | succ d ih=>
  intro j hd hj k hk
  obtain ⟨k,rfl⟩:∃ m,k=m+1:=⟨k - 1,by omega⟩
  have hlt:j<g.length:=by omega
  rw [aU.l0,if_pos (by omega),if_pos (by omega),j4 hlt,cpi7 _ (hc _ (List.getElem_mem hlt)),Option.bind_some,if_pos (by rw [List.length_take];omega),w64 (n:=(j:Int)+1) (by omega) (by omega)]
  have:=ih (j+1) (by omega) (by omega) k (by omega)
  rw [show ((j+1:Nat):Int)=(j:Int)+1 by omega,List.take_succ_eq_append_getElem hlt] at this
  exact this
theorem cpb7 {g:List S47} (h:GOk g):aU.f 10000 g=some g:=by
 have hf:=h.few
 have:=cpb7_l g (by omega) (fun b hb=>by
  obtain ⟨j,hj⟩:=List.getElem?_of_mem hb
  have:=h.len hj
  omega) g.length 0 rfl (by omega) 10000 (by omega)
 exact this
theorem Wr8.c {w:World} {B gb cap:Nat} {bs:List (Value × S47)} {tl:List Value} (h:Wr8 w B gb cap bs tl):Kd.C k47 w (some ⟨gb,0,none⟩) bs.length (bs.map (·.2)):=by
 refine ⟨List.length_map _,by have h1:=h.le;have h2:=h.max;unfold maxLen at h2;omega,fun _=>⟨_,rfl,fun j b hb=>?_⟩⟩
 rw [List.getElem?_map] at hb
 cases e:bs[j]? with
 | none=>rw [e] at hb;cases hb
 | some p=>
  rw [e] at hb
  cases hb
  refine ⟨b8 p,rfl,?_,fun i u hu=>?_⟩
  · exact Kd.K_of_M _ (nH w 0 (fun _=>True) p.2 (mY (h.code j p e) (fun g hg=>⟨Nat.zero_le _,trivial⟩)))
  have hi:i<8:=(List.getElem?_eq_some_iff.1 hu).1
  rw [Go.WideShapes.add_plain,Nat.zero_add]
  exact ((ae h.row (j*8+i)).trans (bO e hi)).trans hu
theorem GOk.fit {g:List S47} (h:GOk g):Fit g:=fun b hb=>by
 obtain ⟨j,hj⟩:=List.getElem?_of_mem hb
 have:=h.len hj
 omega
theorem impr_of {g:List S47} (h:GOk g):wK g (o8 (phG g+1) g):=imp_ok (phG g+1) g h (Nat.lt_succ_self _)
theorem og (w:World) (g:List S47) (A:Option Addr) (c:Nat) (HG0:Kd.C k47 w A g.length g) (hc:g.length≤c) (hG:GOk g) :
 Calls Try.prog 27 #[.slice A g.length c] w fun e w'=>∃ gb cap x,e = .returned (.tuple #[.slice (some ⟨gb,0,none⟩) x.length cap,.int .i64 0])∧Kd.C k47 w' (some ⟨gb,0,none⟩) x.length x∧x.length≤cap∧wK g x∧Below w.heap.size w w':=by
 obtain ⟨r,hr,he⟩:=sN g hG.fit 10000 (Nat.le_refl _)
 obtain ⟨r1,r2⟩:=r
 obtain rfl:r2=0:=he.2 hG.tk
 refine (om w g A c 10000 r1 HG0 hc hr hG).mono fun e w' ⟨gb,cap,bs,tl,h1,h2,h3,h4⟩=>⟨gb,cap,bs.map (·.2),?_,?_,?_,?_,h4⟩
 · rw [List.length_map];exact h1
 · rw [List.length_map];exact h2.c
 · rw [List.length_map];exact h2.le
 rw [h3];exact impr_of hG
structure LX (Y:World) (gi gr T:Nat) (q:Value × S47) (arr:Array Value):Prop where
  ci:Y.heap[gi]?=some (.cells (b8 q).toArray 47 (0,0))
  cm:Y.heap[gr]?=some (.cells arr T (0,0))
theorem LX.below {Y Z:World} {gi gr T:Nat} {q:Value × S47} {arr:Array Value} (h:LX Y gi gr T q arr) (hb:Below Y.heap.size Y Z):LX Z gi gr T q arr:=⟨ak h.ci hb,ak h.cm hb⟩
theorem holds_m (c i1 i2 k a x:Int) (hc:jmB c=true):dA.f c a (if (Go.bits .and .u16 c 8 != 0)=true then x else k)=some (hoP ⟨c,i1,i2,k⟩ a x):=by
  have hm:c∈([21,29,37,45,53,61,69,77]:List Int):=of_decide_eq_true hc
  have H:∀ c∈([21,29,37,45,53,61,69,77]:List Int),eF.f 10 c=some (Go.bits .and .u16 c 8 != 0):=by decide +kernel
  rw [qz c i1 i2 k a x _ _ (H c hm) rfl]
  unfold dA.f hoK
  repeat' split
  all_goals rfl
def leF (b:S47) (M:bg) (f s v:Int):Int × Bool × Int × Int:=
  if f≠0 then (0,false,s,v)
  else if b.f1=2 then (b.f3,true,s,v)
  else if b.f1=1 then (0,false,wrap64 (s+1),if b.f2.f0=22 then M.a else b.f2.f3)
  else if hoP b.f2 M.a M.x=true then (b.f3,true,wrap64 (s+1),v)
  else (b.f4,true,wrap64 (s+1),v)
theorem rE (w0 w:World) (gr gd:Nat) (arr:Array Value) (M:bg) (P:Value) (f s v:Int) (b:S47) (vb:Value) (hR:RR w0 w gr gd arr M P f s v) (he:iH b=true) :
    Calls Try.prog 71 #[.pointer (some ⟨gr,0,none⟩),.agg #[vb,.int .i64 b.f1,.int .u16 b.f2.f0,.int .u8 b.f2.f1,.int .u8 b.f2.f2,.int .u32 b.f2.f3,.int .i64 b.f3,.int .i64 b.f4]] w fun e w'=>e = .returned (.tuple #[.int .i64 (leF b M f s v).1,.bool (leF b M f s v).2.1])∧RR w0 w' gr gd arr M P f (leF b M f s v).2.2.1 (leF b M f s v).2.2.2∧Kp (fun k=>k=gr) w w':=by
  obtain ⟨c,e,⟨q0,q1,q2,q3⟩,y,z⟩:=b
  have hec:=eB he
  dsimp only at hec
  have HR:=aa.mk hR
  have cf:=(ae hR.m.me 19).trans (vS M _ _ _ hR.m.len)
  have hlt:=ay hR.m.me
  unfold leF
  dsimp only
  clear he hR
  by_cases hf:f=0
  · rw [if_neg (by rw [hf];decide)]
    subst hf
    rcases hec with ⟨rfl,hre,-,-,-⟩ | ⟨rfl,-,-⟩ | ⟨rfl,hj,-⟩
    · rw [if_neg (by decide),if_pos rfl]
      obtain ⟨rv,erv⟩:∃ rv,rv=if q0=22 then M.a else q3:=⟨_,rfl⟩
      have HBC:=aa.mk (fun (W:World) (hW:W.heap[gr]?=some (.cells (cB M P 0 [.int .i64 (wrap64 (s+1)),.int .u32 v]) 106 (0,0)))=>(show Calls Try.prog 120 #[.pointer (some ⟨gr,0,none⟩),.agg #[.int .u16 q0,.int .u8 q1,.int .u8 q2,.int .u32 q3]] W fun e w'=>e = .returned (.int .u32 rv)∧Below W.heap.size W w' by rw [erv];exact rq W gr _ _ M.a q0 q1 q2 q3 hW (oG M _ _ _)))
      rw [←erv]
      clear erv hre
      go_enter Try.func71,Try.ntmps71
      go_upto_region 5 with (fail)
      refine forget (fun X=>∃ gi,gi=w.heap.size∧Below w.heap.size w X∧X.heap[gi]?=some (.cells (b8 (vb,⟨c,1,⟨q0,q1,q2,q3⟩,y,z⟩)).toArray 47 (0,0))) ⟨_,rfl,ai (Below.refl _ _) _,heap_alloc_new _ _⟩ ?_
      rintro Y ⟨gi,egi,hb,hi⟩
      rw [←egi]
      have HGI:=aa.mk (show gi≠gr by omega)
      have HY:=aa.mk (And.intro (HR.out.below hb) (And.intro ((Kp.refl (fun k=>k=gr) w).below hb) hi))
      have cs:=(ae HY.out.1.m.me 20).trans (vT M _ _ _ HR.out.m.len 0)
      have fs:=ah HY.out.1.m.me 20
      have b1:Y.cell? ⟨gi,1,none⟩=some (.int .i64 1):=(ae hi 1).trans rfl
      dsimp only [List.getElem?_cons_zero] at cs
      clear egi hb hi
      go_upto_region 6 with (fail)
      refine forget (fun Z=>RR w0 Z gr gd arr M P 0 (wrap64 (s+1)) v∧Kp (fun k=>k=gr) w Z∧Z.heap[gi]?=some (.cells (b8 (vb,⟨c,1,⟨q0,q1,q2,q3⟩,y,z⟩)).toArray 47 (0,0))) ⟨HY.out.1.kp (Kp.set (S:=fun k=>k=gr) (g:=gr) (Kp.refl _ Y) (.inl rfl) 20 _) (HY.out.1.m.Ao 0 (.int .i64 (wrap64 (s+1)))),Kp.set (S:=fun k=>k=gr) (g:=gr) HY.out.2.1 (.inl rfl) 20 _,bN HY.out.2.2 HGI.out _⟩ ?_
      clear cs fs b1 HY
      rintro Z ⟨hr,hk,hi⟩
      obtain ⟨arr2,ea⟩:∃ a,a=cB M P 0 [.int .i64 (wrap64 (s+1)),.int .u32 v]:=⟨_,rfl⟩
      have EA:=aa.mk ea
      have HX:aa (LX Z gi gr 106 (vb,⟨c,1,⟨q0,q1,q2,q3⟩,y,z⟩) arr2):=⟨⟨hi,by rw [ea];exact hr.m.me⟩⟩
      rw [←ea] at HBC
      have b1:Z.cell? ⟨gi,1,none⟩=some (.int .i64 1):=(ae hi 1).trans rfl
      have HZ:=aa.mk (And.intro hr hk)
      clear hr hk hi ea
      go_upto_region 7 with (fail)
      have hx7:arr2[21]?=some (.int .u32 v):=by rw [EA.out];exact vT M _ _ _ HR.out.m.len 1
      have HV:=aa.mk hx7
      clear hx7 cf
      refine jK (n:=11) (S:=fun w'=>w'.cell? ⟨gi,2,none⟩=some (.int .u16 q0)∧w'.cell? ⟨gi,3,none⟩=some (.int .u8 q1)∧w'.cell? ⟨gi,4,none⟩=some (.int .u8 q2)∧w'.cell? ⟨gi,5,none⟩=some (.int .u32 q3)∧w'.cell? ⟨gr,21,none⟩=some (.int .u32 v)∧w'.frozen? ⟨gr,21,none⟩=false) (ds:=[10]) #[false,false,false,false,false,false,false,false,false,false,false] (by kernel_rfl) rfl rfl ⟨((ae (HX.out.below (by repeat (first | (with_reducible exact Below.refl _ _) | apply aj | apply af))).ci 2).trans rfl),((ae (HX.out.below (by repeat (first | (with_reducible exact Below.refl _ _) | apply aj | apply af))).ci 3).trans rfl),((ae (HX.out.below (by repeat (first | (with_reducible exact Below.refl _ _) | apply aj | apply af))).ci 4).trans rfl),((ae (HX.out.below (by repeat (first | (with_reducible exact Below.refl _ _) | apply aj | apply af))).ci 5).trans rfl),((ae (HX.out.below (by repeat (first | (with_reducible exact Below.refl _ _) | apply aj | apply af))).cm 21).trans HV.out),(ah (HX.out.below (by repeat (first | (with_reducible exact Below.refl _ _) | apply aj | apply af))).cm 21)⟩ (fun hHeld=>?_)
      refine bG (i:=0) (N:=some 29) (v:=?_) (a':=?_) #[true,false,false,false,false,false,false,false,false,false,false] rfl rfl (by kernel_rfl) (fun _ _ _ h=>h) (Or.inl ⟨by rfl,?_⟩) ?_ ?_
      rotate_left
      · intro w'
        go_simp
        with_reducible rfl
      rotate_left
      · simp only [Act.put,List.setIfInBounds_toArray,List.set_cons_zero,List.set_cons_succ,aQ,aN]
        rfl
      refine bG (i:=1) (N:=some 30) (v:=?_) (a':=?_) #[true,true,false,false,false,false,false,false,false,false,false] rfl rfl (by kernel_rfl) (fun _ _ _ h=>h) (Or.inl ⟨by rfl,?_⟩) ?_ ?_
      rotate_left
      · intro w'
        go_simp
        with_reducible rfl
      rotate_left
      · simp only [Act.put,List.setIfInBounds_toArray,List.set_cons_zero,List.set_cons_succ,aQ,aN]
        rfl
      refine bG (i:=2) (N:=some 31) (v:=?_) (a':=?_) #[true,true,true,false,false,false,false,false,false,false,false] rfl rfl (by kernel_rfl) (fun _ _ _ h=>h) (Or.inl ⟨by rfl,?_⟩) ?_ ?_
      rotate_left
      · intro w'
        go_simp
        with_reducible rfl
      rotate_left
      · simp only [Act.put,List.setIfInBounds_toArray,List.set_cons_zero,List.set_cons_succ,aQ,aN]
        rfl
      refine bG (i:=3) (N:=some 32) (v:=?_) (a':=?_) #[true,true,true,true,false,false,false,false,false,false,false] rfl rfl (by kernel_rfl) (fun _ _ _ h=>h) (Or.inl ⟨by rfl,?_⟩) ?_ ?_
      rotate_left
      · intro w'
        go_simp
        with_reducible rfl
      rotate_left
      · simp only [Act.put,List.setIfInBounds_toArray,List.set_cons_zero,List.set_cons_succ,aQ,aN]
        rfl
      refine bG (i:=4) (N:=some 33) (v:=?_) (a':=?_) #[true,true,true,true,true,false,false,false,false,false,false] rfl rfl (by kernel_rfl) (fun _ _ _ h=>h) (Or.inl ⟨by rfl,?_⟩) ?_ ?_
      rotate_left
      · intro w'
        go_simp
        with_reducible rfl
      rotate_left
      · simp only [Act.put,List.setIfInBounds_toArray,List.set_cons_zero,List.set_cons_succ,aQ,aN]
        rfl
      refine bG (i:=5) (N:=some 34) (v:=?_) (a':=?_) #[true,true,true,true,true,true,false,false,false,false,false] rfl rfl (by kernel_rfl) (fun _ _ _ h=>h) (Or.inl ⟨by rfl,?_⟩) ?_ ?_
      rotate_left
      · intro w'
        go_simp
        with_reducible rfl
      rotate_left
      · simp only [Act.put,List.setIfInBounds_toArray,List.set_cons_zero,List.set_cons_succ,aQ,aN]
        rfl
      refine fI (i:=6) (N:=some 35) (v:=?_) (a':=?_) #[true,true,true,true,true,true,true,false,false,false,false] rfl rfl (by kernel_rfl) (fun _ _ _ h=>h) (Or.inl ⟨by rfl,?_⟩) hHeld ?_ ?_
      rotate_left
      · rintro w' ⟨s0,s1,s2,s3,s4,s5⟩
        go_simp
        with_reducible rfl
      rotate_left
      · simp only [Act.put,List.setIfInBounds_toArray,List.set_cons_zero,List.set_cons_succ,aQ,aN]
        rfl
      refine tJ (i:=7) (N:=some 36) #[true,true,true,true,true,true,true,true,false,false,false] rfl rfl (by kernel_rfl) (by decide) (fun K hK=>?_)
      refine kY Try.func120 (by kernel_rfl) rfl #[.pointer (some ⟨gr,0,none⟩),.agg #[.int .u16 q0,.int .u8 q1,.int .u8 q2,.int .u32 q3]] (by rfl) rfl rfl (by simp only [List.map_toArray,List.map_cons,List.map_nil];rfl) ?_
      with_reducible refine (HBC.out _ (HX.out.below (by repeat (first | (with_reducible exact Below.refl _ _) | apply aj | apply af))).cm).mono ?_
      rintro e w3 ⟨rfl,hb3⟩
      refine ⟨_,rfl,?_⟩
      refine hK.out _ _ ⟨((ae (HX.out.below (au (af (Below.refl _ _)) hb3)).ci 2).trans rfl),((ae (HX.out.below (au (af (Below.refl _ _)) hb3)).ci 3).trans rfl),((ae (HX.out.below (au (af (Below.refl _ _)) hb3)).ci 4).trans rfl),((ae (HX.out.below (au (af (Below.refl _ _)) hb3)).ci 5).trans rfl),((ae (HX.out.below (au (af (Below.refl _ _)) hb3)).cm 21).trans HV.out),(ah (HX.out.below (au (af (Below.refl _ _)) hb3)).cm 21)⟩ (fun hHeld=>?_)
      clear hK K
      refine kI (a':=?_) ?_ ?_
      rotate_left
      · show Act.put _ (some 36) _=_
        simp only [Act.put,List.setIfInBounds_toArray,List.set_cons_zero,List.set_cons_succ,aQ,aN]
        rfl
      refine bG (i:=8) (N:=some 37) (v:=?_) (a':=?_) #[true,true,true,true,true,true,true,true,true,false,false] rfl rfl (by kernel_rfl) (fun _ _ _ h=>h) (Or.inl ⟨by rfl,?_⟩) ?_ ?_
      rotate_left
      · intro w'
        go_simp
        with_reducible rfl
      rotate_left
      · simp only [Act.put,List.setIfInBounds_toArray,List.set_cons_zero,List.set_cons_succ,aQ,aN]
        rfl
      refine bG (i:=9) (N:=some 38) (v:=?_) (a':=?_) #[true,true,true,true,true,true,true,true,true,true,false] rfl rfl (by kernel_rfl) (fun _ _ _ h=>h) (Or.inl ⟨by rfl,?_⟩) ?_ ?_
      rotate_left
      · intro w'
        go_simp
        with_reducible rfl
      rotate_left
      · simp only [Act.put,List.setIfInBounds_toArray,List.set_cons_zero,List.set_cons_succ,aQ,aN]
        rfl
      refine oq (i:=10) (N:=none) #[true,true,true,true,true,true,true,true,true,true,true] rfl rfl (by kernel_rfl) (by decide) (fun K hK=>?_)
      refine uT (w1:=?_) (by rfl) rfl ?_ ?_
      rotate_left
      · go_simp
        rfl
      refine hK.out _ _ ?_
      clear hK K
      refine fO (by kernel_rfl) ?_
      go_upto_region 8 with (fail)
      refine forget (fun Z=>RR w0 Z gr gd arr M P 0 (wrap64 (s+1)) rv∧Kp (fun k=>k=gr) w Z) ⟨?_,?_⟩ ?_
      · have h1:=(HZ.out.1.below (au (af (Below.refl _ _)) hb3))
        exact h1.kp (Kp.set (S:=fun k=>k=gr) (g:=gr) (Kp.refl _ w3) (.inl rfl) 21 _) (h1.m.Ao 1 (.int .u32 rv))
      · exact Kp.set (S:=fun k=>k=gr) (g:=gr) (HZ.out.2.below (au (af (Below.refl _ _)) hb3)) (.inl rfl) 21 _
      clear HZ HX hb3 HV
      rintro Z ⟨hr,hk⟩
      have HE:=aa.mk (And.intro hr hk)
      clear hr hk
      go_wp2
      refine bodyPost_ret (results_tmp2 rfl _ _ _) rfl ?_
      exact ⟨rfl,HE.out.1,HE.out.2⟩
    · rw [if_pos rfl]
      go_enter Try.func71,Try.ntmps71
      go_wp2
      refine bodyPost_ret (results_tmp2 rfl _ _ _) rfl ?_
      exact ⟨rfl,HR.out.below (ai (Below.refl _ _) _),(Kp.refl _ w).below (ai (Below.refl _ _) _)⟩
    · rw [if_neg (by decide),if_neg (by decide)]
      obtain ⟨bv,ebv⟩:∃ bv,bv=hoP ⟨q0,q1,q2,q3⟩ M.a M.x:=⟨_,rfl⟩
      have HBC:=aa.mk (fun (W:World) (hW:W.heap[gr]?=some (.cells (cB M P 0 [.int .i64 (wrap64 (s+1)),.int .u32 v]) 106 (0,0)))=>(show Calls Try.prog 121 #[.pointer (some ⟨gr,0,none⟩),.agg #[.int .u16 q0,.int .u8 q1,.int .u8 q2,.int .u32 q3]] W fun e w'=>e = .returned (.bool bv)∧Below W.heap.size W w' from q9 W gr _ _ M.a M.x q0 q1 q2 q3 bv hW (oG M _ _ _) (rO M _ _ _) (by rw [ebv];exact holds_m q0 q1 q2 q3 M.a M.x hj)))
      rw [←ebv]
      clear ebv hj
      go_enter Try.func71,Try.ntmps71
      go_upto_region 5 with (fail)
      refine forget (fun X=>∃ gi,gi=w.heap.size∧Below w.heap.size w X∧X.heap[gi]?=some (.cells (b8 (vb,⟨c,3,⟨q0,q1,q2,q3⟩,y,z⟩)).toArray 47 (0,0))) ⟨_,rfl,ai (Below.refl _ _) _,heap_alloc_new _ _⟩ ?_
      rintro Y ⟨gi,egi,hb,hi⟩
      rw [←egi]
      have HGI:=aa.mk (show gi≠gr by omega)
      have HY:=aa.mk (And.intro (HR.out.below hb) (And.intro ((Kp.refl (fun k=>k=gr) w).below hb) hi))
      have cs:=(ae HY.out.1.m.me 20).trans (vT M _ _ _ HR.out.m.len 0)
      have fs:=ah HY.out.1.m.me 20
      have b1:Y.cell? ⟨gi,1,none⟩=some (.int .i64 3):=(ae hi 1).trans rfl
      dsimp only [List.getElem?_cons_zero] at cs
      clear egi hb hi
      go_upto_region 6 with (fail)
      refine forget (fun Z=>RR w0 Z gr gd arr M P 0 (wrap64 (s+1)) v∧Kp (fun k=>k=gr) w Z∧Z.heap[gi]?=some (.cells (b8 (vb,⟨c,3,⟨q0,q1,q2,q3⟩,y,z⟩)).toArray 47 (0,0))) ⟨HY.out.1.kp (Kp.set (S:=fun k=>k=gr) (g:=gr) (Kp.refl _ Y) (.inl rfl) 20 _) (HY.out.1.m.Ao 0 (.int .i64 (wrap64 (s+1)))),Kp.set (S:=fun k=>k=gr) (g:=gr) HY.out.2.1 (.inl rfl) 20 _,bN HY.out.2.2 HGI.out _⟩ ?_
      clear cs fs b1 HY
      rintro Z ⟨hr,hk,hi⟩
      obtain ⟨arr2,ea⟩:∃ a,a=cB M P 0 [.int .i64 (wrap64 (s+1)),.int .u32 v]:=⟨_,rfl⟩
      have EA:=aa.mk ea
      have HX:aa (LX Z gi gr 106 (vb,⟨c,3,⟨q0,q1,q2,q3⟩,y,z⟩) arr2):=⟨⟨hi,by rw [ea];exact hr.m.me⟩⟩
      rw [←ea] at HBC
      have b1:Z.cell? ⟨gi,1,none⟩=some (.int .i64 3):=(ae hi 1).trans rfl
      have HZ:=aa.mk (And.intro hr hk)
      clear hr hk hi ea
      go_upto_region 9 with (fail)
      clear cf
      refine jK (n:=7) (S:=fun w'=>w'.cell? ⟨gi,2,none⟩=some (.int .u16 q0)∧w'.cell? ⟨gi,3,none⟩=some (.int .u8 q1)∧w'.cell? ⟨gi,4,none⟩=some (.int .u8 q2)∧w'.cell? ⟨gi,5,none⟩=some (.int .u32 q3)) (ds:=[]) #[false,false,false,false,false,false,false] (by kernel_rfl) rfl rfl ⟨((ae (HX.out.below (by repeat (first | (with_reducible exact Below.refl _ _) | apply aj | apply af))).ci 2).trans rfl),((ae (HX.out.below (by repeat (first | (with_reducible exact Below.refl _ _) | apply aj | apply af))).ci 3).trans rfl),((ae (HX.out.below (by repeat (first | (with_reducible exact Below.refl _ _) | apply aj | apply af))).ci 4).trans rfl),((ae (HX.out.below (by repeat (first | (with_reducible exact Below.refl _ _) | apply aj | apply af))).ci 5).trans rfl)⟩ (fun hHeld=>?_)
      refine bG (i:=0) (N:=some 39) (v:=?_) (a':=?_) #[true,false,false,false,false,false,false] rfl rfl (by kernel_rfl) (fun _ _ _ h=>h) (Or.inl ⟨by rfl,?_⟩) ?_ ?_
      rotate_left
      · intro w'
        go_simp
        with_reducible rfl
      rotate_left
      · simp only [Act.put,List.setIfInBounds_toArray,List.set_cons_zero,List.set_cons_succ,aQ,aN]
        rfl
      refine bG (i:=1) (N:=some 40) (v:=?_) (a':=?_) #[true,true,false,false,false,false,false] rfl rfl (by kernel_rfl) (fun _ _ _ h=>h) (Or.inl ⟨by rfl,?_⟩) ?_ ?_
      rotate_left
      · intro w'
        go_simp
        with_reducible rfl
      rotate_left
      · simp only [Act.put,List.setIfInBounds_toArray,List.set_cons_zero,List.set_cons_succ,aQ,aN]
        rfl
      refine bG (i:=2) (N:=some 41) (v:=?_) (a':=?_) #[true,true,true,false,false,false,false] rfl rfl (by kernel_rfl) (fun _ _ _ h=>h) (Or.inl ⟨by rfl,?_⟩) ?_ ?_
      rotate_left
      · intro w'
        go_simp
        with_reducible rfl
      rotate_left
      · simp only [Act.put,List.setIfInBounds_toArray,List.set_cons_zero,List.set_cons_succ,aQ,aN]
        rfl
      refine bG (i:=3) (N:=some 42) (v:=?_) (a':=?_) #[true,true,true,true,false,false,false] rfl rfl (by kernel_rfl) (fun _ _ _ h=>h) (Or.inl ⟨by rfl,?_⟩) ?_ ?_
      rotate_left
      · intro w'
        go_simp
        with_reducible rfl
      rotate_left
      · simp only [Act.put,List.setIfInBounds_toArray,List.set_cons_zero,List.set_cons_succ,aQ,aN]
        rfl
      refine bG (i:=4) (N:=some 43) (v:=?_) (a':=?_) #[true,true,true,true,true,false,false] rfl rfl (by kernel_rfl) (fun _ _ _ h=>h) (Or.inl ⟨by rfl,?_⟩) ?_ ?_
      rotate_left
      · intro w'
        go_simp
        with_reducible rfl
      rotate_left
      · simp only [Act.put,List.setIfInBounds_toArray,List.set_cons_zero,List.set_cons_succ,aQ,aN]
        rfl
      refine fI (i:=5) (N:=some 44) (v:=?_) (a':=?_) #[true,true,true,true,true,true,false] rfl rfl (by kernel_rfl) (fun _ _ _ h=>h) (Or.inl ⟨by rfl,?_⟩) hHeld ?_ ?_
      rotate_left
      · rintro w' ⟨s0,s1,s2,s3⟩
        go_simp
        with_reducible rfl
      rotate_left
      · simp only [Act.put,List.setIfInBounds_toArray,List.set_cons_zero,List.set_cons_succ,aQ,aN]
        rfl
      refine tJ (i:=6) (N:=some 45) #[true,true,true,true,true,true,true] rfl rfl (by kernel_rfl) (by decide) (fun K hK=>?_)
      refine kY Try.func121 (by kernel_rfl) rfl #[.pointer (some ⟨gr,0,none⟩),.agg #[.int .u16 q0,.int .u8 q1,.int .u8 q2,.int .u32 q3]] (by rfl) rfl rfl (by simp only [List.map_toArray,List.map_cons,List.map_nil];rfl) ?_
      with_reducible refine (HBC.out _ (HX.out.below (by repeat (first | (with_reducible exact Below.refl _ _) | apply aj | apply af))).cm).mono ?_
      rintro e w3 ⟨rfl,hb3⟩
      refine ⟨_,rfl,?_⟩
      refine hK.out _ _ ⟨((ae (HX.out.below (au (af (Below.refl _ _)) hb3)).ci 2).trans rfl),((ae (HX.out.below (au (af (Below.refl _ _)) hb3)).ci 3).trans rfl),((ae (HX.out.below (au (af (Below.refl _ _)) hb3)).ci 4).trans rfl),((ae (HX.out.below (au (af (Below.refl _ _)) hb3)).ci 5).trans rfl)⟩ (fun hHeld=>?_)
      clear hK K
      refine kI (a':=?_) ?_ ?_
      rotate_left
      · show Act.put _ (some 45) _=_
        simp only [Act.put,List.setIfInBounds_toArray,List.set_cons_zero,List.set_cons_succ,aQ,aN]
        rfl
      refine fO (by kernel_rfl) ?_
      cases bv
      · have k8:w3.cell? ⟨gi,7,none⟩=some (.int .i64 z):=(ae (HX.out.below (au (af (Below.refl _ _)) hb3)).ci 7).trans rfl
        go_wp2
        refine bodyPost_ret (results_tmp2 rfl _ _ _) rfl ?_
        exact ⟨rfl,HZ.out.1.below (au (af (Below.refl _ _)) hb3),HZ.out.2.below (au (af (Below.refl _ _)) hb3)⟩
      · have k8:w3.cell? ⟨gi,6,none⟩=some (.int .i64 y):=(ae (HX.out.below (au (af (Below.refl _ _)) hb3)).ci 6).trans rfl
        go_wp2
        refine bodyPost_ret (results_tmp2 rfl _ _ _) rfl ?_
        exact ⟨rfl,HZ.out.1.below (au (af (Below.refl _ _)) hb3),HZ.out.2.below (au (af (Below.refl _ _)) hb3)⟩
  · have hfb:(f != 0)=true:=bne_iff_ne.mpr hf
    rw [if_pos hf]
    clear hf
    go_enter Try.func71,Try.ntmps71
    go_wp2
    go_ret2
    exact ⟨rfl,HR.out.below (ai (Below.refl _ _) _),(Kp.refl _ w).below (ai (Below.refl _ _) _)⟩
theorem Aj {g:List S47} {pk:List Int} {kq:Nat} {at_:Int} {M:bg} {s v f t:Int} (h:lL g pk (kq+1) at_ M s=some (v,f,t)) (he:∀ b∈g,iH b=true) :
    ∃ (h0:0≤at_) (h1:at_<(g.length:Int)),((gZ pk (av g at_).f0 M s).2.2≠0→v=0∧f=(gZ pk (av g at_).f0 M s).2.2∧t=(gZ pk (av g at_).f0 M s).2.1) ∧
      ((gZ pk (av g at_).f0 M s).2.2=0→∃ l,l=leF (av g at_) (gZ pk (av g at_).f0 M s).1 0 (gZ pk (av g at_).f0 M s).2.1 0 ∧
        (l.2.1=true→l.2.2.2=0∧lL g pk kq l.1 (gZ pk (av g at_).f0 M s).1 l.2.2.1=some (v,f,t))∧(l.2.1=false→f=0∧t=l.2.2.1∧v=l.2.2.2)):=by
  unfold lL at h
  by_cases hin:0≤at_∧at_<(g.length:Int)
  · rw [if_pos hin] at h
    refine ⟨hin.1,hin.2,?_⟩
    have heb:=eB (he _ (tT hin.1 hin.2))
    dsimp only at h
    generalize av g at_=b at *
    generalize gZ pk b.f0 M s=q at *
    obtain ⟨M1,s1,f1⟩:=q
    dsimp only at h ⊢
    refine ⟨fun hn=>?_,fun h0=>⟨_,rfl,?_⟩⟩
    · rw [if_neg hn] at h
      obtain ⟨rfl,rfl,rfl⟩:(0:Int)=v∧f1=f∧s1=t:=by simpa using h
      exact ⟨rfl,rfl,rfl⟩
    · rw [if_pos h0] at h
      unfold leF
      rw [if_neg (by decide)]
      rcases heb with ⟨e1,hre,-,-,-⟩ | ⟨e2,-,-⟩ | ⟨e3,-,-⟩
      · rw [if_pos e1] at h
        rw [if_neg (by rw [e1];decide),if_pos e1]
        refine ⟨fun hh=>(by cases hh),fun _=>?_⟩
        have h62:b.f2.f0=6∨b.f2.f0=22:=of_decide_eq_true hre
        dsimp only
        rcases h62 with h6 | h6
        · rw [if_pos h6] at h
          obtain ⟨rfl,rfl,rfl⟩:b.f2.f3=v∧(0:Int)=f∧wrap64 (s1+1)=t:=by simpa using h
          rw [if_neg (by rw [h6];decide)];exact ⟨rfl,rfl,rfl⟩
        · rw [if_neg (by rw [h6];decide)] at h
          obtain ⟨rfl,rfl,rfl⟩:M1.a=v∧(0:Int)=f∧wrap64 (s1+1)=t:=by simpa using h
          rw [if_pos h6];exact ⟨rfl,rfl,rfl⟩
      · rw [if_neg (by rw [e2];decide),if_pos e2] at h
        rw [if_pos e2]
        exact ⟨fun _=>⟨rfl,h⟩,fun hh=>(by cases hh)⟩
      · rw [if_neg (by rw [e3];decide),if_neg (by rw [e3];decide)] at h
        rw [if_neg (by rw [e3];decide),if_neg (by rw [e3];decide)]
        by_cases hh:hoP b.f2 M1.a M1.x=true
        · rw [if_pos hh] at h ⊢;exact ⟨fun _=>⟨rfl,h⟩,fun hh=>(by cases hh)⟩
        · rw [if_neg hh] at h ⊢;exact ⟨fun _=>⟨rfl,h⟩,fun hh=>(by cases hh)⟩
  · rw [if_neg hin] at h;cases h
theorem uY {g:List S47} (hG:GOk g):dI.f 10000 g=some 0:=by
  obtain ⟨r,hr,he⟩:=sN g hG.fit 10000 (Nat.le_refl _)
  unfold dI.f
  rw [hr,Option.bind_some,if_pos (he.2 hG.tk)]
theorem oK (w:World) (g:List S47) (A:Option Addr) (c:Nat) (pk:List Int) (Ap:Option Addr) (cp:Nat) (HG:Kd.C k47 w A g.length g) (hc:g.length≤c) (HP:Kd.C (Kd.int .u8) w Ap pk.length pk) (hcp:pk.length≤cp) (hpk:pk.length≤65536) (hG:GOk g)
    (n:Nat) (v f t:Int) (hr:lL g pk n 0 z16 0=some (v,f,t)) :
    Calls Try.prog 39 #[.slice A g.length c,.slice Ap pk.length cp] w fun e w'=>e = .returned (.tuple #[.agg #[.int .u32 v,.int .i64 f,.int .i64 t],.int .i64 0])∧Below w.heap.size w w':=by
  have hpb:decide (65536<pk.length)=false:=decide_eq_false (by omega)
  have hpb2:decide ((65536:Int)<(pk.length:Int))=false:=decide_eq_false (by omega)
  have HGA:=aa.mk HG
  have HCA:=aa.mk hc
  have HPA:=aa.mk (And.intro HP (And.intro hcp (show pk.length<2 ^ 62 by omega)))
  have HOK:=aa.mk hG
  have HR:=aa.mk hr
  clear HG hc HP hcp hG hr hpk
  go_enter Try.func39,Try.ntmps39
  go_upto_region 7 with (go_at_call 68;refine (dI.calls 10000 A c g 0 _ (Kd.iE HGA.out _) HCA.out (uY HOK.out)).mono ?_;rintro e w1 ⟨rfl,hb⟩;have HB1:=aa.mk hb;clear hb)
  refine forget (fun Y=>∃ gv gr,gv=w.heap.size∧gr=w1.heap.size∧Below w.heap.size w Y∧Y.heap[gv]?=some (.cells #[.int .u32 0,.int .i64 0,.int .i64 0] 59 (0,0))∧PM Y gr 106 z16 (.slice Ap pk.length cp) 0 [.int .i64 0,.int .u32 0]∧w.heap.size≤gr∧gv≠gr∧w.heap.size≤gv)
    ⟨_,_,rfl,rfl,ai (au (ai (Below.refl _ _) _) HB1.out) _,ak (ak (kQ w _) HB1.out) (ai (Below.refl _ _) _),⟨heap_alloc_new _ _,rfl⟩,(au (ai (Below.refl _ _) _) HB1.out).size,by have:=ay (ak (kQ w (.cells #[.int .u32 0,.int .i64 0,.int .i64 0] 59)) HB1.out);omega,Nat.le_refl _⟩ ?_
  rintro Y ⟨gv,gr,egv,egr,hb,hv,hm,hle,hne,hge⟩
  rw [←egv,←egr]
  have HY:=aa.mk (And.intro hb (And.intro hv (And.intro hm (And.intro hle hne))))
  have HGV:=aa.mk hge
  clear egv egr hb hv hm hle hne hge HB1
  go_upto_region 8 with (go_at_call 69;refine (si Y).mono ?_;rintro e X ⟨gd,arr,rfl,hd,hge,ht,hb⟩;have HT:=aa.mk ht;have HX:=aa.mk (And.intro hd (And.intro hge hb));clear hd hge ht hb)
  have HS:aa (RR w X gr gd arr z16 (.slice Ap pk.length cp) 0 0 0∧X.heap[gv]?=some (.cells #[.int .u32 0,.int .i64 0,.int .i64 0] 59 (0,0))):=⟨⟨HY.out.2.2.1.below HX.out.2.2,HX.out.1,au HY.out.1 HX.out.2.2,HY.out.2.2.2.1⟩,ak HY.out.2.1 HX.out.2.2⟩
  have HNE:=aa.mk HY.out.2.2.2.2
  clear HY HX
  go_wp2
  go_loopg [9,10] n (fun kq v9 v10 wr=>∃ (on:Bool) (at_:Int) (M:bg) (f1 s1 v1:Int),v9 = .int .i64 at_∧v10 = .bool on∧aa (RR w wr gr gd arr M (.slice Ap pk.length cp) f1 s1 v1∧wr.heap[gv]?=some (.cells #[.int .u32 0,.int .i64 0,.int .i64 0] 59 (0,0)))∧aa (on=true→f1=0∧v1=0∧lL g pk kq at_ M s1=some (v,f,t)∧MB M)∧aa (on=false→f1=f∧s1=t∧v1=v))
  case atStart=>exact ⟨true,0,z16,0,0,0,rfl,rfl,HS,⟨fun _=>⟨rfl,rfl,HR.out,⟨Rg.z,Rg.z,(fun j=>by
    show Rg ((List.replicate 16 (0:Int)).getD j 0)
    rw [List.getD_eq_getElem?_getD,List.getElem?_replicate]
    split<;>exact Rg.z),rfl⟩⟩⟩,⟨fun h=>by cases h⟩⟩
  case round=>
    clear HS HR
    obtain ⟨on,at_,M,f1,s1,v1,rfl,rfl,HS,HON,HOFF⟩:=hrel
    obtain ⟨X,rfl⟩:∃ X:World,X=wr:=⟨_,rfl⟩
    cases on with
    | false=>
      obtain ⟨rfl,rfl,rfl⟩:=HOFF.out rfl
      go_upto_region 12 with (fail)
      have HE:=aa.mk HS.out
      have y21:X.cell? ⟨gr,21,none⟩=some (.int .u32 v1):=(ae HS.out.1.m.me 21).trans (vT M _ _ _ HS.out.1.m.len 1)
      have y19:X.cell? ⟨gr,19,none⟩=some (.int .i64 f1):=(ae HS.out.1.m.me 19).trans (vS M _ _ _ HS.out.1.m.len)
      have y20:X.cell? ⟨gr,20,none⟩=some (.int .i64 s1):=(ae HS.out.1.m.me 20).trans (vT M _ _ _ HS.out.1.m.len 0)
      have g0:X.cell? ⟨gv,0,none⟩=some (.int .u32 0):=(ae HS.out.2 0).trans rfl
      have g1:X.cell? ⟨gv,1,none⟩=some (.int .i64 0):=(ae HS.out.2 1).trans rfl
      have g2:X.cell? ⟨gv,2,none⟩=some (.int .i64 0):=(ae HS.out.2 2).trans rfl
      have e0:X.frozen? ⟨gv,0,none⟩=false:=ah HS.out.2 0
      have e1:X.frozen? ⟨gv,1,none⟩=false:=ah HS.out.2 1
      have e2:X.frozen? ⟨gv,2,none⟩=false:=ah HS.out.2 2
      obtain ⟨v,ev⟩:∃ v,v=v1:=⟨_,rfl⟩
      obtain ⟨f,ef⟩:∃ f,f=f1:=⟨_,rfl⟩
      obtain ⟨t,et⟩:∃ t,t=s1:=⟨_,rfl⟩
      subst ev ef et
      refine jK (n:=16) (S:=fun w'=>w'.cell? ⟨gr,21,none⟩=some (.int .u32 v)∧w'.cell? ⟨gr,19,none⟩=some (.int .i64 f)∧w'.cell? ⟨gr,20,none⟩=some (.int .i64 t)∧w'.cell? ⟨gv,0,none⟩=some (.int .u32 0)∧w'.cell? ⟨gv,1,none⟩=some (.int .i64 0)∧w'.cell? ⟨gv,2,none⟩=some (.int .i64 0)∧w'.frozen? ⟨gv,0,none⟩=false∧w'.frozen? ⟨gv,1,none⟩=false∧w'.frozen? ⟨gv,2,none⟩=false) (ds:=[14]) #[false,false,false,false,false,false,false,false,false,false,false,false,false,false,false,false] (by kernel_rfl) rfl rfl ⟨(ax (by repeat (first | (with_reducible exact Below.refl _ _) | apply aj | apply af)) y21),(ax (by repeat (first | (with_reducible exact Below.refl _ _) | apply aj | apply af)) y19),(ax (by repeat (first | (with_reducible exact Below.refl _ _) | apply aj | apply af)) y20),(ax (by repeat (first | (with_reducible exact Below.refl _ _) | apply aj | apply af)) g0),(ax (by repeat (first | (with_reducible exact Below.refl _ _) | apply aj | apply af)) g1),(ax (by repeat (first | (with_reducible exact Below.refl _ _) | apply aj | apply af)) g2),(ah (ak HE.out.2 (by repeat (first | (with_reducible exact Below.refl _ _) | apply aj | apply af))) 0),(ah (ak HE.out.2 (by repeat (first | (with_reducible exact Below.refl _ _) | apply aj | apply af))) 1),(ah (ak HE.out.2 (by repeat (first | (with_reducible exact Below.refl _ _) | apply aj | apply af))) 2)⟩ (fun hHeld=>?_)
      refine bG (i:=0) (N:=some 44) (v:=?_) (a':=?_) #[true,false,false,false,false,false,false,false,false,false,false,false,false,false,false,false] rfl rfl (by kernel_rfl) (fun _ _ _ h=>h) (Or.inl ⟨by rfl,?_⟩) ?_ ?_
      rotate_left
      · intro w'
        go_simp
        with_reducible rfl
      rotate_left
      · simp only [Act.put,List.setIfInBounds_toArray,List.set_cons_zero,List.set_cons_succ,aQ,aN]
        rfl
      refine bG (i:=1) (N:=some 45) (v:=?_) (a':=?_) #[true,true,false,false,false,false,false,false,false,false,false,false,false,false,false,false] rfl rfl (by kernel_rfl) (fun _ _ _ h=>h) (Or.inl ⟨by rfl,?_⟩) ?_ ?_
      rotate_left
      · intro w'
        go_simp
        with_reducible rfl
      rotate_left
      · simp only [Act.put,List.setIfInBounds_toArray,List.set_cons_zero,List.set_cons_succ,aQ,aN]
        rfl
      refine bG (i:=2) (N:=some 46) (v:=?_) (a':=?_) #[true,true,true,false,false,false,false,false,false,false,false,false,false,false,false,false] rfl rfl (by kernel_rfl) (fun _ _ _ h=>h) (Or.inl ⟨by rfl,?_⟩) ?_ ?_
      rotate_left
      · intro w'
        go_simp
        with_reducible rfl
      rotate_left
      · simp only [Act.put,List.setIfInBounds_toArray,List.set_cons_zero,List.set_cons_succ,aQ,aN]
        rfl
      refine bG (i:=4) (N:=some 48) (v:=?_) (a':=?_) #[true,true,true,false,true,false,false,false,false,false,false,false,false,false,false,false] rfl rfl (by kernel_rfl) (fun _ _ _ h=>h) (Or.inl ⟨by rfl,?_⟩) ?_ ?_
      rotate_left
      · intro w'
        go_simp
        with_reducible rfl
      rotate_left
      · simp only [Act.put,List.setIfInBounds_toArray,List.set_cons_zero,List.set_cons_succ,aQ,aN]
        rfl
      refine bG (i:=5) (N:=some 49) (v:=?_) (a':=?_) #[true,true,true,false,true,true,false,false,false,false,false,false,false,false,false,false] rfl rfl (by kernel_rfl) (fun _ _ _ h=>h) (Or.inl ⟨by rfl,?_⟩) ?_ ?_
      rotate_left
      · intro w'
        go_simp
        with_reducible rfl
      rotate_left
      · simp only [Act.put,List.setIfInBounds_toArray,List.set_cons_zero,List.set_cons_succ,aQ,aN]
        rfl
      refine bG (i:=6) (N:=some 50) (v:=?_) (a':=?_) #[true,true,true,false,true,true,true,false,false,false,false,false,false,false,false,false] rfl rfl (by kernel_rfl) (fun _ _ _ h=>h) (Or.inl ⟨by rfl,?_⟩) ?_ ?_
      rotate_left
      · intro w'
        go_simp
        with_reducible rfl
      rotate_left
      · simp only [Act.put,List.setIfInBounds_toArray,List.set_cons_zero,List.set_cons_succ,aQ,aN]
        rfl
      refine bG (i:=7) (N:=some 51) (v:=?_) (a':=?_) #[true,true,true,false,true,true,true,true,false,false,false,false,false,false,false,false] rfl rfl (by kernel_rfl) (fun _ _ _ h=>h) (Or.inl ⟨by rfl,?_⟩) ?_ ?_
      rotate_left
      · intro w'
        go_simp
        with_reducible rfl
      rotate_left
      · simp only [Act.put,List.setIfInBounds_toArray,List.set_cons_zero,List.set_cons_succ,aQ,aN]
        rfl
      refine bG (i:=9) (N:=some 53) (v:=?_) (a':=?_) #[true,true,true,false,true,true,true,true,false,true,false,false,false,false,false,false] rfl rfl (by kernel_rfl) (fun _ _ _ h=>h) (Or.inl ⟨by rfl,?_⟩) ?_ ?_
      rotate_left
      · intro w'
        go_simp
        with_reducible rfl
      rotate_left
      · simp only [Act.put,List.setIfInBounds_toArray,List.set_cons_zero,List.set_cons_succ,aQ,aN]
        rfl
      refine bG (i:=10) (N:=some 54) (v:=?_) (a':=?_) #[true,true,true,false,true,true,true,true,false,true,true,false,false,false,false,false] rfl rfl (by kernel_rfl) (fun _ _ _ h=>h) (Or.inl ⟨by rfl,?_⟩) ?_ ?_
      rotate_left
      · intro w'
        go_simp
        with_reducible rfl
      rotate_left
      · simp only [Act.put,List.setIfInBounds_toArray,List.set_cons_zero,List.set_cons_succ,aQ,aN]
        rfl
      refine bG (i:=11) (N:=some 55) (v:=?_) (a':=?_) #[true,true,true,false,true,true,true,true,false,true,true,true,false,false,false,false] rfl rfl (by kernel_rfl) (fun _ _ _ h=>h) (Or.inl ⟨by rfl,?_⟩) ?_ ?_
      rotate_left
      · intro w'
        go_simp
        with_reducible rfl
      rotate_left
      · simp only [Act.put,List.setIfInBounds_toArray,List.set_cons_zero,List.set_cons_succ,aQ,aN]
        rfl
      refine fI (i:=3) (N:=some 47) (v:=?_) (a':=?_) #[true,true,true,true,true,true,true,true,false,true,true,true,false,false,false,false] rfl rfl (by kernel_rfl) (fun _ _ _ h=>h) (Or.inl ⟨by rfl,?_⟩) hHeld ?_ ?_
      rotate_left
      · rintro w' ⟨s0,s1,s2,s3,s4,s5,s6,s7,s8⟩
        go_simp
        with_reducible rfl
      rotate_left
      · simp only [Act.put,List.setIfInBounds_toArray,List.set_cons_zero,List.set_cons_succ,aQ,aN]
        rfl
      refine fI (i:=8) (N:=some 52) (v:=?_) (a':=?_) #[true,true,true,true,true,true,true,true,true,true,true,true,false,false,false,false] rfl rfl (by kernel_rfl) (fun _ _ _ h=>h) (Or.inl ⟨by rfl,?_⟩) hHeld ?_ ?_
      rotate_left
      · rintro w' ⟨s0,s1,s2,s3,s4,s5,s6,s7,s8⟩
        go_simp
        with_reducible rfl
      rotate_left
      · simp only [Act.put,List.setIfInBounds_toArray,List.set_cons_zero,List.set_cons_succ,aQ,aN]
        rfl
      refine fI (i:=12) (N:=some 56) (v:=?_) (a':=?_) #[true,true,true,true,true,true,true,true,true,true,true,true,true,false,false,false] rfl rfl (by kernel_rfl) (fun _ _ _ h=>h) (Or.inl ⟨by rfl,?_⟩) hHeld ?_ ?_
      rotate_left
      · rintro w' ⟨s0,s1,s2,s3,s4,s5,s6,s7,s8⟩
        go_simp
        with_reducible rfl
      rotate_left
      · simp only [Act.put,List.setIfInBounds_toArray,List.set_cons_zero,List.set_cons_succ,aQ,aN]
        rfl
      refine bG (i:=13) (N:=some 57) (v:=?_) (a':=?_) #[true,true,true,true,true,true,true,true,true,true,true,true,true,true,false,false] rfl rfl (by kernel_rfl) (fun _ _ _ h=>h) (Or.inl ⟨by rfl,?_⟩) ?_ ?_
      rotate_left
      · intro w'
        go_simp
        with_reducible rfl
      rotate_left
      · simp only [Act.put,List.setIfInBounds_toArray,List.set_cons_zero,List.set_cons_succ,aQ,aN]
        rfl
      refine oq (i:=14) (N:=none) #[true,true,true,true,true,true,true,true,true,true,true,true,true,true,true,false] rfl rfl (by kernel_rfl) (by decide) (fun K hK=>?_)
      refine uT (w1:=?_) (by rfl) rfl ?_ ?_
      rotate_left
      · go_simp
        rfl
      refine hK.out _ _ ?_
      clear hK K
      refine bG (i:=15) (N:=some 5) (v:=?_) (a':=?_) #[true,true,true,true,true,true,true,true,true,true,true,true,true,true,true,true] rfl rfl (by kernel_rfl) (fun _ _ _ h=>h) (Or.inl ⟨by rfl,?_⟩) ?_ ?_
      rotate_left
      · intro w'
        go_simp
        with_reducible rfl
      rotate_left
      · simp only [Act.put,List.setIfInBounds_toArray,List.set_cons_zero,List.set_cons_succ,aQ,aN]
        rfl
      refine fO (by kernel_rfl) ?_
      go_wp2
      refine bodyPost_ret (fK rfl _ _ gv 59 #[.int .u32 v,.int .i64 f,.int .i64 t] (0,0) _ rfl (aI (aI (aI (ak HE.out.2 (af (Below.refl _ _))) 0 _ rfl) 1 _ rfl) 2 _ rfl) Try.underlying59 rfl (by kernel_rfl)) rfl ?_
      exact ⟨rfl,eY (eY (eY (af HE.out.1.low) HGV.out) HGV.out) HGV.out⟩
    | true=>
      obtain ⟨rfl,rfl,hrun,hMB⟩:=HON.out rfl
      cases gk with
      | zero=>exact absurd hrun (by simp [lL])
      | succ kq=>
        obtain ⟨h0,h1,hn,hz⟩:=Aj hrun (fun b hb=>by
          obtain ⟨j,hj⟩:=List.getElem?_of_mem hb
          exact (HOK.out.all j b hj).ends)
        obtain ⟨ad,A0,c0,rfl,y0,y1,y2,y3,y4,y5,y6,y7,hl,hic⟩:=nQ HGA.out at_ h0 h1
        have hbb:g[at_.toNat]?=some (av g at_):=by
          unfold av
          rw [List.getD_eq_getElem?_getD,List.getElem?_eq_getElem (by omega)];rfl
        have hbk:=HOK.out.all _ _ hbb
        have hlen:=HOK.out.len hbb
        clear hbb hrun HON HOFF
        generalize av g at_=b at *
        have HSTR:=aa.mk (mW w X gr gd arr M s1 0 b.f0 A0 c0 pk Ap cp HT.out HS.out.1 hMB hic hlen HPA.out.1 HPA.out.2.1 HPA.out.2.2 (fun i hi=>⟨List.all_eq_true.1 hbk.code i hi,hbk.rg i hi⟩))
        obtain ⟨⟨Mf,sf,ff⟩,hq⟩:∃ q,q=gZ pk b.f0 M s1:=⟨_,rfl⟩
        rw [←hq] at HSTR hn hz
        dsimp only at HSTR hn hz
        have HNZ:=aa.mk (And.intro hn (And.intro hz hbk.ends))
        have HY:=aa.mk (And.intro y0 (And.intro y1 (And.intro y2 (And.intro y3 (And.intro y4 (And.intro y5 (And.intro y6 y7)))))))
        have x0:=ax HS.out.1.low y0
        clear hn hz hq hbk hlen hic hl hMB y0 y1 y2 y3 y4 y5 y6 y7
        go_upto_region 11 with (go_at_call 70;refine HSTR.out.mono ?_;rintro e w3 ⟨rfl,hK,M3,hR3,hM3⟩;have H3:=aa.mk (And.intro hR3 (And.intro hM3 hK));clear hK hR3 hM3)
        have x1:=ax H3.out.1.low HY.out.1
        have x2:=ax H3.out.1.low HY.out.2.1
        have x3:=ax H3.out.1.low HY.out.2.2.1
        have x4:=ax H3.out.1.low HY.out.2.2.2.1
        have x5:=ax H3.out.1.low HY.out.2.2.2.2.1
        have x6:=ax H3.out.1.low HY.out.2.2.2.2.2.1
        have x7:=ax H3.out.1.low HY.out.2.2.2.2.2.2.1
        have x8:=ax H3.out.1.low HY.out.2.2.2.2.2.2.2
        have HLV:=aa.mk (rE w w3 gr gd arr M3 (.slice Ap pk.length cp) ff sf 0 b (.slice A0 b.f0.length c0) H3.out.1 HNZ.out.2.2)
        have HV3:=aa.mk ((H3.out.2.2.block gv (ay HS.out.2) HNE.out).trans HS.out.2)
        obtain ⟨⟨l1,lon,ls,lv⟩,el⟩:∃ l,l=leF b M3 ff sf 0:=⟨_,rfl⟩
        rw [←el] at HLV
        dsimp only at HLV
        have HREL:aa ((lon=true→ff=0∧lv=0∧lL g pk kq l1 M3 ls=some (v,f,t)∧MB M3)∧(lon=false→ff=f∧ls=t∧lv=v)):=⟨by
          by_cases hf:ff=0
          · subst hf
            obtain ⟨e3,hm3⟩:=H3.out.2.1 rfl
            subst e3
            obtain ⟨l,e2,ht,hff⟩:=HNZ.out.2.1 rfl
            rw [←el] at e2
            subst e2
            exact ⟨fun h=>⟨rfl,(ht h).1,(ht h).2,hm3⟩,fun h=>⟨(hff h).1.symm,(hff h).2.1.symm,(hff h).2.2.symm⟩⟩
          · obtain ⟨e1,e2,e3⟩:=HNZ.out.1 hf
            unfold leF at el
            rw [if_pos hf] at el
            cases el
            exact ⟨(fun h=>by cases h),fun _=>⟨e2.symm,e3.symm,e1.symm⟩⟩⟩
        clear el HNZ HY HSTR x0 HS
        go_wp2_with (go_at_call 71;refine HLV.out.mono ?_;rintro e w4 ⟨rfl,hR4,hK4⟩;have H4:=aa.mk (And.intro hR4 ((hK4.block gv (ay HV3.out) HNE.out).trans HV3.out));clear hR4 hK4)
        go_roundg kq
        case measure=>omega
        case rel=>exact ⟨lon,l1,M3,ff,ls,lv,rfl,rfl,H4,⟨HREL.out.1⟩,⟨HREL.out.2⟩⟩
end Go.Proofs.Ytdkalnkplgfgoaa.Ln
namespace Go.Proofs.Ytdkalnkplgfgoaa.PA
open Go.RowKit Go.Proofs.YtdkalnkplgfgoaaW.PrintWords Go.Proofs.YtdkalnkplgfgoaaW.PrintLast Go.Proofs.YtdkalnkplgfgoaaW.PrintMore
attribute [local go_sem] dR dU fD fE dC dD dS dV
def dJ.f (l0:List Int):Option (List Int):=(some (([]:List Int):List Int)).bind fun y423=>(if y423.length+l0.length<140737488355328 then (some (y423++l0)) else (none))
theorem dJ.calls (A0:Option Addr) (c0:Nat) (l0:List Int) (r:List Int) (w:World) (hr0:Kd.C (Kd.int .u8) w A0 l0.length l0) (hc0:l0.length≤c0) (h:dJ.f l0=some r) :
 Calls Try.prog 35 #[.slice A0 l0.length c0] w fun e w'=>∃ v0_:Value,e = .returned (v0_)∧Kd.R (Kd.int .u8) 5 w' w.heap.size (fun _=>True) v0_ r∧Below w.heap.size w w':=by
 have HR0:=aa.mk hr0
 have HC0:=aa.mk hc0
 clear hr0 hc0
 have HB:=aa.mk (Below.refl w.heap.size w)
 have H:((some (([]:List Int):List Int)).bind fun y423=>(if y423.length+l0.length<140737488355328 then (some (y423++l0)) else (none)))=some r:=h
 clear h
 obtain ⟨y423,hy423⟩:∃ y_:List Int,y_=(([]:List Int)):=⟨_,rfl⟩
 replace H:(if y423.length+l0.length<140737488355328 then (some (y423++l0)) else (none))=some r:=by first | (rw [hy423];with_reducible exact H) | (have H2_:=(Option.bind_some _ _).symm.trans H;rw [hy423];with_reducible exact H2_) | (have H2_:=(Option.bind_some _ _).symm.trans H;with_reducible exact H2_) | with_reducible exact H | (rw [hy423];exact H) | exact H
 have Ny423:=aa.mk hy423
 clear hy423
 replace H:=rY H
 obtain ⟨H,c2⟩ | ⟨H,c2⟩:=H
 · have LMc2:=aa.mk c2
   clear c2
   obtain ⟨y426,hy426⟩:∃ y_:List Int,y_=(y423++l0):=⟨_,rfl⟩
   replace H:(some y426)=some r:=by first | (rw [hy426];with_reducible exact H) | (have H2_:=(Option.bind_some _ _).symm.trans H;rw [hy426];with_reducible exact H2_) | (have H2_:=(Option.bind_some _ _).symm.trans H;with_reducible exact H2_) | with_reducible exact H | (rw [hy426];exact H) | exact H
   have Ny426:=aa.mk hy426
   clear hy426
   obtain rfl:=Option.some.inj H
   go_enter Try.func35,Try.ntmps35
   go_wp2_with (first | ((with_reducible refine bA (N:=3) rfl ?_);refine Kd.uo (Kd.int .u8) _ 5 ?hg (N:=3) ?hd (xs:=([]:List Int)) (inner:=[]) (ok:=fun _=>True) (okp:=fun _=>True) ?hr ?hp (fun _ hk=>hk) trivial (Below.refl _ _) (Nat.le_refl _) (by simp) ?_;(case hd=>rfl);(case hg=>rfl);(case hr=>first | (go_simp;done) | (go_simp;rfl));(case hp=>exact (eu.none _ _));intro v424 w3 ho4 hb hg_ hnew_;clear hg_ hnew_;(first | rw [←Ny423.out] at ho4 | (simp only [Int.reduceToNat] at ho4;rw [←Ny423.out] at ho4));have HO425:=aa.mk (Kd.jT ho4 (fA bU));replace HB:=di HB hb;clear hb ho4) | ((with_reducible refine jW (b := .append) (xs:=#[.tmp 3,.tmp 4]) rfl ?_);at_builtin;refine Kd.jG (Kd.int .u8) (w0:=w) w.heap.size rfl (.tmp 3) (.tmp 4) 38 5 (.int .u8 0) 1 rfl Try.underlying38 info5 rfl (by decide) (by omega) v424 y423 l0 _ _ _ (fun _=>True) (fun _=>False) rfl rfl ?aO ?aR (fun _ _ h=>h) (fun _ h=>h.elim) ?aF ?aB ?aS ?aL ?_;(case aR=>repeat (first | exact (Kd.bY HR0.out HB.out) | (with_reducible refine Kd.iE ?_ _) | (with_reducible refine Kd.jl ?_ _) | (with_reducible refine Kd.kv ?_)));(case aB=>exact bU);(case aF=>exact (fun _ _=>trivial));(case aO=>exact (by (with_reducible repeat (first | apply Kd.iR | apply Kd.iT | apply Kd.jH));exact HO425.out));(case aS=>exact (fA bU));(case aL=>have:=LMc2.out;omega);intro v427 w5 ho hb hg hat;rw [←Ny426.out] at ho;have HO428:=aa.mk (ho);replace HB:=aa.mk hb;clear HO425;clear ho hb hg hat))
   go_ret
   exact ⟨_,dL,by (with_reducible repeat (first | apply Kd.iR | apply Kd.iT | apply Kd.jH));exact HO428.out,bU⟩
 exact absurd H (by simp)
end Go.Proofs.Ytdkalnkplgfgoaa.PA
namespace Go.Proofs.Ytdkalnkplgfgoaa.Rd
open Go.RowKit Go.Proofs.YtdkalnkplgfgoaaW.PrintWords Go.Proofs.YtdkalnkplgfgoaaW.PrintLast Go.Proofs.YtdkalnkplgfgoaaW.PrintMore Go.Proofs.Ytdkalnkplgfgoaa.PA Go.ChangeShapes Go.WideShapes Go.Deep
section
variable {H:Type} (enc:TypeId × Value→H) (P:Program) (w:World) (base:Nat) (spare:Nat→Bool) (held:Bool)
def Reading {α:Type} (t:TypeId) (d:Kd α) (W:α→Prop):Prop:=
 ∀ (n:Nat) (cs:List Value) (y:DataW H × List MemPlace),DataW.trod enc P w base spare held n t cs=some y→(y.1.weights P t).all (·≤reachBytes)=true→∃ x,d.K w x cs∧W x
end
section
variable {H:Type} {enc:TypeId × Value→H} {P:Program} {w:World} {base:Nat} {spare:Nat→Bool} {held:Bool}
theorem rd_int {t:TypeId} {k:IntKind} (ht:P.underlying t=some (.int k)):Reading enc P w base spare held t (Kd.int k) (fun x=>(Lit.int k x).wf=true):=by
 intro n cs y h _
 obtain ⟨x,rfl,_,hx⟩:=DataW.trod_int ht h
 exact ⟨x,rfl,hx⟩
theorem mE {α:Type} {Q:Nat→α→Prop}:∀ n:Nat,(∀ i,i<n→∃ x,Q i x)→∃ xs:List α,xs.length=n∧∀ i x,xs[i]?=some x→Q i x
 | 0,_=>⟨[],rfl,fun i x h=>by simp at h⟩
 | n+1,h=>by
  obtain ⟨xs,hl,hq⟩:=mE n (fun i hi=>h i (by omega))
  obtain ⟨x,hx⟩:=h n (by omega)
  refine ⟨xs++[x],by simp [hl],fun i z hz=>?_⟩
  by_cases e:i<xs.length
  · rw [List.getElem?_append_left e] at hz
    exact hq i z hz
  rw [List.getElem?_append_right (by omega)] at hz
  have h0:i - xs.length=0:=by
   have:=(List.getElem?_eq_some_iff.1 hz).1
   simp at this
   omega
  rw [h0] at hz
  have hzx:x=z:=by simpa using hz
  have hin:i=n:=by omega
  rw [←hzx,hin]
  exact hx
theorem kF {t:TypeId}:∀ {l:List (DataW H)} {d:DataW H},d∈l→∀ n∈d.weights P t,n∈DataW.weightsAll P t l
 | x :: l,d,h,n,hn=>by
  simp only [DataW.weightsAll,List.mem_append]
  rcases List.mem_cons.1 h with rfl | h
  · exact .inl hn
  exact .inr (kF h n hn)
theorem rR {α:Type} {d:Kd α} {W:α→Prop} {t e:TypeId} {b:Nat} (ht:P.underlying t=some (.slice e)) (hC:P.cellsOf e=d.sz) (hb:P.bytesOf e=b) (h:Reading enc P w base spare held e d W) :
 Reading enc P w base spare held t (Kd.slice e d) (fun xs=>(∀ x∈xs,W x)∧xs.length*b≤reachBytes):=by
 intro n cs y hy hw
 rcases DataW.trod_slice ht hy with ⟨rfl,rfl⟩ | ⟨a,len,cap,elems,rest,m,rfl,rfl,rfl,h1,h2,h3,h4,h5,h6,h7⟩
 · refine ⟨[],⟨none,0,rfl,Nat.le_refl _,Kd.wG _ _⟩,fun x hx=>(by cases hx),by simp⟩
 have hwt:∀ z∈elems,(z.1.weights P e).all (·≤reachBytes)=true:=by
  intro z hz
  refine List.all_eq_true.2 fun q hq=>?_
  refine List.all_eq_true.1 hw q ?_
  simp only [DataW.weights,ht]
  refine List.mem_cons_of_mem _ (List.mem_append_left _ ?_)
  exact kF (List.mem_map.2 ⟨z,hz,rfl⟩) q hq
 obtain ⟨xs,hl,hq⟩:=mE (Q:=fun i x=>∃ cs',w.cells? base (a.add (i*P.cellsOf e)) (P.cellsOf e)=some cs'∧d.K w x cs'∧W x) len (by
  intro i hi
  have he:=h5 i hi
  have hei:i<elems.length:=by omega
  rw [List.getElem?_eq_getElem hei] at he
  obtain ⟨cs',hc,ht'⟩:=Option.bind_eq_some_iff.1 he
  obtain ⟨x,hx,hW⟩:=h m cs' _ ht' (hwt _ (List.getElem_mem hei))
  exact ⟨x,cs',hc,hx,hW⟩)
 refine ⟨xs,⟨some a,cap,by rw [hl],by omega,⟨rfl,by unfold maxLen at h3;omega,fun _=>⟨a,rfl,?_⟩⟩⟩,?_,?_⟩
 · intro j p hj
   obtain ⟨cs',hc,hk,_⟩:=hq j p hj
   obtain ⟨_,hcl,hat⟩:=World.cells?_some hc
   refine ⟨cs',d.K_len hk,hk,fun i u hu=>?_⟩
   have hil:i<cs'.length:=(List.getElem?_eq_some_iff.1 hu).1
   have:=hat i (by omega)
   rw [←hC,←Go.Deep.add_add,this,hu]
 · intro x hx
   obtain ⟨i,hi,rfl⟩:=List.getElem_of_mem hx
   obtain ⟨_,_,_,hW⟩:=hq i _ (List.getElem?_eq_getElem hi)
   exact hW
 have:=List.all_eq_true.1 hw ((elems.length+rest.length)*P.bytesOf e) (by simp [DataW.weights,ht])
 rw [hb] at this
 have h9:(elems.length+rest.length)*b≤reachBytes:=by simpa using this
 have:xs.length*b≤(elems.length+rest.length)*b:=Nat.mul_le_mul_right _ (by omega)
 omega
theorem fields_of {t:TypeId} {fs:Array Field} {n:Nat} {cs:List Value} {y:DataW H × List MemPlace} (hs:P.underlying t=some (.struct fs)) (h:DataW.trod enc P w base spare held n t cs=some y) (hw:(y.1.weights P t).all (·≤reachBytes)=true) :
 cs.length=P.cellsOf t∧∃ m,∀ (j:Nat) (f:Field),fs[j]?=some f→∃ z:DataW H × List MemPlace,DataW.trod enc P w base spare held m f.type ((cs.drop f.offset).take (P.cellsOf f.type))=some z∧(z.1.weights P f.type).all (·≤reachBytes)=true:=by
 obtain ⟨xs,m,rfl,rfl,hl,hx,hf⟩:=DataW.trod_struct hs h
 refine ⟨hl,m,fun j f hj=>?_⟩
 have hjl:j<fs.size:=(Array.getElem?_eq_some_iff.1 hj).1
 have hj2:j<xs.length:=by omega
 refine ⟨xs[j],by rw [hf j f hj,List.getElem?_eq_getElem hj2],?_⟩
 refine List.all_eq_true.2 fun q hq=>?_
 refine List.all_eq_true.1 hw q ?_
 simp only [DataW.weights,hs]
 refine DataW.weights_mem_each (j:=j) (t:=f.type) (d:=xs[j].1) ?_ ?_ q hq
 · rw [List.getElem?_map,Array.getElem?_toList,hj];rfl
 rw [List.getElem?_map,List.getElem?_eq_getElem hj2];rfl
end
def WI (x:S45):Prop:=0≤x.f0∧x.f0<65536∧0≤x.f1∧x.f1<256∧0≤x.f2∧x.f2<256∧0≤x.f3∧x.f3<4294967296
def WB (x:S47):Prop:=(∀ i∈x.f0,WI i)∧x.f0.length*8≤reachBytes∧WI x.f2∧(Lit.int .i64 x.f1).wf=true∧(Lit.int .i64 x.f3).wf=true∧(Lit.int .i64 x.f4).wf=true
theorem pX {k:IntKind} {x:Int} (h:(Lit.int k x).wf=true):k.min≤x∧x≤k.max:=by
 simpa [Lit.wf] using h
theorem u8_of {x:Int} (h:(Lit.int .u8 x).wf=true):0≤x∧x<256:=by
 have h1:(0:Int)≤x:=(pX h).1
 have h2:x≤(255:Int):=(pX h).2
 omega
theorem u16_of {x:Int} (h:(Lit.int .u16 x).wf=true):0≤x∧x<65536:=by
 have h1:(0:Int)≤x:=(pX h).1
 have h2:x≤(65535:Int):=(pX h).2
 omega
theorem u32_of {x:Int} (h:(Lit.int .u32 x).wf=true):0≤x∧x<4294967296:=by
 have h1:(0:Int)≤x:=(pX h).1
 have h2:x≤(4294967295:Int):=(pX h).2
 omega
section
variable {H:Type} {enc:TypeId × Value→H} {w:World} {base:Nat} {spare:Nat→Bool} {held:Bool}
theorem uP:Reading enc Try.prog w base spare held 45 k45 WI:=by
 intro n cs y h hw
 obtain ⟨hl,m,hf⟩:=fields_of Try.underlying45 h hw
 rw [show Try.prog.cellsOf 45=4 by kernel_rfl] at hl
 match cs,hl with
 | [c0,c1,c2,c3],_=>
  obtain ⟨z0,t0,_⟩:=hf 0 _ rfl
  obtain ⟨z1,t1,_⟩:=hf 1 _ rfl
  obtain ⟨z2,t2,_⟩:=hf 2 _ rfl
  obtain ⟨z3,t3,_⟩:=hf 3 _ rfl
  replace t0:DataW.trod enc Try.prog w base spare held m 43 (([c0,c1,c2,c3].drop 0).take (Try.prog.cellsOf 43))=some z0:=t0
  rw [show Try.prog.cellsOf 43=1 by kernel_rfl] at t0
  replace t1:DataW.trod enc Try.prog w base spare held m 5 (([c0,c1,c2,c3].drop 1).take (Try.prog.cellsOf 5))=some z1:=t1
  rw [show Try.prog.cellsOf 5=1 by kernel_rfl] at t1
  replace t2:DataW.trod enc Try.prog w base spare held m 5 (([c0,c1,c2,c3].drop 2).take (Try.prog.cellsOf 5))=some z2:=t2
  rw [show Try.prog.cellsOf 5=1 by kernel_rfl] at t2
  replace t3:DataW.trod enc Try.prog w base spare held m 41 (([c0,c1,c2,c3].drop 3).take (Try.prog.cellsOf 41))=some z3:=t3
  rw [show Try.prog.cellsOf 41=1 by kernel_rfl] at t3
  simp only [List.drop_zero,List.drop_succ_cons,List.take_succ_cons,List.take_zero] at t0 t1 t2 t3
  obtain ⟨x0,e0,_,w0⟩:=DataW.trod_int Try.underlying43 t0
  obtain ⟨x1,e1,_,w1⟩:=DataW.trod_int Try.underlying5 t1
  obtain ⟨x2,e2,_,w2⟩:=DataW.trod_int Try.underlying5 t2
  obtain ⟨x3,e3,_,w3⟩:=DataW.trod_int Try.underlying41 t3
  simp only [List.cons.injEq,and_true] at e0 e1 e2 e3
  subst e0 e1 e2 e3
  have a0:=u16_of w0
  have a1:=u8_of w1
  have a2:=u8_of w2
  have a3:=u32_of w3
  exact ⟨⟨x0,x1,x2,x3⟩,y9 w ⟨x0,x1,x2,x3⟩,a0.1,a0.2,a1.1,a1.2,a2.1,a2.2,a3.1,a3.2⟩
theorem zT:Reading enc Try.prog w base spare held 47 k47 WB:=by
 intro n cs y h hw
 obtain ⟨hl,m,hf⟩:=fields_of Try.underlying47 h hw
 rw [show Try.prog.cellsOf 47=8 by kernel_rfl] at hl
 match cs,hl with
 | [c0,c1,c2,c3,c4,c5,c6,c7],_=>
  obtain ⟨z0,t0,v0⟩:=hf 0 _ rfl
  obtain ⟨z1,t1,_⟩:=hf 1 _ rfl
  obtain ⟨z2,t2,v2⟩:=hf 2 _ rfl
  obtain ⟨z3,t3,_⟩:=hf 3 _ rfl
  obtain ⟨z4,t4,_⟩:=hf 4 _ rfl
  replace t0:DataW.trod enc Try.prog w base spare held m 26 (([c0,c1,c2,c3,c4,c5,c6,c7].drop 0).take (Try.prog.cellsOf 26))=some z0:=t0
  rw [show Try.prog.cellsOf 26=1 by kernel_rfl] at t0
  replace t1:DataW.trod enc Try.prog w base spare held m 3 (([c0,c1,c2,c3,c4,c5,c6,c7].drop 1).take (Try.prog.cellsOf 3))=some z1:=t1
  rw [show Try.prog.cellsOf 3=1 by kernel_rfl] at t1
  replace t2:DataW.trod enc Try.prog w base spare held m 45 (([c0,c1,c2,c3,c4,c5,c6,c7].drop 2).take (Try.prog.cellsOf 45))=some z2:=t2
  rw [show Try.prog.cellsOf 45=4 by kernel_rfl] at t2
  replace t3:DataW.trod enc Try.prog w base spare held m 3 (([c0,c1,c2,c3,c4,c5,c6,c7].drop 6).take (Try.prog.cellsOf 3))=some z3:=t3
  rw [show Try.prog.cellsOf 3=1 by kernel_rfl] at t3
  replace t4:DataW.trod enc Try.prog w base spare held m 3 (([c0,c1,c2,c3,c4,c5,c6,c7].drop 7).take (Try.prog.cellsOf 3))=some z4:=t4
  rw [show Try.prog.cellsOf 3=1 by kernel_rfl] at t4
  replace v0:(z0.1.weights Try.prog 26).all (·≤reachBytes)=true:=v0
  replace v2:(z2.1.weights Try.prog 45).all (·≤reachBytes)=true:=v2
  simp only [List.drop_zero,List.drop_succ_cons,List.take_succ_cons,List.take_zero] at t0 t1 t2 t3 t4
  obtain ⟨xs,⟨A,c,e0,hlc,hC⟩,hws,hlen⟩:=rR (d:=k45) (b:=8) Try.underlying26 (by kernel_rfl) (by kernel_rfl) uP m _ _ t0 v0
  obtain ⟨x1,e1,_,w1⟩:=DataW.trod_int Try.underlying3 t1
  obtain ⟨i,hi,wi⟩:=uP m _ _ t2 v2
  have e2:=jP hi
  obtain ⟨x3,e3,_,w3⟩:=DataW.trod_int Try.underlying3 t3
  obtain ⟨x4,e4,_,w4⟩:=DataW.trod_int Try.underlying3 t4
  simp only [List.cons.injEq,and_true] at e0 e1 e2 e3 e4
  obtain ⟨e20,e21,e22,e23⟩:=e2
  subst e0 e1 e20 e21 e22 e23 e3 e4
  exact ⟨⟨xs,x1,i,x3,x4⟩,k47_mk w ⟨xs,x1,i,x3,x4⟩ hlc hC,hws,hlen,wi,w1,w3,w4⟩
end
theorem uz {H:Type} {enc:TypeId × Value→H} {P:Program} {w:World} {base:Nat} {spare:Nat→Bool} {held:Bool} {α:Type} {d:Kd α} {W:α→Prop} {t e:TypeId} {b:Nat} {v:Value} {D:DataW H} {p:List MemPlace}
 (ht:P.underlying t=some (.slice e)) (hC:P.cellsOf e=d.sz) (hb:P.bytesOf e=b) (h:Reading enc P w base spare held e d W) (hv:∃ A l c,v = .slice A l c) (h0:DataW.Trod enc P w base spare held t v D p) (hw:(D.weights P t).all (·≤reachBytes)=true) :
 ∃ (A:Option Addr) (c:Nat) (xs:List α),v = .slice A xs.length c∧xs.length≤c∧d.C w A xs.length xs∧(∀ x∈xs,W x)∧xs.length*b≤reachBytes:=by
 obtain ⟨A0,l0,c0,rfl⟩:=hv
 obtain ⟨n,hn⟩:=h0
 obtain ⟨xs,⟨A,c,e0,hlc,hK⟩,hws,hl⟩:=rR ht hC hb h n _ _ hn hw
 have e1:Value.slice A0 l0 c0 = .slice A xs.length c:=by simpa [Value.cells] using e0
 exact ⟨A,c,xs,e1,hlc,hK,hws,hl⟩
theorem oV {H:Type} {P:Program} {ts:List TypeId} {ds:List (DataW H)} (h:(DataW.weightsEach P ts ds).all (·≤reachBytes)=true) {j:Nat} {t:TypeId} {d:DataW H} (ht:ts[j]?=some t) (hd:ds[j]?=some d):(d.weights P t).all (·≤reachBytes)=true:=
 List.all_eq_true.2 fun q hq=>List.all_eq_true.1 h q (DataW.weights_mem_each ht hd q hq)
end Go.Proofs.Ytdkalnkplgfgoaa.Rd
namespace Go.Proofs.Ytdkalnkplgfgoaa.Ln
open Go.RowKit Go.Maps Go.Proofs.YtdkalnkplgfgoaaW.PrintWords Go.Proofs.YtdkalnkplgfgoaaW.PrintLast Go.Proofs.YtdkalnkplgfgoaaW.PrintMore Go.Proofs.Ytdkalnkplgfgoaa.PA Go.Proofs.Ytdkalnkplgfgoaa.Rd
theorem cpbG_l (g:List S47) (hg:g.length<2513169434916) (hc:∀ b∈g,b.f0.length<17592186044416):∀ (d j:Nat),g.length - j=d→j≤g.length→∀ k,d+1≤k→aU.l0 k g (g.take j) (j:Int)=some g:=by
 intro d
 induction d with
 | zero=>
  intro j hd hj k hk
  obtain ⟨k,rfl⟩:∃ m,k=m+1:=⟨k - 1,by omega⟩
  rw [aU.l0,if_neg (by omega),List.take_of_length_le (by omega)]
 | succ d ih=>
  intro j hd hj k hk
  obtain ⟨k,rfl⟩:∃ m,k=m+1:=⟨k - 1,by omega⟩
  have hlt:j<g.length:=by omega
  rw [aU.l0,if_pos (by omega),if_pos (by omega),j4 hlt,cpi7 _ (hc _ (List.getElem_mem hlt)),Option.bind_some,if_pos (by rw [List.length_take];omega),w64 (n:=(j:Int)+1) (by omega) (by omega)]
  have:=ih (j+1) (by omega) (by omega) k (by omega)
  rw [show ((j+1:Nat):Int)=(j:Int)+1 by omega,List.take_succ_eq_append_getElem hlt] at this
  exact this
theorem cpbG (g:List S47) (hg:g.length<2513169434916) (hc:∀ b∈g,b.f0.length<17592186044416):aU.f (g.length+1) g=some g:=
 cpbG_l g hg hc g.length 0 rfl (by omega) (g.length+1) (by omega)
structure wH (g:List S47):Prop where
 fit:Fit g
 code:∀ b∈g,(b.f0.length+4)*8≤140737488355328
 long:(g.length+2)*56≤140737488355328
theorem xV {g:List S47} (h:∀ b∈g,WB b) (hl:g.length*56≤140737488351232):wH g:=by
 have jQ:reachBytes=140737488351232:=by decide
 refine ⟨fun b hb=>?_,fun b hb=>?_,by omega⟩
 · have:=(h b hb).2.1
   rw [jQ] at this
   omega
 have:=(h b hb).2.1
 rw [jQ] at this
 omega
theorem szB_sum (g:List S47):(g.map szB).sum≤(g.map (fun b=>b.f0.length)).sum+g.length:=by
 induction g with
 | nil=>exact Nat.le_refl _
 | cons b r ih=>
  rw [List.map_cons,List.map_cons,List.sum_cons,List.sum_cons,List.length_cons]
  have:szB b≤b.f0.length+1:=by unfold szB;split<;>omega
  omega
theorem cpy7 (c:List Int) (h:c.length<140737488355328):dJ.f c=some c:=by
 unfold dJ.f
 rw [Option.bind_some,if_pos (by simpa using h)]
 rfl
end Go.Proofs.Ytdkalnkplgfgoaa.Ln
