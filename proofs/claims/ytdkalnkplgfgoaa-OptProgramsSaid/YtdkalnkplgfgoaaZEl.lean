/- Lemmas and walks for the statements of the texts ZEZ..: the declarations that they need, taken together by a program of this session. Conditions: as each says. -/
import Derived.Deep.LoopGhost
import Derived.Test.YtdkalnkplgfgoaaZEa
import Derived.Test.YtdkalnkplgfgoaaZEb
import Derived.Test.YtdkalnkplgfgoaaZEc
import Derived.Test.YtdkalnkplgfgoaaZEd
import Derived.Test.YtdkalnkplgfgoaaZEf
import Derived.Test.YtdkalnkplgfgoaaZEh
import Derived.Test.YtdkalnkplgfgoaaZEk
set_option maxHeartbeats 8000000
set_option maxRecDepth 100000
set_option linter.unusedVariables false
set_option linter.unusedSimpArgs false
namespace Go.Proofs.Ytdkalnkplgfgoaa.Ln
open Go.RowKit Go.Maps Go.Proofs.YtdkalnkplgfgoaaW.PrintWords Go.Proofs.YtdkalnkplgfgoaaW.PrintLast Go.Proofs.YtdkalnkplgfgoaaW.PrintMore Go.Proofs.Ytdkalnkplgfgoaa.PA
theorem BI.ia {w X:World} {gw:Nat} {vw:Value} {bs:List (Value × S47)} {g:List S47} (H:BI w X gw vw bs) (e:bs.map (·.2)=g) (hG:GOk g):∃ gb cap tl,IA w X gw 0 (qw (phG g+1) g) (phG g+1) true gb cap bs tl:=by
 have hne:bs≠[]:=by
  intro h
  have:=hG.some_
  rw [←e,h] at this
  exact absurd this (by decide)
 obtain ⟨gb,cap,tl,e2,hge,hr,hs,hle,hmx⟩:=pU H.out hne
 exact ⟨gb,cap,tl,⟨hr,hs,hle,hmx,H.code,vT H.apt,hge,H.own⟩,by rw [←e2];exact H.me,H.lo,H.low,by rw [e];exact hG,fun _=>by rw [e];exact ⟨Nat.lt_succ_self _,rfl⟩,fun h=>by cases h⟩
theorem zi (X:World):Cd (X.alloc (.cells #[] 45)) (.slice (some ⟨X.heap.size,0,none⟩) 0 0) []:=
 .inr ⟨X.heap.size,0,[],rfl,⟨heap_alloc_new _ _,Nat.le_refl _,Nat.zero_le _,rfl⟩⟩
theorem pK (w:World) (g:List S47) (A:Option Addr) (c k:Nat) (r:Int) (HG0:Kd.C k47 w A g.length g) (hc:g.length≤c) (hck:dB.f k g=some (r,0)) (hG:GOk g) :
 Calls Try.prog 27 #[.slice A g.length c] w fun e w'=>∃ gb cap bs tl,e = .returned (.tuple #[.slice (some ⟨gb,0,none⟩) bs.length cap,.int .i64 0])∧Wr8 w' w.heap.size gb cap bs tl∧bs.map (·.2)=qw (phG g+1) g∧Below w.heap.size w w':=by
 have hL:g.length≤4096:=hG.few
 have hu:=Try.underlying26
 have hub:=Try.underlying22
 have HA:=aa.mk HG0
 have HCK:=aa.mk (And.intro hc hck)
 have HG:=aa.mk hG
 clear HG0 hc hck hG
 go_enter Try.func27,Try.ntmps27
 go_upto_region 2 with (go_at_call 52;refine (dB.calls k A c g r 0 w HA.out HCK.out.1 HCK.out.2).mono ?_;rintro e w2 ⟨rfl,hb2⟩;have HB2:=aa.mk hb2;clear hb2)
 go_upto_region 5 with (fail)
 refine forget (fun X=>∃ gw,gw=w2.heap.size∧BI w X gw (.slice none 0 0) []) ⟨_,rfl,ai HB2.out _,heap_alloc_new _ _,HB2.out.size,Kd.kK _ _ _ _ _,fun i p h=>by simp at h,List.Pairwise.nil,fun p h=>by cases h⟩ ?_
 rintro X ⟨gw,egw,hbi⟩
 rw [←egw]
 have HBI:=aa.mk hbi
 clear egw hbi
 go_wp2
 go_loopw [23] (fun v23 wr=>∃ (n:Nat) (vw:Value) (bsn:List (Value × S47)),n≤g.length∧v23 = .int .i64 n∧aa (BI w wr gw vw bsn)∧aa (bsn.map (·.2)=g.take n)) (fun v23 _=>g.length - (intOf v23).toNat)
 case atStart=>exact ⟨0,_,[],Nat.zero_le _,rfl,HBI,⟨by rw [List.take_zero];rfl⟩⟩
 case round=>
  clear HBI
  obtain ⟨n,vw,bsn,hn,rfl,HBI,HTK⟩:=hrel
  obtain ⟨Aw,lw,cw,rfl⟩:∃ Aw lw cw,vw = .slice Aw lw cw:=by
   obtain ⟨A,c,e⟩:=Kd.gJ HBI.out.out
   exact ⟨_,_,_,e⟩
  by_cases hlt:n<g.length
  · obtain ⟨a1,A1,c1,rfl,x0,x1,x2,x3,x4,x5,x6,x7,hl1,hi1⟩:=o8 HA.out (n:Int) (by omega) (by omega)
    have hbl:=HBI.out.low
    replace x0:=au hbl x0
    replace x1:=au hbl x1
    replace x2:=au hbl x2
    replace x3:=au hbl x3
    replace x4:=au hbl x4
    replace x5:=au hbl x5
    replace x6:=au hbl x6
    replace x7:=au hbl x7
    rw [Int.toNat_natCast] at x0 x1 x2 x3 x4 x5 x6 x7
    have htk:g.take n++[ah g (n:Int)]=g.take (n+1):=by rw [List.take_succ_eq_append_getElem hlt,jC hlt]
    have hgl:(ah g (n:Int)).f0.length≤4096:=HG.out.len (j:=n) (by rw [jC hlt];exact List.getElem?_eq_getElem hlt)
    have HT:=aa.mk htk
    generalize ah g (n:Int)=b at *
    have HI:=aa.mk (And.intro (Kd.dI hi1 hbl) (And.intro hl1 hgl))
    have p0:(0:Int)≤(n:Int):=by omega
    have p1:(n:Int)<(g.length:Int):=by omega
    clear hi1 hl1 hgl hbl htk
    go_upto_region 8 with (fail)
    refine forget (fun Y=>∃ gt,gt=wr.heap.size∧Below wr.heap.size wr Y∧Y.heap[gt]?=some (.cells (b8 (.slice A1 b.f0.length c1,b)).toArray 47 (0,0))) ⟨_,rfl,ai (Below.refl _ _) _,heap_alloc_new _ _⟩ ?_
    clear x0 x1 x2 x3 x4 x5 x6 x7
    rintro V ⟨gt,egt,hbv,hbt⟩
    rw [←egt]
    have EGT:=aa.mk egt
    have HV:=aa.mk (And.intro hbv hbt)
    have y0:=dA hbt 0
    have ya:(V.alloc (.cells #[] 45)).cell? ⟨gt,0,none⟩=some (.slice A1 b.f0.length c1):=au (ai (Below.refl _ _) _) y0
    have HCV:aa (k45.C (V.alloc (.cells #[] 45)) A1 b.f0.length b.f0):=⟨Kd.iT (Kd.dI HI.out.1 hbv) _⟩
    have HRE:aa (k45.R 45 (V.alloc (.cells #[] 45)) V.heap.size (fun _=>True) (.slice (some ⟨V.heap.size,0,none⟩) 0 0) []):=⟨mi (zi V) (fun g hg=>⟨by cases hg;exact Nat.le_refl _,trivial⟩)⟩
    clear egt hbv hbt
    go_upto_region 9 with (at_builtin;go_loud ((refine Kd.lZ k45 (w0:=V) V.heap.size rfl (.tmp 27) (.tmp 29) 26 45 (.agg #[.int .u16 0,.int .u8 0,.int .u8 0,.int .u32 0]) 8 rfl hu l9 rfl (by decide) (by decide) _ _ b.f0 _ b.f0.length c1 (fun _=>True) (fun _=>False) rfl rfl HRE.out HCV.out (fun x cs h=>by obtain rfl:=kW h;exact kG _ _ _ x) (fun _ h=>h.elim) (fun _ _=>trivial) (ai (Below.refl _ _) _) (ai (Below.refl _ _) _).size (by have:=HI.out.2.2;simp only [List.length_nil];omega) ?_);intro v1 w5 ho hb hg hat;rw [List.nil_append] at ho;obtain ⟨Ac,cc,e2⟩:=Kd.gJ ho;subst e2;have HC5:=aa.mk (And.intro ho hb);have y50:w5.cell? ⟨gt,0,none⟩=some (.slice A1 b.f0.length c1):=(ae (aj HV.out.2 hb) 0).trans rfl;have y5f:w5.frozen? ⟨gt,0,none⟩=false:=af (aj HV.out.2 hb) 0;clear ho hb hg hat))
    have HVC:aa (∀ g,(Value.slice Ac b.f0.length cc).ownBlock=some g→wr.heap.size≤g):=⟨fun g hg=>by
     obtain ⟨_,inner,ho2,_⟩:=HC5.out.1
     have h1:=jv ho2 g hg
     have h2:=HV.out.1.size
     omega⟩
    refine forget (fun Y=>Y.heap[gt]?=some (.cells (b8 (.slice Ac b.f0.length cc,b)).toArray 47 (0,0))∧Cd Y (.slice Ac b.f0.length cc) b.f0∧Below wr.heap.size wr Y) ⟨aM (aj HV.out.2 HC5.out.2) 0 _ rfl,(lH HC5.out.1).kp ((Kp.refl (fun x=>x=gt) w5).set (.inl rfl) 0 _) (fun g hg e=>by
     subst e
     obtain ⟨cs,h2⟩:=(lH HC5.out.1).lt hg
     exact bT (aj HV.out.2 HC5.out.2) h2 (by decide) rfl),(av HV.out.1 HC5.out.2).setCell (by have:=EGT.out;show _≤gt;omega) _⟩ ?_
    clear y0 ya HCV HRE HC5 y50 y5f HV
    rintro Y ⟨hbt,hcd,hby⟩
    have HBY:=aa.mk (HBI.out.below hby)
    have HCD:=aa.mk (And.intro hcd hby)
    have HLB:aa ((bsn.map b8).length≤4096):=⟨by
     have h:=congrArg List.length HTK.out
     rw [List.length_map,List.length_take] at h
     rw [List.length_map];omega⟩
    have c0:=dA HBY.out.me 0
    have cf:Y.frozen? ⟨gw,0,none⟩=false:=af HBY.out.me 0
    have y0:=dA hbt 0
    have y1:=dA hbt 1
    have y2:=dA hbt 2
    have y3:=dA hbt 3
    have y4:=dA hbt 4
    have y5:=dA hbt 5
    have y6:=dA hbt 6
    have y7:=dA hbt 7
    clear hbt hcd hby
    refine eD 11 (fun w'=>w'.cell? ⟨gw,0,none⟩=some (.slice Aw lw cw)∧w'.frozen? ⟨gw,0,none⟩=false∧w'.cell? ⟨gt,0,none⟩=some (.slice Ac b.f0.length cc)∧w'.cell? ⟨gt,1,none⟩=some (.int .i64 b.f1)∧w'.cell? ⟨gt,2,none⟩=some (.int .u16 b.f2.f0)∧w'.cell? ⟨gt,3,none⟩=some (.int .u8 b.f2.f1)∧w'.cell? ⟨gt,4,none⟩=some (.int .u8 b.f2.f2)∧w'.cell? ⟨gt,5,none⟩=some (.int .u32 b.f2.f3)∧w'.cell? ⟨gt,6,none⟩=some (.int .i64 b.f3)∧w'.cell? ⟨gt,7,none⟩=some (.int .i64 b.f4)) [7,10] ⟨c0,cf,y0,y1,y2,y3,y4,y5,y6,y7⟩ (fun hHeld=>?_)
    refine aH 0 32 ?_
    refine aH 1 33 ?_
    refine aH 2 34 ?_
    refine aH 3 35 ?_
    refine dC 4 36 hHeld ?_
    refine dC 5 37 hHeld ?_
    refine iG 6 (some 38) (fun K hK=>?_)
    refine vJ (w1:=?_) (v:=?_) (by rfl) rfl ?_ ?_
    rotate_left 2
    · go_simp
      constructor
      · rfl
      rfl
    refine hK.out _ _ ⟨(au (ak (ai (Below.refl _ _) _)) c0),(af (aj HBY.out.me (ak (ai (Below.refl _ _) _))) 0),(au (ak (ai (Below.refl _ _) _)) y0),(au (ak (ai (Below.refl _ _) _)) y1),(au (ak (ai (Below.refl _ _) _)) y2),(au (ak (ai (Below.refl _ _) _)) y3),(au (ak (ai (Below.refl _ _) _)) y4),(au (ak (ai (Below.refl _ _) _)) y5),(au (ak (ai (Below.refl _ _) _)) y6),(au (ak (ai (Below.refl _ _) _)) y7)⟩ (fun hHeld=>?_)
    clear hK K
    refine eZ 38 ?_
    refine fM 7 (some 39) (fun K hK=>?_)
    refine lY (Kd.raw 8) (w0:=w) (W:=Y) w.heap.size (.tmp 36) (.tmp 38) 22 47 (.agg #[.slice none 0 0,.int .i64 0,.int .u16 0,.int .u8 0,.int .u8 0,.int .u32 0,.int .i64 0,.int .i64 0]) 56 (by rfl) (by rfl) hub mf rfl (by decide) (by decide) (.slice Aw lw cw) (bsn.map b8) (b8 (.slice Ac b.f0.length cc,b)) (b8 (.slice Ac b.f0.length cc,b)) (by rfl) (by rfl) ⟨rfl,rfl,rz rfl⟩ HBY.out.out HBY.out.low HBY.out.low.size (by have:=HLB.out;omega) ?_
    intro v1 w1 hR hB hG
    obtain ⟨A2,l2,cc2,e2⟩:∃ A2 l2 cc2,v1 = .slice A2 l2 cc2:=by (obtain ⟨A,c,e⟩:=Kd.gJ hR;exact ⟨_,_,_,e⟩)
    have HAP:=aa.mk (And.intro hR (And.intro hB hG))
    have hme1:w1.heap[gw]?=some (.cells #[.slice Aw lw cw] 83 (0,0)):=(hG.block gw (ax HBY.out.me) (Kd.sV HBY.out.out HBY.out.me (by decide))).trans HBY.out.me
    have w10:=dA hme1 0
    have w1f:w1.frozen? ⟨gw,0,none⟩=false:=af hme1 0
    clear hR hB hG hme1
    subst e2
    refine hK.out _ _ ?_
    clear hK K
    refine eZ 39 ?_
    refine aH 8 40 ?_
    refine aH 9 41 ?_
    refine fM 10 none (fun K hK=>?_)
    refine ik ?_
    refine hK.out _ _ ?_
    clear hK K
    refine iA (by kernel_rfl) ?_
    have HE:aa (BI w (w1.setCell ⟨gw,0,none⟩ (.slice A2 l2 cc2)) gw (.slice A2 l2 cc2) (bsn++[(.slice Ac b.f0.length cc,b)])):=⟨HBI.out.snoc HCD.out.2 HCD.out.1 HVC.out HAP.out.1 HAP.out.2.1 HAP.out.2.2⟩
    have HTE:aa ((bsn++[(Value.slice Ac b.f0.length cc,b)]).map (·.2)=g.take (n+1)):=⟨by rw [List.map_append,HTK.out,←HT.out];rfl⟩
    clear HBI HBY HCD HAP c0 cf y0 y1 y2 y3 y4 y5 y6 y7 w10 w1f
    go_wp2
    go_roundw
    case rel=>exact ⟨n+1,_,_,by omega,by go_num,HE,HTE⟩
    case measure=>simp [intOf];omega
  have hnl:n=g.length:=by omega
  subst hnl
  have HTG:aa (bsn.map (·.2)=g):=⟨by have h:=HTK.out;rw [List.take_length] at h;exact h⟩
  obtain ⟨gb,cap,tl,hia⟩:=HBI.out.ia HTG.out HG.out
  obtain ⟨R,eR⟩:∃ R,R=qw (phG g+1) g:=⟨_,rfl⟩
  rw [←eR] at hia
  have HIA:=aa.mk hia
  have ER:=aa.mk eR
  clear hia eR HBI HTK
  obtain ⟨wo,rfl⟩:∃ wo:World,wo=wr:=⟨_,rfl⟩
  go_wp2
  go_loopg [9] (phG g+1) (fun kq v9 w'=>∃ (f:Bool) (gb cap:Nat) (bsn:List (Value × S47)) (tl:List Value) (gp:Nat),v9 = .bool f∧aa (IA w w' gw gp R kq f gb cap bsn tl))
  case atStart=>exact ⟨true,gb,cap,bsn,tl,0,rfl,HIA⟩
  case round=>
   clear HIA
   obtain ⟨f,gb,cap,bsn,tl,gp,rfl,HIA⟩:=hrel
   cases f with
   | false=>
    have c0:=dA HIA.out.me 0
    go_wp2
    go_ret2
    exact ⟨gb,cap,bsn,tl,rfl,HIA.out.wr,by rw [HIA.out.done rfl,ER.out],HIA.out.low⟩
   | true=>
    cases gk with
    | zero=>exact absurd (HIA.out.more rfl).1 (Nat.not_lt_zero _)
    | succ kq=>
     obtain ⟨wp,rfl⟩:∃ wp:World,wp=wr:=⟨_,rfl⟩
     go_wp2_with (go_at_call 53;refine (sD wp).mono ?_;rintro e w3 ⟨rfl,rfl⟩)
     refine forget (fun X=>∃ gp,gp=wp.heap.size∧IB w X gw gp (bsn.map (·.2)) 0 false gb cap bsn tl) ⟨_,rfl,HIA.out.start (ai (Below.refl _ _) _) (heap_alloc_new _ _)⟩ ?_
     rintro X ⟨gp2,egp,hib⟩
     rw [←egp]
     have HIB:=aa.mk hib
     clear egp hib
     go_loopw [9,46] (fun v9 v46 wr=>∃ (j:Nat) (f:Bool) (gb cap:Nat) (bs:List (Value × S47)) (tl:List Value),j≤6∧v46 = .int .i64 j∧v9 = .bool f∧aa (IB w wr gw gp2 (bsn.map (·.2)) j f gb cap bs tl)) (fun _ v46 _=>6 - (intOf v46).toNat)
     case atStart=>exact ⟨0,false,gb,cap,bsn,tl,by omega,rfl,rfl,HIB⟩
     case round=>
      clear HIB
      obtain ⟨j,f,gb2,cap2,bs2,tl2,hj,rfl,rfl,HIB⟩:=hrel
      have HGK:aa (GOk (bs2.map (·.2))):=⟨by rw [show bs2.map (·.2)=(psG (bsn.map (·.2)) j).1 from congrArg Prod.fst HIB.out.eq];exact psG_ok HIA.out.gok j⟩
      by_cases h6:j<6
      · have i0:(0:Int)≤(j:Int):=by omega
        have i1:(j:Int)<6:=by omega
        have hcase:j=0∨j=1∨j=2∨j=3∨j=4∨j=5:=by omega
        rcases hcase with hj0 | hj0 | hj0 | hj0 | hj0 | hj0
        · have pc:wr.cell? ⟨gp2,j,none⟩=some (.func (.func 83) #[] #[]):=(ae HIB.out.wk.ps j).trans (by rw [hj0];rfl)
          have HCALL:=aa.mk (uy wr ⟨w.heap.size,gp2⟩ gw gb2 cap2 bs2 tl2 HIB.out.wk HGK.out)
          have HJ0:=aa.mk hj0
          clear hj0
          go_upto_region 18 with (go_at_call 83;refine HCALL.out.mono ?_;rintro e w4 ⟨rfl,⟨bs3,e3,hw3⟩,hb3⟩;have H3:=aa.mk (And.intro e3 (And.intro hw3 hb3));clear e3 hw3 hb3;obtain ⟨fb,efb⟩:∃ fb,fb=(jq (bs2.map (·.2))).2:=⟨_,rfl⟩;rw [←efb];have EFB:=aa.mk efb;clear efb;cases fb)
          · have HN:aa (IB w w4 gw gp2 (bsn.map (·.2)) (j+1) f gb2 cap2 bs3 tl2):=⟨HIB.out.next H3.out.2.1 H3.out.2.2 (by rw [HJ0.out];exact H3.out.1) (by rw [HJ0.out];show f=((jq _).2||f);rw [←EFB.out];cases f<;>rfl)⟩
            clear pc HCALL H3 HIB EFB
            go_wp2
            go_roundw
            case rel=>exact ⟨j+1,f,_,_,_,_,by omega,by go_num,rfl,HN⟩
            case measure=>simp [intOf];omega
          have HN:aa (IB w w4 gw gp2 (bsn.map (·.2)) (j+1) true gb2 cap2 bs3 tl2):=⟨HIB.out.next H3.out.2.1 H3.out.2.2 (by rw [HJ0.out];exact H3.out.1) (by rw [HJ0.out];show true=((jq _).2||f);rw [←EFB.out];rfl)⟩
          clear pc HCALL H3 HIB EFB
          go_wp2
          go_roundw
          case rel=>exact ⟨j+1,true,_,_,_,_,by omega,by go_num,rfl,HN⟩
          case measure=>simp [intOf];omega
        · have pc:wr.cell? ⟨gp2,j,none⟩=some (.func (.func 84) #[] #[]):=(ae HIB.out.wk.ps j).trans (by rw [hj0];rfl)
          have HCALL:=aa.mk (rP wr ⟨w.heap.size,gp2⟩ gw gb2 cap2 bs2 tl2 HIB.out.wk HGK.out)
          have HJ0:=aa.mk hj0
          clear hj0
          go_upto_region 18 with (go_at_call 84;refine HCALL.out.mono ?_;rintro e w4 ⟨rfl,⟨bs3,e3,hw3⟩,hb3⟩;have H3:=aa.mk (And.intro e3 (And.intro hw3 hb3));clear e3 hw3 hb3;obtain ⟨fb,efb⟩:∃ fb,fb=(jb (bs2.map (·.2))).2:=⟨_,rfl⟩;rw [←efb];have EFB:=aa.mk efb;clear efb;cases fb)
          · have HN:aa (IB w w4 gw gp2 (bsn.map (·.2)) (j+1) f gb2 cap2 bs3 tl2):=⟨HIB.out.next H3.out.2.1 H3.out.2.2 (by rw [HJ0.out];exact H3.out.1) (by rw [HJ0.out];show f=((jb _).2||f);rw [←EFB.out];cases f<;>rfl)⟩
            clear pc HCALL H3 HIB EFB
            go_wp2
            go_roundw
            case rel=>exact ⟨j+1,f,_,_,_,_,by omega,by go_num,rfl,HN⟩
            case measure=>simp [intOf];omega
          have HN:aa (IB w w4 gw gp2 (bsn.map (·.2)) (j+1) true gb2 cap2 bs3 tl2):=⟨HIB.out.next H3.out.2.1 H3.out.2.2 (by rw [HJ0.out];exact H3.out.1) (by rw [HJ0.out];show true=((jb _).2||f);rw [←EFB.out];rfl)⟩
          clear pc HCALL H3 HIB EFB
          go_wp2
          go_roundw
          case rel=>exact ⟨j+1,true,_,_,_,_,by omega,by go_num,rfl,HN⟩
          case measure=>simp [intOf];omega
        · have pc:wr.cell? ⟨gp2,j,none⟩=some (.func (.func 85) #[] #[]):=(ae HIB.out.wk.ps j).trans (by rw [hj0];rfl)
          have HCALL:=aa.mk (uu wr ⟨w.heap.size,gp2⟩ gw gb2 cap2 bs2 tl2 HIB.out.wk HGK.out)
          have HJ0:=aa.mk hj0
          clear hj0
          go_upto_region 18 with (go_at_call 85;refine HCALL.out.mono ?_;rintro e w4 ⟨rfl,⟨bs3,e3,hw3⟩,hb3⟩;have H3:=aa.mk (And.intro e3 (And.intro hw3 hb3));clear e3 hw3 hb3;obtain ⟨fb,efb⟩:∃ fb,fb=(jM (bs2.map (·.2))).2:=⟨_,rfl⟩;rw [←efb];have EFB:=aa.mk efb;clear efb;cases fb)
          · have HN:aa (IB w w4 gw gp2 (bsn.map (·.2)) (j+1) f gb2 cap2 bs3 tl2):=⟨HIB.out.next H3.out.2.1 H3.out.2.2 (by rw [HJ0.out];exact H3.out.1) (by rw [HJ0.out];show f=((jM _).2||f);rw [←EFB.out];cases f<;>rfl)⟩
            clear pc HCALL H3 HIB EFB
            go_wp2
            go_roundw
            case rel=>exact ⟨j+1,f,_,_,_,_,by omega,by go_num,rfl,HN⟩
            case measure=>simp [intOf];omega
          have HN:aa (IB w w4 gw gp2 (bsn.map (·.2)) (j+1) true gb2 cap2 bs3 tl2):=⟨HIB.out.next H3.out.2.1 H3.out.2.2 (by rw [HJ0.out];exact H3.out.1) (by rw [HJ0.out];show true=((jM _).2||f);rw [←EFB.out];rfl)⟩
          clear pc HCALL H3 HIB EFB
          go_wp2
          go_roundw
          case rel=>exact ⟨j+1,true,_,_,_,_,by omega,by go_num,rfl,HN⟩
          case measure=>simp [intOf];omega
        · have pc:wr.cell? ⟨gp2,j,none⟩=some (.func (.func 86) #[] #[]):=(ae HIB.out.wk.ps j).trans (by rw [hj0];rfl)
          have HCALL:=aa.mk (tJ wr ⟨w.heap.size,gp2⟩ gw gb2 cap2 bs2 tl2 HIB.out.wk HGK.out)
          have HJ0:=aa.mk hj0
          clear hj0
          go_upto_region 18 with (go_at_call 86;refine HCALL.out.mono ?_;rintro e w4 ⟨rfl,⟨bs3,e3,hw3⟩,hb3⟩;have H3:=aa.mk (And.intro e3 (And.intro hw3 hb3));clear e3 hw3 hb3;obtain ⟨fb,efb⟩:∃ fb,fb=(iF (bs2.map (·.2))).2:=⟨_,rfl⟩;rw [←efb];have EFB:=aa.mk efb;clear efb;cases fb)
          · have HN:aa (IB w w4 gw gp2 (bsn.map (·.2)) (j+1) f gb2 cap2 bs3 tl2):=⟨HIB.out.next H3.out.2.1 H3.out.2.2 (by rw [HJ0.out];exact H3.out.1) (by rw [HJ0.out];show f=((iF _).2||f);rw [←EFB.out];cases f<;>rfl)⟩
            clear pc HCALL H3 HIB EFB
            go_wp2
            go_roundw
            case rel=>exact ⟨j+1,f,_,_,_,_,by omega,by go_num,rfl,HN⟩
            case measure=>simp [intOf];omega
          have HN:aa (IB w w4 gw gp2 (bsn.map (·.2)) (j+1) true gb2 cap2 bs3 tl2):=⟨HIB.out.next H3.out.2.1 H3.out.2.2 (by rw [HJ0.out];exact H3.out.1) (by rw [HJ0.out];show true=((iF _).2||f);rw [←EFB.out];rfl)⟩
          clear pc HCALL H3 HIB EFB
          go_wp2
          go_roundw
          case rel=>exact ⟨j+1,true,_,_,_,_,by omega,by go_num,rfl,HN⟩
          case measure=>simp [intOf];omega
        · have pc:wr.cell? ⟨gp2,j,none⟩=some (.func (.func 87) #[] #[]):=(ae HIB.out.wk.ps j).trans (by rw [hj0];rfl)
          have HCALL:=aa.mk (uw wr ⟨w.heap.size,gp2⟩ gw gb2 cap2 bs2 tl2 HIB.out.wk HGK.out)
          have HJ0:=aa.mk hj0
          clear hj0
          go_upto_region 18 with (go_at_call 87;refine HCALL.out.mono ?_;rintro e w4 ⟨rfl,⟨gb3,cap3,bs3,tl3,e3,hw3⟩,hb3⟩;have H3:=aa.mk (And.intro e3 (And.intro hw3 hb3));clear e3 hw3 hb3;obtain ⟨fb,efb⟩:∃ fb,fb=(iV (bs2.map (·.2))).2:=⟨_,rfl⟩;rw [←efb];have EFB:=aa.mk efb;clear efb;cases fb)
          · have HN:aa (IB w w4 gw gp2 (bsn.map (·.2)) (j+1) f gb3 cap3 bs3 tl3):=⟨HIB.out.next H3.out.2.1 H3.out.2.2 (by rw [HJ0.out];exact H3.out.1) (by rw [HJ0.out];show f=((iV _).2||f);rw [←EFB.out];cases f<;>rfl)⟩
            clear pc HCALL H3 HIB EFB
            go_wp2
            go_roundw
            case rel=>exact ⟨j+1,f,_,_,_,_,by omega,by go_num,rfl,HN⟩
            case measure=>simp [intOf];omega
          have HN:aa (IB w w4 gw gp2 (bsn.map (·.2)) (j+1) true gb3 cap3 bs3 tl3):=⟨HIB.out.next H3.out.2.1 H3.out.2.2 (by rw [HJ0.out];exact H3.out.1) (by rw [HJ0.out];show true=((iV _).2||f);rw [←EFB.out];rfl)⟩
          clear pc HCALL H3 HIB EFB
          go_wp2
          go_roundw
          case rel=>exact ⟨j+1,true,_,_,_,_,by omega,by go_num,rfl,HN⟩
          case measure=>simp [intOf];omega
        have pc:wr.cell? ⟨gp2,j,none⟩=some (.func (.func 88) #[] #[]):=(ae HIB.out.wk.ps j).trans (by rw [hj0];rfl)
        have HCALL:=aa.mk (uH wr ⟨w.heap.size,gp2⟩ gw gb2 cap2 bs2 tl2 HIB.out.wk HGK.out)
        have HJ0:=aa.mk hj0
        clear hj0
        go_upto_region 18 with (go_at_call 88;refine HCALL.out.mono ?_;rintro e w4 ⟨rfl,⟨bs3,e3,hw3⟩,hb3⟩;have H3:=aa.mk (And.intro e3 (And.intro hw3 hb3));clear e3 hw3 hb3;obtain ⟨fb,efb⟩:∃ fb,fb=(jP (bs2.map (·.2))).2:=⟨_,rfl⟩;rw [←efb];have EFB:=aa.mk efb;clear efb;cases fb)
        · have HN:aa (IB w w4 gw gp2 (bsn.map (·.2)) (j+1) f gb2 cap2 bs3 tl2):=⟨HIB.out.next H3.out.2.1 H3.out.2.2 (by rw [HJ0.out];exact H3.out.1) (by rw [HJ0.out];show f=((jP _).2||f);rw [←EFB.out];cases f<;>rfl)⟩
          clear pc HCALL H3 HIB EFB
          go_wp2
          go_roundw
          case rel=>exact ⟨j+1,f,_,_,_,_,by omega,by go_num,rfl,HN⟩
          case measure=>simp [intOf];omega
        have HN:aa (IB w w4 gw gp2 (bsn.map (·.2)) (j+1) true gb2 cap2 bs3 tl2):=⟨HIB.out.next H3.out.2.1 H3.out.2.2 (by rw [HJ0.out];exact H3.out.1) (by rw [HJ0.out];show true=((jP _).2||f);rw [←EFB.out];rfl)⟩
        clear pc HCALL H3 HIB EFB
        go_wp2
        go_roundw
        case rel=>exact ⟨j+1,true,_,_,_,_,by omega,by go_num,rfl,HN⟩
        case measure=>simp [intOf];omega
      have hj6:j=6:=by omega
      have h7:¬(j:Int)<6:=by omega
      have HE:=aa.mk (HIA.out.next (f:=f) (by rw [←hj6];exact HIB.out))
      clear hj6 HIB HGK
      go_wp2
      go_roundg kq
      case measure=>omega
      case rel=>exact ⟨f,gb2,cap2,bs2,tl2,gp2,rfl,HE⟩
theorem uG (w:World) (g:List S47) (A:Option Addr) (c k:Nat) (r e1:Int) (HG0:Kd.C k47 w A g.length g) (hc:g.length≤c) (hck:dB.f k g=some (r,e1)) (he:e1≠0) :
 Calls Try.prog 27 #[.slice A g.length c] w fun e w'=>e = .returned (.tuple #[.slice none 0 0,.int .i64 170])∧Below w.heap.size w w':=by
 have HA:=aa.mk HG0
 have HCK:=aa.mk (And.intro hc hck)
 have he2:(e1 != 0)=true:=bne_iff_ne.mpr he
 have he3:(e1==0)=false:=bn he
 clear HG0 hc hck he
 go_enter Try.func27,Try.ntmps27
 go_wp2_with (go_at_call 52;refine (dB.calls k A c g r e1 w HA.out HCK.out.1 HCK.out.2).mono ?_;rintro e w2 ⟨rfl,hb2⟩;have HB2:=aa.mk hb2;clear hb2)
 go_ret2
 exact ⟨rfl,HB2.out⟩
theorem gcheck (g:List S47) (hF:Fit g) (k:Nat) (hk:10000≤k):∃ r:Int × Int,dB.f k g=some r∧(r.2=0↔TkB g=true):=by
 unfold dB.f TkB
 by_cases a:(g.length:Int)=0
 · rw [if_pos a,decide_eq_false (by omega:¬0<g.length)];exact ⟨_,rfl,by simp⟩
 rw [if_neg a,decide_eq_true (by omega:0<g.length)]
 by_cases b:(g.length:Int)>4096
 · rw [if_pos b,decide_eq_false (by omega:¬g.length≤4096)];exact ⟨_,rfl,by simp⟩
 rw [if_neg b,decide_eq_true (by omega:g.length≤4096)]
 obtain ⟨r,e,h⟩:=gck_l g (by omega) hF g.length 0 rfl (by omega) 4096 (by omega) (by omega) k (by omega)
 rw [show ((0:Nat):Int)=0 from rfl] at e h
 rw [show (4096:Int) - 4096=0 from rfl] at e
 rw [List.drop_zero] at h
 exact ⟨r,e,by simpa using h⟩
def gA2:List S47:=[⟨[],2,⟨0,0,0,0⟩,1,0⟩,⟨[],1,⟨6,0,0,7⟩,0,0⟩]
theorem aw2_ck:dB.f 10000 gA2=some (0,0):=by kernel_rfl
theorem aw2_tk:TkB gA2=true:=by decide +kernel
theorem aw2_imp:qw (phG gA2+1) gA2=[⟨[],1,⟨6,0,0,7⟩,0,0⟩]:=by kernel_rfl
theorem aw2_ok:GOk gA2:=gok_of aw2_tk (by
 intro b hb
 have h:b=⟨[],2,⟨0,0,0,0⟩,1,0⟩∨b=⟨[],1,⟨6,0,0,7⟩,0,0⟩:=by simpa [gA2] using hb
 rcases h with rfl | rfl
 · exact ⟨fun i hi=>(by cases hi),by unfold Rg;decide⟩
 exact ⟨fun i hi=>(by cases hi),by unfold Rg;decide⟩)
theorem R_made' {α:Type} (d:Kd α) (W:World) (e:Nat) (xs:List α) (inner:List Value) (hrep:fZ (d.M W W.heap.size (fun _=>True)) d.sz xs inner) (hm:xs.length≤9223372036854775807) :
 d.R e (W.alloc (.cells inner.toArray e)) W.heap.size (fun _=>True) (.slice (some ⟨W.heap.size,0,none⟩) xs.length xs.length) xs:=by
 refine ⟨fun _ _=>trivial,inner,?_,?_⟩
 · have h2:=World.ownsRow_lit (base:=W.heap.size) (e:=e) (size:=d.sz) W inner.toArray xs.length (Nat.le_refl _) (by simpa [maxLen] using hm) (by simpa using hrep.1)
   simpa using h2
 refine hrep.kE (fun p c hp=>d.M_mono (fun k hk=>⟨trivial,fun he=>?_⟩) (d.vM (d.M_bound hp) (ai (Below.refl _ _) _)))
 have h3:k=W.heap.size:=by simpa [Value.ownBlock] using he
 have:=hk.2.2.1
 omega
theorem fZ.one' {α:Type} {R:α→List Value→Prop} {size:Nat} {p:α} {c:List Value} (h:R p c) (hl:c.length=size):fZ R size [p] c:=by
 have:=fZ.snoc (fZ.none R size) h hl
 simpa using this
def cA2:List Value:=[.slice none 0 0,.int .i64 2,.int .u16 0,.int .u8 0,.int .u8 0,.int .u32 0,.int .i64 1,.int .i64 0,.slice none 0 0,.int .i64 1,.int .u16 6,.int .u8 0,.int .u8 0,.int .u32 7,.int .i64 0,.int .i64 0]
theorem aw2_C (w:World):Kd.C k47 (w.alloc (.cells #[.slice none 0 0,.int .i64 2,.int .u16 0,.int .u8 0,.int .u8 0,.int .u32 0,.int .i64 1,.int .i64 0,.slice none 0 0,.int .i64 1,.int .u16 6,.int .u8 0,.int .u8 0,.int .u32 7,.int .i64 0,.int .i64 0] 47)) (some ⟨w.heap.size,0,none⟩) 2 gA2:=by
 have h:=Kd.oH (R_made' k47 w 47 gA2 cA2 (by
  have h1:=fZ.one' (mK w w.heap.size (fun _=>True) ⟨[],2,⟨0,0,0,0⟩,1,0⟩ (Kd.kK _ _ _ _ _)) rfl
  exact fZ.snoc h1 (mK w w.heap.size (fun _=>True) ⟨[],1,⟨6,0,0,7⟩,0,0⟩ (Kd.kK _ _ _ _ _)) rfl) (by decide))
 obtain ⟨A,c,he,hl,hc⟩:=h
 injection he with h1 h2 h3
 subst h1
 exact hc
theorem ry:gA2.length=2:=rfl
theorem uE (w W:World) (a:Addr) (h:Kd.C k47 W (some a) 2 gA2) :
 Calls Try.prog 27 #[.slice (some a) 2 2] W fun e w'=>∃ gb cap bs tl,e = .returned (.tuple #[.slice (some ⟨gb,0,none⟩) bs.length cap,.int .i64 0])∧Wr8 w' W.heap.size gb cap bs tl∧bs.map (·.2)=[⟨[],1,⟨6,0,0,7⟩,0,0⟩]∧Below W.heap.size W w':=by
 have h1:=pK W gA2 (some a) 2 10000 0 (by rw [ry];exact h) (by rw [ry];exact Nat.le_refl 2) aw2_ck aw2_ok
 rw [aw2_imp,ry] at h1
 exact h1
theorem aw_one {bs:List (Value × S47)} (h:bs.map (·.2)=[⟨[],1,⟨6,0,0,7⟩,0,0⟩]):∃ v,bs=[(v,⟨[],1,⟨6,0,0,7⟩,0,0⟩)]:=by
 have hl:=congrArg List.length h
 rw [List.length_map] at hl
 obtain ⟨p,rfl⟩:=List.length_eq_one_iff.1 hl
 have e:p.2=⟨[],1,⟨6,0,0,7⟩,0,0⟩:=by simpa using h
 exact ⟨p.1,by rw [←e]⟩
theorem ku (w:World):Calls Try.prog 29 #[] w fun e w'=>e = .returned (.bool true)∧Below w.heap.size w w':=by
 have HG1:=aa.mk (aw2_C w)
 go_enter Try.func29,Try.ntmps29
 go_upto_region 2 with (go_at_call 27;refine (uE w _ _ HG1.out).mono ?_;rintro e w1 ⟨gb,cap,bs,tl,rfl,hr,hbs,hb⟩;obtain ⟨v1,rfl⟩:=aw_one hbs;have HR:=aa.mk (And.intro hr hb);have hrow:=hr.row;clear hr hbs hb)
 go_wp2_with (go_at_call 27;refine (uG w1 [] none 0 10000 0 150 (Kd.xX _ _) (Nat.le_refl _) rfl (by decide)).mono ?_;rintro e w2 ⟨rfl,hb2⟩;have HB2:=aa.mk hb2;have hr2:=aj hrow hb2;have q2:w2.cell? ⟨gb,2,none⟩=some (.int .u16 6):=(ae hr2 2).trans rfl;have q3:w2.cell? ⟨gb,3,none⟩=some (.int .u8 0):=(ae hr2 3).trans rfl;have q4:w2.cell? ⟨gb,4,none⟩=some (.int .u8 0):=(ae hr2 4).trans rfl;have q5:w2.cell? ⟨gb,5,none⟩=some (.int .u32 7):=(ae hr2 5).trans rfl;clear hb2 hrow hr2)
 go_ret
 exact ⟨rfl,av (av (ai (Below.refl _ _) _) HR.out.2) HB2.out⟩
theorem sI (k n m:Nat) (w:World) (g:List S47) (A:Option Addr) (c:Nat) (x:List S47) (Ax:Option Addr) (cx:Nat) (pk:List Int) (Ap:Option Addr) (cp:Nat)
 (HG:Kd.C k47 w A g.length g) (hc:g.length≤c) (HX:Kd.C k47 w Ax x.length x) (hcx:x.length≤cx)
 (HP:Kd.C (Kd.int .u8) w Ap pk.length pk) (hcp:pk.length≤cp) (hpl:pk.length≤65536)
 (ht:dV.f k g=some true) (hk:∀ b∈g,∀ i∈b.f0,0≤i.f3) (hbl:∀ b∈g,b.f0.length≤100000)
 (ht2:dV.f k x=some true) (hk2:∀ b∈x,∀ i∈b.f0,0≤i.f3) (hbl2:∀ b∈x,b.f0.length≤100000)
 (v f s f2 s2:Int) (hr:nG g pk n 0 z16 0=some (v,f,s)) (hr2:nG x pk m 0 z16 0=some (v,f2,s2)) (hle:s2≤s) :
 Calls Try.prog 34 #[.slice A g.length c,.slice Ax x.length cx,.slice Ap pk.length cp] w fun e w'=>e = .returned (.bool true)∧Below w.heap.size w w':=by
 have hsb:decide (s2≤s)=true:=decide_eq_true hle
 have H1:=aa.mk (tK k n w g A c pk Ap cp HG hc HP hcp hpl ht hk hbl v f s hr)
 have H2:aa (∀ W,Below w.heap.size w W→Calls Try.prog 37 #[.slice Ax x.length cx,.slice Ap pk.length cp] W fun e w'=>e = .returned (.tuple #[.agg #[.int .u32 v,.int .i64 f2,.int .i64 s2],.int .i64 0])∧Below W.heap.size W w'):=⟨fun W hW=>tK k m W x Ax cx pk Ap cp (Kd.dI HX hW) hcx (Kd.dI HP hW) hcp hpl ht2 hk2 hbl2 v f2 s2 hr2⟩
 clear HG hc HX hcx HP hcp ht hk hbl ht2 hk2 hbl2 hr hr2
 go_enter Try.func34,Try.ntmps34
 go_upto_region 2 with (go_at_call 37;refine H1.out.mono ?_;rintro e w1 ⟨rfl,hb⟩;have HB1:=aa.mk hb;clear hb)
 refine forget (fun X=>∃ ga,ga=w1.heap.size∧Below w.heap.size w X∧X.heap[ga]?=some (.cells #[.int .u32 v,.int .i64 f,.int .i64 s] 59 (0,0))) ⟨_,rfl,ai HB1.out _,heap_alloc_new _ _⟩ ?_
 rintro X ⟨ga,ega,hbx,ha⟩
 rw [←ega]
 have HX:=aa.mk (And.intro hbx ha)
 clear ega hbx ha
 go_upto_region 3 with (go_at_call 37;refine (H2.out X HX.out.1).mono ?_;rintro e w2 ⟨rfl,hb⟩;have HB2:=aa.mk hb;clear hb)
 refine forget (fun Y=>∃ gy,gy=w2.heap.size∧Below w.heap.size w Y∧Y.heap[ga]?=some (.cells #[.int .u32 v,.int .i64 f,.int .i64 s] 59 (0,0))∧Y.heap[gy]?=some (.cells #[.int .u32 v,.int .i64 f2,.int .i64 s2] 59 (0,0))) ⟨_,rfl,ai (av HX.out.1 HB2.out) _,aj (aj HX.out.2 HB2.out) (ai (Below.refl _ _) _),heap_alloc_new _ _⟩ ?_
 rintro Y ⟨gy,egy,hby,hya,hyy⟩
 rw [←egy]
 have k0:=dA hya 0
 have k2:=dA hya 2
 have l0:=dA hyy 0
 have l2:=dA hyy 2
 have HY:=aa.mk hby
 clear egy hby hya hyy
 go_wp2
 go_ret
 exact ⟨rfl,HY.out⟩
theorem cpi7 (c:List S45) (h:c.length<17592186044416):dX.f c=some c:=by
 unfold dX.f
 rw [Option.bind_some,if_pos (by simpa using h)]
 rfl
theorem cpb7_l (g:List S47) (hg:g.length≤1000000000) (hc:∀ b∈g,b.f0.length<17592186044416):∀ (d j:Nat),g.length - j=d→j≤g.length→∀ k,d+1≤k→bG.l0 k g (g.take j) (j:Int)=some g:=by
 intro d
 induction d with
 | zero=>
  intro j hd hj k hk
  obtain ⟨k,rfl⟩:∃ m,k=m+1:=⟨k - 1,by omega⟩
  rw [bG.l0,if_neg (by omega),List.take_of_length_le (by omega)]
 | succ d ih=>
  intro j hd hj k hk
  obtain ⟨k,rfl⟩:∃ m,k=m+1:=⟨k - 1,by omega⟩
  have hlt:j<g.length:=by omega
  rw [bG.l0,if_pos (by omega),if_pos (by omega),jC hlt,cpi7 _ (hc _ (List.getElem_mem hlt)),Option.bind_some,if_pos (by rw [List.length_take];omega),w64 (n:=(j:Int)+1) (by omega) (by omega)]
  have:=ih (j+1) (by omega) (by omega) k (by omega)
  rw [show ((j+1:Nat):Int)=(j:Int)+1 by omega,List.take_succ_eq_append_getElem hlt] at this
  exact this
theorem cpb7 {g:List S47} (h:GOk g):bG.f 10000 g=some g:=by
 have hf:=h.few
 have:=cpb7_l g (by omega) (fun b hb=>by
  obtain ⟨j,hj⟩:=List.getElem?_of_mem hb
  have:=h.len hj
  omega) g.length 0 rfl (by omega) 10000 (by omega)
 exact this
theorem Wr8.c {w:World} {B gb cap:Nat} {bs:List (Value × S47)} {tl:List Value} (h:Wr8 w B gb cap bs tl):Kd.C k47 w (some ⟨gb,0,none⟩) bs.length (bs.map (·.2)):=by
 refine ⟨List.length_map _,by have h1:=h.le;have h2:=h.max;unfold maxLen at h2;omega,fun _=>⟨_,rfl,fun j b hb=>?_⟩⟩
 rw [List.getElem?_map] at hb
 cases e:bs[j]? with
 | none=>rw [e] at hb;cases hb
 | some p=>
  rw [e] at hb
  cases hb
  refine ⟨b8 p,rfl,?_,fun i u hu=>?_⟩
  · exact Kd.K_of_M _ (mK w 0 (fun _=>True) p.2 (mi (h.code j p e) (fun g hg=>⟨Nat.zero_le _,trivial⟩)))
  have hi:i<8:=(List.getElem?_eq_some_iff.1 hu).1
  rw [Go.WideShapes.add_plain,Nat.zero_add]
  exact ((ae h.row (j*8+i)).trans (di e hi)).trans hu
theorem GOk.fit {g:List S47} (h:GOk g):Fit g:=fun b hb=>by
 obtain ⟨j,hj⟩:=List.getElem?_of_mem hb
 have:=h.len hj
 omega
theorem GOk.nn {g:List S47} (h:GOk g):(∀ b∈g,∀ i∈b.f0,0≤i.f3)∧(∀ b∈g,b.f0.length≤100000):=
 ⟨fun b hb i hi=>by
  obtain ⟨j,hj⟩:=List.getElem?_of_mem hb
  exact ((h.all j b hj).rg i hi).1,fun b hb=>by
  obtain ⟨j,hj⟩:=List.getElem?_of_mem hb
  have:=h.len hj
  omega⟩
theorem impr_of {g:List S47} (h:GOk g):Impr g (qw (phG g+1) g):=imp_ok (phG g+1) g h (Nat.lt_succ_self _)
theorem xS (w:World) (g:List S47) (A:Option Addr) (c:Nat) (x:List S47) (Ax:Option Addr) (cx:Nat) (pk:List Int) (Ap:Option Addr) (cp:Nat)
 (HG:Kd.C k47 w A g.length g) (hc:g.length≤c) (HX:Kd.C k47 w Ax x.length x) (hcx:x.length≤cx)
 (HP:Kd.C (Kd.int .u8) w Ap pk.length pk) (hcp:pk.length≤cp) (hpl:pk.length≤65536) (hG:GOk g) (hI:Impr g x) :
 Calls Try.prog 34 #[.slice A g.length c,.slice Ax x.length cx,.slice Ap pk.length cp] w fun e w'=>e = .returned (.bool true)∧Below w.heap.size w w':=by
 obtain ⟨v,f,t,n,hr,ht,hg⟩:=gok_run hG pk
 obtain ⟨t',hle,hr'⟩:=hI.run pk v f t hr
 obtain ⟨m,hm⟩:=wK hI.done.gok hr'
 have hm0:=hm 0 (by omega)
 rw [Nat.zero_add] at hm0
 exact sI 10000 n m w g A c x Ax cx pk Ap cp HG hc HX hcx HP hcp hpl (by rw [BN g hG.fit 10000 (Nat.le_refl _),hG.tk]) hG.nn.1 hG.nn.2
  (by rw [BN x hI.done.gok.fit 10000 (Nat.le_refl _),hI.done.gok.tk]) hI.done.gok.nn.1 hI.done.gok.nn.2 v f t f t' hg hm0 (by omega)
theorem uF (w:World) (g:List S47) (A:Option Addr) (c:Nat) (HG0:Kd.C k47 w A g.length g) (hc:g.length≤c) (hG:GOk g) :
 Calls Try.prog 27 #[.slice A g.length c] w fun e w'=>∃ gb cap x,e = .returned (.tuple #[.slice (some ⟨gb,0,none⟩) x.length cap,.int .i64 0])∧Kd.C k47 w' (some ⟨gb,0,none⟩) x.length x∧x.length≤cap∧Impr g x∧Below w.heap.size w w':=by
 obtain ⟨r,hr,he⟩:=gcheck g hG.fit 10000 (Nat.le_refl _)
 obtain ⟨r1,r2⟩:=r
 obtain rfl:r2=0:=he.2 hG.tk
 refine (pK w g A c 10000 r1 HG0 hc hr hG).mono fun e w' ⟨gb,cap,bs,tl,h1,h2,h3,h4⟩=>⟨gb,cap,bs.map (·.2),?_,?_,?_,?_,h4⟩
 · rw [List.length_map];exact h1
 · rw [List.length_map];exact h2.c
 · rw [List.length_map];exact h2.le
 rw [h3];exact impr_of hG
end Go.Proofs.Ytdkalnkplgfgoaa.Ln
namespace Go.Proofs.Ytdkalnkplgfgoaa.PA
open Go.RowKit Go.Proofs.YtdkalnkplgfgoaaW.PrintWords Go.Proofs.YtdkalnkplgfgoaaW.PrintLast Go.Proofs.YtdkalnkplgfgoaaW.PrintMore
attribute [local go_sem] dZ ek fF fG dQ dR d9 eu
def aQ.l0:Nat→List (S47)→List Bool→Int→Option (List Bool)
 | 0,_,_,_=>none
 | k+1,x0,x3,x4=>if x4<(x0.length:Int) then (if 0≤x4 then (if x4<(x3.length:Int) then (if pV false x3 x4=true then (if ((ah x0 x4).f1)=1 then (if ((ah x0 x4).f1)=3 then (if 0≤((ah x0 x4).f4) then (if ((ah x0 x4).f4)<(x3.length:Int) then (aQ.l0 k x0 (x3.set (((ah x0 x4).f4):Int).toNat true) (wrap64 (x4+1))) else (none)) else (none)) else (aQ.l0 k x0 x3 (wrap64 (x4+1)))) else (if 0≤((ah x0 x4).f3) then (if ((ah x0 x4).f3)<(x3.length:Int) then ((some (x3.set (((ah x0 x4).f3):Int).toNat true:List Bool)).bind fun y381=>(if ((ah x0 x4).f1)=3 then (if 0≤((ah x0 x4).f4) then (if ((ah x0 x4).f4)<(x3.length:Int) then (aQ.l0 k x0 (y381.set (((ah x0 x4).f4):Int).toNat true) (wrap64 (x4+1))) else (none)) else (none)) else (aQ.l0 k x0 y381 (wrap64 (x4+1))))) else (none)) else (none))) else (aQ.l0 k x0 x3 (wrap64 (x4+1)))) else (none)) else (none)) else (some x3)
def aQ.f (k:Nat) (l0:List (S47)):Option (List Bool):=if 0≤(l0.length:Int) then (if ((l0.length:Int):Int).toNat≤281474976710656 then ((some (List.replicate ((l0.length:Int):Int).toNat false:List Bool)).bind fun y371=>(if 0<(y371.length:Int) then (aQ.l0 k l0 (y371.set (0:Int).toNat true) 0) else (none))) else (none)) else (none)
theorem aQ.calls (k:Nat) (A0:Option Addr) (c0:Nat) (l0:List (S47)) (r:List Bool) (w:World) (hr0:Kd.C k47 w A0 l0.length l0) (hc0:l0.length≤c0) (h:aQ.f k l0=some r) :
 Calls Try.prog 55 #[.slice A0 l0.length c0] w fun e w'=>∃ v0_:Value,e = .returned (v0_)∧Kd.R Kd.bool 4 w' w.heap.size (fun _=>True) v0_ r∧Below w.heap.size w w':=by
 have HR0:=aa.mk hr0
 have HC0:=aa.mk hc0
 clear hr0 hc0
 have HB:=aa.mk (Below.refl w.heap.size w)
 have H:(if 0≤(l0.length:Int) then (if ((l0.length:Int):Int).toNat≤281474976710656 then ((some (List.replicate ((l0.length:Int):Int).toNat false:List Bool)).bind fun y371=>(if 0<(y371.length:Int) then (aQ.l0 k l0 (y371.set (0:Int).toNat true) 0) else (none))) else (none)) else (none))=some r:=h
 clear h
 replace H:=mZ H
 obtain ⟨H,c2⟩ | ⟨H,c2⟩:=H
 · have c2b0:=eq_true c2
   have c2b1:decide (0≤(l0.length:Int))=true:=decide_eq_true c2
   clear c2
   replace H:=mZ H
   obtain ⟨H,c3⟩ | ⟨H,c3⟩:=H
   · have c3b0:=eq_true c3
     have c3b1:decide (((l0.length:Int):Int).toNat≤281474976710656)=true:=decide_eq_true c3
     clear c3
     obtain ⟨y371,hy371⟩:∃ y_:List Bool,y_=(List.replicate ((l0.length:Int):Int).toNat false):=⟨_,rfl⟩
     replace H:(if 0<(y371.length:Int) then (aQ.l0 k l0 (y371.set (0:Int).toNat true) 0) else (none))=some r:=by first | (rw [hy371];with_reducible exact H) | (have H2_:=(Option.bind_some _ _).symm.trans H;rw [hy371];with_reducible exact H2_) | (have H2_:=(Option.bind_some _ _).symm.trans H;with_reducible exact H2_) | with_reducible exact H | (rw [hy371];exact H) | exact H
     have Ny371:=aa.mk hy371
     clear hy371
     replace H:=fo H
     obtain ⟨H,c4,_⟩ | ⟨H,c4,-⟩:=H
     · have c4b1:decide (0<y371.length)=true:=decide_eq_true (by omega)
       clear c4
       obtain ⟨y374,hy374⟩:∃ y_:List Bool,y_=(y371.set (0:Int).toNat true):=⟨_,rfl⟩
       replace H:(aQ.l0 k l0 y374 0)=some r:=by first | (rw [hy374];with_reducible exact H) | (have H2_:=(Option.bind_some _ _).symm.trans H;rw [hy374];with_reducible exact H2_) | (have H2_:=(Option.bind_some _ _).symm.trans H;with_reducible exact H2_) | with_reducible exact H | (rw [hy374];exact H) | exact H
       have Ny374:=aa.mk hy374
       clear hy374
       replace H:=aa.mk H
       go_enter Try.func55,Try.ntmps55
       go_wp2_with (first | ((with_reducible refine aW (N:=7) rfl ?_);refine Kd.yc Kd.bool _ 4 rfl (N:=7) rfl 73 _ _ rfl (l0.length:Int) rfl rfl Try.underlying73 (.bool false) 1 info4 rfl (by decide) (by omega) false (ok:=fun _=>True) (okp:=fun _=>True) rfl (fun _ hk=>hk) trivial (of_decide_eq_true (by first | (with_reducible assumption) | assumption)) (Nat.le_trans (Nat.mul_le_mul_right _ (of_decide_eq_true (by first | (with_reducible assumption) | assumption):(l0.length:Int).toNat≤281474976710656)) (by omega)) (Below.refl _ _) (Nat.le_refl _) ?_;intro v372 w6 ho7 hb hg_ hnew_;clear hg_ hnew_;(first | rw [←Ny371.out] at ho7 | (simp only [Int.reduceToNat] at ho7;rw [←Ny371.out] at ho7));have HO373:=aa.mk (Kd.jV ho7 (gF bv));replace HB:=cK HB hb;clear hb ho7;have p5:0≤(0:Int):=(by omega);have q5:(0:Int)<((y371.length:Int):Int):=of_decide_eq_true (by first | (with_reducible assumption) | assumption);have qi5:(0<y371.length)=True:=eq_true (by omega);obtain ⟨go5,co5,eo5,gb5,gl5,cl5,HG5⟩:=Kd.q9 HO373.out (by omega);(first | cases eo5 | (injection eo5 with ea_ en_ ec_;(first | subst ea_ | (injection ea_ with ea_;subst ea_));subst ec_;clear en_));have GB5:=aa.mk gb5;have GG5:=aa.mk HG5;clear gb5 gl5 HG5;obtain ⟨hx5_0,hf5_0⟩:=Kd.iL false HO373.out (0:Int) p5 q5;(try rw [show ((0:Int)).toNat=0 from rfl] at hx5_0);(try simp only [Nat.reduceMul,Nat.zero_mul,Nat.zero_add,Nat.reduceAdd] at hx5_0);(try rw [show ((0:Int)).toNat=0 from rfl] at hf5_0);(try simp only [Nat.reduceMul,Nat.zero_mul,Nat.zero_add,Nat.reduceAdd] at hf5_0);replace p5:=eq_true p5;replace q5:=eq_true q5;obtain ⟨hy8_,hz8_⟩:=Kd.iL false HO373.out (0:Int) (by omega) (of_decide_eq_true (by first | (with_reducible assumption) | assumption));(try simp only [Int.reduceToNat,Int.toNat_zero,Int.toNat_ofNat,Nat.reduceMul,Nat.zero_mul,Nat.zero_add] at hy8_ hz8_);(try rw [show ((0:Int)).toNat=0 from rfl] at hy8_);(try rw [show ((0:Int)).toNat=0 from rfl] at hz8_);have HP8:=Kd.ky HO373.out (0:Int) true) | ((with_reducible refine gG (t:=4) (p:=9) rfl ?_);refine fH (t:=4) (p:=9) (v:=?vo_w9) (w1:=(w6.setCell ⟨go5,(0:Int).toNat,none⟩ (.bool true))) ?hg ?ho ?hn ?hr ?_;(case ho=>rfl);(case hg=>rfl);(case hn=>rfl);(case hr=>first | (go_simp;done) | (go_simp;rfl));intro w9 hw;have hg:w6.grownBy w9 (some go5):=(by rw [hw];exact HP8.2);have hp_:Kd.R Kd.bool 4 w9 w.heap.size (fun _=>True) (.slice (some ⟨go5,0,none⟩) y371.length co5) y374:=(by rw [hw,Ny374.out];exact HP8.1);clear HP8;have n0_:=aa.mk (hp_);have n1_:=aa.mk ((by rw [hw];exact dz (HB.out) GB5.out:Below w.heap.size w w9));clear HO373;clear HB;have HO373:=n0_;have HB:=n1_;clear n0_ n1_;clear hg hw hp_))
       go_loopg [4] k (fun kq v4 w'=>∃ (x3_1:List Bool) (x4_1:Int),v4 = .int .i64 x4_1∧aa (aQ.l0 kq l0 x3_1 x4_1=some r)∧aa (kq≤k)∧aa (Kd.R Kd.bool 4 w' w.heap.size (fun _=>True) (.slice (some ⟨go5,0,none⟩) y371.length co5) x3_1)∧aa (Below w.heap.size w w'))
       case atStart=>exact ⟨_,_,aY,H,⟨Nat.le_refl _⟩,⟨by (with_reducible repeat (first | apply Kd.fu | apply Kd.fw | apply Kd.gD));exact HO373.out⟩,⟨bv⟩⟩
       case round=>
        clear H
        obtain ⟨x3_1,x4_1,rfl,HA,HK1,HO_3,HB⟩:=hrel
        have hl3_1:=(Kd.dW HO_3.out).1
        rw [hl3_1] at HO_3
        (try simp only [hl3_1])
        cases gk with
        | zero=>exact absurd HA.out (by simp [aQ.l0])
        | succ k1=>
         have H:=HA.out
         clear HA
         simp only [aQ.l0] at H
         replace H:=fo H
         obtain ⟨H,-,_⟩ | ⟨H,-,_⟩:=H
         · replace H:=fo H
           obtain ⟨H,-,_⟩ | ⟨H,c11,-⟩:=H
           · replace H:=fo H
             obtain ⟨H,-,_⟩ | ⟨H,c12,-⟩:=H
             · obtain ⟨bq13,hbq13⟩:∃ b_:Bool,b_=(pV false x3_1 x4_1):=⟨_,rfl⟩
               replace H:(if bq13=true then (if ((ah l0 x4_1).f1)=1 then (if ((ah l0 x4_1).f1)=3 then (if 0≤((ah l0 x4_1).f4) then (if ((ah l0 x4_1).f4)<(x3_1.length:Int) then (aQ.l0 k1 l0 (x3_1.set (((ah l0 x4_1).f4):Int).toNat true) (wrap64 (x4_1+1))) else (none)) else (none)) else (aQ.l0 k1 l0 x3_1 (wrap64 (x4_1+1)))) else (if 0≤((ah l0 x4_1).f3) then (if ((ah l0 x4_1).f3)<(x3_1.length:Int) then ((some (x3_1.set (((ah l0 x4_1).f3):Int).toNat true:List Bool)).bind fun y381=>(if ((ah l0 x4_1).f1)=3 then (if 0≤((ah l0 x4_1).f4) then (if ((ah l0 x4_1).f4)<(x3_1.length:Int) then (aQ.l0 k1 l0 (y381.set (((ah l0 x4_1).f4):Int).toNat true) (wrap64 (x4_1+1))) else (none)) else (none)) else (aQ.l0 k1 l0 y381 (wrap64 (x4_1+1))))) else (none)) else (none))) else (aQ.l0 k1 l0 x3_1 (wrap64 (x4_1+1))))=some r:=by rw [←hbq13] at H;exact H
               have Nbq13:=aa.mk hbq13
               clear hbq13
               by_cases c14:bq13=true
               · subst c14
                 have H1:(if ((ah l0 x4_1).f1)=1 then (if ((ah l0 x4_1).f1)=3 then (if 0≤((ah l0 x4_1).f4) then (if ((ah l0 x4_1).f4)<(x3_1.length:Int) then (aQ.l0 k1 l0 (x3_1.set (((ah l0 x4_1).f4):Int).toNat true) (wrap64 (x4_1+1))) else (none)) else (none)) else (aQ.l0 k1 l0 x3_1 (wrap64 (x4_1+1)))) else (if 0≤((ah l0 x4_1).f3) then (if ((ah l0 x4_1).f3)<(x3_1.length:Int) then ((some (x3_1.set (((ah l0 x4_1).f3):Int).toNat true:List Bool)).bind fun y381=>(if ((ah l0 x4_1).f1)=3 then (if 0≤((ah l0 x4_1).f4) then (if ((ah l0 x4_1).f4)<(x3_1.length:Int) then (aQ.l0 k1 l0 (y381.set (((ah l0 x4_1).f4):Int).toNat true) (wrap64 (x4_1+1))) else (none)) else (none)) else (aQ.l0 k1 l0 y381 (wrap64 (x4_1+1))))) else (none)) else (none)))=some r:=by rw [if_pos rfl] at H;exact H
                 clear H
                 have H:=H1
                 clear H1
                 replace H:=bN H
                 obtain ⟨H,-,_,_⟩ | ⟨H,c15,_,_⟩:=H
                 · replace H:=bN H
                   obtain ⟨H,-,_,_⟩ | ⟨H,c16,_,_⟩:=H
                   · replace H:=fo H
                     obtain ⟨H,-,_⟩ | ⟨H,c17,-⟩:=H
                     · replace H:=fo H
                       obtain ⟨H,-,_⟩ | ⟨H,c18,-⟩:=H
                       · obtain ⟨y379,hy379⟩:∃ y_:List Bool,y_=(x3_1.set (((ah l0 x4_1).f4):Int).toNat true):=⟨_,rfl⟩
                         replace H:(aQ.l0 k1 l0 y379 (wrap64 (x4_1+1)))=some r:=by first | (rw [hy379];with_reducible exact H) | (have H2_:=(Option.bind_some _ _).symm.trans H;rw [hy379];with_reducible exact H2_) | (have H2_:=(Option.bind_some _ _).symm.trans H;with_reducible exact H2_) | with_reducible exact H | (rw [hy379];exact H) | exact H
                         have Ny379:=aa.mk hy379
                         clear hy379
                         replace H:=aa.mk H
                         have p375:0≤(x4_1:Int):=of_decide_eq_true (by first | (with_reducible assumption) | assumption)
                         have q375:x4_1<(x3_1.length:Int):=of_decide_eq_true (by first | (with_reducible assumption) | assumption)
                         obtain ⟨ad375,e375,hx375_0⟩:=Kd.lG (Kd.dW HO_3.out).2.2 x4_1 p375 q375
                         (try rw [←Nbq13.out] at hx375_0)
                         obtain rfl:(⟨go5,0,none⟩:Addr)=ad375:=(by injection e375)
                         (first | simp only [add_plain] at hx375_0 | simp only [nu] at hx375_0 | simp only [Addr.add,Nat.zero_add] at hx375_0 | skip)
                         replace p375:=eq_true p375
                         replace q375:=eq_true q375
                         obtain ⟨ad376,rfl⟩:=iK HR0 x4_1 (by assumption) (by assumption)
                         obtain ⟨A376_0,c376_0,hx376_0,_,_,_,_,_,_,_,HR376_0,HC376_0,_,_⟩:=fe HR0 HB x4_1 (by assumption) (by assumption)
                         obtain ⟨A377_0,c377_0,hx377_0,_,_,_,_,_,_,_,HR377_0,HC377_0,_,_⟩:=fe HR0 HB x4_1 (by assumption) (by assumption)
                         have ea_:=Option.some.inj (hx376_0.symm.trans hx377_0)
                         injection ea_ with ea_ en_ ec_
                         subst ea_
                         subst ec_
                         clear en_
                         obtain ⟨A378_0,c378_0,hx378_0,_,_,_,_,_,_,_,HR378_0,HC378_0,_,_⟩:=fe HR0 HB x4_1 (by assumption) (by assumption)
                         have ea_:=Option.some.inj (hx376_0.symm.trans hx378_0)
                         injection ea_ with ea_ en_ ec_
                         subst ea_
                         subst ec_
                         clear en_
                         have p19:0≤(((ah l0 x4_1).f4):Int):=of_decide_eq_true (by first | (with_reducible assumption) | assumption)
                         have q19:(((ah l0 x4_1).f4):Int)<((x3_1.length:Int):Int):=of_decide_eq_true (by first | (with_reducible assumption) | assumption)
                         obtain ⟨hx19_0,hf19_0⟩:=Kd.iL false HO_3.out (((ah l0 x4_1).f4):Int) p19 q19
                         replace p19:=eq_true p19
                         replace q19:=eq_true q19
                         have HP20:=Kd.ky HO_3.out (((ah l0 x4_1).f4):Int) true
                         go_wp2_with ((with_reducible refine gG (t:=4) (p:=46) rfl ?_);refine fH (t:=4) (p:=46) (v:=?vo_w21) (w1:=(wr.setCell ⟨go5,(((ah l0 x4_1).f4):Int).toNat,none⟩ (.bool true))) ?hg ?ho ?hn ?hr ?_;(case ho=>rfl);(case hg=>rfl);(case hn=>rfl);(case hr=>first | (go_simp;done) | (go_simp;rfl));intro w21 hw;have hg:wr.grownBy w21 (some go5):=(by rw [hw];exact HP20.2);have hp_:Kd.R Kd.bool 4 w21 w.heap.size (fun _=>True) (.slice (some ⟨go5,0,none⟩) x3_1.length co5) y379:=(by rw [hw,Ny379.out];exact HP20.1);clear HP20;have n0_:=aa.mk (hp_);have n1_:=aa.mk ((by rw [hw];exact dz (HB.out) GB5.out:Below w.heap.size w w21));clear HO_3;clear HB;have HO_3:=n0_;have HB:=n1_;clear n0_ n1_;clear hg hw hp_)
                         (try simp only [←hl3_1])
                         go_roundg k1
                         case measure=>have:=HK1.out;omega
                         case rel=>exact ⟨_,_,aY,H,⟨by have:=HK1.out;omega⟩,⟨by (try simp only [hl3_1]);(with_reducible repeat (first | apply Kd.fu | apply Kd.fw | apply Kd.gD));exact HO_3.out⟩,⟨bv⟩⟩
                       exact absurd H (by simp)
                     exact absurd H (by simp)
                   replace H:=aa.mk H
                   have p375:0≤(x4_1:Int):=of_decide_eq_true (by first | (with_reducible assumption) | assumption)
                   have q375:x4_1<(x3_1.length:Int):=of_decide_eq_true (by first | (with_reducible assumption) | assumption)
                   obtain ⟨ad375,e375,hx375_0⟩:=Kd.lG (Kd.dW HO_3.out).2.2 x4_1 p375 q375
                   (try rw [←Nbq13.out] at hx375_0)
                   obtain rfl:(⟨go5,0,none⟩:Addr)=ad375:=(by injection e375)
                   (first | simp only [add_plain] at hx375_0 | simp only [nu] at hx375_0 | simp only [Addr.add,Nat.zero_add] at hx375_0 | skip)
                   replace p375:=eq_true p375
                   replace q375:=eq_true q375
                   obtain ⟨ad376,rfl⟩:=iK HR0 x4_1 (by assumption) (by assumption)
                   obtain ⟨A376_0,c376_0,hx376_0,_,_,_,_,_,_,_,HR376_0,HC376_0,_,_⟩:=fe HR0 HB x4_1 (by assumption) (by assumption)
                   obtain ⟨A377_0,c377_0,hx377_0,_,_,_,_,_,_,_,HR377_0,HC377_0,_,_⟩:=fe HR0 HB x4_1 (by assumption) (by assumption)
                   have ea_:=Option.some.inj (hx376_0.symm.trans hx377_0)
                   injection ea_ with ea_ en_ ec_
                   subst ea_
                   subst ec_
                   clear en_
                   go_wp2
                   (try simp only [←hl3_1])
                   go_roundg k1
                   case measure=>have:=HK1.out;omega
                   case rel=>exact ⟨_,_,aY,H,⟨by have:=HK1.out;omega⟩,⟨by (try simp only [hl3_1]);(with_reducible repeat (first | apply Kd.fu | apply Kd.fw | apply Kd.gD));exact HO_3.out⟩,⟨bv⟩⟩
                 replace H:=fo H
                 obtain ⟨H,-,_⟩ | ⟨H,c22,-⟩:=H
                 · replace H:=fo H
                   obtain ⟨H,-,_⟩ | ⟨H,c23,-⟩:=H
                   · obtain ⟨y381,hy381⟩:∃ y_:List Bool,y_=(x3_1.set (((ah l0 x4_1).f3):Int).toNat true):=⟨_,rfl⟩
                     replace H:(if ((ah l0 x4_1).f1)=3 then (if 0≤((ah l0 x4_1).f4) then (if ((ah l0 x4_1).f4)<(x3_1.length:Int) then (aQ.l0 k1 l0 (y381.set (((ah l0 x4_1).f4):Int).toNat true) (wrap64 (x4_1+1))) else (none)) else (none)) else (aQ.l0 k1 l0 y381 (wrap64 (x4_1+1))))=some r:=by first | (rw [hy381];with_reducible exact H) | (have H2_:=(Option.bind_some _ _).symm.trans H;rw [hy381];with_reducible exact H2_) | (have H2_:=(Option.bind_some _ _).symm.trans H;with_reducible exact H2_) | with_reducible exact H | (rw [hy381];exact H) | exact H
                     have Ny381:=aa.mk hy381
                     clear hy381
                     replace H:=bN H
                     obtain ⟨H,-,_,_⟩ | ⟨H,c25,_,_⟩:=H
                     · replace H:=fo H
                       obtain ⟨H,-,_⟩ | ⟨H,c26,-⟩:=H
                       · replace H:=fo H
                         obtain ⟨H,-,_⟩ | ⟨H,c27,-⟩:=H
                         · obtain ⟨y384,hy384⟩:∃ y_:List Bool,y_=(y381.set (((ah l0 x4_1).f4):Int).toNat true):=⟨_,rfl⟩
                           replace H:(aQ.l0 k1 l0 y384 (wrap64 (x4_1+1)))=some r:=by first | (rw [hy384];with_reducible exact H) | (have H2_:=(Option.bind_some _ _).symm.trans H;rw [hy384];with_reducible exact H2_) | (have H2_:=(Option.bind_some _ _).symm.trans H;with_reducible exact H2_) | with_reducible exact H | (rw [hy384];exact H) | exact H
                           have Ny384:=aa.mk hy384
                           clear hy384
                           replace H:=aa.mk H
                           have p375:0≤(x4_1:Int):=of_decide_eq_true (by first | (with_reducible assumption) | assumption)
                           have q375:x4_1<(x3_1.length:Int):=of_decide_eq_true (by first | (with_reducible assumption) | assumption)
                           obtain ⟨ad375,e375,hx375_0⟩:=Kd.lG (Kd.dW HO_3.out).2.2 x4_1 p375 q375
                           (try rw [←Nbq13.out] at hx375_0)
                           obtain rfl:(⟨go5,0,none⟩:Addr)=ad375:=(by injection e375)
                           (first | simp only [add_plain] at hx375_0 | simp only [nu] at hx375_0 | simp only [Addr.add,Nat.zero_add] at hx375_0 | skip)
                           replace p375:=eq_true p375
                           replace q375:=eq_true q375
                           obtain ⟨ad376,rfl⟩:=iK HR0 x4_1 (by assumption) (by assumption)
                           obtain ⟨A376_0,c376_0,hx376_0,_,_,_,_,_,_,_,HR376_0,HC376_0,_,_⟩:=fe HR0 HB x4_1 (by assumption) (by assumption)
                           obtain ⟨A380_0,c380_0,hx380_0,_,_,_,_,_,_,_,HR380_0,HC380_0,_,_⟩:=fe HR0 HB x4_1 (by assumption) (by assumption)
                           have ea_:=Option.some.inj (hx376_0.symm.trans hx380_0)
                           injection ea_ with ea_ en_ ec_
                           subst ea_
                           subst ec_
                           clear en_
                           have p24:0≤(((ah l0 x4_1).f3):Int):=of_decide_eq_true (by first | (with_reducible assumption) | assumption)
                           have q24:(((ah l0 x4_1).f3):Int)<((x3_1.length:Int):Int):=of_decide_eq_true (by first | (with_reducible assumption) | assumption)
                           obtain ⟨hx24_0,hf24_0⟩:=Kd.iL false HO_3.out (((ah l0 x4_1).f3):Int) p24 q24
                           replace p24:=eq_true p24
                           replace q24:=eq_true q24
                           have HP29:=Kd.ky HO_3.out (((ah l0 x4_1).f3):Int) true
                           go_wp2_with (first | ((with_reducible refine gG (t:=4) (p:=33) rfl ?_);refine fH (t:=4) (p:=33) (v:=?vo_w30) (w1:=(wr.setCell ⟨go5,(((ah l0 x4_1).f3):Int).toNat,none⟩ (.bool true))) ?hg ?ho ?hn ?hr ?_;(case ho=>rfl);(case hg=>rfl);(case hn=>rfl);(case hr=>first | (go_simp;done) | (go_simp;rfl));intro w30 hw;have hg:wr.grownBy w30 (some go5):=(by rw [hw];exact HP29.2);have hp_:Kd.R Kd.bool 4 w30 w.heap.size (fun _=>True) (.slice (some ⟨go5,0,none⟩) x3_1.length co5) y381:=(by rw [hw,Ny381.out];exact HP29.1);clear HP29;have n0_:=aa.mk (hp_);have n1_:=aa.mk ((by rw [hw];exact dz (HB.out) GB5.out:Below w.heap.size w w30));clear HO_3;clear HB;have HO_3:=n0_;have HB:=n1_;clear n0_ n1_;clear hg hw hp_;obtain ⟨A382_0,c382_0,hx382_0,_,_,_,_,_,_,_,HR382_0,HC382_0,_,_⟩:=fe HR0 HB x4_1 (by assumption) (by assumption);obtain ⟨A383_0,c383_0,hx383_0,_,_,_,_,_,_,_,HR383_0,HC383_0,_,_⟩:=fe HR0 HB x4_1 (by assumption) (by assumption);have ea_:=Option.some.inj (hx382_0.symm.trans hx383_0);injection ea_ with ea_ en_ ec_;subst ea_;subst ec_;clear en_;have p28:0≤(((ah l0 x4_1).f4):Int):=of_decide_eq_true (by first | (with_reducible assumption) | assumption);have q28:(((ah l0 x4_1).f4):Int)<((x3_1.length:Int):Int):=of_decide_eq_true (by first | (with_reducible assumption) | assumption);obtain ⟨hx28_0,hf28_0⟩:=Kd.iL false HO_3.out (((ah l0 x4_1).f4):Int) p28 q28;replace p28:=eq_true p28;replace q28:=eq_true q28;obtain ⟨hy31_,hz31_⟩:=Kd.iL false HO_3.out (((ah l0 x4_1).f4):Int) (of_decide_eq_true (by first | (with_reducible assumption) | assumption)) (of_decide_eq_true (by first | (with_reducible assumption) | assumption));have HP31:=Kd.ky HO_3.out (((ah l0 x4_1).f4):Int) true) | ((with_reducible refine gG (t:=4) (p:=46) rfl ?_);refine fH (t:=4) (p:=46) (v:=?vo_w32) (w1:=(w30.setCell ⟨go5,(((ah l0 x4_1).f4):Int).toNat,none⟩ (.bool true))) ?hg ?ho ?hn ?hr ?_;(case ho=>rfl);(case hg=>rfl);(case hn=>rfl);(case hr=>first | (go_simp;done) | (go_simp;rfl));intro w32 hw;have hg:w30.grownBy w32 (some go5):=(by rw [hw];exact HP31.2);have hp_:Kd.R Kd.bool 4 w32 w.heap.size (fun _=>True) (.slice (some ⟨go5,0,none⟩) x3_1.length co5) y384:=(by rw [hw,Ny384.out];exact HP31.1);clear HP31;have n0_:=aa.mk (hp_);have n1_:=aa.mk ((by rw [hw];exact dz (HB.out) GB5.out:Below w.heap.size w w32));clear HO_3;clear HB;have HO_3:=n0_;have HB:=n1_;clear n0_ n1_;clear hg hw hp_))
                           (try simp only [←hl3_1])
                           go_roundg k1
                           case measure=>have:=HK1.out;omega
                           case rel=>exact ⟨_,_,aY,H,⟨by have:=HK1.out;omega⟩,⟨by (try simp only [hl3_1]);(with_reducible repeat (first | apply Kd.fu | apply Kd.fw | apply Kd.gD));exact HO_3.out⟩,⟨bv⟩⟩
                         exact absurd H (by simp)
                       exact absurd H (by simp)
                     replace H:=aa.mk H
                     have p375:0≤(x4_1:Int):=of_decide_eq_true (by first | (with_reducible assumption) | assumption)
                     have q375:x4_1<(x3_1.length:Int):=of_decide_eq_true (by first | (with_reducible assumption) | assumption)
                     obtain ⟨ad375,e375,hx375_0⟩:=Kd.lG (Kd.dW HO_3.out).2.2 x4_1 p375 q375
                     (try rw [←Nbq13.out] at hx375_0)
                     obtain rfl:(⟨go5,0,none⟩:Addr)=ad375:=(by injection e375)
                     (first | simp only [add_plain] at hx375_0 | simp only [nu] at hx375_0 | simp only [Addr.add,Nat.zero_add] at hx375_0 | skip)
                     replace p375:=eq_true p375
                     replace q375:=eq_true q375
                     obtain ⟨ad376,rfl⟩:=iK HR0 x4_1 (by assumption) (by assumption)
                     obtain ⟨A376_0,c376_0,hx376_0,_,_,_,_,_,_,_,HR376_0,HC376_0,_,_⟩:=fe HR0 HB x4_1 (by assumption) (by assumption)
                     obtain ⟨A380_0,c380_0,hx380_0,_,_,_,_,_,_,_,HR380_0,HC380_0,_,_⟩:=fe HR0 HB x4_1 (by assumption) (by assumption)
                     have ea_:=Option.some.inj (hx376_0.symm.trans hx380_0)
                     injection ea_ with ea_ en_ ec_
                     subst ea_
                     subst ec_
                     clear en_
                     have p24:0≤(((ah l0 x4_1).f3):Int):=of_decide_eq_true (by first | (with_reducible assumption) | assumption)
                     have q24:(((ah l0 x4_1).f3):Int)<((x3_1.length:Int):Int):=of_decide_eq_true (by first | (with_reducible assumption) | assumption)
                     obtain ⟨hx24_0,hf24_0⟩:=Kd.iL false HO_3.out (((ah l0 x4_1).f3):Int) p24 q24
                     replace p24:=eq_true p24
                     replace q24:=eq_true q24
                     have HP33:=Kd.ky HO_3.out (((ah l0 x4_1).f3):Int) true
                     go_wp2_with ((with_reducible refine gG (t:=4) (p:=33) rfl ?_);refine fH (t:=4) (p:=33) (v:=?vo_w34) (w1:=(wr.setCell ⟨go5,(((ah l0 x4_1).f3):Int).toNat,none⟩ (.bool true))) ?hg ?ho ?hn ?hr ?_;(case ho=>rfl);(case hg=>rfl);(case hn=>rfl);(case hr=>first | (go_simp;done) | (go_simp;rfl));intro w34 hw;have hg:wr.grownBy w34 (some go5):=(by rw [hw];exact HP33.2);have hp_:Kd.R Kd.bool 4 w34 w.heap.size (fun _=>True) (.slice (some ⟨go5,0,none⟩) x3_1.length co5) y381:=(by rw [hw,Ny381.out];exact HP33.1);clear HP33;have n0_:=aa.mk (hp_);have n1_:=aa.mk ((by rw [hw];exact dz (HB.out) GB5.out:Below w.heap.size w w34));clear HO_3;clear HB;have HO_3:=n0_;have HB:=n1_;clear n0_ n1_;clear hg hw hp_;obtain ⟨A382_0,c382_0,_,_,_,_,_,_,_,_,HR382_0,HC382_0,_,_⟩:=fe HR0 HB x4_1 (by assumption) (by assumption))
                     (try simp only [←hl3_1])
                     go_roundg k1
                     case measure=>have:=HK1.out;omega
                     case rel=>exact ⟨_,_,aY,H,⟨by have:=HK1.out;omega⟩,⟨by (try simp only [hl3_1]);(with_reducible repeat (first | apply Kd.fu | apply Kd.fw | apply Kd.gD));exact HO_3.out⟩,⟨bv⟩⟩
                   exact absurd H (by simp)
                 exact absurd H (by simp)
               replace c14:=Bool.eq_false_iff.mpr c14
               subst c14
               have H1:(aQ.l0 k1 l0 x3_1 (wrap64 (x4_1+1)))=some r:=by rw [if_neg (show ¬(false=true) by decide)] at H;exact H
               clear H
               have H:=H1
               clear H1
               replace H:=aa.mk H
               have p375:0≤(x4_1:Int):=of_decide_eq_true (by first | (with_reducible assumption) | assumption)
               have q375:x4_1<(x3_1.length:Int):=of_decide_eq_true (by first | (with_reducible assumption) | assumption)
               obtain ⟨ad375,e375,hx375_0⟩:=Kd.lG (Kd.dW HO_3.out).2.2 x4_1 p375 q375
               (try rw [←Nbq13.out] at hx375_0)
               obtain rfl:(⟨go5,0,none⟩:Addr)=ad375:=(by injection e375)
               (first | simp only [add_plain] at hx375_0 | simp only [nu] at hx375_0 | simp only [Addr.add,Nat.zero_add] at hx375_0 | skip)
               replace p375:=eq_true p375
               replace q375:=eq_true q375
               go_wp2
               (try simp only [←hl3_1])
               go_roundg k1
               case measure=>have:=HK1.out;omega
               case rel=>exact ⟨_,_,aY,H,⟨by have:=HK1.out;omega⟩,⟨by (try simp only [hl3_1]);(with_reducible repeat (first | apply Kd.fu | apply Kd.fw | apply Kd.gD));exact HO_3.out⟩,⟨bv⟩⟩
             exact absurd H (by simp)
           exact absurd H (by simp)
         obtain rfl:=Option.some.inj H
         go_wp2
         go_ret
         exact ⟨_,dm,by (with_reducible repeat (first | apply Kd.fu | apply Kd.fw | apply Kd.gD));exact HO_3.out,bv⟩
     exact absurd H (by simp)
   exact absurd H (by simp)
 exact absurd H (by simp)
attribute [local go_sem] dZ ek fF fG dQ dR d9 eu
def bi.l0:Nat→List (S47)→List Int→Int→Option (List Int)
 | 0,_,_,_=>none
 | k+1,x0,x3,x4=>if x4<(x0.length:Int) then (if 0≤x4 then (if ((ah x0 x4).f1)=1 then (if ((ah x0 x4).f1)=3 then (if 0≤((ah x0 x4).f4) then (if ((ah x0 x4).f4)<(x3.length:Int) then (bi.l0 k x0 (x3.set (((ah x0 x4).f4):Int).toNat (wrap64 ((rd x3 ((ah x0 x4).f4))+1))) (wrap64 (x4+1))) else (none)) else (none)) else (bi.l0 k x0 x3 (wrap64 (x4+1)))) else (if 0≤((ah x0 x4).f3) then (if ((ah x0 x4).f3)<(x3.length:Int) then ((some (x3.set (((ah x0 x4).f3):Int).toNat (wrap64 ((rd x3 ((ah x0 x4).f3))+1)):List Int)).bind fun y395=>(if ((ah x0 x4).f1)=3 then (if 0≤((ah x0 x4).f4) then (if ((ah x0 x4).f4)<(x3.length:Int) then (bi.l0 k x0 (y395.set (((ah x0 x4).f4):Int).toNat (wrap64 ((rd y395 ((ah x0 x4).f4))+1))) (wrap64 (x4+1))) else (none)) else (none)) else (bi.l0 k x0 y395 (wrap64 (x4+1))))) else (none)) else (none))) else (none)) else (some x3)
def bi.f (k:Nat) (l0:List (S47)):Option (List Int):=if 0≤(l0.length:Int) then (if ((l0.length:Int):Int).toNat≤35184372088832 then (bi.l0 k l0 (List.replicate ((l0.length:Int):Int).toNat 0) 0) else (none)) else (none)
theorem bi.calls (k:Nat) (A0:Option Addr) (c0:Nat) (l0:List (S47)) (r:List Int) (w:World) (hr0:Kd.C k47 w A0 l0.length l0) (hc0:l0.length≤c0) (h:bi.f k l0=some r) :
 Calls Try.prog 56 #[.slice A0 l0.length c0] w fun e w'=>∃ v0_:Value,e = .returned (v0_)∧Kd.R (Kd.int .i64) 3 w' w.heap.size (fun _=>True) v0_ r∧Below w.heap.size w w':=by
 have HR0:=aa.mk hr0
 have HC0:=aa.mk hc0
 clear hr0 hc0
 have HB:=aa.mk (Below.refl w.heap.size w)
 have H:(if 0≤(l0.length:Int) then (if ((l0.length:Int):Int).toNat≤35184372088832 then (bi.l0 k l0 (List.replicate ((l0.length:Int):Int).toNat 0) 0) else (none)) else (none))=some r:=h
 clear h
 replace H:=mZ H
 obtain ⟨H,c2⟩ | ⟨H,c2⟩:=H
 · have c2b0:=eq_true c2
   have c2b1:decide (0≤(l0.length:Int))=true:=decide_eq_true c2
   clear c2
   replace H:=mZ H
   obtain ⟨H,c3⟩ | ⟨H,c3⟩:=H
   · have c3b0:=eq_true c3
     have c3b1:decide (((l0.length:Int):Int).toNat≤35184372088832)=true:=decide_eq_true c3
     clear c3
     obtain ⟨y385,hy385⟩:∃ y_:List Int,y_=(List.replicate ((l0.length:Int):Int).toNat 0):=⟨_,rfl⟩
     replace H:(bi.l0 k l0 y385 0)=some r:=by first | (rw [hy385];with_reducible exact H) | (have H2_:=(Option.bind_some _ _).symm.trans H;rw [hy385];with_reducible exact H2_) | (have H2_:=(Option.bind_some _ _).symm.trans H;with_reducible exact H2_) | with_reducible exact H | (rw [hy385];exact H) | exact H
     have Ny385:=aa.mk hy385
     clear hy385
     replace H:=aa.mk H
     go_enter Try.func56,Try.ntmps56
     go_wp2_with ((with_reducible refine aW (N:=7) rfl ?_);refine Kd.yc (Kd.int .i64) _ 3 rfl (N:=7) rfl 70 _ _ rfl (l0.length:Int) rfl rfl Try.underlying70 (.int .i64 0) 8 info3 rfl (by decide) (by omega) 0 (ok:=fun _=>True) (okp:=fun _=>True) rfl (fun _ hk=>hk) trivial (of_decide_eq_true (by first | (with_reducible assumption) | assumption)) (Nat.le_trans (Nat.mul_le_mul_right _ (of_decide_eq_true (by first | (with_reducible assumption) | assumption):(l0.length:Int).toNat≤35184372088832)) (by omega)) (Below.refl _ _) (Nat.le_refl _) ?_;intro v386 w4 ho5 hb hg_ hnew_;clear hg_ hnew_;(first | rw [←Ny385.out] at ho5 | (simp only [Int.reduceToNat] at ho5;rw [←Ny385.out] at ho5));have HO387:=aa.mk (Kd.jV ho5 (gF bv));replace HB:=cK HB hb;clear hb ho5)
     go_loopg [4] k (fun kq v4 w'=>∃ (x3_1:List Int) (x4_1:Int),v4 = .int .i64 x4_1∧aa (bi.l0 kq l0 x3_1 x4_1=some r)∧aa (kq≤k)∧aa (Kd.R (Kd.int .i64) 3 w' w.heap.size (fun _=>True) v386 x3_1)∧aa (Below w.heap.size w w'))
     case atStart=>exact ⟨_,_,aY,H,⟨Nat.le_refl _⟩,⟨by (with_reducible repeat (first | apply Kd.fu | apply Kd.fw | apply Kd.gD));exact HO387.out⟩,⟨bv⟩⟩
     case round=>
      clear H
      obtain ⟨x3_1,x4_1,rfl,HA,HK1,HO_3,HB⟩:=hrel
      cases gk with
      | zero=>exact absurd HA.out (by simp [bi.l0])
      | succ k1=>
       have H:=HA.out
       clear HA
       simp only [bi.l0] at H
       replace H:=fo H
       obtain ⟨H,-,_⟩ | ⟨H,-,_⟩:=H
       · replace H:=fo H
         obtain ⟨H,-,_⟩ | ⟨H,c7,-⟩:=H
         · replace H:=bN H
           obtain ⟨H,-,_,_⟩ | ⟨H,c8,_,_⟩:=H
           · replace H:=bN H
             obtain ⟨H,-,_,_⟩ | ⟨H,c9,_,_⟩:=H
             · replace H:=fo H
               obtain ⟨H,-,_⟩ | ⟨H,c10,-⟩:=H
               · replace H:=fo H
                 obtain ⟨H,-,_⟩ | ⟨H,c11,-⟩:=H
                 · obtain ⟨y392,hy392⟩:∃ y_:List Int,y_=(x3_1.set (((ah l0 x4_1).f4):Int).toNat (wrap64 ((rd x3_1 ((ah l0 x4_1).f4))+1))):=⟨_,rfl⟩
                   replace H:(bi.l0 k1 l0 y392 (wrap64 (x4_1+1)))=some r:=by first | (rw [hy392];with_reducible exact H) | (have H2_:=(Option.bind_some _ _).symm.trans H;rw [hy392];with_reducible exact H2_) | (have H2_:=(Option.bind_some _ _).symm.trans H;with_reducible exact H2_) | with_reducible exact H | (rw [hy392];exact H) | exact H
                   have Ny392:=aa.mk hy392
                   clear hy392
                   replace H:=aa.mk H
                   obtain ⟨ad388,rfl⟩:=iK HR0 x4_1 (by assumption) (by assumption)
                   obtain ⟨A388_0,c388_0,hx388_0,_,_,_,_,_,_,_,HR388_0,HC388_0,_,_⟩:=fe HR0 HB x4_1 (by assumption) (by assumption)
                   obtain ⟨A389_0,c389_0,hx389_0,_,_,_,_,_,_,_,HR389_0,HC389_0,_,_⟩:=fe HR0 HB x4_1 (by assumption) (by assumption)
                   have ea_:=Option.some.inj (hx388_0.symm.trans hx389_0)
                   injection ea_ with ea_ en_ ec_
                   subst ea_
                   subst ec_
                   clear en_
                   obtain ⟨A390_0,c390_0,hx390_0,_,_,_,_,_,_,_,HR390_0,HC390_0,_,_⟩:=fe HR0 HB x4_1 (by assumption) (by assumption)
                   have ea_:=Option.some.inj (hx388_0.symm.trans hx390_0)
                   injection ea_ with ea_ en_ ec_
                   subst ea_
                   subst ec_
                   clear en_
                   obtain ⟨Ao13,co13,eo13⟩:=Kd.gJ HO_3.out
                   subst eo13
                   have p391:0≤(((ah l0 x4_1).f4):Int):=of_decide_eq_true (by first | (with_reducible assumption) | assumption)
                   have q391:((ah l0 x4_1).f4)<(x3_1.length:Int):=of_decide_eq_true (by first | (with_reducible assumption) | assumption)
                   obtain ⟨ad391,e391,hx391_0⟩:=Kd.kC (Kd.dW HO_3.out).2.2 ((ah l0 x4_1).f4) p391 q391
                   cases e391
                   replace p391:=eq_true p391
                   replace q391:=eq_true q391
                   have p12:0≤(((ah l0 x4_1).f4):Int):=of_decide_eq_true (by first | (with_reducible assumption) | assumption)
                   have q12:(((ah l0 x4_1).f4):Int)<((x3_1.length:Int):Int):=of_decide_eq_true (by first | (with_reducible assumption) | assumption)
                   obtain ⟨go12,co12,eo12,gb12,gl12,cl12,HG12⟩:=Kd.q9 HO_3.out (by omega)
                   (first | cases eo12 | (injection eo12 with ea_ en_ ec_;(first | subst ea_ | (injection ea_ with ea_;subst ea_));subst ec_;clear en_))
                   have GB12:=aa.mk gb12
                   have GG12:=aa.mk HG12
                   clear gb12 gl12 HG12
                   (first | simp only [add_plain] at hx391_0 | skip)
                   obtain ⟨hx12_0,hf12_0⟩:=Kd.iL 0 HO_3.out (((ah l0 x4_1).f4):Int) p12 q12
                   replace p12:=eq_true p12
                   replace q12:=eq_true q12
                   have HP14:=Kd.ky HO_3.out (((ah l0 x4_1).f4):Int) (wrap64 ((rd x3_1 ((ah l0 x4_1).f4))+1))
                   go_wp2_with ((with_reducible refine gG (t:=3) (p:=45) rfl ?_);refine fH (t:=3) (p:=45) (v:=?vo_w15) (w1:=(wr.setCell ⟨go12,(((ah l0 x4_1).f4):Int).toNat,none⟩ (.int .i64 (wrap64 ((rd x3_1 ((ah l0 x4_1).f4))+1))))) ?hg ?ho ?hn ?hr ?_;(case ho=>rfl);(case hg=>rfl);(case hn=>rfl);(case hr=>first | (go_simp;done) | (go_simp;rfl));intro w15 hw;have hg:wr.grownBy w15 (some go12):=(by rw [hw];exact HP14.2);have hp_:Kd.R (Kd.int .i64) 3 w15 w.heap.size (fun _=>True) (.slice (some ⟨go12,0,none⟩) x3_1.length co13) y392:=(by rw [hw,Ny392.out];exact HP14.1);clear HP14;have n0_:=aa.mk (hp_);have n1_:=aa.mk ((by rw [hw];exact dz (HB.out) GB12.out:Below w.heap.size w w15));clear HO_3;clear HB;have HO_3:=n0_;have HB:=n1_;clear n0_ n1_;clear hg hw hp_)
                   go_roundg k1
                   case measure=>have:=HK1.out;omega
                   case rel=>exact ⟨_,_,aY,H,⟨by have:=HK1.out;omega⟩,⟨by (with_reducible repeat (first | apply Kd.fu | apply Kd.fw | apply Kd.gD));exact HO_3.out⟩,⟨bv⟩⟩
                 exact absurd H (by simp)
               exact absurd H (by simp)
             replace H:=aa.mk H
             obtain ⟨ad388,rfl⟩:=iK HR0 x4_1 (by assumption) (by assumption)
             obtain ⟨A388_0,c388_0,hx388_0,_,_,_,_,_,_,_,HR388_0,HC388_0,_,_⟩:=fe HR0 HB x4_1 (by assumption) (by assumption)
             obtain ⟨A389_0,c389_0,hx389_0,_,_,_,_,_,_,_,HR389_0,HC389_0,_,_⟩:=fe HR0 HB x4_1 (by assumption) (by assumption)
             have ea_:=Option.some.inj (hx388_0.symm.trans hx389_0)
             injection ea_ with ea_ en_ ec_
             subst ea_
             subst ec_
             clear en_
             go_wp2
             go_roundg k1
             case measure=>have:=HK1.out;omega
             case rel=>exact ⟨_,_,aY,H,⟨by have:=HK1.out;omega⟩,⟨by (with_reducible repeat (first | apply Kd.fu | apply Kd.fw | apply Kd.gD));exact HO_3.out⟩,⟨bv⟩⟩
           replace H:=fo H
           obtain ⟨H,-,_⟩ | ⟨H,c16,-⟩:=H
           · replace H:=fo H
             obtain ⟨H,-,_⟩ | ⟨H,c17,-⟩:=H
             · obtain ⟨y395,hy395⟩:∃ y_:List Int,y_=(x3_1.set (((ah l0 x4_1).f3):Int).toNat (wrap64 ((rd x3_1 ((ah l0 x4_1).f3))+1))):=⟨_,rfl⟩
               replace H:(if ((ah l0 x4_1).f1)=3 then (if 0≤((ah l0 x4_1).f4) then (if ((ah l0 x4_1).f4)<(x3_1.length:Int) then (bi.l0 k1 l0 (y395.set (((ah l0 x4_1).f4):Int).toNat (wrap64 ((rd y395 ((ah l0 x4_1).f4))+1))) (wrap64 (x4_1+1))) else (none)) else (none)) else (bi.l0 k1 l0 y395 (wrap64 (x4_1+1))))=some r:=by first | (rw [hy395];with_reducible exact H) | (have H2_:=(Option.bind_some _ _).symm.trans H;rw [hy395];with_reducible exact H2_) | (have H2_:=(Option.bind_some _ _).symm.trans H;with_reducible exact H2_) | with_reducible exact H | (rw [hy395];exact H) | exact H
               have Ny395:=aa.mk hy395
               clear hy395
               replace H:=bN H
               obtain ⟨H,-,_,_⟩ | ⟨H,c19,_,_⟩:=H
               · replace H:=fo H
                 obtain ⟨H,-,_⟩ | ⟨H,c20,-⟩:=H
                 · replace H:=fo H
                   obtain ⟨H,-,_⟩ | ⟨H,c21,-⟩:=H
                   · obtain ⟨y399,hy399⟩:∃ y_:List Int,y_=(y395.set (((ah l0 x4_1).f4):Int).toNat (wrap64 ((rd y395 ((ah l0 x4_1).f4))+1))):=⟨_,rfl⟩
                     replace H:(bi.l0 k1 l0 y399 (wrap64 (x4_1+1)))=some r:=by first | (rw [hy399];with_reducible exact H) | (have H2_:=(Option.bind_some _ _).symm.trans H;rw [hy399];with_reducible exact H2_) | (have H2_:=(Option.bind_some _ _).symm.trans H;with_reducible exact H2_) | with_reducible exact H | (rw [hy399];exact H) | exact H
                     have Ny399:=aa.mk hy399
                     clear hy399
                     replace H:=aa.mk H
                     obtain ⟨ad388,rfl⟩:=iK HR0 x4_1 (by assumption) (by assumption)
                     obtain ⟨A388_0,c388_0,hx388_0,_,_,_,_,_,_,_,HR388_0,HC388_0,_,_⟩:=fe HR0 HB x4_1 (by assumption) (by assumption)
                     obtain ⟨A393_0,c393_0,hx393_0,_,_,_,_,_,_,_,HR393_0,HC393_0,_,_⟩:=fe HR0 HB x4_1 (by assumption) (by assumption)
                     have ea_:=Option.some.inj (hx388_0.symm.trans hx393_0)
                     injection ea_ with ea_ en_ ec_
                     subst ea_
                     subst ec_
                     clear en_
                     obtain ⟨Ao23,co23,eo23⟩:=Kd.gJ HO_3.out
                     subst eo23
                     have p394:0≤(((ah l0 x4_1).f3):Int):=of_decide_eq_true (by first | (with_reducible assumption) | assumption)
                     have q394:((ah l0 x4_1).f3)<(x3_1.length:Int):=of_decide_eq_true (by first | (with_reducible assumption) | assumption)
                     obtain ⟨ad394,e394,hx394_0⟩:=Kd.kC (Kd.dW HO_3.out).2.2 ((ah l0 x4_1).f3) p394 q394
                     cases e394
                     replace p394:=eq_true p394
                     replace q394:=eq_true q394
                     have p18:0≤(((ah l0 x4_1).f3):Int):=of_decide_eq_true (by first | (with_reducible assumption) | assumption)
                     have q18:(((ah l0 x4_1).f3):Int)<((x3_1.length:Int):Int):=of_decide_eq_true (by first | (with_reducible assumption) | assumption)
                     obtain ⟨go18,co18,eo18,gb18,gl18,cl18,HG18⟩:=Kd.q9 HO_3.out (by omega)
                     (first | cases eo18 | (injection eo18 with ea_ en_ ec_;(first | subst ea_ | (injection ea_ with ea_;subst ea_));subst ec_;clear en_))
                     have GB18:=aa.mk gb18
                     have GG18:=aa.mk HG18
                     clear gb18 gl18 HG18
                     (first | simp only [add_plain] at hx394_0 | skip)
                     obtain ⟨hx18_0,hf18_0⟩:=Kd.iL 0 HO_3.out (((ah l0 x4_1).f3):Int) p18 q18
                     replace p18:=eq_true p18
                     replace q18:=eq_true q18
                     have HP24:=Kd.ky HO_3.out (((ah l0 x4_1).f3):Int) (wrap64 ((rd x3_1 ((ah l0 x4_1).f3))+1))
                     go_wp2_with (first | ((with_reducible refine gG (t:=3) (p:=29) rfl ?_);refine fH (t:=3) (p:=29) (v:=?vo_w25) (w1:=(wr.setCell ⟨go18,(((ah l0 x4_1).f3):Int).toNat,none⟩ (.int .i64 (wrap64 ((rd x3_1 ((ah l0 x4_1).f3))+1))))) ?hg ?ho ?hn ?hr ?_;(case ho=>rfl);(case hg=>rfl);(case hn=>rfl);(case hr=>first | (go_simp;done) | (go_simp;rfl));intro w25 hw;have hg:wr.grownBy w25 (some go18):=(by rw [hw];exact HP24.2);have hp_:Kd.R (Kd.int .i64) 3 w25 w.heap.size (fun _=>True) (.slice (some ⟨go18,0,none⟩) x3_1.length co23) y395:=(by rw [hw,Ny395.out];exact HP24.1);clear HP24;have n0_:=aa.mk (hp_);have n1_:=aa.mk ((by rw [hw];exact dz (HB.out) GB18.out:Below w.heap.size w w25));clear HO_3;clear HB;have HO_3:=n0_;have HB:=n1_;clear n0_ n1_;clear hg hw hp_;obtain ⟨A396_0,c396_0,hx396_0,_,_,_,_,_,_,_,HR396_0,HC396_0,_,_⟩:=fe HR0 HB x4_1 (by assumption) (by assumption);obtain ⟨A397_0,c397_0,hx397_0,_,_,_,_,_,_,_,HR397_0,HC397_0,_,_⟩:=fe HR0 HB x4_1 (by assumption) (by assumption);have ea_:=Option.some.inj (hx396_0.symm.trans hx397_0);injection ea_ with ea_ en_ ec_;subst ea_;subst ec_;clear en_;have p398:0≤(((ah l0 x4_1).f4):Int):=of_decide_eq_true (by first | (with_reducible assumption) | assumption);have q398:((ah l0 x4_1).f4)<(y395.length:Int):=(by have h_:(((ah l0 x4_1).f4):Int)<((x3_1.length:Int):Int):=of_decide_eq_true (by first | (with_reducible assumption) | assumption);first | (have e_:=(Kd.dW HO_3.out).1;omega) | simpa only [Ny395.out,List.length_set] using h_);have ql398:((((ah l0 x4_1).f4):Int)<((x3_1.length:Int):Int))=True:=eq_true (of_decide_eq_true (by first | (with_reducible assumption) | assumption));obtain ⟨ad398,e398,hx398_0⟩:=Kd.kC (Kd.dW HO_3.out).2.2 ((ah l0 x4_1).f4) p398 q398;obtain rfl:(⟨go18,0,none⟩:Addr)=ad398:=(by injection e398);(first | simp only [add_plain] at hx398_0 | simp only [nu] at hx398_0 | simp only [Addr.add,Nat.zero_add] at hx398_0 | skip);replace p398:=eq_true p398;replace q398:=eq_true q398;have p22:0≤(((ah l0 x4_1).f4):Int):=of_decide_eq_true (by first | (with_reducible assumption) | assumption);have q22:(((ah l0 x4_1).f4):Int)<((x3_1.length:Int):Int):=of_decide_eq_true (by first | (with_reducible assumption) | assumption);obtain ⟨hx22_0,hf22_0⟩:=Kd.iL 0 HO_3.out (((ah l0 x4_1).f4):Int) p22 q22;replace p22:=eq_true p22;replace q22:=eq_true q22;obtain ⟨hy26_,hz26_⟩:=Kd.iL 0 HO_3.out (((ah l0 x4_1).f4):Int) (of_decide_eq_true (by first | (with_reducible assumption) | assumption)) (of_decide_eq_true (by first | (with_reducible assumption) | assumption));have HP26:=Kd.ky HO_3.out (((ah l0 x4_1).f4):Int) (wrap64 ((rd y395 ((ah l0 x4_1).f4))+1))) | ((with_reducible refine gG (t:=3) (p:=45) rfl ?_);refine fH (t:=3) (p:=45) (v:=?vo_w27) (w1:=(w25.setCell ⟨go18,(((ah l0 x4_1).f4):Int).toNat,none⟩ (.int .i64 (wrap64 ((rd y395 ((ah l0 x4_1).f4))+1))))) ?hg ?ho ?hn ?hr ?_;(case ho=>rfl);(case hg=>rfl);(case hn=>rfl);(case hr=>first | (go_simp;done) | (go_simp;rfl));intro w27 hw;have hg:w25.grownBy w27 (some go18):=(by rw [hw];exact HP26.2);have hp_:Kd.R (Kd.int .i64) 3 w27 w.heap.size (fun _=>True) (.slice (some ⟨go18,0,none⟩) x3_1.length co23) y399:=(by rw [hw,Ny399.out];exact HP26.1);clear HP26;have n0_:=aa.mk (hp_);have n1_:=aa.mk ((by rw [hw];exact dz (HB.out) GB18.out:Below w.heap.size w w27));clear HO_3;clear HB;have HO_3:=n0_;have HB:=n1_;clear n0_ n1_;clear hg hw hp_))
                     go_roundg k1
                     case measure=>have:=HK1.out;omega
                     case rel=>exact ⟨_,_,aY,H,⟨by have:=HK1.out;omega⟩,⟨by (with_reducible repeat (first | apply Kd.fu | apply Kd.fw | apply Kd.gD));exact HO_3.out⟩,⟨bv⟩⟩
                   exact absurd H (by simp)
                 exact absurd H (by simp)
               replace H:=aa.mk H
               obtain ⟨ad388,rfl⟩:=iK HR0 x4_1 (by assumption) (by assumption)
               obtain ⟨A388_0,c388_0,hx388_0,_,_,_,_,_,_,_,HR388_0,HC388_0,_,_⟩:=fe HR0 HB x4_1 (by assumption) (by assumption)
               obtain ⟨A393_0,c393_0,hx393_0,_,_,_,_,_,_,_,HR393_0,HC393_0,_,_⟩:=fe HR0 HB x4_1 (by assumption) (by assumption)
               have ea_:=Option.some.inj (hx388_0.symm.trans hx393_0)
               injection ea_ with ea_ en_ ec_
               subst ea_
               subst ec_
               clear en_
               obtain ⟨Ao28,co28,eo28⟩:=Kd.gJ HO_3.out
               subst eo28
               have p394:0≤(((ah l0 x4_1).f3):Int):=of_decide_eq_true (by first | (with_reducible assumption) | assumption)
               have q394:((ah l0 x4_1).f3)<(x3_1.length:Int):=of_decide_eq_true (by first | (with_reducible assumption) | assumption)
               obtain ⟨ad394,e394,hx394_0⟩:=Kd.kC (Kd.dW HO_3.out).2.2 ((ah l0 x4_1).f3) p394 q394
               cases e394
               replace p394:=eq_true p394
               replace q394:=eq_true q394
               have p18:0≤(((ah l0 x4_1).f3):Int):=of_decide_eq_true (by first | (with_reducible assumption) | assumption)
               have q18:(((ah l0 x4_1).f3):Int)<((x3_1.length:Int):Int):=of_decide_eq_true (by first | (with_reducible assumption) | assumption)
               obtain ⟨go18,co18,eo18,gb18,gl18,cl18,HG18⟩:=Kd.q9 HO_3.out (by omega)
               (first | cases eo18 | (injection eo18 with ea_ en_ ec_;(first | subst ea_ | (injection ea_ with ea_;subst ea_));subst ec_;clear en_))
               have GB18:=aa.mk gb18
               have GG18:=aa.mk HG18
               clear gb18 gl18 HG18
               (first | simp only [add_plain] at hx394_0 | skip)
               obtain ⟨hx18_0,hf18_0⟩:=Kd.iL 0 HO_3.out (((ah l0 x4_1).f3):Int) p18 q18
               replace p18:=eq_true p18
               replace q18:=eq_true q18
               have HP29:=Kd.ky HO_3.out (((ah l0 x4_1).f3):Int) (wrap64 ((rd x3_1 ((ah l0 x4_1).f3))+1))
               go_wp2_with ((with_reducible refine gG (t:=3) (p:=29) rfl ?_);refine fH (t:=3) (p:=29) (v:=?vo_w30) (w1:=(wr.setCell ⟨go18,(((ah l0 x4_1).f3):Int).toNat,none⟩ (.int .i64 (wrap64 ((rd x3_1 ((ah l0 x4_1).f3))+1))))) ?hg ?ho ?hn ?hr ?_;(case ho=>rfl);(case hg=>rfl);(case hn=>rfl);(case hr=>first | (go_simp;done) | (go_simp;rfl));intro w30 hw;have hg:wr.grownBy w30 (some go18):=(by rw [hw];exact HP29.2);have hp_:Kd.R (Kd.int .i64) 3 w30 w.heap.size (fun _=>True) (.slice (some ⟨go18,0,none⟩) x3_1.length co28) y395:=(by rw [hw,Ny395.out];exact HP29.1);clear HP29;have n0_:=aa.mk (hp_);have n1_:=aa.mk ((by rw [hw];exact dz (HB.out) GB18.out:Below w.heap.size w w30));clear HO_3;clear HB;have HO_3:=n0_;have HB:=n1_;clear n0_ n1_;clear hg hw hp_;obtain ⟨A396_0,c396_0,_,_,_,_,_,_,_,_,HR396_0,HC396_0,_,_⟩:=fe HR0 HB x4_1 (by assumption) (by assumption))
               go_roundg k1
               case measure=>have:=HK1.out;omega
               case rel=>exact ⟨_,_,aY,H,⟨by have:=HK1.out;omega⟩,⟨by (with_reducible repeat (first | apply Kd.fu | apply Kd.fw | apply Kd.gD));exact HO_3.out⟩,⟨bv⟩⟩
             exact absurd H (by simp)
           exact absurd H (by simp)
         exact absurd H (by simp)
       obtain rfl:=Option.some.inj H
       go_wp2
       go_ret
       exact ⟨_,dm,by (with_reducible repeat (first | apply Kd.fu | apply Kd.fw | apply Kd.gD));exact HO_3.out,bv⟩
   exact absurd H (by simp)
 exact absurd H (by simp)
attribute [local go_sem] dZ ek fF fG dQ dR d9 eu
mutual
def aZ.l0:Nat→List (S47)→Int→Int→Option (Bool)
 | 0,_,_,_=>none
 | k+1,x0,x1,x5=>if x5<(x0.length:Int) then (aZ.l1 k x0 x1 x5 0) else (some false)
def aZ.l1:Nat→List (S47)→Int→Int→Int→Option (Bool)
 | 0,_,_,_,_=>none
 | k+1,x0,x1,x5,x6=>if 0≤x5 then (if x5<(x0.length:Int) then (if x6<(((ah x0 x5).f0).length:Int) then (if 0≤x6 then (if ((aV ((ah x0 x5).f0) x6).f0)=96 then (if ((aV ((ah x0 x5).f0) x6).f3)=x1 then (some true) else (aZ.l1 k x0 x1 x5 (wrap64 (x6+1)))) else (if ((aV ((ah x0 x5).f0) x6).f0)=97 then (if ((aV ((ah x0 x5).f0) x6).f3)=x1 then (some true) else (aZ.l1 k x0 x1 x5 (wrap64 (x6+1)))) else (aZ.l1 k x0 x1 x5 (wrap64 (x6+1))))) else (none)) else (aZ.l0 k x0 x1 (wrap64 (x5+1)))) else (none)) else (none)
end
def aZ.f (k:Nat) (l0:List (S47)) (a1:Int):Option (Bool):=aZ.l0 k l0 a1 0
theorem aZ.calls (k:Nat) (A0:Option Addr) (c0:Nat) (l0:List (S47)) (a1:Int) (r:Bool) (w:World) (hr0:Kd.C k47 w A0 l0.length l0) (hc0:l0.length≤c0) (h:aZ.f k l0 a1=some r) :
 Calls Try.prog 57 #[.slice A0 l0.length c0,.int .u32 a1] w fun e w'=>e = .returned (.bool r)∧Below w.heap.size w w':=by
 have hu45:=Try.underlying45
 have HR0:=aa.mk hr0
 have HC0:=aa.mk hc0
 clear hr0 hc0
 have HB:=aa.mk (Below.refl w.heap.size w)
 have H:(aZ.l0 k l0 a1 0)=some r:=h
 clear h
 replace H:=aa.mk H
 go_enter Try.func57,Try.ntmps57
 go_wp2
 go_loopg [5] k (fun kq v5 w'=>∃ (x5_1:Int),v5 = .int .i64 x5_1∧aa (aZ.l0 kq l0 a1 x5_1=some r)∧aa (kq≤k)∧aa (Below w.heap.size w w'))
 case atStart=>exact ⟨_,aY,H,⟨Nat.le_refl _⟩,⟨bv⟩⟩
 case round=>
  clear H
  obtain ⟨x5_1,rfl,HA,HK1,HB⟩:=hrel
  cases gk with
  | zero=>exact absurd HA.out (by simp [aZ.l0])
  | succ k1=>
   have H:=HA.out
   clear HA
   simp only [aZ.l0] at H
   replace H:=fo H
   obtain ⟨H,-,_⟩ | ⟨H,-,_⟩:=H
   · replace H:=aa.mk H
     go_wp2
     go_loopg [6] k1 (fun kq v6 w'=>∃ (x6_2:Int),v6 = .int .i64 x6_2∧aa (aZ.l1 kq l0 a1 x5_1 x6_2=some r)∧aa (kq≤k1)∧aa (Below w.heap.size w w'))
     case atStart=>exact ⟨_,aY,H,⟨Nat.le_refl _⟩,⟨bv⟩⟩
     case round=>
      clear H
      obtain ⟨x6_2,rfl,HA,HK2,HB⟩:=hrel
      cases gk with
      | zero=>exact absurd HA.out (by simp [aZ.l1])
      | succ k2=>
       have H:=HA.out
       clear HA
       simp only [aZ.l1] at H
       replace H:=fo H
       obtain ⟨H,-,_⟩ | ⟨H,c4,-⟩:=H
       · replace H:=fo H
         obtain ⟨H,-,_⟩ | ⟨H,c5,-⟩:=H
         · replace H:=fo H
           obtain ⟨H,-,_⟩ | ⟨H,-,_⟩:=H
           · replace H:=fo H
             obtain ⟨H,-,_⟩ | ⟨H,c7,-⟩:=H
             · iterate 2
                replace H:=bN H
                obtain ⟨H,-,_,_⟩ | ⟨H,c8,_,_⟩:=H
                · replace H:=bN H
                  obtain ⟨H,-,_,_⟩ | ⟨H,c9,_,_⟩:=H
                  · cases H
                    obtain ⟨ad400,rfl⟩:=iK HR0 x5_1 (by assumption) (by assumption)
                    obtain ⟨A400_0,c400_0,hx400_0,_,_,_,_,_,_,_,HR400_0,HC400_0,_,_⟩:=fe HR0 HB x5_1 (by assumption) (by assumption)
                    obtain ⟨A401_0,c401_0,hx401_0,_,_,_,_,_,_,_,HR401_0,HC401_0,_,_⟩:=fe HR0 HB x5_1 (by assumption) (by assumption)
                    have ea_:=Option.some.inj (hx400_0.symm.trans hx401_0)
                    injection ea_ with ea_ en_ ec_
                    subst ea_
                    subst ec_
                    clear en_
                    obtain ⟨ad402,rfl,_,_,_,_,_,_⟩:=gV HR401_0 HB x6_2 (by assumption) (by assumption)
                    go_wp2_with ((with_reducible refine aW (N:=7) rfl ?_);refine dS (N:=7) (cs:=#[.int .u16 0,.int .u8 0,.int .u8 0,.int .u32 0]) (t:=45) ?_;intro gb403 hg w10 hbox hb;have GE403:=geN HB hg;have BK403:=aa.mk hbox;replace HB:=cK HB hb;clear hb hbox hg;obtain ⟨_,_,_,_,_,_,_,_⟩:=cz4 BK403)
                    go_ret
                    exact ⟨dm,bv⟩
                  replace H:=aa.mk H
                  obtain ⟨ad400,rfl⟩:=iK HR0 x5_1 (by assumption) (by assumption)
                  obtain ⟨A400_0,c400_0,hx400_0,_,_,_,_,_,_,_,HR400_0,HC400_0,_,_⟩:=fe HR0 HB x5_1 (by assumption) (by assumption)
                  obtain ⟨A401_0,c401_0,hx401_0,_,_,_,_,_,_,_,HR401_0,HC401_0,_,_⟩:=fe HR0 HB x5_1 (by assumption) (by assumption)
                  have ea_:=Option.some.inj (hx400_0.symm.trans hx401_0)
                  injection ea_ with ea_ en_ ec_
                  subst ea_
                  subst ec_
                  clear en_
                  obtain ⟨ad402,rfl,_,_,_,_,_,_⟩:=gV HR401_0 HB x6_2 (by assumption) (by assumption)
                  go_wp2_with ((with_reducible refine aW (N:=7) rfl ?_);refine dS (N:=7) (cs:=#[.int .u16 0,.int .u8 0,.int .u8 0,.int .u32 0]) (t:=45) ?_;intro gb403 hg w12 hbox hb;have GE403:=geN HB hg;have BK403:=aa.mk hbox;replace HB:=cK HB hb;clear hb hbox hg;obtain ⟨_,_,_,_,_,_,_,_⟩:=cz4 BK403)
                  go_roundg k2
                  case measure=>have:=HK1.out;have:=HK2.out;omega
                  case rel=>exact ⟨_,aY,H,⟨by have:=HK1.out;have:=HK2.out;omega⟩,⟨bv⟩⟩
               replace H:=aa.mk H
               obtain ⟨ad400,rfl⟩:=iK HR0 x5_1 (by assumption) (by assumption)
               obtain ⟨A400_0,c400_0,hx400_0,_,_,_,_,_,_,_,HR400_0,HC400_0,_,_⟩:=fe HR0 HB x5_1 (by assumption) (by assumption)
               obtain ⟨A401_0,c401_0,hx401_0,_,_,_,_,_,_,_,HR401_0,HC401_0,_,_⟩:=fe HR0 HB x5_1 (by assumption) (by assumption)
               have ea_:=Option.some.inj (hx400_0.symm.trans hx401_0)
               injection ea_ with ea_ en_ ec_
               subst ea_
               subst ec_
               clear en_
               obtain ⟨ad402,rfl,_,_,_,_,_,_⟩:=gV HR401_0 HB x6_2 (by assumption) (by assumption)
               go_wp2_with ((with_reducible refine aW (N:=7) rfl ?_);refine dS (N:=7) (cs:=#[.int .u16 0,.int .u8 0,.int .u8 0,.int .u32 0]) (t:=45) ?_;intro gb403 hg w20 hbox hb;have GE403:=geN HB hg;have BK403:=aa.mk hbox;replace HB:=cK HB hb;clear hb hbox hg;obtain ⟨_,_,_,_,_,_,_,_⟩:=cz4 BK403)
               go_roundg k2
               case measure=>have:=HK1.out;have:=HK2.out;omega
               case rel=>exact ⟨_,aY,H,⟨by have:=HK1.out;have:=HK2.out;omega⟩,⟨bv⟩⟩
             exact absurd H (by simp)
           replace H:=aa.mk H
           obtain ⟨ad400,rfl⟩:=iK HR0 x5_1 (by assumption) (by assumption)
           obtain ⟨A400_0,c400_0,_,_,_,_,_,_,_,_,HR400_0,HC400_0,_,_⟩:=fe HR0 HB x5_1 (by assumption) (by assumption)
           go_wp2
           go_roundg k2
           case measure=>have:=HK1.out;have:=HK2.out;omega
           case rel=>exact ⟨_,aY,H,⟨by have:=HK1.out;have:=HK2.out;omega⟩,⟨bv⟩⟩
         exact absurd H (by simp)
       exact absurd H (by simp)
   cases H
   go_wp2
   go_ret
   exact ⟨dm,bv⟩
def eH.f (k:Nat) (a0:Int):Option (Bool):=(az.f k a0).bind fun t404=>(if t404=true then ((bI.f k a0).bind fun t405=>(some (!t405))) else (some false))
theorem eH.calls (k:Nat) (a0:Int) (r:Bool) (w:World) (h:eH.f k a0=some r) :
 Calls Try.prog 137 #[.int .u16 a0] w fun e w'=>e = .returned (.bool r)∧bZ w w':=by
 have H:((az.f k a0).bind fun t404=>(if t404=true then ((bI.f k a0).bind fun t405=>(some (!t405))) else (some false)))=some r:=h
 clear h
 replace H:=bnd H
 obtain ⟨t404,A2,H⟩:=H
 replace H:=iY H
 obtain ⟨rfl,H⟩ | ⟨rfl,H⟩:=H
 · replace H:=bnd H
   obtain ⟨t405,A4,H⟩:=H
   cases H
   go_enter Try.func137,Try.ntmps137
   go_wp2_with (first | (go_at_call 92;(with_reducible refine (az.calls _ _ _ _ A2.out).mono ?_);rintro e w' ⟨rfl,⟨nd,rfl⟩⟩) | (go_at_call 58;(with_reducible refine (bI.calls _ _ _ _ A4.out).mono ?_);rintro e w' ⟨rfl,⟨nd,rfl⟩⟩))
   go_ret
   exact ⟨aY,bC⟩
 cases H
 go_enter Try.func137,Try.ntmps137
 go_wp2_with (go_at_call 92;(with_reducible refine (az.calls _ _ _ _ A2.out).mono ?_);rintro e w' ⟨rfl,⟨nd,rfl⟩⟩)
 go_ret
 exact ⟨aY,bC⟩
def eP.f (k:Nat) (a0_0:Int) (a0_1:Int) (a0_2:Int) (a0_3:Int) (a1_0:Int) (a1_1:Int) (a1_2:Int) (a1_3:Int):Option (Bool):=if a0_0=0 then ((eH.f k a1_0).bind fun t408=>(if t408=true then (some false) else (if a1_0=132 then (some false) else ((bL.f k a1_0).bind fun t409=>(some (t409 != 0)))))) else (if a0_0=96 then ((bL.f k a1_0).bind fun t410=>(some (t410 != 0))) else (if a0_0=128 then ((bL.f k a1_0).bind fun t411=>(some (t411 != 0))) else (some true)))
theorem eP.calls (k:Nat) (a0_0:Int) (a0_1:Int) (a0_2:Int) (a0_3:Int) (a1_0:Int) (a1_1:Int) (a1_2:Int) (a1_3:Int) (r:Bool) (w:World) (h:eP.f k a0_0 a0_1 a0_2 a0_3 a1_0 a1_1 a1_2 a1_3=some r) :
 Calls Try.prog 93 #[.agg #[.int .u16 a0_0,.int .u8 a0_1,.int .u8 a0_2,.int .u32 a0_3],.agg #[.int .u16 a1_0,.int .u8 a1_1,.int .u8 a1_2,.int .u32 a1_3]] w fun e w'=>e = .returned (.bool r)∧Below w.heap.size w w':=by
 have hu45:=Try.underlying45
 have HB:=aa.mk (Below.refl w.heap.size w)
 have H:(if a0_0=0 then ((eH.f k a1_0).bind fun t408=>(if t408=true then (some false) else (if a1_0=132 then (some false) else ((bL.f k a1_0).bind fun t409=>(some (t409 != 0)))))) else (if a0_0=96 then ((bL.f k a1_0).bind fun t410=>(some (t410 != 0))) else (if a0_0=128 then ((bL.f k a1_0).bind fun t411=>(some (t411 != 0))) else (some true))))=some r:=h
 clear h
 replace H:=bN H
 obtain ⟨H,-,_,_⟩ | ⟨H,c3,_,_⟩:=H
 · replace H:=bnd H
   obtain ⟨t408,A4,H⟩:=H
   replace H:=iY H
   obtain ⟨rfl,H⟩ | ⟨rfl,H⟩:=H
   · cases H
     go_enter Try.func93,Try.ntmps93
     go_wp2_with (first | ((with_reducible refine aW (N:=2) rfl ?_);refine dS (N:=2) (cs:=#[.int .u16 a0_0,.int .u8 a0_1,.int .u8 a0_2,.int .u32 a0_3]) (t:=45) ?_;intro gb406 hg w6 hbox hb;have GE406:=geN HB hg;have BK406:=aa.mk hbox;replace HB:=cK HB hb;clear hb hbox hg) | ((with_reducible refine aW (N:=3) rfl ?_);refine dS (N:=3) (cs:=#[.int .u16 a1_0,.int .u8 a1_1,.int .u8 a1_2,.int .u32 a1_3]) (t:=45) ?_;intro gb407 hg w7 hbox hb;have NB406_407:=nbN BK406 hg;have NB407_406:=nbM BK406 hg;have GE407:=geN HB hg;replace BK406:=lW BK406 hb;have BK407:=aa.mk hbox;replace HB:=cK HB hb;clear hb hbox hg;have hnb8:=NB406_407.out;have hnc8:=NB407_406.out;obtain ⟨_,_,_,_,_,_,_,_⟩:=cz4 BK406;obtain ⟨_,_,_,_,_,_,_,_⟩:=cz4 BK407) | (go_at_call 137;(with_reducible refine (eH.calls _ _ _ _ A4.out).mono ?_);rintro e w' ⟨rfl,⟨nd,rfl⟩⟩))
     go_ret
     exact ⟨dm,bv⟩
   replace H:=bN H
   obtain ⟨H,-,_,_⟩ | ⟨H,c11,_,_⟩:=H
   · cases H
     go_enter Try.func93,Try.ntmps93
     go_wp2_with (first | ((with_reducible refine aW (N:=2) rfl ?_);refine dS (N:=2) (cs:=#[.int .u16 a0_0,.int .u8 a0_1,.int .u8 a0_2,.int .u32 a0_3]) (t:=45) ?_;intro gb406 hg w12 hbox hb;have GE406:=geN HB hg;have BK406:=aa.mk hbox;replace HB:=cK HB hb;clear hb hbox hg) | ((with_reducible refine aW (N:=3) rfl ?_);refine dS (N:=3) (cs:=#[.int .u16 a1_0,.int .u8 a1_1,.int .u8 a1_2,.int .u32 a1_3]) (t:=45) ?_;intro gb407 hg w13 hbox hb;have NB406_407:=nbN BK406 hg;have NB407_406:=nbM BK406 hg;have GE407:=geN HB hg;replace BK406:=lW BK406 hb;have BK407:=aa.mk hbox;replace HB:=cK HB hb;clear hb hbox hg;have hnb14:=NB406_407.out;have hnc14:=NB407_406.out;obtain ⟨_,_,_,_,_,_,_,_⟩:=cz4 BK406;obtain ⟨_,_,_,_,_,_,_,_⟩:=cz4 BK407) | (go_at_call 137;(with_reducible refine (eH.calls _ _ _ _ A4.out).mono ?_);rintro e w' ⟨rfl,⟨nd,rfl⟩⟩))
     go_ret
     exact ⟨dm,bv⟩
   replace H:=bnd H
   obtain ⟨t409,A17,H⟩:=H
   cases H
   go_enter Try.func93,Try.ntmps93
   go_wp2_with (first | ((with_reducible refine aW (N:=2) rfl ?_);refine dS (N:=2) (cs:=#[.int .u16 a0_0,.int .u8 a0_1,.int .u8 a0_2,.int .u32 a0_3]) (t:=45) ?_;intro gb406 hg w18 hbox hb;have GE406:=geN HB hg;have BK406:=aa.mk hbox;replace HB:=cK HB hb;clear hb hbox hg) | ((with_reducible refine aW (N:=3) rfl ?_);refine dS (N:=3) (cs:=#[.int .u16 a1_0,.int .u8 a1_1,.int .u8 a1_2,.int .u32 a1_3]) (t:=45) ?_;intro gb407 hg w19 hbox hb;have NB406_407:=nbN BK406 hg;have NB407_406:=nbM BK406 hg;have GE407:=geN HB hg;replace BK406:=lW BK406 hb;have BK407:=aa.mk hbox;replace HB:=cK HB hb;clear hb hbox hg;have hnb20:=NB406_407.out;have hnc20:=NB407_406.out;obtain ⟨_,_,_,_,_,_,_,_⟩:=cz4 BK406;obtain ⟨_,_,_,_,_,_,_,_⟩:=cz4 BK407) | (go_at_call 137;(with_reducible refine (eH.calls _ _ _ _ A4.out).mono ?_);rintro e w' ⟨rfl,⟨nd,rfl⟩⟩) | (go_at_call 61;(with_reducible refine (bL.calls _ _ _ _ A17.out).mono ?_);rintro e w' ⟨rfl,⟨nd,rfl⟩⟩))
   go_ret
   exact ⟨dm,bv⟩
 iterate 2
  replace H:=bN H
  obtain ⟨H,-,_,_⟩ | ⟨H,c23,_,_⟩:=H
  · replace H:=bnd H
    obtain ⟨t410,A24,H⟩:=H
    cases H
    go_enter Try.func93,Try.ntmps93
    go_wp2_with (first | ((with_reducible refine aW (N:=2) rfl ?_);refine dS (N:=2) (cs:=#[.int .u16 a0_0,.int .u8 a0_1,.int .u8 a0_2,.int .u32 a0_3]) (t:=45) ?_;intro gb406 hg w25 hbox hb;have GE406:=geN HB hg;have BK406:=aa.mk hbox;replace HB:=cK HB hb;clear hb hbox hg) | ((with_reducible refine aW (N:=3) rfl ?_);refine dS (N:=3) (cs:=#[.int .u16 a1_0,.int .u8 a1_1,.int .u8 a1_2,.int .u32 a1_3]) (t:=45) ?_;intro gb407 hg w26 hbox hb;have NB406_407:=nbN BK406 hg;have NB407_406:=nbM BK406 hg;have GE407:=geN HB hg;replace BK406:=lW BK406 hb;have BK407:=aa.mk hbox;replace HB:=cK HB hb;clear hb hbox hg;have hnb27:=NB406_407.out;have hnc27:=NB407_406.out;obtain ⟨_,_,_,_,_,_,_,_⟩:=cz4 BK406;obtain ⟨_,_,_,_,_,_,_,_⟩:=cz4 BK407) | (go_at_call 61;(with_reducible refine (bL.calls _ _ _ _ A24.out).mono ?_);rintro e w' ⟨rfl,⟨nd,rfl⟩⟩))
    go_ret
    exact ⟨dm,bv⟩
 cases H
 go_enter Try.func93,Try.ntmps93
 go_wp2_with (first | ((with_reducible refine aW (N:=2) rfl ?_);refine dS (N:=2) (cs:=#[.int .u16 a0_0,.int .u8 a0_1,.int .u8 a0_2,.int .u32 a0_3]) (t:=45) ?_;intro gb406 hg w37 hbox hb;have GE406:=geN HB hg;have BK406:=aa.mk hbox;replace HB:=cK HB hb;clear hb hbox hg) | ((with_reducible refine aW (N:=3) rfl ?_);refine dS (N:=3) (cs:=#[.int .u16 a1_0,.int .u8 a1_1,.int .u8 a1_2,.int .u32 a1_3]) (t:=45) ?_;intro gb407 hg w38 hbox hb;have NB406_407:=nbN BK406 hg;have NB407_406:=nbM BK406 hg;have GE407:=geN HB hg;replace BK406:=lW BK406 hb;have BK407:=aa.mk hbox;replace HB:=cK HB hb;clear hb hbox hg;have hnb39:=NB406_407.out;have hnc39:=NB407_406.out;obtain ⟨_,_,_,_,_,_,_,_⟩:=cz4 BK406))
 go_ret
 exact ⟨dm,bv⟩
end Go.Proofs.Ytdkalnkplgfgoaa.PA
namespace Go.Proofs.Ytdkalnkplgfgoaa.Ln
open Go.RowKit Go.Maps Go.Proofs.YtdkalnkplgfgoaaW.PrintWords Go.Proofs.YtdkalnkplgfgoaaW.PrintLast Go.Proofs.YtdkalnkplgfgoaaW.PrintMore Go.Proofs.Ytdkalnkplgfgoaa.PA
theorem Bp {α:Type} (d:α) (c:List α) (n:Nat):pV d c (n:Int)=c.getD n d:=by
 unfold pV;rw [Int.toNat_natCast]
theorem reach_l (x:List S47) (hx:GOk x):∀ (d n:Nat) (c:List Bool),x.length - n=d→n≤x.length→c.length=x.length→∀ k,d+1≤k→aQ.l0 k x c (n:Int)=some (cmF (x.drop n) n c):=by
 intro d
 induction d with
 | zero=>
  intro n c hd hn hc k hk
  obtain ⟨k,rfl⟩:∃ m,k=m+1:=⟨k - 1,by omega⟩
  rw [aQ.l0,if_neg (by omega),List.drop_eq_nil_of_le (by omega)]
  rfl
 | succ d ih=>
  intro n c hd hn hc k hk
  obtain ⟨k,rfl⟩:∃ m,k=m+1:=⟨k - 1,by omega⟩
  have hlt:n<x.length:=by omega
  have hf:=hx.few
  have hok:=hx.all n x[n] (List.getElem?_eq_getElem hlt)
  have hgy:=bB hok.goal
  have hgn:=dM hok.goal
  have ih':=fun c' hc'=>ih (n+1) c' (by omega) (by omega) hc' k (by omega)
  rw [show ((n+1:Nat):Int)=(n:Int)+1 by omega] at ih'
  rw [aQ.l0,if_pos (by omega),if_pos (by omega),if_pos (by omega),jC hlt,Bp,List.drop_eq_getElem_cons hlt,cmF,w64 (n:=(n:Int)+1) (by omega) (by omega)]
  by_cases q:c.getD n false=true
  · rw [if_pos q,if_pos q]
    rcases eO hok.ends with ⟨h1,_⟩ | ⟨h1,_⟩ | ⟨h1,_⟩
    · rw [if_pos h1,if_neg (by omega),ih' c hc]
      unfold mkC
      rw [if_pos h1]
    · have hy:=hgy (by omega)
      rw [if_neg (by omega),if_pos (by omega),if_pos (by omega),Option.bind_some,if_neg (by omega),ih' _ (by rw [List.length_set];exact hc)]
      unfold mkC
      rw [if_neg (by omega),if_neg (by omega)]
    have hy:=hgy (by omega)
    have hn2:=hgn h1
    rw [if_neg (by omega),if_pos (by omega),if_pos (by omega),Option.bind_some,if_pos h1,if_pos (by omega),if_pos (by omega),ih' _ (by rw [List.length_set,List.length_set];exact hc)]
    unfold mkC
    rw [if_neg (by omega),if_pos h1]
  rw [if_neg q,if_neg q,ih' c hc]
theorem reach_f (x:List S47) (hx:GOk x):aQ.f 10000 x=some (fU x 0):=by
 have hf:=hx.few
 have h0:=hx.some_
 unfold aQ.f
 rw [if_pos (by omega),if_pos (by rw [Int.toNat_natCast];omega),Option.bind_some,Int.toNat_natCast,if_pos (by rw [List.length_replicate];omega)]
 have h:=reach_l x hx x.length 0 ((List.replicate x.length false).set 0 true) rfl (by omega) (by rw [List.length_set,List.length_replicate]) 10000 (by omega)
 rw [show ((0:Nat):Int)=0 from rfl,List.drop_zero] at h
 rw [show (0:Int).toNat=0 from rfl,h]
 rfl
theorem pX (c:List Int) (i:Int):rd c i=c.getD i.toNat 0:=rfl
theorem pz (b:S47) (r:List S47) (t:Nat):jo (b :: r) t=cE t b+jo r t:=by unfold jo;rw [List.map_cons,List.sum_cons]
theorem zb (x:List S47) (hx:GOk x):∀ (d n:Nat) (c:List Int),x.length - n=d→n≤x.length→c.length=x.length→(∀ t,0≤c.getD t 0∧c.getD t 0≤2*(n:Int))→∀ k,d+1≤k →
 ∃ c',bi.l0 k x c (n:Int)=some c'∧c'.length=x.length∧∀ t,t<x.length→c'.getD t 0=c.getD t 0+(jo (x.drop n) t:Nat):=by
 intro d
 induction d with
 | zero=>
  intro n c hd hn hc hb k hk
  obtain ⟨k,rfl⟩:∃ m,k=m+1:=⟨k - 1,by omega⟩
  rw [bi.l0,if_neg (by omega),List.drop_eq_nil_of_le (by omega)]
  exact ⟨c,rfl,hc,fun t _=>by show _=_+((0:Nat):Int);omega⟩
 | succ d ih=>
  intro n c hd hn hc hb k hk
  obtain ⟨k,rfl⟩:∃ m,k=m+1:=⟨k - 1,by omega⟩
  have hlt:n<x.length:=by omega
  have hf:=hx.few
  have hok:=hx.all n x[n] (List.getElem?_eq_getElem hlt)
  have hgy:=bB hok.goal
  have hgn:=dM hok.goal
  have ih':=fun c' hc' hb'=>ih (n+1) c' (by omega) (by omega) hc' hb' k (by omega)
  rw [show ((n+1:Nat):Int)=(n:Int)+1 by omega] at ih'
  rw [bi.l0,if_pos (by omega),if_pos (by omega),jC hlt,List.drop_eq_getElem_cons hlt,w64 (n:=(n:Int)+1) (by omega) (by omega)]
  rcases eO hok.ends with ⟨h1,_⟩ | ⟨h1,_⟩ | ⟨h1,_⟩
  · rw [if_pos h1,if_neg (by omega)]
    obtain ⟨c',e1,e2,e3⟩:=ih' c hc (fun t=>by have:=hb t;omega)
    exact ⟨c',e1,e2,fun t ht=>by rw [e3 t ht,pz,cE1 h1];omega⟩
  · have hy:=hgy (by omega)
    have hb3:=hb x[n].f3.toNat
    have hs:∀ t,(c.set x[n].f3.toNat (c.getD x[n].f3.toNat 0+1)).getD t 0=c.getD t 0+(if x[n].f3.toNat=t then 1 else 0):=fun t=>by
     rw [dL (by omega)]
     by_cases e:x[n].f3.toNat=t
     · rw [if_pos e,if_pos e,e]
     rw [if_neg e,if_neg e];omega
    rw [if_neg (by omega),if_pos (by omega),if_pos (by omega),Option.bind_some,if_neg (by omega),pX,w64 (n:=c.getD x[n].f3.toNat 0+1) (by omega) (by omega)]
    obtain ⟨c',e1,e2,e3⟩:=ih' (c.set x[n].f3.toNat (c.getD x[n].f3.toNat 0+1)) (by rw [List.length_set];exact hc) (fun t=>by rw [hs t];have:=hb t;split<;>omega)
    exact ⟨c',e1,e2,fun t ht=>by rw [e3 t ht,hs t,pz,cE2 h1];split<;>omega⟩
  have hy:=hgy (by omega)
  have hn2:=hgn h1
  have hb3:=hb x[n].f3.toNat
  have hs:∀ t,(c.set x[n].f3.toNat (c.getD x[n].f3.toNat 0+1)).getD t 0=c.getD t 0+(if x[n].f3.toNat=t then 1 else 0):=fun t=>by
   rw [dL (by omega)]
   by_cases e:x[n].f3.toNat=t
   · rw [if_pos e,if_pos e,e]
   rw [if_neg e,if_neg e];omega
  obtain ⟨c1,ec1⟩:∃ c1,c1=c.set x[n].f3.toNat (c.getD x[n].f3.toNat 0+1):=⟨_,rfl⟩
  have hl1:c1.length=x.length:=by rw [ec1,List.length_set];exact hc
  rw [←ec1] at hs
  have hb4:=hs x[n].f4.toNat
  have hb5:=hb x[n].f4.toNat
  have hb6:0≤c1.getD x[n].f4.toNat 0∧c1.getD x[n].f4.toNat 0≤2*(n:Int)+1:=by rw [hb4];split<;>omega
  have hs2:∀ t,(c1.set x[n].f4.toNat (c1.getD x[n].f4.toNat 0+1)).getD t 0=c1.getD t 0+(if x[n].f4.toNat=t then 1 else 0):=fun t=>by
   rw [dL (by omega)]
   by_cases e:x[n].f4.toNat=t
   · rw [if_pos e,if_pos e,e]
   rw [if_neg e,if_neg e];omega
  rw [if_neg (by omega),if_pos (by omega),if_pos (by omega),Option.bind_some,if_pos h1,if_pos (by omega),if_pos (by omega),pX c,w64 (n:=c.getD x[n].f3.toNat 0+1) (by omega) (by omega),←ec1,pX c1,w64 (n:=c1.getD x[n].f4.toNat 0+1) (by omega) (by omega)]
  obtain ⟨c',e1,e2,e3⟩:=ih' (c1.set x[n].f4.toNat (c1.getD x[n].f4.toNat 0+1)) (by rw [List.length_set];exact hl1) (fun t=>by rw [hs2 t,hs t];have:=hb t;split<;>split<;>omega)
  exact ⟨c',e1,e2,fun t ht=>by rw [e3 t ht,hs2 t,hs t,pz,cE3 h1];split<;>split<;>omega⟩
theorem za (x:List S47) (hx:GOk x):∃ c,bi.f 10000 x=some c∧c.length=x.length∧∀ t,t<x.length→c.getD t 0=(jo x t:Nat):=by
 have hf:=hx.few
 unfold bi.f
 rw [if_pos (by omega),if_pos (by rw [Int.toNat_natCast];omega),Int.toNat_natCast]
 have hz:∀ t,(List.replicate x.length (0:Int)).getD t 0=0:=fun t=>by rw [List.getD_eq_getElem?_getD,List.getElem?_replicate];split<;>rfl
 obtain ⟨c,e1,e2,e3⟩:=zb x hx x.length 0 (List.replicate x.length 0) rfl (by omega) (by rw [List.length_replicate]) (fun t=>by rw [hz t];omega) 10000 (by omega)
 exact ⟨c,e1,e2,fun t ht=>by rw [e3 t ht,hz t,List.drop_zero];omega⟩
def ldP (a:Int) (c:S45):Bool:=decide ((c.f0=96∨c.f0=97)∧c.f3=a)
theorem AO (x:List S47) (hx:GOk x) (a:Int) (n:Nat) (hn:n<x.length):∀ (d j:Nat),x[n].f0.length - j=d→j≤x[n].f0.length→∀ k,aZ.l1 (k+d+1) x a (n:Int) (j:Int)=if (x[n].f0.drop j).any (ldP a)=true then some true else aZ.l0 k x a ((n:Int)+1):=by
 have hf:=hx.few
 have hl:=hx.len (List.getElem?_eq_getElem hn)
 intro d
 induction d with
 | zero=>
  intro j hd hj k
  rw [Nat.add_zero,aZ.l1,if_pos (by omega),if_pos (by omega),jC hn,if_neg (by omega),List.drop_eq_nil_of_le (by omega),w64 (n:=(n:Int)+1) (by omega) (by omega)]
  rfl
 | succ d ih=>
  intro j hd hj k
  have hlt:j<x[n].f0.length:=by omega
  have h:=ih (j+1) (by omega) (by omega) k
  rw [show ((j+1:Nat):Int)=(j:Int)+1 by omega] at h
  rw [show k+(d+1)+1=(k+d+1)+1 by omega,aZ.l1,if_pos (by omega),if_pos (by omega),jC hn,if_pos (by omega),if_pos (by omega),kw hlt,w64 (n:=(j:Int)+1) (by omega) (by omega),h,List.drop_eq_getElem_cons hlt,List.any_cons]
  generalize x[n].f0[j]=c
  unfold ldP
  by_cases h1:c.f0=96
  · rw [if_pos h1]
    by_cases h2:c.f3=a
    · rw [if_pos h2,decide_eq_true (show (c.f0=96∨c.f0=97)∧c.f3=a from ⟨.inl h1,h2⟩),Bool.true_or,if_pos rfl]
    rw [if_neg h2,decide_eq_false (show ¬((c.f0=96∨c.f0=97)∧c.f3=a) from fun q=>h2 q.2),Bool.false_or]
  rw [if_neg h1]
  by_cases h3:c.f0=97
  · rw [if_pos h3]
    by_cases h2:c.f3=a
    · rw [if_pos h2,decide_eq_true (show (c.f0=96∨c.f0=97)∧c.f3=a from ⟨.inr h3,h2⟩),Bool.true_or,if_pos rfl]
    rw [if_neg h2,decide_eq_false (show ¬((c.f0=96∨c.f0=97)∧c.f3=a) from fun q=>h2 q.2),Bool.false_or]
  rw [if_neg h3,decide_eq_false (show ¬((c.f0=96∨c.f0=97)∧c.f3=a) from fun q=>by rcases q.1 with e | e;exact h1 e;exact h3 e),Bool.false_or]
theorem AL (x:List S47) (hx:GOk x) (a:Int):∀ (d n:Nat),x.length - n=d→n≤x.length→∀ k,((x.drop n).map (fun b=>b.f0.length+2)).sum+1≤k→aZ.l0 k x a (n:Int)=some ((x.drop n).any (fun b=>b.f0.any (ldP a))):=by
 intro d
 induction d with
 | zero=>
  intro n hd hn k hk
  obtain ⟨k,rfl⟩:∃ m,k=m+1:=⟨k - 1,by omega⟩
  rw [aZ.l0,if_neg (by omega),List.drop_eq_nil_of_le (by omega)]
  rfl
 | succ d ih=>
  intro n hd hn k hk
  have hlt:n<x.length:=by omega
  rw [List.drop_eq_getElem_cons hlt,List.map_cons,List.sum_cons] at hk
  obtain ⟨k,rfl⟩:∃ m,k=(m+x[n].f0.length+1)+1:=⟨k - x[n].f0.length - 2,by omega⟩
  rw [aZ.l0,if_pos (by omega),List.drop_eq_getElem_cons hlt,List.any_cons]
  have h:=AO x hx a n hlt x[n].f0.length 0 (by omega) (by omega) k
  rw [show ((0:Nat):Int)=0 from rfl,List.drop_zero] at h
  rw [h]
  have h2:=ih (n+1) (by omega) (by omega) k (by omega)
  rw [show ((n+1:Nat):Int)=(n:Int)+1 by omega] at h2
  rw [h2]
  cases x[n].f0.any (ldP a)<;>simp
theorem sum2:∀ x:List S47,(x.map (fun b=>b.f0.length+2)).sum=(x.map (fun b=>b.f0.length)).sum+2*x.length:=by
 intro x
 induction x with
 | nil=>rfl
 | cons b r ih=>rw [List.map_cons,List.sum_cons,List.map_cons,List.sum_cons,ih,List.length_cons];omega
theorem loads_f (x:List S47) (hx:GOk x) (a:Int):aZ.f 20000 x a=some (x.any (fun b=>b.f0.any (ldP a))):=by
 have h:=AL x hx a x.length 0 rfl (by omega) 20000 (by rw [List.drop_zero,sum2];have:=hx.few;have:=hx.sum;omega)
 rw [List.drop_zero] at h
 exact h
theorem xB (x:List S47) (hx:GOk x) (a:Nat) (h:Lds x a):(x.any (fun b=>b.f0.any (ldP (a:Int))))=true:=by
 obtain ⟨b,hb,c,hc,h1,h2⟩:=h
 rw [List.any_eq_true]
 refine ⟨b,hb,?_⟩
 rw [List.any_eq_true]
 refine ⟨c,hc,?_⟩
 obtain ⟨j,hj⟩:=List.getElem?_of_mem hb
 have:=((hx.all j b hj).rg c hc).1
 exact decide_eq_true ⟨h1,by omega⟩
theorem byk_st:∀ c∈stL,eH.f 10000 c=some (decide (c∈eQ)):=by decide +kernel
theorem cl_st:∀ c∈stL,(bL.f 10000 c).bind (fun t=>some (t != 0))=some (!decide (c∈([0,32,40,48,64,72,80,96,128]:List Int))):=by decide +kernel
theorem pair_f {a c:S45} (hc:stB c.f0 c.f3=true) (h1:a.f0=0→¬(c.f0∈eQ∨c.f0=132)) (h2:(a.f0=0∨a.f0=96∨a.f0=128)→c.f0 ∉ ([0,32,40,48,64,72,80,96,128]:List Int)) :
 eP.f 10000 a.f0 a.f1 a.f2 a.f3 c.f0 c.f1 c.f2 c.f3=some true:=by
 obtain ⟨hm,_,_⟩:=gQ hc
 have hb:=byk_st c.f0 hm
 have hcl:=cl_st c.f0 hm
 unfold eP.f
 by_cases e0:a.f0=0
 · have h3:=h1 e0
   rw [if_pos e0,hb,decide_eq_false (fun q=>h3 (.inl q)),Option.bind_some,if_neg (by decide),if_neg (fun q=>h3 (.inr q)),hcl,decide_eq_false (h2 (.inl e0))];rfl
 rw [if_neg e0]
 by_cases e1:a.f0=96
 · rw [if_pos e1,hcl,decide_eq_false (h2 (.inr (.inl e1)))];rfl
 rw [if_neg e1]
 by_cases e2:a.f0=128
 · rw [if_pos e2,hcl,decide_eq_false (h2 (.inr (.inr e2)))];rfl
 rw [if_neg e2]
def ldc (ld:List Bool):Array Value:=(ld.map Value.bool).toArray
theorem rW {ld:List Bool} {t:Nat} {b:Bool} (h:ld[t]?=some b):(ldc ld)[t]?=some (.bool b):=by
 unfold ldc
 rw [List.getElem?_toArray,List.getElem?_map,h];rfl
structure CIc (w wr:World) (g:Nat) (ld:List Bool):Prop where
 b:Below w.heap.size w wr
 l:wr.heap[g]?=some (.cells (ldc ld) 89 (0,0))
theorem CIc.below {w wr V:World} {g:Nat} {ld:List Bool} (h:CIc w wr g ld) (hb:Below wr.heap.size wr V):CIc w V g ld:=⟨av h.b hb,aj h.l hb⟩
theorem ut (F:Nat) (w:World) (vg:Value) (A:Option Addr) (c:List S45) (cc:Nat) (ld:List Bool) (hl:ld.length=16) (hc:Kd.C k45 w A c.length c) (hcc:c.length≤9223372036854775807)
 (hp:∀ k:Nat,k+1<c.length→eP.f F (aV c (k:Int)).f0 (aV c (k:Int)).f1 (aV c (k:Int)).f2 (aV c (k:Int)).f3 (aV c ((k:Int)+1)).f0 (aV c ((k:Int)+1)).f1 (aV c ((k:Int)+1)).f2 (aV c ((k:Int)+1)).f3=some true)
 (hs:∀ k:Nat,k<c.length→((aV c (k:Int)).f0=2∨(aV c (k:Int)).f0=3)→∃ t:Nat,t<16∧Go.bits .and .u32 (aV c (k:Int)).f3 15=(t:Int)∧ld[t]?=some true) :
 Calls Try.prog 59 #[vg,.slice A c.length cc,.agg (ldc ld)] w fun e w'=>e = .returned (.bool true)∧Below w.heap.size w w':=by
 have hu45:=Try.underlying45
 have HC:=aa.mk hc
 have HP:=aa.mk hp
 have HS:=aa.mk hs
 clear hc hp hs
 go_enter Try.func59,Try.ntmps59
 go_upto_region 1 with (fail)
 refine forget (fun W=>∃ g,g=w.heap.size∧CIc w W g ld) ⟨_,rfl,ai (Below.refl _ _) _,heap_alloc_new _ _⟩ ?_
 rintro W ⟨g,eg,hI⟩
 rw [←eg]
 have HI:=aa.mk hI
 have EG:=aa.mk eg
 clear eg hI
 go_wp2
 go_loopw [7] (fun v7 wr=>∃ k:Nat,k≤c.length∧v7 = .int .i64 k∧aa (CIc w wr g ld)) (fun v7 _=>c.length - (intOf v7).toNat)
 case atStart=>exact ⟨0,Nat.zero_le _,rfl,HI⟩
 case round=>
  clear HI
  obtain ⟨k,hk,rfl,HI⟩:=hrel
  by_cases hlt:k<c.length
  · obtain ⟨z,ez⟩:∃ z:Int,z=(k:Int):=⟨_,rfl⟩
    rw [←ez]
    have i0:(0:Int)≤z:=by omega
    have i1:z<(c.length:Int):=by omega
    have HB:aa (Below w.heap.size w wr):=⟨HI.out.b⟩
    obtain ⟨ad,rfl,x0,x1,x2,x3,-,-⟩:=gV HC HB z (decide_eq_true i0) (decide_eq_true i1)
    have hPR:=HP.out k
    have hSK:=HS.out k hlt
    rw [←ez] at hPR hSK
    have HSK:=aa.mk hSK
    have EZ:=aa.mk ez
    have ew:wrap64 (z+1)=z+1:=by unfold wrap64;omega
    have HEW:=aa.mk ew
    have HP1:aa (k+1<c.length→_):=⟨hPR⟩
    clear hPR hSK ez ew hk
    go_upto_region 4 with (fail)
    go_cut [7,31] (fun v7 v31 wc=>v7 = .int .i64 z∧v31 = .bool false∧aa (CIc w wc g ld))
    case first=>
     by_cases h2:k+1<c.length
     · have hPR:=HP1.out h2
       rw [←HEW.out] at hPR
       have HPR:=aa.mk hPR
       have i2:(0:Int)≤wrap64 (z+1):=by rw [HEW.out];omega
       have i3:wrap64 (z+1)<(c.length:Int):=by rw [HEW.out,EZ.out];omega
       obtain ⟨y0,y1,y2,y3,-,-⟩:=gP HC HB (wrap64 (z+1)) (decide_eq_true i2) (decide_eq_true i3)
       clear hPR HP1
       refine eD 18 (fun w'=>w'.cell? (ad.add ((z).toNat*4))=some (.int .u16 (aV c (z)).f0)∧w'.cell? ⟨(ad.add ((z).toNat*4)).block,(ad.add ((z).toNat*4)).off+1,none⟩=some (.int .u8 (aV c (z)).f1)∧w'.cell? ⟨(ad.add ((z).toNat*4)).block,(ad.add ((z).toNat*4)).off+2,none⟩=some (.int .u8 (aV c (z)).f2)∧w'.cell? ⟨(ad.add ((z).toNat*4)).block,(ad.add ((z).toNat*4)).off+3,none⟩=some (.int .u32 (aV c (z)).f3)∧w'.cell? (ad.add ((wrap64 (z+1)).toNat*4))=some (.int .u16 (aV c (wrap64 (z+1))).f0)∧w'.cell? ⟨(ad.add ((wrap64 (z+1)).toNat*4)).block,(ad.add ((wrap64 (z+1)).toNat*4)).off+1,none⟩=some (.int .u8 (aV c (wrap64 (z+1))).f1)∧w'.cell? ⟨(ad.add ((wrap64 (z+1)).toNat*4)).block,(ad.add ((wrap64 (z+1)).toNat*4)).off+2,none⟩=some (.int .u8 (aV c (wrap64 (z+1))).f2)∧w'.cell? ⟨(ad.add ((wrap64 (z+1)).toNat*4)).block,(ad.add ((wrap64 (z+1)).toNat*4)).off+3,none⟩=some (.int .u32 (aV c (wrap64 (z+1))).f3)) [] ⟨(au (ak (Below.refl _ _)) x0),(au (ak (Below.refl _ _)) x1),(au (ak (Below.refl _ _)) x2),(au (ak (Below.refl _ _)) x3),(au (ak (Below.refl _ _)) y0),(au (ak (Below.refl _ _)) y1),(au (ak (Below.refl _ _)) y2),(au (ak (Below.refl _ _)) y3)⟩ (fun hHeld=>?_)
       refine aH 0 14 ?_
       refine aH 1 15 ?_
       refine aH 2 16 ?_
       refine aH 3 17 ?_
       refine aH 4 18 ?_
       refine aH 5 19 ?_
       refine aH 6 20 ?_
       refine aH 7 21 ?_
       refine aH 8 22 ?_
       refine aH 10 24 ?_
       refine aH 11 25 ?_
       refine aH 12 26 ?_
       refine aH 13 27 ?_
       refine dC 9 23 hHeld ?_
       refine dC 14 28 hHeld ?_
       refine iG 15 (some 29) (fun K hK=>?_)
       refine gX Try.func93 #[.agg #[.int .u16 (aV c (z)).f0,.int .u8 (aV c (z)).f1,.int .u8 (aV c (z)).f2,.int .u32 (aV c (z)).f3],.agg #[.int .u16 (aV c (wrap64 (z+1))).f0,.int .u8 (aV c (wrap64 (z+1))).f1,.int .u8 (aV c (wrap64 (z+1))).f2,.int .u32 (aV c (wrap64 (z+1))).f3]] ?_
       with_reducible refine (eP.calls F _ _ _ _ _ _ _ _ true _ HPR.out).mono ?_
       rintro e w3 ⟨rfl,hb3⟩
       refine ⟨_,rfl,?_⟩
       refine hK.out _ _ ⟨(au (av (ak (Below.refl _ _)) hb3) x0),(au (av (ak (Below.refl _ _)) hb3) x1),(au (av (ak (Below.refl _ _)) hb3) x2),(au (av (ak (Below.refl _ _)) hb3) x3),(au (av (ak (Below.refl _ _)) hb3) y0),(au (av (ak (Below.refl _ _)) hb3) y1),(au (av (ak (Below.refl _ _)) hb3) y2),(au (av (ak (Below.refl _ _)) hb3) y3)⟩ (fun hHeld=>?_)
       clear hK K
       refine eZ 29 ?_
       refine aH 16 30 ?_
       refine aH 17 31 ?_
       refine iA (by kernel_rfl) ?_
       go_wp2
       go_meet
       exact ⟨rfl,by first | rfl | simp,⟨HI.out.below (av (ak (Below.refl _ _)) hb3)⟩⟩
     have i3:¬wrap64 (z+1)<(c.length:Int):=by rw [HEW.out,EZ.out];omega
     clear HP1
     refine eD 18 (fun w'=>w'.cell? ⟨g,0,none⟩=wr.cell? ⟨g,0,none⟩) [] (rfl) (fun hHeld=>?_)
     refine aH 0 14 ?_
     refine aH 1 15 ?_
     refine aH 2 16 ?_
     refine aH 3 17 ?_
     refine aH 4 18 ?_
     refine aH 5 19 ?_
     refine ko (i:=6) (N:=some 20) (v:=undef) (a':=?_) #[true,true,true,true,true,true,true,false,false,false,false,false,false,false,false,false,false,false] rfl rfl (by kernel_rfl) (fun _ _ _ h=>h) (Or.inr ⟨by rfl,rfl⟩) ?_ ?_
     rotate_left
     · simp only [Act.put,List.setIfInBounds_toArray,List.set_cons_zero,List.set_cons_succ,dD,dE]
       rfl
     refine ko (i:=7) (N:=some 21) (v:=undef) (a':=?_) #[true,true,true,true,true,true,true,true,false,false,false,false,false,false,false,false,false,false] rfl rfl (by kernel_rfl) (fun _ _ _ h=>h) (Or.inr ⟨by rfl,rfl⟩) ?_ ?_
     rotate_left
     · simp only [Act.put,List.setIfInBounds_toArray,List.set_cons_zero,List.set_cons_succ,dD,dE]
       rfl
     refine ko (i:=8) (N:=some 22) (v:=undef) (a':=?_) #[true,true,true,true,true,true,true,true,true,false,false,false,false,false,false,false,false,false] rfl rfl (by kernel_rfl) (fun _ _ _ h=>h) (Or.inr ⟨by rfl,rfl⟩) ?_ ?_
     rotate_left
     · simp only [Act.put,List.setIfInBounds_toArray,List.set_cons_zero,List.set_cons_succ,dD,dE]
       rfl
     refine ko (i:=9) (N:=some 23) (v:=undef) (a':=?_) #[true,true,true,true,true,true,true,true,true,true,false,false,false,false,false,false,false,false] rfl rfl (by kernel_rfl) (fun _ _ _ h=>h) (Or.inr ⟨by rfl,rfl⟩) ?_ ?_
     rotate_left
     · simp only [Act.put,List.setIfInBounds_toArray,List.set_cons_zero,List.set_cons_succ,dD,dE]
       rfl
     refine ko (i:=10) (N:=some 24) (v:=undef) (a':=?_) #[true,true,true,true,true,true,true,true,true,true,true,false,false,false,false,false,false,false] rfl rfl (by kernel_rfl) (fun _ _ _ h=>h) (Or.inr ⟨by rfl,rfl⟩) ?_ ?_
     rotate_left
     · simp only [Act.put,List.setIfInBounds_toArray,List.set_cons_zero,List.set_cons_succ,dD,dE]
       rfl
     refine ko (i:=11) (N:=some 25) (v:=undef) (a':=?_) #[true,true,true,true,true,true,true,true,true,true,true,true,false,false,false,false,false,false] rfl rfl (by kernel_rfl) (fun _ _ _ h=>h) (Or.inr ⟨by rfl,rfl⟩) ?_ ?_
     rotate_left
     · simp only [Act.put,List.setIfInBounds_toArray,List.set_cons_zero,List.set_cons_succ,dD,dE]
       rfl
     refine ko (i:=12) (N:=some 26) (v:=undef) (a':=?_) #[true,true,true,true,true,true,true,true,true,true,true,true,true,false,false,false,false,false] rfl rfl (by kernel_rfl) (fun _ _ _ h=>h) (Or.inr ⟨by rfl,rfl⟩) ?_ ?_
     rotate_left
     · simp only [Act.put,List.setIfInBounds_toArray,List.set_cons_zero,List.set_cons_succ,dD,dE]
       rfl
     refine ko (i:=13) (N:=some 27) (v:=undef) (a':=?_) #[true,true,true,true,true,true,true,true,true,true,true,true,true,true,false,false,false,false] rfl rfl (by kernel_rfl) (fun _ _ _ h=>h) (Or.inr ⟨by rfl,rfl⟩) ?_ ?_
     rotate_left
     · simp only [Act.put,List.setIfInBounds_toArray,List.set_cons_zero,List.set_cons_succ,dD,dE]
       rfl
     refine ko (i:=14) (N:=some 28) (v:=undef) (a':=?_) #[true,true,true,true,true,true,true,true,true,true,true,true,true,true,true,false,false,false] rfl rfl (by kernel_rfl) (fun _ _ _ h=>h) (Or.inr ⟨by rfl,rfl⟩) ?_ ?_
     rotate_left
     · simp only [Act.put,List.setIfInBounds_toArray,List.set_cons_zero,List.set_cons_succ,dD,dE]
       rfl
     refine ko (i:=15) (N:=some 29) (v:=undef) (a':=?_) #[true,true,true,true,true,true,true,true,true,true,true,true,true,true,true,true,false,false] rfl rfl (by kernel_rfl) (fun _ _ _ h=>h) (Or.inr ⟨by rfl,rfl⟩) ?_ ?_
     rotate_left
     · simp only [Act.put,List.setIfInBounds_toArray,List.set_cons_zero,List.set_cons_succ,dD,dE]
       rfl
     refine ko (i:=16) (N:=some 30) (v:=undef) (a':=?_) #[true,true,true,true,true,true,true,true,true,true,true,true,true,true,true,true,true,false] rfl rfl (by kernel_rfl) (fun _ _ _ h=>h) (Or.inr ⟨by rfl,rfl⟩) ?_ ?_
     rotate_left
     · simp only [Act.put,List.setIfInBounds_toArray,List.set_cons_zero,List.set_cons_succ,dD,dE]
       rfl
     refine aH 17 31 ?_
     refine iA (by kernel_rfl) ?_
     go_wp2
     go_meet
     exact ⟨rfl,by first | rfl | simp,⟨HI.out.below (ak (Below.refl _ _))⟩⟩
    case rest=>
     clear x0 x1 x2 x3 HI HB HP1
     obtain ⟨rfl,rfl,HX⟩:=hcut
     have HB:aa (Below w.heap.size w wc):=⟨HX.out.b⟩
     obtain ⟨x0,x1,x2,x3,-,-⟩:=gP HC HB z (decide_eq_true i0) (decide_eq_true i1)
     by_cases e2:(aV c z).f0=2
     · obtain ⟨t,ht,et,hld⟩:=HSK.out (.inl e2)
       have zt:wc.cell? ⟨g,t,none⟩=some (.bool true):=(ae HX.out.l t).trans (rW hld)
       rw [e2] at x0
       have ET:=aa.mk et
       have t0:(0:Int)≤(t:Int):=by omega
       have t1:(t:Int)<16:=by omega
       clear e2 hld
       go_wp2
       go_roundw
       case rel=>exact ⟨k+1,hlt,by rw [EZ.out];go_num,HX⟩
       case measure=>rw [EZ.out];simp [intOf];omega
     by_cases e3:(aV c z).f0=3
     · obtain ⟨t,ht,et,hld⟩:=HSK.out (.inr e3)
       have zt:wc.cell? ⟨g,t,none⟩=some (.bool true):=(ae HX.out.l t).trans (rW hld)
       rw [e3] at x0
       have ET:=aa.mk et
       have t0:(0:Int)≤(t:Int):=by omega
       have t1:(t:Int)<16:=by omega
       clear e2 e3 hld
       go_wp2
       go_roundw
       case rel=>exact ⟨k+1,hlt,by rw [EZ.out];go_num,HX⟩
       case measure=>rw [EZ.out];simp [intOf];omega
     have b2:((aV c z).f0==2)=false:=beq_eq_false_iff_ne.mpr e2
     have b3:((aV c z).f0==3)=false:=beq_eq_false_iff_ne.mpr e3
     clear e2 e3
     go_wp2
     go_roundw
     case rel=>exact ⟨k+1,hlt,by rw [EZ.out];go_num,HX⟩
     case measure=>rw [EZ.out];simp [intOf];omega
  have hkl:k=c.length:=by omega
  subst hkl
  go_wp2
  go_ret
  exact ⟨rfl,HI.out.b⟩
end Go.Proofs.Ytdkalnkplgfgoaa.Ln
