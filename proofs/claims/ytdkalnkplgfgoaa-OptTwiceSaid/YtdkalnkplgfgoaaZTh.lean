/- Lemmas and walks for the statements of the texts ZTZ..: the declarations that they need, taken together by a program of this session. Conditions: as each says. -/
import Derived.Deep.RegionHeld3
import Derived.Deep.DeepCutAuto
import Derived.Test.YtdkalnkplgfgoaaZTb
import Derived.Test.YtdkalnkplgfgoaaZTg
set_option maxHeartbeats 4000000
set_option maxRecDepth 100000
set_option linter.unusedVariables false
set_option linter.unusedSimpArgs false
namespace Go.Proofs.Ytdkalnkplgfgoaa.Ln
open Go.RowKit Go.Maps Go.Proofs.YtdkalnkplgfgoaaW.PrintWords Go.Proofs.YtdkalnkplgfgoaaW.PrintLast Go.Proofs.YtdkalnkplgfgoaaW.PrintMore Go.Proofs.Ytdkalnkplgfgoaa.PA
theorem Kp.mono {S S':Nat→Prop} {w w1:World} (h:Kp S w w1) (hs:∀ x,S x→S' x):Kp S' w w1:=⟨h.os,h.tape,h.output,h.size,fun k hk hn=>h.block k hk (fun e=>hn (hs k e))⟩
structure StI (w wr:World) (gs gb gc cap:Nat) (s0:St) (rb:Array Value) (c:List S45) (k:Nat) (sk:St) (o:List S45) (fnd:Bool):Prop where
 kp:Kp (fun x=>x=gs∨x=gc) w wr
 st:wr.heap[gs]?=some (.cells (aA sk) 151 (0,0))
 wst:Wst sk
 row:wr.heap[gb]?=some (.cells rb 47 (0,0))
 fil:Fil wr gc cap k o (c.drop k)
 res:bR s0 c=(o++(bR sk (c.drop k)).1,(bR sk (c.drop k)).2.1,fnd||(bR sk (c.drop k)).2.2)
theorem StI.below {w wr W:World} {gs gb gc cap:Nat} {s0:St} {rb:Array Value} {c:List S45} {k:Nat} {sk:St} {o:List S45} {fnd:Bool} (h:StI w wr gs gb gc cap s0 rb c k sk o fnd) (hb:Below wr.heap.size wr W):StI w W gs gb gc cap s0 rb c k sk o fnd:=
 ⟨h.kp.below hb,ak h.st hb,h.wst,ak h.row hb,h.fil.below hb,h.res⟩
theorem StI.skip {w wr:World} {gs gb gc cap:Nat} {s0:St} {rb:Array Value} {c:List S45} {k:Nat} {sk:St} {o:List S45} {fnd:Bool} {i:S45} (h:StI w wr gs gb gc cap s0 rb c k sk o fnd) (hd:c.drop k=i :: c.drop (k+1)) (hi:gN sk (bW sk i)=true) :
 StI w wr gs gb gc cap s0 rb c (k+1) sk o true:=by
 have hf:=h.fil
 have hr:=h.res
 rw [hd] at hf hr
 refine ⟨h.kp,h.st,h.wst,h.row,hf.skip,?_⟩
 rw [hr,bR,if_pos hi,Bool.or_true,Bool.true_or]
theorem str_go {w wr w':World} {gs gb gc cap:Nat} {s0:St} {rb:Array Value} {c:List S45} {k:Nat} {sk:St} {o:List S45} {fnd f2:Bool} {i:S45} (h:StI w wr gs gb gc cap s0 rb c k sk o fnd) (hd:c.drop k=i :: c.drop (k+1)) (hi:gN sk (bW sk i)=false)
 (hf2:f2=(fnd||neI (bW sk i) i)) (hw2:Wst (dW sk (bW sk i))) (hk:Kp (fun x=>x=gs∨x=gc) wr w') (hF:Fil w' gc cap (k+1) (o++[bW sk i]) (c.drop (k+1))) (hS:w'.heap[gs]?=some (.cells (aA (dW sk (bW sk i))) 151 (0,0))) (hgb:gb≠gs∧gb≠gc) :
 StI w w' gs gb gc cap s0 rb c (k+1) (dW sk (bW sk i)) (o++[bW sk i]) f2:=by
 have hr:=h.res
 rw [hd] at hr
 refine ⟨h.kp.trans hk,hS,hw2,(hk.block gb (ay h.row) (by rintro (e | e);exact hgb.1 e;exact hgb.2 e)).trans h.row,hF,?_⟩
 rw [hr,bR,if_neg (by rw [hi];decide),hf2,List.append_assoc,List.singleton_append,Bool.or_assoc]
theorem uL {j i:S45} (h:j.f0≠i.f0∨j.f1≠i.f1∨j.f2≠i.f2∨j.f3≠i.f3):neI j i=true:=by
 unfold neI
 by_cases a:j.f0=i.f0
 · by_cases b:j.f1=i.f1
   · by_cases c:j.f2=i.f2
     · have d:j.f3≠i.f3:=by omega
       simp [d]
     simp [c]
   simp [b]
 simp [a]
theorem pu (w:World) (gs gb gc cap n:Nat) (s:St) (bs:List (Value × S47)) (tl:List Value) (c:List S45) (tlc:List Value) (bb:S47) (hS:w.heap[gs]?=some (.cells (aA s) 151 (0,0))) (hB:w.heap[gb]?=some (.cells (bf bs tl) 47 (0,0)))
 (hp:bs[n]?=some (.slice (some ⟨gc,0,none⟩) c.length cap,bb)) (hC:CdA w gc cap c tlc) (hw:Wst s) (hcode:fB c=true) (hk:∀ x∈c,Rg x.f3) :
 Calls Try.prog 128 #[.pointer (some ⟨gs,0,none⟩),.pointer (some ⟨gb,n*8,none⟩)] w fun e w'=>e = .returned (.bool (bR s c).2.2)∧w'.heap[gs]?=some (.cells (aA (bR s c).2.1) 151 (0,0)) ∧
  w'.heap[gb]?=some (.cells (bf (bs.set n (.slice (some ⟨gc,0,none⟩) (bR s c).1.length cap,bb)) tl) 47 (0,0))∧Cd w' (.slice (some ⟨gc,0,none⟩) (bR s c).1.length cap) (bR s c).1∧Kp (fun x=>x=gs∨x=gb∨x=gc) w w':=by
 have b0:w.cell? ⟨gb,n*8,none⟩=some (.slice (some ⟨gc,0,none⟩) c.length cap):=(ae hB (n*8+0)).trans (bO hp (by omega))
 have hmax:c.length≤9223372036854775807:=by have:=hC.len;have:=hC.max;unfold maxLen at *;omega
 have hcap:cap≤9223372036854775807:=by have:=hC.max;unfold maxLen at *;omega
 have hne:gb≠gs∧gb≠gc∧gc≠gs:=⟨bF hB hS (by decide),bF hB hC.blk (by decide),bF hC.blk hS (by decide)⟩
 have HI:aa (StI w w gs gb gc cap s (bf bs tl) c 0 s [] false):=⟨⟨Kp.refl _ _,hS,hw,hB,by simpa using Fil.of hC,by simp⟩⟩
 have HN:=aa.mk hne
 have HP:=aa.mk hp
 have HK:=aa.mk (And.intro hcode hk)
 have HM:=aa.mk hC.max
 have HHL:=aa.mk (And.intro (ay hS) (And.intro (ay hB) (ay hC.blk)))
 clear hS hB hp hC hw hcode hk hne
 go_enter Try.func128,Try.ntmps128
 go_wp2
 go_loopw [5,6,21] (fun v5 v6 v21 wr=>∃ (k:Nat) (sk:St) (o:List S45) (fnd:Bool),k≤c.length∧v21 = .int .i64 k∧v5 = .bool fnd∧v6 = .slice (some ⟨gc,0,none⟩) o.length cap∧aa (StI w wr gs gb gc cap s (bf bs tl) c k sk o fnd)) (fun _ _ v21 _=>c.length - (intOf v21).toNat)
 case atStart=>exact ⟨0,s,[],false,Nat.zero_le _,rfl,rfl,rfl,HI⟩
 case round=>
  clear HI b0
  obtain ⟨k,sk,o,fnd,hk,rfl,rfl,rfl,HI⟩:=hrel
  by_cases hlt:k<c.length
  · have hd:c.drop k=c[k] :: c.drop (k+1):=List.drop_eq_getElem_cons hlt
    have hmem:c[k]∈c:=List.getElem_mem hlt
    have hst:=List.all_eq_true.1 HK.out.1 _ hmem
    have hrg:=HK.out.2 _ hmem
    generalize c[k]=i at hd hmem hst hrg
    have hF:=HI.out.fil
    rw [hd] at hF
    have x0:wr.cell? ⟨gc,k*4,none⟩=some (.int .u16 i.f0):=(hF.get (q:=0) (by omega)).trans rfl
    have x1:wr.cell? ⟨gc,k*4+1,none⟩=some (.int .u8 i.f1):=(hF.get (q:=1) (by omega)).trans rfl
    have x2:wr.cell? ⟨gc,k*4+2,none⟩=some (.int .u8 i.f2):=(hF.get (q:=2) (by omega)).trans rfl
    have x3:wr.cell? ⟨gc,k*4+3,none⟩=some (.int .u32 i.f3):=(hF.get (q:=3) (by omega)).trans rfl
    have hsz:=ay HI.out.st
    have i0:(0:Int)≤(k:Int):=by omega
    have i1:(k:Int)<(c.length:Int):=by omega
    have HD:=aa.mk hd
    have HST:=aa.mk (And.intro hst hrg)
    have hjk:=nK HI.out.wst hst hrg
    have HJK:=aa.mk hjk
    clear hd hmem hst hrg hF hjk
    go_upto_region 6 with (fail)
    refine forget (fun W=>∃ gi,gi=wr.heap.size∧Below wr.heap.size wr W∧W.heap[gi]?=some (.cells #[.int .u16 i.f0,.int .u8 i.f1,.int .u8 i.f2,.int .u32 i.f3] 45 (0,0))) ⟨_,rfl,ai (Below.refl _ _) _,heap_alloc_new _ _⟩ ?_
    clear x0 x1 x2 x3
    rintro W ⟨gi,egi,hb,hi⟩
    rw [←egi]
    obtain ⟨y0,y1,y2,y3,-,-,-,-⟩:=cz4 ⟨hi⟩
    have HB:=aa.mk hb
    have HIN:=aa.mk hi
    have EG:=aa.mk egi
    clear hb hi egi
    obtain ⟨ob,eob⟩:∃ ob:Bool,ob=gN sk (bW sk i):=⟨_,rfl⟩
    obtain ⟨j,ej⟩:∃ j:S45,j=bW sk i:=⟨_,rfl⟩
    have HSC:=aa.mk (pq W gs sk i (ak HI.out.st HB.out) HI.out.wst HST.out.1 HST.out.2)
    rw [←ej] at HSC HJK eob
    rw [←eob] at HSC
    unfold dQ at HSC
    have EJ:=aa.mk ej
    have EO:=aa.mk eob
    clear ej eob
    obtain ⟨j0,j1,j2,j3⟩:=j
    obtain ⟨i0',i1',i2',i3'⟩:=i
    dsimp only at *
    go_upto_region 7 with (go_at_call 159;refine HSC.out.mono ?_;rintro e w5 ⟨rfl,hb5⟩;have HB5:=aa.mk hb5;clear hb5)
    refine forget (fun V=>∃ gj,Below wr.heap.size wr V∧V.heap[gi]?=some (.cells #[.int .u16 i0',.int .u8 i1',.int .u8 i2',.int .u32 i3'] 45 (0,0))∧gj=w5.heap.size∧V.heap[gj]?=some (.cells #[.int .u16 j0,.int .u8 j1,.int .u8 j2,.int .u32 j3] 45 (0,0))) ⟨_,au (au HB.out HB5.out) (ai (Below.refl _ _) _),aH (ak HIN.out HB5.out) _,rfl,heap_alloc_new _ _⟩ ?_
    clear HIN HSC y0 y1 y2 y3
    rintro V ⟨gj,hb,hi,egj,hj⟩
    rw [←egj]
    obtain ⟨y0,y1,y2,y3,-,-,-,-⟩:=cz4 ⟨hi⟩
    obtain ⟨z0,z1,z2,z3,-,-,-,-⟩:=cz4 ⟨hj⟩
    have HIV:=aa.mk (HI.out.below hb)
    have HF:=aa.mk (by have h:=(HI.out.below (au hb (ai (Below.refl _ _) (.cells #[.int .u16 j0,.int .u8 j1,.int .u8 j2,.int .u32 j3] 45)))).fil;rw [HD.out] at h;exact h)
    have HKV:=aa.mk ((Kp.refl (fun x=>x=gs∨x=gc) wr).below (au hb (ai (Below.refl _ _) (.cells #[.int .u16 j0,.int .u8 j1,.int .u8 j2,.int .u32 j3] 45))))
    have HNW:aa (∀ q u,(i4 ⟨j0,j1,j2,j3⟩)[q]?=some u→(V.alloc (.cells #[.int .u16 j0,.int .u8 j1,.int .u8 j2,.int .u32 j3] 45)).cell? ((⟨V.heap.size,0,none⟩:Addr).add q)=some u):=⟨by
     intro q u hu
     rw [Go.WideShapes.add_plain,Nat.zero_add]
     have:=ae (kQ V (.cells #[.int .u16 j0,.int .u8 j1,.int .u8 j2,.int .u32 j3] 45)) q
     rw [this,List.getElem?_toArray];exact hu⟩
    have HSV:=aa.mk (ak HI.out.st (au hb (ai (Below.refl _ _) (.cells #[.int .u16 j0,.int .u8 j1,.int .u8 j2,.int .u32 j3] 45))))
    have HAF:aa (∀ w7:World,w7.heap[gs]?=some (.cells (aA sk) 151 (0,0))→Calls Try.prog 160 #[.pointer (some ⟨gs,0,none⟩),.agg #[.int .u16 j0,.int .u8 j1,.int .u8 j2,.int .u32 j3]] w7 fun e w'=>e = .returned (.tuple #[])∧w'.heap[gs]?=some (.cells (aA (dW sk ⟨j0,j1,j2,j3⟩)) 151 (0,0))∧Kp (fun k=>k=gs) w7 w'):=
     ⟨fun w7 h=>q8 w7 gs sk ⟨j0,j1,j2,j3⟩ h HI.out.wst.len HJK.out.1 HJK.out.2⟩
    have HGO:aa (ob=false→∀ w7 w8:World,Fil w7 gc cap (k+1) (o++[⟨j0,j1,j2,j3⟩]) (c.drop (k+1))→Kp (fun x=>x=gc) (V.alloc (.cells #[.int .u16 j0,.int .u8 j1,.int .u8 j2,.int .u32 j3] 45)) w7→w8.heap[gs]?=some (.cells (aA (dW sk ⟨j0,j1,j2,j3⟩)) 151 (0,0))→Kp (fun x=>x=gs) w7 w8 →
     ∀ f2:Bool,f2=(fnd||neI ⟨j0,j1,j2,j3⟩ ⟨i0',i1',i2',i3'⟩)→StI w w8 gs gb gc cap s (bf bs tl) c (k+1) (dW sk ⟨j0,j1,j2,j3⟩) (o++[⟨j0,j1,j2,j3⟩]) f2):=⟨by
     intro hob w7 w8 hF7 hk7 hs8 hk8 f2 hf2
     have e1:=EJ.out
     have e2:=EO.out
     rw [hob,e1] at e2
     rw [e1] at hF7 hs8 hf2 ⊢
     have hw2:Wst (dW sk (bW sk ⟨i0',i1',i2',i3'⟩)):=l5 HI.out.wst (by rw [←e1];exact HJK.out.2)
     exact str_go HI.out HD.out e2.symm hf2 hw2 ((HKV.out.trans (Kp.mono hk7 (fun x h => .inr h))).trans (Kp.mono hk8 (fun x h => .inl h))) (hF7.kp hk8 (by exact fun e=>HN.out.2.2 e)) hs8 ⟨HN.out.1,HN.out.2.1⟩⟩
    have HGJ:aa (∀ w7:World,Kp (fun x=>x=gc) (V.alloc (.cells #[.int .u16 j0,.int .u8 j1,.int .u8 j2,.int .u32 j3] 45)) w7→w7.cell? ⟨gj,0,none⟩=some (.int .u16 j0)∧w7.cell? ⟨gj,1,none⟩=some (.int .u8 j1)∧w7.cell? ⟨gj,2,none⟩=some (.int .u8 j2)∧w7.cell? ⟨gj,3,none⟩=some (.int .u32 j3)):=⟨by
     intro w7 hk7
     have hq:=(hk7.block gj (by have:=ay hj;rw [World.size_alloc];omega) (by have:=HB5.out.size;have:=HB.out.size;have:=HI.out.fil.lt;omega)).trans (aH hj _)
     exact ⟨(ae hq 0).trans rfl,(ae hq 1).trans rfl,(ae hq 2).trans rfl,(ae hq 3).trans rfl⟩⟩
    have HSK:aa (ob=true→StI w V gs gb gc cap s (bf bs tl) c (k+1) sk o true):=⟨by
     intro hob
     refine HIV.out.skip HD.out ?_
     rw [←EJ.out,←EO.out,hob]⟩
    clear hb hi egj hj HKV HB HB5
    cases ob
    · have HR:fnd=true∨(fnd=false∧(⟨j0,j1,j2,j3⟩:S45)=⟨i0',i1',i2',i3'⟩)∨(fnd=false∧j0≠i0')∨(fnd=false∧j0=i0'∧j1≠i1')∨(fnd=false∧j0=i0'∧j1=i1'∧j2≠i2')∨(fnd=false∧j0=i0'∧j1=i1'∧j2=i2'∧j3≠i3'):=by
       cases fnd
       · by_cases e0:j0=i0'
         · by_cases e1:j1=i1'
           · by_cases e2:j2=i2'
             · by_cases e3:j3=i3'
               · exact .inr (.inl ⟨rfl,by rw [e0,e1,e2,e3]⟩)
               exact .inr (.inr (.inr (.inr (.inr ⟨rfl,e0,e1,e2,e3⟩))))
             exact .inr (.inr (.inr (.inr (.inl ⟨rfl,e0,e1,e2⟩))))
           exact .inr (.inr (.inr (.inl ⟨rfl,e0,e1⟩)))
         exact .inr (.inr (.inl ⟨rfl,e0⟩))
       exact .inl rfl
      have HFN:aa (∃ f2:Bool,f2=(fnd||neI ⟨j0,j1,j2,j3⟩ ⟨i0',i1',i2',i3'⟩)):=⟨_,rfl⟩
      rcases HR with rfl | ⟨rfl,e⟩ | ⟨rfl,e0⟩ | ⟨rfl,rfl,e0⟩ | ⟨rfl,rfl,rfl,e0⟩ | ⟨rfl,rfl,rfl,rfl,e0⟩
      all_goals
       try cases e
       go_wp2_with (first
        | (at_builtin;refine il _ rfl (.tmp 42) (.tmp 44) rfl HF.out rfl _ ⟨V.heap.size,0,none⟩ rfl HNW.out ?_;intro w7 hF7 hk7;have HF7:=aa.mk hF7;have HK7:=aa.mk hk7;have HS7:=aa.mk ((hk7.block gs (ay HSV.out) (fun e=>HN.out.2.2 e.symm)).trans HSV.out);obtain ⟨q0,q1,q2,q3⟩:=HGJ.out w7 hk7;clear hF7 hk7)
        | (go_at_call 160;refine (HAF.out w7 HS7.out).mono ?_;rintro e w8 ⟨rfl,hs8,hk8⟩;have HS8:=aa.mk hs8;have HK8:=aa.mk hk8;clear hs8 hk8))
       go_roundw
       case rel=>exact ⟨k+1,_,_,_,by omega,by go_num,rfl,by rw [List.length_append];rfl,⟨HGO.out (by trivial) w7 w8 HF7.out HK7.out HS8.out HK8.out _ (by first | rfl | exact (rH _).symm | exact (uL (.inl e0)).symm | exact (uL (.inr (.inl e0))).symm | exact (uL (.inr (.inr (.inl e0)))).symm | exact (uL (.inr (.inr (.inr e0)))).symm)⟩⟩
       case measure=>simp [intOf];omega
    cases fnd
    all_goals
     go_wp2
     go_roundw
     case rel=>exact ⟨k+1,sk,o,true,by omega,by go_num,rfl,rfl,⟨HSK.out (by trivial)⟩⟩
     case measure=>simp [intOf];omega
  have hkl:k=c.length:=by omega
  subst hkl
  have hf:=HI.out.fil
  have hr:=HI.out.res
  have hrow:=HI.out.row
  rw [List.drop_length] at hr
  have e1:(bR s c).1=o:=by rw [hr];show o++[]=o;simp
  have e2:(bR s c).2.1=sk:=by rw [hr];rfl
  have e3:(bR s c).2.2=fnd:=by rw [hr];show (fnd||false)=fnd;simp
  have HE:=aa.mk (And.intro e1 (And.intro e2 e3))
  have b0:wr.cell? ⟨gb,n*8,none⟩=some (.slice (some ⟨gc,0,none⟩) c.length cap):=(ae hrow (n*8+0)).trans (bO HP.out (by omega))
  have z0:wr.frozen? ⟨gb,n*8,none⟩=false:=ah hrow (n*8+0)
  have HROW:=aa.mk (bz (j:=0) hrow HP.out (.slice (some ⟨gc,0,none⟩) o.length cap,bb) (by omega) (.slice (some ⟨gc,0,none⟩) o.length cap) rfl)
  have HKR:aa (Kp (fun x=>x=gs∨x=gb∨x=gc) w (wr.setCell ⟨gb,n*8,none⟩ (.slice (some ⟨gc,0,none⟩) o.length cap))):=⟨(Kp.mono HI.out.kp (fun x h=>by rcases h with h | h;exact .inl h;exact .inr (.inr h))).set (.inl (.inr (.inl rfl))) _ _⟩
  have HDN:=aa.mk (hf.done HM.out)
  have HST:=aa.mk HI.out.st
  clear hf hr hrow e1 e2 e3 HI
  go_wp2
  go_ret
  rw [HE.out.1,HE.out.2.1,HE.out.2.2]
  exact ⟨rfl,bN HST.out (fun e=>HN.out.1 e.symm) _,HROW.out,HDN.out.kp ((Kp.refl (fun x=>x=gb) wr).set (.inl rfl) _ _) (by intro g hg e;injection hg with hg;exact HN.out.2.1 (e.symm.trans hg.symm)),HKR.out⟩
theorem qU (w:World) (gs gb n:Nat) (bs:List (Value × S47)) (tl:List Value) (bb:S47) (hB:w.heap[gb]?=some (.cells (bf bs tl) 47 (0,0))) (hp:bs[n]?=some (.slice none 0 0,bb)) :
 Calls Try.prog 128 #[.pointer (some ⟨gs,0,none⟩),.pointer (some ⟨gb,n*8,none⟩)] w fun e w'=>e = .returned (.bool false)∧w'.heap[gb]?=some (.cells (bf bs tl) 47 (0,0))∧Kp (fun x=>x=gb) w w':=by
 have b0:w.cell? ⟨gb,n*8,none⟩=some (.slice none 0 0):=(ae hB (n*8+0)).trans (bO hp (by omega))
 have z0:w.frozen? ⟨gb,n*8,none⟩=false:=ah hB (n*8+0)
 have HROW:=aa.mk (by have h:=bz (j:=0) hB hp (.slice none 0 0,bb) (by omega) (.slice none 0 0) rfl;rw [set_self hp] at h;exact h)
 have HKR:=aa.mk ((Kp.refl (fun x=>x=gb) w).set (.inl rfl) (n*8) (.slice none 0 0))
 clear hB hp
 go_enter Try.func128,Try.ntmps128
 go_wp2
 go_loop [5,6,21] (fun v5 v6 v21=>v5 = .bool false∧v6 = .slice none 0 0∧v21 = .int .i64 0) (fun _ _ _=>0)
 case atStart=>exact ⟨rfl,rfl,rfl⟩
 case round=>
  obtain ⟨rfl,rfl,rfl⟩:=hrel
  go_wp2
  go_ret
  exact ⟨rfl,HROW.out,HKR.out⟩
theorem oP (w:World) (gs gb n:Nat) (s:St) (bs:List (Value × S47)) (tl:List Value) (v:Value) (c:List S45) (bb:S47) (hS:w.heap[gs]?=some (.cells (aA s) 151 (0,0))) (hB:w.heap[gb]?=some (.cells (bf bs tl) 47 (0,0)))
 (hp:bs[n]?=some (v,bb)) (hC:Cd w v c) (hw:Wst s) (hcode:fB c=true) (hk:∀ x∈c,Rg x.f3) :
 Calls Try.prog 128 #[.pointer (some ⟨gs,0,none⟩),.pointer (some ⟨gb,n*8,none⟩)] w fun e w'=>e = .returned (.bool (bR s c).2.2)∧w'.heap[gs]?=some (.cells (aA (bR s c).2.1) 151 (0,0)) ∧
  (∃ v',v'.ownBlock=v.ownBlock∧w'.heap[gb]?=some (.cells (bf (bs.set n (v',bb)) tl) 47 (0,0))∧Cd w' v' (bR s c).1)∧Kp (fun x=>x=gs∨x=gb∨some x=v.ownBlock) w w':=by
 rcases hC with ⟨rfl,rfl⟩ | ⟨g,cap,tlc,rfl,hC⟩
 · refine (qU w gs gb n bs tl bb hB hp).mono ?_
   rintro e w' ⟨he,hb,hk⟩
   refine ⟨he,(hk.block gs (ay hS) (fun e=>bF hB hS (by decide) e.symm)).trans hS,⟨_,rfl,by rw [set_self hp];exact hb,.inl ⟨rfl,rfl⟩⟩,Kp.mono hk (fun x h => .inr (.inl h))⟩
 refine (pu w gs gb g cap n s bs tl c tlc bb hS hB hp hC hw hcode hk).mono ?_
 rintro e w' ⟨he,hs,hb,hc,hk⟩
 exact ⟨he,hs,⟨.slice (some ⟨g,0,none⟩) (bR s c).1.length cap,rfl,hb,hc⟩,Kp.mono hk (fun x h=>by rcases h with h | h | h;exact .inl h;exact .inr (.inl h);exact .inr (.inr (by rw [h];rfl)))⟩
def f36 (s:St):List Value:=(List.range 18).flatMap fun i=>iB (gS s i)
theorem fu (s:St):(f36 s).length=36:=by
 unfold f36;rw [oM (K:=2) (fun _=>rfl),List.length_range]
theorem nD (s:St):∀ u∈f36 s,u.oneCell'=true:=by
 intro u hu
 obtain ⟨o,_,h⟩:=List.mem_flatMap.1 hu
 simp only [iB,List.mem_cons,List.not_mem_nil,or_false] at h
 rcases h with rfl | rfl<;>rfl
theorem ja {s:St} (h:s.length=18):aA s=(f36 s).toArray:=by
 unfold aA f36
 congr 1
 have:s=(List.range 18).map (fun i=>gS s i):=by
  apply List.ext_getElem?
  intro i
  rw [List.getElem?_map]
  by_cases hi:i<18
  · rw [List.getElem?_range hi,List.getElem?_eq_getElem (by omega)]
    unfold gS
    rw [Option.map_some,List.getD_eq_getElem?_getD,List.getElem?_eq_getElem (by omega)];rfl
  rw [List.getElem?_eq_none (by omega),List.getElem?_eq_none (by rw [List.length_range];omega)];rfl
 rw [this,List.flatMap_map,←this]
theorem qQ {B g:Nat} {W:World} (h:B≤g) (o:Nat) (vs:List Value) (hh:True):Below B W (W.setCells g o vs):=
 let s:=iG g vs o W
 ⟨s.1,s.2.1,s.2.2.1,Nat.le_of_eq s.2.2.2.symm,fun i hi=>ik vs o i (by omega)⟩
theorem rF {P:Program} {op:Oper} {a:Act} (ty:TypeId) (x:Operand) (ho:op.op = .load ty x) (b o:Nat) (hx:a.eval x = .pointer (some ⟨b,o,none⟩)) (cs:List Value) (d:TypeDesc) {w:World} (hc:w.rangeAt b o cs)
 (hu:P.underlying ty=some d) (hd:d.isRow=true) (hi:(P.info? ty).map (·.size)=some cs.length):(execOp a.eval op).run P w = .ok (.value (.agg cs.toArray)) w:=by
 unfold execOp
 simp only [ho,hx,Instr.loadAt,Instr.sureAddr,Sem.run_bind,Sem.run_pure,Result.andThen_ok,run_loadVar_mid w b o ty cs d hc hu hd hi]
theorem sZ {P:Program} {op:Oper} {a:Act} (ty:TypeId) (x y:Operand) (ho:op.op = .store ty x y) (b o:Nat) (cs:List Value) (hx:a.eval x = .pointer (some ⟨b,o,none⟩)) (hy:a.eval y = .agg cs.toArray) {w:World}
 (ht:w.there b o cs.length) (hi:(P.info? ty).map (·.size)=some cs.length) (h1:∀ v∈cs,v.oneCell'=true):(execOp a.eval op).run P w = .ok .skip (w.setCells b o cs):=by
 unfold execOp
 simp only [ho,hx,hy,Instr.storeAt,Instr.sureAddr,Sem.run_bind,Sem.run_pure,Result.andThen_ok,run_storeVar_mid w b o ty cs.toArray (by rw [List.size_toArray];exact ht) (by rw [List.size_toArray];exact hi) (all_oneCell_toArray h1)]
structure Gv (w:World) (gcv gav gcm gat L:Nat) (A:AC):Prop where
 v1:w.heap[gcv]?=some (.cells #[.slice (some ⟨gcm,0,none⟩) L L] 73 (0,0))
 v2:w.heap[gav]?=some (.cells #[.slice (some ⟨gat,0,none⟩) L L] 147 (0,0))
 at_:w.heap[gat]?=some (.cells (A.1.flatMap f36).toArray 151 (0,0))
 come:w.heap[gcm]?=some (.cells (A.2.map Value.bool).toArray 4 (0,0))
 l1:A.1.length=L
 l2:A.2.length=L
theorem Gv.below {w w1:World} {gcv gav gcm gat L:Nat} {A:AC} (h:Gv w gcv gav gcm gat L A) (hb:Below w.heap.size w w1):Gv w1 gcv gav gcm gat L A:=
 ⟨ak h.v1 hb,ak h.v2 hb,ak h.at_ hb,ak h.come hb,h.l1,h.l2⟩
def cellV (w:World) (a:Addr):Value:=(w.cell? a).getD undef
theorem ky {w:World} {a:Addr} {v:Value} (h:w.cell? a=some v):w.cell? a=some (cellV w a):=by unfold cellV;rw [h];rfl
theorem Gv.lt {w:World} {gcv gav gcm gat L:Nat} {A:AC} (h:Gv w gcv gav gcm gat L A):gcv<w.heap.size∧gav<w.heap.size∧gcm<w.heap.size∧gat<w.heap.size:=⟨ay h.v1,ay h.v2,ay h.come,ay h.at_⟩
theorem Gv.ne {w:World} {gcv gav gcm gat L:Nat} {A:AC} (h:Gv w gcv gav gcm gat L A):gat≠gcm∧gat≠gcv∧gat≠gav∧gcm≠gcv∧gcm≠gav:=
 ⟨bF h.at_ h.come (by decide),bF h.at_ h.v1 (by decide),bF h.at_ h.v2 (by decide),bF h.come h.v1 (by decide),bF h.come h.v2 (by decide)⟩
structure Gk (w w1:World) (gcv gav gcm gat L:Nat) (A:AC):Prop where
 g:Gv w1 gcv gav gcm gat L A
 k:Kp (fun x=>x=gat∨x=gcm) w w1
theorem Gk.below {w w1 w2:World} {gcv gav gcm gat L:Nat} {A:AC} (h:Gk w w1 gcv gav gcm gat L A) (hb:Below w1.heap.size w1 w2):Gk w w2 gcv gav gcm gat L A:=⟨h.g.below hb,h.k.below hb⟩
theorem Gk.zN {w w1:World} {gcv gav gcm gat L k:Nat} {A:AC} (h:Gk w w1 gcv gav gcm gat L A) (hk:k<L) (s:St):Gk w (w1.setCells gat (k*36) (f36 s)) gcv gav gcm gat L (A.1.set k s,A.2):=by
 have hp:=ui fu h.g.at_ (show k<A.1.length by rw [h.g.l1];exact hk) s
 have hn:=h.g.ne
 have hl:=h.g.lt
 exact ⟨⟨(hp.2.block gcv hl.1 (fun e=>hn.2.1 e.symm)).trans h.g.v1,(hp.2.block gav hl.2.1 (fun e=>hn.2.2.1 e.symm)).trans h.g.v2,hp.1,(hp.2.block gcm hl.2.2.1 (fun e=>hn.1 e.symm)).trans h.g.come,by rw [List.length_set];exact h.g.l1,h.g.l2⟩,
  h.k.trans (Kp.mono hp.2 (fun x e => .inl e))⟩
theorem Gk.tQ {w w1:World} {gcv gav gcm gat L k:Nat} {A:AC} (h:Gk w w1 gcv gav gcm gat L A) (hk:k<L) (b:Bool):Gk w (w1.setCell ⟨gcm,k,none⟩ (.bool b)) gcv gav gcm gat L (A.1,A.2.set k b):=by
 have hn:=h.g.ne
 exact ⟨⟨bN h.g.v1 (fun e=>hn.2.2.2.1 e.symm) _,bN h.g.v2 (fun e=>hn.2.2.2.2 e.symm) _,bN h.g.at_ hn.1 _,aI h.g.come k _ (by rw [List.setIfInBounds_toArray,←List.map_set]),h.g.l1,by rw [List.length_set];exact h.g.l2⟩,
  h.k.set (.inl (.inr rfl)) _ _⟩
theorem Gv.cm {w:World} {gcv gav gcm gat L:Nat} {A:AC} (h:Gv w gcv gav gcm gat L A) {k:Nat} (hk:k<L):w.cell? ⟨gcm,k,none⟩=some (.bool (A.2.getD k false)):=by
 rw [ae h.come,List.getElem?_toArray,List.getElem?_map,List.getD_eq_getElem?_getD,List.getElem?_eq_getElem (by rw [h.l2];exact hk)];rfl
theorem goes_no (w:World) (gcv gav gcm gat L k:Nat) (A:AC) (s:St) (cs:List Value) (hcs:f36 s=cs) (hl:cs.length=36) (h1:∀ v∈cs,v.oneCell'=true) (hG:Gv w gcv gav gcm gat L A) (hk:k<L) (hc:A.2.getD k false=false) (hL:L≤9223372036854775807) :
 Calls Try.prog 126 #[.int .i64 k,.agg cs.toArray,.pointer (some ⟨gcv,0,none⟩),.pointer (some ⟨gav,0,none⟩)] w fun e w'=>e = .returned (.tuple #[])∧Gv w' gcv gav gcm gat L (A.1.set k s,A.2.set k true)∧Kp (fun x=>x=gat∨x=gcm) w w':=by
 have v1:=d9 hG.v1 0
 have ck:=hG.cm hk
 rw [hc] at ck
 have i0:(0:Int)≤(k:Int):=by omega
 have i1:(k:Int)<(L:Int):=by omega
 have hz:=ay hG.v1
 have hz2:=ay hG.come
 have HG:=aa.mk hG
 have HCS:=aa.mk hcs
 clear hG hc hcs
 go_enter Try.func126,Try.ntmps126
 go_upto_region 3 with (fail)
 refine forget (fun W=>∃ g5,g5=w.heap.size∧Below w.heap.size w W∧W.heap[g5]?=some (.cells cs.toArray 151 (0,0))) ⟨_,rfl,ai (Below.refl _ _) _,heap_alloc_new _ _⟩ ?_
 clear v1 ck hz hz2
 rintro W ⟨g5,eg5,hb,h5⟩
 rw [←eg5]
 have HGW:=aa.mk (HG.out.below hb)
 have HG5:=aa.mk h5
 have HNE:aa (g5≠gat∧g5≠gcm):=⟨by have:=HG.out.lt;omega⟩
 have HB:=aa.mk hb
 clear hb h5 eg5
 have HS3:aa (∀ w' A',Gk W w' gcv gav gcm gat L A'→w'.cell? ⟨gav,0,none⟩=some (.slice (some ⟨gat,0,none⟩) L L)∧w'.cell? ⟨gcv,0,none⟩=some (.slice (some ⟨gcm,0,none⟩) L L)∧w'.rangeAt g5 0 cs∧w'.there gat (k*36) 36∧w'.cell? ⟨gcm,k,none⟩=some (cellV w' ⟨gcm,k,none⟩)∧w'.frozen? ⟨gcm,k,none⟩=false):=⟨by
  intro w' A' h
  refine ⟨(ae h.g.v2 0).trans rfl,(ae h.g.v1 0).trans rfl,?_,lW fu h.g.at_ (by rw [h.g.l1];exact hk),ky (h.g.cm hk),ah h.g.come k⟩
  have h5:=(h.k.block g5 (ay HG5.out) (by rintro (e | e);exact HNE.out.1 e;exact HNE.out.2 e)).trans HG5.out
  have h6:=World.rangeAt_of_block h5 0 36
  rw [Array.toList_extract,List.extract_eq_take_drop,List.drop_zero,List.take_of_length_le (by show cs.length≤_;rw [hl];exact Nat.le_refl _)] at h6
  exact h6⟩
 have HK0:=aa.mk (Gk.below (Gk.mk HGW.out (Kp.refl _ W)) (af (Below.refl _ _)))
 have HK1:=aa.mk (by have h:=HK0.out.zN hk (s);rw [HCS.out] at h;exact h)
 have HK2:=aa.mk (HK1.out.tQ hk true)
 obtain ⟨e1,e2,e3,e4,e5,e6⟩:=HS3.out W _ ⟨HGW.out,Kp.refl _ W⟩
 have hu:=Try.underlying151
 have hi:(Try.prog.info? 151).map (·.size)=some cs.length:=by rw [hl];exact cz
 go_region_held3 (fun w'=>w'.cell? ⟨gav,0,none⟩=some (.slice (some ⟨gat,0,none⟩) L L)∧w'.cell? ⟨gcv,0,none⟩=some (.slice (some ⟨gcm,0,none⟩) L L)∧w'.rangeAt g5 0 cs∧w'.there gat (k*36) 36∧w'.cell? ⟨gcm,k,none⟩=some (cellV w' ⟨gcm,k,none⟩)∧w'.frozen? ⟨gcm,k,none⟩=false)
  (first
    | exact HS3.out _ _ HK0.out
    | exact HS3.out _ _ HK1.out
    | exact HS3.out _ _ HK2.out)
  (fail)
 go_end0
 exact ⟨rfl,HK2.out.g,((Kp.refl _ w).below HB.out).trans HK2.out.k⟩
theorem yz (w:World) (gcv gav gcm gat L k:Nat) (A:AC) (s t:St) (cs ct cm:List Value) (hcs:f36 s=cs) (hct:f36 t=ct) (hcm:f36 (kG s t)=cm) (hs:s.length=18) (ht:t.length=18) (hA:A.1[k]?=some t) (hl:cs.length=36) (hlt:ct.length=36) (hlm:cm.length=36) (h1:∀ v∈cs,v.oneCell'=true) (h1m:∀ v∈cm,v.oneCell'=true)
 (hG:Gv w gcv gav gcm gat L A) (hk:k<L) (hc:A.2.getD k false=true) (hL:L≤9223372036854775807) :
 Calls Try.prog 126 #[.int .i64 k,.agg cs.toArray,.pointer (some ⟨gcv,0,none⟩),.pointer (some ⟨gav,0,none⟩)] w fun e w'=>e = .returned (.tuple #[])∧Gv w' gcv gav gcm gat L (A.1.set k (kG s t),A.2.set k true)∧Kp (fun x=>x=gat∨x=gcm) w w':=by
 have v1:=d9 hG.v1 0
 have ck:=hG.cm hk
 rw [hc] at ck
 have i0:(0:Int)≤(k:Int):=by omega
 have i1:(k:Int)<(L:Int):=by omega
 have hz:=ay hG.v1
 have hz2:=ay hG.come
 have HG:=aa.mk hG
 have HMT:aa (∀ W:World,Calls Try.prog 127 #[.agg cs.toArray,.agg ct.toArray] W fun e w'=>e = .returned (.agg cm.toArray)∧Below W.heap.size W w'):=⟨fun W=>by
  have h:=tF W s t hs ht
  rw [ja hs,ja ht,ja (iV hs ht),hcs,hct,hcm] at h
  exact h⟩
 have HAT:aa (A.1[k]?=some t∧f36 t=ct):=⟨hA,hct⟩
 have HCS:=aa.mk hcm
 clear hG hc hcs hct hcm hs ht hA
 go_enter Try.func126,Try.ntmps126
 go_upto_region 2 with (fail)
 refine forget (fun W=>∃ g5,g5=w.heap.size∧Below w.heap.size w W∧W.heap[g5]?=some (.cells cs.toArray 151 (0,0))) ⟨_,rfl,ai (Below.refl _ _) _,heap_alloc_new _ _⟩ ?_
 clear v1 ck hz hz2
 rintro W0 ⟨g5,eg5,hb,h5⟩
 rw [←eg5]
 have HG0:=aa.mk (HG.out.below hb)
 have HG5:=aa.mk h5
 have HNE:aa (g5≠gat∧g5≠gcm):=⟨by have:=HG.out.lt;omega⟩
 have HB:=aa.mk hb
 have EG:=aa.mk eg5
 clear hb h5 eg5
 have hu:=Try.underlying151
 have hi:(Try.prog.info? 151).map (·.size)=some cs.length:=by rw [hl];exact cz
 have hit:(Try.prog.info? 151).map (·.size)=some ct.length:=by rw [hlt];exact cz
 have HQ:aa (∀ w3,Below W0.drew.heap.size W0.drew w3→w3.rangeAt g5 0 cs∧w3.cell? ⟨gav,0,none⟩=some (.slice (some ⟨gat,0,none⟩) L L)∧w3.rangeAt gat (k*36) ct∧w3.there g5 0 36):=⟨by
  intro w3 h3
  have hb3:Below W0.heap.size W0 w3:=au (af (Below.refl _ _)) h3
  have h5:=ak HG5.out hb3
  have hg:=HG0.out.below hb3
  refine ⟨?_,(ae hg.v2 0).trans rfl,?_,pG h5 (by rw [List.size_toArray,hl];omega)⟩
  · have h6:=World.rangeAt_of_block h5 0 36
    rw [Array.toList_extract,List.extract_eq_take_drop,List.drop_zero,List.take_of_length_le (by show cs.length≤_;rw [hl];exact Nat.le_refl _)] at h6
    exact h6
  have h:=oN fu hg.at_ HAT.out.1
  rw [HAT.out.2] at h
  exact h⟩
 obtain ⟨q1,q2,q3,q4⟩:=HQ.out W0.drew (Below.refl _ _)
 refine fF 7 (fun w'=>w'.rangeAt g5 0 cs∧w'.cell? ⟨gav,0,none⟩=some (.slice (some ⟨gat,0,none⟩) L L)∧w'.rangeAt gat (k*36) ct∧w'.there g5 0 36) [6] ⟨q1,q2,q3,q4⟩ (fun hHeld=>?_)
 refine bi 2 12 ?_
 refine fI (i:=0) (N:=some 10) (v:=?_) (a':=?_) #[true,false,true,false,false,false,false] rfl rfl (by kernel_rfl) (fun _ _ _ h=>h) (Or.inl ⟨by rfl,?_⟩) hHeld ?_ ?_
 rotate_left
 · rintro w' ⟨s0,s1,s2,s3⟩
   exact (by refine rF _ ?_ ?_ g5 0 ?_ cs _ s0 hu rfl hi;rotate_left;rfl;rfl)
 rotate_left
 · simp only [Act.put,List.setIfInBounds_toArray,List.set_cons_zero,List.set_cons_succ,aQ,aN]
   rfl
 refine dn 1 11 hHeld ?_
 refine bi 3 13 ?_
 refine fI (i:=4) (N:=some 14) (v:=?_) (a':=?_) #[true,true,true,true,true,false,false] rfl rfl (by kernel_rfl) (fun _ _ _ h=>h) (Or.inl ⟨by rfl,?_⟩) hHeld ?_ ?_
 rotate_left
 · rintro w' ⟨s0,s1,s2,s3⟩
   exact (by refine rF _ ?_ ?_ gat (k*36) ?_ ct _ s2 hu rfl hit;rotate_left;rfl;rfl)
 rotate_left
 · simp only [Act.put,List.setIfInBounds_toArray,List.set_cons_zero,List.set_cons_succ,aQ,aN]
   rfl
 refine jD 5 (some 15) (fun K hK=>?_)
 refine iN Try.func127 #[.agg cs.toArray,.agg ct.toArray] ?_
 with_reducible refine (HMT.out _).mono ?_
 rintro e w3 ⟨rfl,hk3⟩
 refine ⟨_,rfl,?_⟩
 refine hK.out _ _ (HQ.out _ hk3) (fun hHeld=>?_)
 clear hK K
 refine gF 15 ?_
 refine gD 6 none (fun K hK=>?_)
 refine uT (w1:=World.setCells w3 g5 0 cm) (by rfl) rfl ?_ ?_
 · (refine sZ _ ?_ ?_ ?_ g5 0 cm ?_ ?_ (by rw [hlm];exact (HQ.out _ hk3).2.2.2) (by rw [hlm];exact cz) h1m;rotate_left 2;rfl;rfl;rfl)
 refine hK.out _ _ ?_
 clear hK K
 refine fO (by kernel_rfl) ?_
 go_upto_region 3 with (fail)
 refine forget (fun W=>Below w.heap.size w W∧W.heap[g5]?=some (.cells cm.toArray 151 (0,0))) ⟨(au HB.out (au (af (Below.refl _ _)) hk3)).trans (qQ (g:=g5) (by have:=EG.out;omega) _ _ trivial),?_⟩ ?_
 · have h5:=ak (ak HG5.out (af (Below.refl _ _))) hk3
   have hp:=ui (f:=fun l:List Value=>if l.length=36 then l else List.replicate 36 undef) (K:=36) (fun l=>by split;assumption;exact List.length_replicate) (L:=[cs]) (n:=0) (b:=g5) (w:=w3) (T:=151) (by simp only [List.flatMap_cons,List.flatMap_nil,List.append_nil,hl,if_true];exact h5) (Nat.zero_lt_one) cm
   simp only [hlm,if_true,Nat.zero_mul,List.set_cons_zero,List.flatMap_cons,List.flatMap_nil,List.append_nil] at hp
   exact hp.1
 clear q1 q2 q3 q4 HQ hu hi hit hk3 hl h1 hlt HG5 HB HG0
 rintro W ⟨hb,h5⟩
 have HGW:=aa.mk (HG.out.below hb)
 have HG5:=aa.mk h5
 have HB:=aa.mk hb
 clear hb h5
 have HS3:aa (∀ w' A',Gk W w' gcv gav gcm gat L A'→w'.cell? ⟨gav,0,none⟩=some (.slice (some ⟨gat,0,none⟩) L L)∧w'.cell? ⟨gcv,0,none⟩=some (.slice (some ⟨gcm,0,none⟩) L L)∧w'.rangeAt g5 0 cm∧w'.there gat (k*36) 36∧w'.cell? ⟨gcm,k,none⟩=some (cellV w' ⟨gcm,k,none⟩)∧w'.frozen? ⟨gcm,k,none⟩=false):=⟨by
  intro w' A' h
  refine ⟨(ae h.g.v2 0).trans rfl,(ae h.g.v1 0).trans rfl,?_,lW fu h.g.at_ (by rw [h.g.l1];exact hk),ky (h.g.cm hk),ah h.g.come k⟩
  have h5:=(h.k.block g5 (ay HG5.out) (by rintro (e | e);exact HNE.out.1 e;exact HNE.out.2 e)).trans HG5.out
  have h6:=World.rangeAt_of_block h5 0 36
  rw [Array.toList_extract,List.extract_eq_take_drop,List.drop_zero,List.take_of_length_le (by show cm.length≤_;rw [hlm];exact Nat.le_refl _)] at h6
  exact h6⟩
 have HK0:=aa.mk (Gk.below (Gk.mk HGW.out (Kp.refl _ W)) (af (Below.refl _ _)))
 have HK1:=aa.mk (by have h:=HK0.out.zN hk (kG s t);rw [HCS.out] at h;exact h)
 have HK2:=aa.mk (HK1.out.tQ hk true)
 obtain ⟨e1,e2,e3,e4,e5,e6⟩:=HS3.out W _ ⟨HGW.out,Kp.refl _ W⟩
 have hu:=Try.underlying151
 have hi:(Try.prog.info? 151).map (·.size)=some cm.length:=by rw [hlm];exact cz
 go_region_held3 (fun w'=>w'.cell? ⟨gav,0,none⟩=some (.slice (some ⟨gat,0,none⟩) L L)∧w'.cell? ⟨gcv,0,none⟩=some (.slice (some ⟨gcm,0,none⟩) L L)∧w'.rangeAt g5 0 cm∧w'.there gat (k*36) 36∧w'.cell? ⟨gcm,k,none⟩=some (cellV w' ⟨gcm,k,none⟩)∧w'.frozen? ⟨gcm,k,none⟩=false)
  (first
    | exact HS3.out _ _ HK0.out
    | exact HS3.out _ _ HK1.out
    | exact HS3.out _ _ HK2.out)
  (fail)
 go_end0
 exact ⟨rfl,HK2.out.g,((Kp.refl _ w).below HB.out).trans HK2.out.k⟩
theorem sP (w:World) (gcv gav gcm gat L k:Nat) (A:AC) (s:St) (hs:s.length=18) (hA:AOk A L) (hG:Gv w gcv gav gcm gat L A) (hk:k<L) (hL:L≤9223372036854775807) :
 Calls Try.prog 126 #[.int .i64 k,.agg (aA s),.pointer (some ⟨gcv,0,none⟩),.pointer (some ⟨gav,0,none⟩)] w fun e w'=>e = .returned (.tuple #[])∧Gv w' gcv gav gcm gat L (kD A k s)∧Kp (fun x=>x=gat∨x=gcm) w w':=by
 rw [ja hs]
 unfold kD
 cases hc:A.2.getD k false with
 | false=>
  rw [if_neg (by decide)]
  exact goes_no w gcv gav gcm gat L k A s _ rfl (fu _) (nD _) hG hk hc hL
 | true=>
  rw [if_pos rfl]
  have hl:=(hA.wst k hc).len
  have hAk:A.1[k]?=some (A.1.getD k []):=by rw [List.getD_eq_getElem?_getD,List.getElem?_eq_getElem (by rw [hA.at_];exact hk)];rfl
  exact yz w gcv gav gcm gat L k A s (A.1.getD k []) _ _ _ rfl rfl rfl hs hl hAk (fu _) (fu _) (fu _) (nD _) (nD _) hG hk hc hL
structure Wr8 (w:World) (B gb cap:Nat) (bs:List (Value × S47)) (tl:List Value):Prop where
 row:w.heap[gb]?=some (.cells (bf bs tl) 47 (0,0))
 size:(bs.flatMap b8++tl).length=cap*8
 le:bs.length≤cap
 max:cap≤maxLen
 code:∀ (n:Nat) (p:Value × S47),bs[n]?=some p→Cd w p.1 p.2.f0
 sep:∀ (n m:Nat) (p q:Value × S47),n≠m→bs[n]?=some p→bs[m]?=some q→∀ g,p.1.ownBlock=some g→q.1.ownBlock≠some g
 lo:B≤gb∧∀ p:Value × S47,p∈bs→∀ g,p.1.ownBlock=some g→B≤g
def psC:Array Value:=#[.func (.func 83) #[] #[],.func (.func 84) #[] #[],.func (.func 85) #[] #[],.func (.func 86) #[] #[],.func (.func 87) #[] #[],.func (.func 88) #[] #[]]
structure Bs where
 n:Nat
 p:Nat
structure Wk (w:World) (B:Bs) (gw gb cap:Nat) (bs:List (Value × S47)) (tl:List Value):Prop where
 me:w.heap[gw]?=some (.cells #[.slice (some ⟨gb,0,none⟩) bs.length cap] 83 (0,0))
 row:Wr8 w B.n gb cap bs tl
 lo:B.n≤gw
 ps:w.heap[B.p]?=some (.cells psC 86 (0,0))
section
variable {w w1:World} {B:Bs} {gw gb cap:Nat} {bs:List (Value × S47)} {tl:List Value}
theorem Wr8.below {B:Nat} (h:Wr8 w B gb cap bs tl) (hb:Below w.heap.size w w1):Wr8 w1 B gb cap bs tl:=
 ⟨ak h.row hb,h.size,h.le,h.max,fun n p hp=>(h.code n p hp).below hb,h.sep,h.lo⟩
theorem Wk.below (h:Wk w B gw gb cap bs tl) (hb:Below w.heap.size w w1):Wk w1 B gw gb cap bs tl:=⟨ak h.me hb,h.row.below hb,h.lo,ak h.ps hb⟩
theorem Wk.kp {S:Nat→Prop} (h:Wk w B gw gb cap bs tl) (k:Kp S w w1) (hS:∀ x,S x→∃ cs T fr,w.heap[x]?=some (.cells cs T fr)∧T≠83∧T≠47∧T≠45∧T≠86):Wk w1 B gw gb cap bs tl:=by
 have hn:∀ (x:Nat) (cs:Array Value) (T:TypeId),w.heap[x]?=some (.cells cs T (0,0))→(T=83∨T=47∨T=45∨T=86)→¬S x:=by
  intro x cs T hx hT hs
  obtain ⟨cs',T',fr,h1,h2,h3,h4,h5⟩:=hS x hs
  rw [hx] at h1
  injection h1 with h1
  injection h1 with _ h1
  subst h1
  rcases hT with e | e | e | e
  · exact h2 e
  · exact h3 e
  · exact h4 e
  exact h5 e
 refine ⟨(k.block gw (ay h.me) (hn _ _ _ h.me (.inl rfl))).trans h.me,⟨(k.block gb (ay h.row.row) (hn _ _ _ h.row.row (.inr (.inl rfl)))).trans h.row.row,h.row.size,h.row.le,h.row.max,?_,h.row.sep,h.row.lo⟩,h.lo,(k.block B.p (ay h.ps) (hn _ _ _ h.ps (.inr (.inr (.inr rfl))))).trans h.ps⟩
 intro n p hp
 refine (h.row.code n p hp).kp k (fun g hg=>?_)
 obtain ⟨cs,hc⟩:=(h.row.code n p hp).lt hg
 exact hn g cs _ hc (.inr (.inr (.inl rfl)))
theorem Wk.step {S:Nat→Prop} {n:Nat} {p q:Value × S47} (h:Wk w B gw gb cap bs tl) (hp:bs[n]?=some p) (k:Kp S w w1)
 (hS:∀ x,S x→x=gb∨some x=p.1.ownBlock∨∃ cs T fr,w.heap[x]?=some (.cells cs T fr)∧T≠83∧T≠47∧T≠45∧T≠86)
 (hr:w1.heap[gb]?=some (.cells (bf (bs.set n q) tl) 47 (0,0))) (hc:Cd w1 q.1 q.2.f0) (hq:∀ g,q.1.ownBlock=some g→p.1.ownBlock=some g∨w.heap.size≤g):Wk w1 B gw gb cap (bs.set n q) tl:=by
 have hne:gw≠gb:=bF h.me h.row.row (by decide)
 have hgw:¬S gw:=by
  intro hs
  rcases hS gw hs with e | e | ⟨cs,T,fr,h1,h2,_⟩
  · exact hne e
  · obtain ⟨cs,hc⟩:=(h.row.code n p hp).lt e.symm
    exact bF h.me hc (by decide) rfl
  rw [h.me] at h1;injection h1 with h1;injection h1 with _ h1;exact h2 h1.symm
 have hps:¬S B.p:=by
  intro hs
  rcases hS _ hs with e | e | ⟨cs,T,fr,h1,_,_,_,h5⟩
  · exact bF h.ps h.row.row (by decide) e
  · obtain ⟨cs,hc⟩:=(h.row.code n p hp).lt e.symm
    exact bF h.ps hc (by decide) rfl
  rw [h.ps] at h1;injection h1 with h1;injection h1 with _ h1;exact h5 h1.symm
 have hlo:=h.row.lo.1
 have hlt:=ay h.row.row
 refine ⟨by rw [List.length_set];exact (k.block gw (ay h.me) hgw).trans h.me,⟨hr,?_,by rw [List.length_set];exact h.row.le,h.row.max,?_,?_,h.row.lo.1,?_⟩,h.lo,(k.block B.p (ay h.ps) hps).trans h.ps⟩
 · have:=h.row.size
   rw [List.length_append,qN] at this ⊢
   rw [List.length_set];exact this
 · intro m r hm
   by_cases e:n=m
   · subst e
     rw [aG hp] at hm
     cases hm
     exact hc
   rw [List.getElem?_set_ne e] at hm
   refine (h.row.code m r hm).kp k (fun g hg hs=>?_)
   obtain ⟨cs',hc'⟩:=(h.row.code m r hm).lt hg
   rcases hS g hs with e2 | e2 | ⟨cs,T,fr,h1,_,_,h4,_⟩
   · subst e2;exact bF h.row.row hc' (by decide) rfl
   · exact h.row.sep n m p r e hp hm g e2.symm hg
   rw [hc'] at h1;injection h1 with h1;injection h1 with _ h1;exact h4 h1.symm
 · intro i j a b hij ha hb g hg hg2
   by_cases e:n=i
   · subst e
     rw [aG hp] at ha
     cases ha
     rw [List.getElem?_set_ne hij] at hb
     obtain ⟨cs',hc'⟩:=(h.row.code j b hb).lt hg2
     rcases hq g hg with h1 | h1
     · exact h.row.sep n j p b hij hp hb g h1 hg2
     have:=ay hc';omega
   rw [List.getElem?_set_ne e] at ha
   obtain ⟨cs',hc'⟩:=(h.row.code i a ha).lt hg
   by_cases e2:n=j
   · subst e2
     rw [aG hp] at hb
     cases hb
     rcases hq g hg2 with h1 | h1
     · exact h.row.sep n i p a e hp ha g h1 hg
     have:=ay hc';omega
   rw [List.getElem?_set_ne e2] at hb
   exact h.row.sep i j a b hij ha hb g hg hg2
 intro r hm g hg
 rcases List.mem_or_eq_of_mem_set hm with h1 | h1
 · exact h.row.lo.2 r h1 g hg
 subst h1
 rcases hq g hg with h1 | h1
 · exact h.row.lo.2 p (List.mem_of_getElem? hp) g h1
 omega
end
theorem kS {α:Type} (f:α→List Value) (z:α) (K:Nat) (hf:(f z).length=K) (n:Nat):madeCells (f z).toArray (n*K)=((List.replicate n z).flatMap f).toArray:=by
 apply Array.ext'
 have hl:((List.replicate n z).flatMap f).length=n*K:=by
  induction n with
  | zero=>simp
  | succ n ih=>rw [List.replicate_succ,List.flatMap_cons,List.length_append,ih,hf,Nat.add_mul,Nat.one_mul,Nat.add_comm]
 apply List.ext_getElem
 · rw [Array.length_toList,size_madeCells];exact hl.symm
 intro i h1 h2
 have hi:i<n*K:=by rw [Array.length_toList,size_madeCells] at h1;exact h1
 have hK:0<K:=by
  rcases Nat.eq_zero_or_pos K with h | h
  · rw [h] at hi;omega
  exact h
 have e:∀ (m j:Nat),j<m*K→((List.replicate m z).flatMap f)[j]?=(f z)[j % K]?:=by
  intro m
  induction m with
  | zero=>intro j hj;omega
  | succ m ih=>
   intro j hj
   rw [List.replicate_succ,List.flatMap_cons]
   by_cases hjk:j<K
   · rw [List.getElem?_append_left (by omega),Nat.mod_eq_of_lt hjk]
   rw [List.getElem?_append_right (by omega),hf,ih (j - K) (by rw [Nat.add_mul,Nat.one_mul] at hj;omega),Nat.mod_eq_sub_mod (show j≥K by omega)]
 have e2:=e n i hi
 have hm:i % K<(f z).length:=by rw [hf];exact Nat.mod_lt _ hK
 rw [List.getElem?_eq_getElem (by rw [hl];exact hi),List.getElem?_eq_getElem hm] at e2
 injection e2 with e2
 have e3:((List.replicate n z).flatMap f).toArray.toList[i]=((List.replicate n z).flatMap f)[i]'(by rw [hl];exact hi):=rfl
 rw [e3,e2]
 unfold madeCells
 simp only [Array.toList_map,List.getElem_map,Array.toList_range,List.getElem_range,List.size_toArray,hf]
 rw [getElem!_pos (f z).toArray (i % K) (by rw [List.size_toArray];exact hm)]
 rfl
def vR:St:=List.replicate 18 none
def boC (l:List Bool):Array Value:=(l.map Value.bool).toArray
theorem info_st:(Try.prog.info? 151).map (fun i=>(i.zero,i.size,i.bytes))=some (some (.agg (f36 (List.replicate 18 none)).toArray),36,144):=by kernel_rfl
theorem info_bo:(Try.prog.info? 4).map (fun i=>(i.zero,i.size,i.bytes))=some (some (.bool false),1,1):=by kernel_rfl
theorem rG (L:Nat) (hL:L≤4096) (W:World):(Instr.makeSlice 147 (.int .i64 (L:Int)) (.int .i64 (L:Int))).run Try.prog W = .ok (.slice (some ⟨W.heap.size,0,none⟩) L L) (W.alloc (.cells ((List.replicate L vR).flatMap f36).toArray 151)):=by
 obtain ⟨i,hi,hzz⟩:=Option.map_eq_some_iff.1 info_st
 simp only [Prod.mk.injEq] at hzz
 obtain ⟨hz,hs,hb⟩:=hzz
 have h:=run_make (P:=Try.prog) W 147 151 i _ Try.underlying147 hi hz .i64 .i64 L L (by omega) (Int.le_refl _) (by rw [hb];omega) (by omega)
 rw [Int.toNat_natCast,hs] at h
 have e:=kS f36 (List.replicate 18 none) 36 (fu _) L
 refine h.trans ?_
 show Result.ok _ (World.alloc W (.cells (madeCells (f36 (List.replicate 18 none)).toArray (L*36)) 151))=_
 rw [e];rfl
theorem ou (L:Nat) (hL:L≤4096) (W:World):(Instr.makeSlice 73 (.int .i64 (L:Int)) (.int .i64 (L:Int))).run Try.prog W = .ok (.slice (some ⟨W.heap.size,0,none⟩) L L) (W.alloc (.cells (boC (List.replicate L false)) 4)):=by
 obtain ⟨i,hi,hzz⟩:=Option.map_eq_some_iff.1 info_bo
 simp only [Prod.mk.injEq] at hzz
 obtain ⟨hz,hs,hb⟩:=hzz
 have h:=run_make (P:=Try.prog) W 73 4 i _ Try.underlying73 hi hz .i64 .i64 L L (by omega) (Int.le_refl _) (by rw [hb];omega) (by omega)
 rw [Int.toNat_natCast,hs] at h
 have e:=kS (fun b:Bool=>[Value.bool b]) false 1 rfl L
 refine h.trans ?_
 show Result.ok _ (World.alloc W (.cells (madeCells [Value.bool false].toArray (L*1)) 4))=_
 rw [e]
 unfold boC
 rw [List.map_eq_flatMap]
def atP (k:Nat):St:=List.replicate k (some 0)++List.replicate (18 - k) none
theorem nk {k:Nat} (h:k≤18):(atP k).length=18:=by unfold atP;rw [List.length_append,List.length_replicate,List.length_replicate];omega
theorem xy {k:Nat} (h:k<18):(atP k).set k (some 0)=atP (k+1):=by
 unfold atP
 rw [List.set_append_right _ _ (by rw [List.length_replicate];exact Nat.le_refl _),List.length_replicate,Nat.sub_self,show 18 - k=(18 - (k+1))+1 by omega,List.replicate_succ,List.set_cons_zero,List.replicate_succ',List.append_assoc]
 rfl
def atA (L k:Nat):AC:=((List.replicate L vR).set 0 (atP k),List.replicate L false)
theorem new4 (w:World) (o1 o2 o3 o4:Obj):((((w.alloc o1).alloc o2).alloc o3).alloc o4).heap[w.heap.size]?=some o1∧((((w.alloc o1).alloc o2).alloc o3).alloc o4).heap[w.heap.size+1]?=some o2∧((((w.alloc o1).alloc o2).alloc o3).alloc o4).heap[w.heap.size+1+1]?=some o3∧((((w.alloc o1).alloc o2).alloc o3).alloc o4).heap[w.heap.size+1+1+1]?=some o4∧Below w.heap.size w ((((w.alloc o1).alloc o2).alloc o3).alloc o4):=by
 obtain ⟨h1,h2,h3,h4⟩:=new3 w o1 o2 o3
 have h5:=heap_alloc_new (((w.alloc o1).alloc o2).alloc o3) o4
 rw [World.size_alloc,World.size_alloc,World.size_alloc] at h5
 exact ⟨aH h1 _,aH h2 _,aH h3 _,h5,ai h4 _⟩
theorem atA_0 {L:Nat} (h:0<L):atA L 0=(List.replicate L vR,List.replicate L false):=by
 unfold atA
 rw [show atP 0=vR from rfl]
 congr 1
 apply List.ext_getElem?
 intro i
 rw [List.getElem?_set]
 split
 · rename_i e;subst e;rw [List.length_replicate,if_pos h,List.getElem?_replicate,if_pos h]
 rfl
theorem mQ {w:World} {b o n j:Nat} (h:w.there b o n) (hj:j<n):w.cell? ⟨b,o+j,none⟩=some (cellV w ⟨b,o+j,none⟩):=by
 have h1:=(h j hj).1
 cases e:w.cell? ⟨b,o+j,none⟩ with
 | none=>rw [e] at h1;cases h1
 | some v=>exact ky e |>.symm.trans e |>.symm
theorem rf {L k:Nat} (h:0<L):(atA L k).1=atP k :: List.replicate (L - 1) vR:=by
 unfold atA
 obtain ⟨m,rfl⟩:∃ m,L=m+1:=⟨L - 1,by omega⟩
 rfl
theorem atA_put {w:World} {gcv gav gcm g L k:Nat} (h:Gv w gcv gav gcm g L (atA L k)) (hL:0<L) (hk:k<18) :
 Gv ((w.setCell ⟨g,k*2,none⟩ (.bool true)).setCell ⟨g,k*2+1,none⟩ (.int .u32 0)) gcv gav gcm g L (atA L (k+1)):=by
 have hn:=h.ne
 refine ⟨bN (bN h.v1 (fun e=>hn.2.1 e.symm) _) (fun e=>hn.2.1 e.symm) _,bN (bN h.v2 (fun e=>hn.2.2.1 e.symm) _) (fun e=>hn.2.2.1 e.symm) _,?_,bN (bN h.come (fun e=>hn.1 e.symm) _) (fun e=>hn.1 e.symm) _,by unfold atA;rw [List.length_set,List.length_replicate],h.l2⟩
 have h1:=h.at_
 rw [rf hL,List.flatMap_cons] at h1
 rw [rf hL,List.flatMap_cons]
 have e1:f36 (atP k)=(atP k).flatMap iB:=by have:=ja (nk (k:=k) (by omega));exact (congrArg Array.toList this).symm
 have e2:f36 (atP (k+1))=(atP (k+1)).flatMap iB:=by have:=ja (nk (k:=k+1) (by omega));exact (congrArg Array.toList this).symm
 have hl:((atP k).flatMap iB).length=36:=by rw [oM (K:=2) (fun _=>rfl),nk (by omega)]
 have hs:=xX (some 0) (atP k) k (by rw [nk (by omega)];exact hk)
 rw [xy hk] at hs
 rw [e1] at h1
 rw [e2,←hs]
 refine aI (aI h1 (k*2) _ rfl) (k*2+1) _ ?_
 rw [List.setIfInBounds_toArray,List.setIfInBounds_toArray,List.set_append_left _ _ (by rw [hl];omega),List.set_append_left _ _ (by rw [List.length_set,hl];omega),Nat.mul_comm k 2]
 rfl
structure FI (w wr:World) (B:Bs) (gw gb cap:Nat) (tl:List Value) (g L:Nat) (G:List S47) (n:Nat) (f:Bool) (A:AC) (bs:List (Value × S47)):Prop where
 wk:Wk wr B gw gb cap bs tl
 gv:Gv wr (g+1+1+1) (g+1) (g+1+1) g L A
 low:Below B.n w wr
 ok:AOk A L
 len:bs.length=L
 rest:(bs.map (·.2)).drop n=G.drop n
 res:iI G=((bs.map (·.2)).take n++(fdL (G.drop n) n A).1,f||(fdL (G.drop n) n A).2)
section
variable {w wr w2:World} {B:Bs} {gw gb cap g L n:Nat} {tl:List Value} {G:List S47} {f:Bool} {A:AC} {bs:List (Value × S47)}
theorem FI.at_ (h:FI w wr B gw gb cap tl g L G n f A bs) (hn:n<L):∃ v b,bs[n]?=some (v,b)∧G[n]?=some b∧G.drop n=b :: G.drop (n+1):=by
 have h1:n<bs.length:=by rw [h.len];exact hn
 have h2:((bs.map (·.2)).drop n)[0]?=(G.drop n)[0]?:=by rw [h.rest]
 rw [List.getElem?_drop,List.getElem?_drop,Nat.add_zero,List.getElem?_map,List.getElem?_eq_getElem h1,Option.map_some] at h2
 have h3:=(List.getElem?_eq_some_iff.1 h2.symm)
 obtain ⟨h4,h5⟩:=h3
 exact ⟨bs[n].1,bs[n].2,List.getElem?_eq_getElem h1,h2.symm,by rw [List.drop_eq_getElem_cons h4,h5]⟩
theorem FI.below (h:FI w wr B gw gb cap tl g L G n f A bs) (hb:Below wr.heap.size wr w2) (hB:B.n≤wr.heap.size):FI w w2 B gw gb cap tl g L G n f A bs:=
 ⟨h.wk.below hb,h.gv.below hb,h.low.trans ⟨hb.os,hb.tape,hb.output,hb.size,fun i hi=>hb.block i (by omega)⟩,h.ok,h.len,h.rest,h.res⟩
theorem FI.skip (h:FI w wr B gw gb cap tl g L G n f A bs) {v:Value} {b:S47} (hb:bs[n]?=some (v,b)) (hG:G.drop n=b :: G.drop (n+1)) (hc:A.2.getD n false=false):FI w wr B gw gb cap tl g L G (n+1) f A bs:=by
 refine ⟨h.wk,h.gv,h.low,h.ok,h.len,?_,?_⟩
 · have:=congrArg List.tail h.rest
   rw [List.tail_drop,hG] at this
   exact this
 have hr:=h.res
 rw [hG,fdL,if_neg (by rw [hc];decide)] at hr
 have hl:n<(bs.map (·.2)).length:=by rw [List.length_map];exact lT hb
 rw [hr,List.take_succ_eq_append_getElem hl,List.append_assoc]
 congr 2
 have:(bs.map (·.2))[n]=b:=by
  have:=List.getElem?_eq_getElem hl
  rw [List.getElem?_map,hb] at this
  exact (Option.some.inj this).symm
 rw [this];rfl
theorem FI.next (h:FI w wr B gw gb cap tl g L G n f A bs) {v v':Value} {b b':S47} {s':St} {f2:Bool} (hb:bs[n]?=some (v,b)) (hG:G.drop n=b :: G.drop (n+1)) (hc:A.2.getD n false=true) (hr1:b'=(bZ (A.1.getD n []) b).1) (hr2:s'=(bZ (A.1.getD n []) b).2.1)
 (hf2:f2=((bZ (A.1.getD n []) b).2.2||f)) (hwk:Wk w2 B gw gb cap (bs.set n (v',b')) tl) (hgv:Gv w2 (g+1+1+1) (g+1) (g+1+1) g L (nxF b' s' A)) (hlow:Below B.n w w2) (hok:AOk (nxF b' s' A) L) :
 FI w w2 B gw gb cap tl g L G (n+1) f2 (nxF b' s' A) (bs.set n (v',b')):=by
 have hn:=lT hb
 refine ⟨hwk,hgv,hlow,hok,by rw [List.length_set];exact h.len,?_,?_⟩
 · have:=congrArg List.tail h.rest
   rw [List.tail_drop,hG] at this
   rw [List.map_set,List.drop_set_of_lt (by omega)]
   exact this
 have hr:=h.res
 rw [hG,fdL,if_pos hc,←hr1,←hr2] at hr
 have hl:n<((bs.set n (v',b')).map (·.2)).length:=by rw [List.length_map,List.length_set];exact hn
 rw [hr,List.take_succ_eq_append_getElem hl,List.append_assoc,hf2]
 have e1:((bs.set n (v',b')).map (·.2))[n]=b':=by
  have:=List.getElem?_eq_getElem hl
  rw [List.getElem?_map,aG hb] at this
  exact (Option.some.inj this).symm
 have e2:((bs.set n (v',b')).map (·.2)).take n=(bs.map (·.2)).take n:=by rw [List.map_set,List.take_set_of_le (Nat.le_refl _)]
 rw [e1,e2]
 congr 1
 cases f<;>simp
end
theorem Ah {bs:List (Value × S47)} {n:Nat} (tl:List Value) (v:Value) (b:S47) (c:List S45):bf (bs.set n (v,b)) tl=bf (bs.set n (v,⟨c,b.f1,b.f2,b.f3,b.f4⟩)) tl:=by
 have h:∀ l:List (Value × S47),∀ n,(l.set n (v,b)).flatMap b8=(l.set n (v,⟨c,b.f1,b.f2,b.f3,b.f4⟩)).flatMap b8:=by
  intro l
  induction l with
  | nil=>intro n;rfl
  | cons a r ih=>
   intro n
   cases n with
   | zero=>rfl
   | succ n=>rw [List.set_cons_succ,List.set_cons_succ,List.flatMap_cons,List.flatMap_cons,ih]
 unfold bf
 rw [h]
structure FM (w X:World) (B:Bs) (gw gb cap:Nat) (tl:List Value) (g gs L:Nat) (A:AC) (bs:List (Value × S47)) (s:St):Prop where
 wk:Wk X B gw gb cap bs tl
 gv:Gv X (g+1+1+1) (g+1) (g+1+1) g L A
 low:Below B.n w X
 st:X.heap[gs]?=some (.cells (aA s) 151 (0,0))
 ne:gs≠g∧B.n≤gs
section
variable {w wr X Y:World} {B:Bs} {gw gb cap g gs L n:Nat} {tl:List Value} {A:AC} {bs:List (Value × S47)} {s:St}
theorem FM.below (h:FM w X B gw gb cap tl g gs L A bs s) (hb:Below X.heap.size X Y):FM w Y B gw gb cap tl g gs L A bs s:=
 ⟨h.wk.below hb,h.gv.below hb,h.low.trans ⟨hb.os,hb.tape,hb.output,hb.size,fun i hi=>hb.block i (by have:=ay h.wk.me;have:=h.wk.lo;omega)⟩,ak h.st hb,h.ne⟩
theorem FM.goes {A':AC} (h:FM w X B gw gb cap tl g gs L A bs s) (hB:B.n≤g) (hg:Gv Y (g+1+1+1) (g+1) (g+1+1) g L A') (hk:Kp (fun x=>x=g∨x=g+1+1) X Y):FM w Y B gw gb cap tl g gs L A' bs s:=by
 refine ⟨h.wk.kp hk ?_,hg,Kp.gW h.low hk (by have:=ay h.wk.me;have:=h.wk.lo;omega) (by rintro x (rfl | rfl)<;>omega),(hk.block gs (ay h.st) ?_).trans h.st,h.ne⟩
 · rintro x (rfl | rfl)
   · exact ⟨_,_,_,h.gv.at_,by decide,by decide,by decide⟩
   exact ⟨_,_,_,h.gv.come,by decide,by decide,by decide⟩
 rintro (e | e)
 · exact h.ne.1 e
 exact bF h.st h.gv.come (by decide) e
theorem FI.mid {V X1 X2:World} {G:List S47} {f:Bool} {v v':Value} {b:S47} {sn:St} (h:FI w wr B gw gb cap tl g L G n f A bs) (hBg:B.n≤g) (hb:bs[n]?=some (v,b)) (hV:Below wr.heap.size wr V) (hgs:gs=wr.heap.size) (hS:V.heap[gs]?=some (.cells (aA sn) 151 (0,0)))
 (h1:X1.heap[gs]?=some (.cells (aA (bR sn b.f0).2.1) 151 (0,0))) (hv:v'.ownBlock=v.ownBlock) (h2:X1.heap[gb]?=some (.cells (bf (bs.set n (v',b)) tl) 47 (0,0))) (h3:Cd X1 v' (bR sn b.f0).1) (h4:Kp (fun x=>x=gs∨x=gb∨some x=v.ownBlock) V X1)
 (h5:X2.heap[gb]?=some (.cells (bf ((bs.set n (v',⟨(bR sn b.f0).1,b.f1,b.f2,b.f3,b.f4⟩)).set n (v',(bZ sn b).1)) tl) 47 (0,0))) (h6:Kp (fun x=>x=gb) X1 X2) :
 FM w X2 B gw gb cap tl g gs L A (bs.set n (v',(bZ sn b).1)) (bZ sn b).2.1:=by
 have hFV:=h.below hV (by have:=h.gv.lt;omega)
 have hk:Kp (fun x=>x=gs∨x=gb∨some x=v.ownBlock) V X2:=h4.trans (Kp.mono h6 (fun x e => .inr (.inl e)))
 have hgg:gs≠g:=by have:=h.gv.lt;omega
 have hbs:B.n≤gs:=by have:=h.gv.lt;omega
 have hcd:=hFV.wk.row.code n _ hb
 have hnS:∀ x cs T,V.heap[x]?=some (.cells cs T (0,0))→x≠gs→T≠47→T≠45→¬(x=gs∨x=gb∨some x=v.ownBlock):=by
  intro x cs T hx e1 e2 e3
  rintro (e | e | e)
  · exact e1 e
  · subst e;exact bF hx hFV.wk.row.row e2 rfl
  obtain ⟨cs',hc⟩:=hcd.lt e.symm
  exact bF hx hc e3 rfl
 have hl:=h.gv.lt
 rw [set_set] at h5
 refine ⟨hFV.wk.step hb hk ?_ h5 ?_ ?_,⟨?_,?_,?_,?_,hFV.gv.l1,hFV.gv.l2⟩,Kp.gW hFV.low hk (by have:=ay hFV.wk.me;have:=hFV.wk.lo;omega) ?_,?_,hgg,hbs⟩
 · rintro x (e | e | e)
   · subst e;exact .inr (.inr ⟨_,_,_,hS,by decide,by decide,by decide⟩)
   · exact .inl e
   exact .inr (.inl e)
 · have:(bZ sn b).1.f0=(bR sn b.f0).1:=by unfold bZ;exact lK _ _
   show Cd X2 v' (bZ sn b).1.f0
   rw [this]
   refine h3.kp h6 (fun y hy e=>?_)
   subst e
   obtain ⟨cs',hc⟩:=h3.lt hy
   exact bF h2 hc (by decide) rfl
 · intro y hy;exact .inl (by rw [←hv];exact hy)
 · exact (hk.block _ (ay hFV.gv.v1) (hnS _ _ _ hFV.gv.v1 (by omega) (by decide) (by decide))).trans hFV.gv.v1
 · exact (hk.block _ (ay hFV.gv.v2) (hnS _ _ _ hFV.gv.v2 (by omega) (by decide) (by decide))).trans hFV.gv.v2
 · exact (hk.block _ (ay hFV.gv.at_) (hnS _ _ _ hFV.gv.at_ (by omega) (by decide) (by decide))).trans hFV.gv.at_
 · exact (hk.block _ (ay hFV.gv.come) (hnS _ _ _ hFV.gv.come (by omega) (by decide) (by decide))).trans hFV.gv.come
 · rintro x (e | e | e)
   · omega
   · rw [e];exact hFV.wk.row.lo.1
   exact hFV.wk.row.lo.2 _ (List.mem_of_getElem? hb) _ e.symm
 have e1:(bZ sn b).2.1=(bR sn b.f0).2.1:=rfl
 rw [e1]
 exact (h6.block gs (ay h1) (fun e=>bF h1 h2 (by decide) e)).trans h1
theorem FM.cell (h:FM w X B gw gb cap tl g gs L A bs s) {p:Value × S47} (hp:bs[n]?=some p) {j:Nat} (hj:j<8):X.cell? ⟨gb,n*8+j,none⟩=(b8 p)[j]?:=(ae h.wk.row.row _).trans (bO hp hj)
theorem l6 {w:World} {b:Nat} {cs:List Value} {T:TypeId} {fr:Nat × Nat} (h:w.heap[b]?=some (.cells cs.toArray T fr)):w.rangeAt b 0 cs:=by
 have h6:=World.rangeAt_of_block h 0 cs.length
 rw [Array.toList_extract,List.extract_eq_take_drop,List.drop_zero,List.take_of_length_le (by show cs.length≤_;omega)] at h6
 exact h6
theorem FM.range (h:FM w X B gw gb cap tl g gs L A bs s) (hs:s.length=18):X.rangeAt gs 0 (f36 s):=l6 (by rw [←ja hs];exact h.st)
theorem FM.call (h:FM w X B gw gb cap tl g gs L A bs s) (hB:B.n≤g) (hA:AOk A L) (hL:L≤4096) {k:Nat} (hk:k<L) {t:St} (ht:t.length=18) :
 Calls Try.prog 126 #[.int .i64 k,.agg (f36 t).toArray,.pointer (some ⟨g+1+1+1,0,none⟩),.pointer (some ⟨g+1,0,none⟩)] X fun e w'=>e = .returned (.tuple #[])∧FM w w' B gw gb cap tl g gs L (kD A k t) bs s∧Kp (fun x=>x=g∨x=g+1+1) X w':=by
 have hc:=sP X (g+1+1+1) (g+1) (g+1+1) g L k A t ht hA h.gv hk (by omega)
 rw [ja ht] at hc
 refine hc.mono ?_
 rintro e w' ⟨h1,h2,h3⟩
 exact ⟨h1,h.goes hB h2 h3,h3⟩
theorem FM.put2 {gt:Nat} {cs:Array Value} {v0 v1:Value} (h:FM w X B gw gb cap tl g gs L A bs s) (hB:B.n≤gt) (hs:gs≠gt) (hg:gt≠g) (ht:X.heap[gt]?=some (.cells cs 151 (0,0))) :
 FM w ((X.setCell ⟨gt,0,none⟩ v0).setCell ⟨gt,1,none⟩ v1) B gw gb cap tl g gs L A bs s:=by
 have hk:Kp (fun x=>x=gt) X ((X.setCell ⟨gt,0,none⟩ v0).setCell ⟨gt,1,none⟩ v1):=((Kp.refl (fun x=>x=gt) X).set (.inl rfl) _ _).set (.inl rfl) _ _
 have hb:∀ (x:Nat) (cs':Array Value) (T:TypeId),X.heap[x]?=some (.cells cs' T (0,0))→T≠151→((X.setCell ⟨gt,0,none⟩ v0).setCell ⟨gt,1,none⟩ v1).heap[x]?=some (.cells cs' T (0,0)):=fun x cs' T hx hT=>(hk.block x (ay hx) (fun e=>by subst e;exact bF hx ht hT rfl)).trans hx
 refine ⟨h.wk.kp hk ?_,⟨hb _ _ _ h.gv.v1 (by decide),hb _ _ _ h.gv.v2 (by decide),(hk.block g (ay h.gv.at_) (fun e=>hg e.symm)).trans h.gv.at_,hb _ _ _ h.gv.come (by decide),h.gv.l1,h.gv.l2⟩,Kp.gW h.low hk (by have:=ay h.wk.me;have:=h.wk.lo;omega) (by rintro x rfl;exact hB),(hk.block gs (ay h.st) hs).trans h.st,h.ne⟩
 rintro x rfl
 exact ⟨_,_,_,ht,by decide,by decide,by decide⟩
end
theorem _root_.Go.RowKit.Below.weaken' {B B':Nat} {w w1:World} (h:Below B w w1) (hb:B'≤B):Below B' w w1:=⟨h.os,h.tape,h.output,h.size,fun i hi=>h.block i (by omega)⟩
theorem sK (w:World) (B:Bs) (gw gb cap:Nat) (bs:List (Value × S47)) (tl:List Value) (hW:Wk w B gw gb cap bs tl) (hG:GOk (bs.map (·.2))) :
 Calls Try.prog 83 #[.pointer (some ⟨gw,0,none⟩)] w fun e w'=>e = .returned (.bool (iI (bs.map (·.2))).2)∧(∃ bs',bs'.map (·.2)=(iI (bs.map (·.2))).1∧Wk w' B gw gb cap bs' tl)∧Below B.n w w':=by
 obtain ⟨L,eL⟩:∃ L,L=bs.length:=⟨_,rfl⟩
 have hL:L≤4096:=by have:=hG.few;rw [List.length_map] at this;omega
 have hL0:0<L:=by have:=hG.some_;rw [List.length_map] at this;omega
 have c0:w.cell? ⟨gw,0,none⟩=some (.slice (some ⟨gb,0,none⟩) L cap):=by rw [eL];exact (ae hW.me 0).trans rfl
 have hmk1:=rG L hL
 have hmk2:=ou L hL
 have hlt:=ay hW.me
 have HW:=aa.mk hW
 have HG:=aa.mk hG
 have EL:=aa.mk eL
 clear hW hG eL
 go_enter Try.func83,Try.ntmps83
 go_upto_region 3 with (fail)
 refine forget (fun W=>∃ g,g=w.heap.size∧Below w.heap.size w W∧Gv W (g+1+1+1) (g+1) (g+1+1) g L (atA L 0)) ⟨_,rfl,?_,?_⟩ ?_
 · exact (new4 w _ _ _ _).2.2.2.2
 · obtain ⟨h1,h2,h3,h4,_⟩:=new4 w (.cells ((List.replicate L vR).flatMap f36).toArray 151 (0,0)) (.cells #[.slice (some ⟨w.heap.size,0,none⟩) L L] 147 (0,0)) (.cells (boC (List.replicate L false)) 4 (0,0)) (.cells #[.slice (some ⟨w.heap.size+1+1,0,none⟩) L L] 73 (0,0))
   rw [atA_0 hL0]
   exact ⟨h4,h2,h1,h3,List.length_replicate,List.length_replicate⟩
 clear hmk1 hmk2 hlt c0
 rintro W ⟨g,eg,hb,hgv⟩
 rw [←eg]
 have HB:=aa.mk hb
 have HV:=aa.mk hgv
 have EGG:=aa.mk eg
 clear hb hgv eg
 go_wp2
 go_loopw [24] (fun v24 wr=>∃ k:Nat,k≤18∧v24 = .int .i64 k∧aa (Below W.heap.size W wr∨True)∧aa (Kp (fun x=>x=g∨x=g+1+1) W wr∧Gv wr (g+1+1+1) (g+1) (g+1+1) g L (atA L k))) (fun v24 _=>18 - (intOf v24).toNat)
 case atStart=>exact ⟨0,by omega,rfl,⟨.inr trivial⟩,⟨Kp.refl _ _,HV.out⟩⟩
 case round=>
  obtain ⟨k,hk,rfl,_,HR⟩:=hrel
  by_cases hlt:k<18
  · have i0:(0:Int)≤(k:Int):=by omega
    have i1:(k:Int)<18:=by omega
    have i2:(0:Int)<(L:Int):=by omega
    have hgl:=HR.out.2.lt
    go_upto_region 6 with (fail)
    have e1:wr.cell? ⟨g+1,0,none⟩=some (.slice (some ⟨g,0,none⟩) L L):=(ae HR.out.2.v2 0).trans rfl
    have HS3:aa (∀ w' A',Gv w' (g+1+1+1) (g+1) (g+1+1) g L A'→w'.cell? ⟨g+1,0,none⟩=some (.slice (some ⟨g,0,none⟩) L L)∧w'.cell? ⟨g,k*2,none⟩=some (cellV w' ⟨g,k*2,none⟩)∧w'.cell? ⟨g,k*2+1,none⟩=some (cellV w' ⟨g,k*2+1,none⟩)∧w'.frozen? ⟨g,k*2,none⟩=false∧w'.frozen? ⟨g,k*2+1,none⟩=false):=⟨by
     intro w' A' h
     have ht:=lW fu h.at_ (n:=0) (by rw [h.l1];exact hL0)
     have t0:=mQ ht (j:=k*2) (by omega)
     have t1:=mQ ht (j:=k*2+1) (by omega)
     rw [Nat.zero_mul,Nat.zero_add] at t0 t1
     exact ⟨(ae h.v2 0).trans rfl,t0,t1,ah h.at_ _,ah h.at_ _⟩⟩
    obtain ⟨e1,e2,e3,e4,e5⟩:=HS3.out wr _ HR.out.2
    have HPT:aa (∀ w3,Below wr.drew.heap.size wr.drew w3→Gv ((w3.setCell ⟨g,k*2,none⟩ (.bool true)).setCell ⟨g,k*2+1,none⟩ (.int .u32 0)) (g+1+1+1) (g+1) (g+1+1) g L (atA L (k+1))∧Kp (fun x=>x=g∨x=g+1+1) W ((w3.setCell ⟨g,k*2,none⟩ (.bool true)).setCell ⟨g,k*2+1,none⟩ (.int .u32 0))):=⟨by
     intro w3 h3
     have hb3:Below wr.heap.size wr w3:=au (af (Below.refl _ _)) h3
     exact ⟨atA_put (HR.out.2.below hb3) hL0 hlt,((HR.out.1.below hb3).set (.inl (.inl rfl)) _ _).set (.inl (.inl rfl)) _ _⟩⟩
    go_region_held3 (fun w'=>w'.cell? ⟨g+1,0,none⟩=some (.slice (some ⟨g,0,none⟩) L L)∧w'.cell? ⟨g,k*2,none⟩=some (cellV w' ⟨g,k*2,none⟩)∧w'.cell? ⟨g,k*2+1,none⟩=some (cellV w' ⟨g,k*2+1,none⟩)∧w'.frozen? ⟨g,k*2,none⟩=false∧w'.frozen? ⟨g,k*2+1,none⟩=false)
     (first
       | exact HS3.out _ _ (HR.out.2.below (af (Below.refl _ _)))
       | exact HS3.out _ _ (HR.out.2.below (au (af (Below.refl _ _)) hk3))
       | exact HS3.out _ _ (HPT.out _ hk3).1) ((go_at_call 125;refine (PA.fP.calls 0 true 0 wr.drew rfl).mono ?_;rintro e w3 ⟨rfl,hk3⟩))
    go_wp2
    have HR2:=aa.mk (And.intro (HPT.out _ hk3).2 (HPT.out _ hk3).1)
    clear HPT HS3 hk3 e1 e2 e3 e4 e5 HR
    go_roundw
    case rel=>exact ⟨k+1,by omega,by go_num,⟨.inr trivial⟩,HR2⟩
    case measure=>simp [intOf];omega
  have hkl:k=18:=by omega
  subst hkl
  have f1:wr.cell? ⟨g+1+1+1,0,none⟩=some (.slice (some ⟨g+1+1,0,none⟩) L L):=(ae HR.out.2.v1 0).trans rfl
  have f2:wr.cell? ⟨g+1+1,0,none⟩=some (.bool ((atA L 18).2.getD 0 false)):=HR.out.2.cm hL0
  have f3:=ah HR.out.2.come 0
  have i2:(0:Int)<(L:Int):=by omega
  go_upto_region 9 with (fail)
  refine forget (fun V=>FI w V B gw gb cap tl g L (bs.map (·.2)) 0 false ((List.replicate L (List.replicate 18 none)).set 0 (List.replicate 18 (some 0)),(List.replicate L false).set 0 true) bs) ?_ ?_
  · have hk1:=HR.out.1.set (g:=g+1+1) (.inl (.inr rfl)) 0 (.bool true)
    have hlo:=HW.out.lo
    have hgw:=ay HW.out.me
    have hlow:Below B.n w (wr.setCell ⟨g+1+1,0,none⟩ (.bool true)):=by
     have hb:=HB.out
     have:=EGG.out
     exact Kp.gW (hb.weaken' (by omega)) hk1 (by have:=hb.size;omega) (by rintro x (rfl | rfl)<;>omega)
    have hac:=wT (g:=bs.map (·.2)) HG.out.some_
    rw [List.length_map,←EL.out] at hac
    refine ⟨(HW.out.below HB.out).kp hk1 ?_,?_,hlow,hac.1,EL.out.symm,rfl,by rw [List.take_zero,List.nil_append,List.drop_zero,Bool.false_or];unfold iI;rw [List.length_map,←EL.out]⟩
    · rintro x (rfl | rfl)
      · exact ⟨_,_,_,HV.out.at_,by decide,by decide,by decide⟩
      exact ⟨_,_,_,HV.out.come,by decide,by decide,by decide⟩
    exact (Gk.tQ (Gk.mk HR.out.2 (Kp.refl _ wr)) hL0 true).g
  clear f1 f2 f3 HR HV HB
  rintro V HF0
  have HF:=aa.mk HF0
  have c0:V.cell? ⟨gw,0,none⟩=some (.slice (some ⟨gb,0,none⟩) L cap):=by rw [EL.out];exact (ae HF0.wk.me 0).trans rfl
  clear HF0 hk hlt
  go_wp2
  rw [show ((18:Nat):Int)=(18:Int) from rfl]
  go_loopw [7,41] (fun v7 v41 wq=>∃ (n:Nat) (f:Bool) (A:AC) (bsn:List (Value × S47)),n≤L∧v41 = .int .i64 n∧v7 = .bool f∧aa (FI w wq B gw gb cap tl g L (bs.map (·.2)) n f A bsn)) (fun _ v41 _=>L - (intOf v41).toNat)
  case atStart=>exact ⟨0,false,_,_,Nat.zero_le _,rfl,rfl,HF⟩
  case round=>
   clear HF c0
   obtain ⟨n,f,A,bsn,hn,rfl,rfl,HF⟩:=hrel
   by_cases hlt:n<L
   · obtain ⟨v,b,hb,hGn,hGd⟩:=HF.out.at_ hlt
     have i0:(0:Int)≤(n:Int):=by omega
     have i1:(n:Int)<(L:Int):=by omega
     have c0:wr.cell? ⟨gw,0,none⟩=some (.slice (some ⟨gb,0,none⟩) L cap):=by have h:=(ae HF.out.wk.me 0).trans rfl;rw [HF.out.len] at h;exact h
     have d1:wr.cell? ⟨g+1,0,none⟩=some (.slice (some ⟨g,0,none⟩) L L):=(ae HF.out.gv.v2 0).trans rfl
     have d3:wr.cell? ⟨g+1+1+1,0,none⟩=some (.slice (some ⟨g+1+1,0,none⟩) L L):=(ae HF.out.gv.v1 0).trans rfl
     have ck:=HF.out.gv.cm hlt
     have hgl:=HF.out.gv.lt
     have HB0:=aa.mk (And.intro hb (And.intro hGn hGd))
     clear hb hGn hGd
     cases hc:A.2.getD n false
     · rw [hc] at ck
       have HC:=aa.mk hc
       clear hc
       go_wp2
       go_roundw
       case rel=>exact ⟨n+1,f,A,bsn,by omega,by go_num,rfl,⟨HF.out.skip HB0.out.1 HB0.out.2.2 HC.out⟩⟩
       case measure=>simp [intOf];omega
     rw [hc] at ck
     have HC:=aa.mk hc
     have hws:=HF.out.ok.wst n hc
     have HWS:=aa.mk hws
     obtain ⟨sn,esn⟩:∃ sn,sn=A.1.getD n []:=⟨_,rfl⟩
     have HAN:aa (A.1[n]?=some sn):=⟨by rw [esn,List.getD_eq_getElem?_getD,List.getElem?_eq_getElem (by rw [HF.out.ok.at_];exact hlt)];rfl⟩
     rw [←esn] at HWS
     have ESN:=aa.mk esn
     have HFL:=aa.mk (And.intro (show (f36 sn).toArray.size=36 by rw [List.size_toArray,fu]) (show ∀ u∈(f36 sn).toArray.toList,u.oneCell'=true by intro u hu;exact nD sn u (by simpa using hu)))
     clear hc hws esn
     go_upto_region 17 with (first
      | (refine iQ rfl 151 (.tmp 57) rfl fu g n A.1 sn 151 rfl HF.out.gv.at_ HAN.out _ Try.underlying151 rfl cz ?_)
      | (refine iL rfl rfl rfl rfl (heap_alloc_new _ _) rfl rfl HFL.out.1 (by exact cz) HFL.out.2 ?_;intro w5 hr5 hk5 hb5;have HR5:=aa.mk hr5;have HB5:=aa.mk hb5;clear hr5 hk5 hb5))
     refine forget (fun V=>∃ gs,gs=wr.heap.size∧Below wr.heap.size wr V∧V.heap[gs]?=some (.cells (aA sn) 151 (0,0))) ⟨_,rfl,(ai (Below.refl _ _) _).trans HB5.out,by rw [ja HWS.out.len];exact HR5.out⟩ ?_
     clear HR5 HB5 HFL c0 d1 d3 ck
     rintro V ⟨gs,egs,hb,hs⟩
     rw [←egs]
     have HV:=aa.mk (And.intro egs (And.intro hb hs))
     have HFV:=aa.mk (HF.out.below hb (by have:=HF.out.gv.lt;have:=EGG.out;have:=HW.out.lo;have:=ay HW.out.me;omega))
     have HBOK:=aa.mk (HG.out.all n b HB0.out.2.1)
     clear egs hb hs
     go_cut [7] (fun s7 X1=>∃ v',s7 = .bool ((bR sn b.f0).2.2||f)∧aa (X1.heap[gs]?=some (.cells (aA (bR sn b.f0).2.1) 151 (0,0))∧v'.ownBlock=v.ownBlock∧X1.heap[gb]?=some (.cells (bf (bsn.set n (v',b)) tl) 47 (0,0))∧Cd X1 v' (bR sn b.f0).1∧Kp (fun x=>x=gs∨x=gb∨some x=v.ownBlock) V X1))
     case first=>
      go_wp2_with ((go_at_call 128;refine (oP V gs gb n sn bsn tl v b.f0 b HV.out.2.2 HFV.out.wk.row.row HB0.out.1 (HFV.out.wk.row.code n _ HB0.out.1) HWS.out HBOK.out.code HBOK.out.rg).mono ?_;rintro e X1 ⟨rfl,hs1,⟨v',hv',hr1,hc1⟩,hk1⟩;have HX1:=aa.mk (And.intro hs1 (And.intro hv' (And.intro hr1 (And.intro hc1 hk1))));clear hs1 hv' hr1 hc1 hk1;obtain ⟨fa,efa⟩:∃ fa,fa=(bR sn b.f0).2.2:=⟨_,rfl⟩;rw [←efa];have EFA:=aa.mk efa;clear efa;cases fa))
      all_goals (go_meet;exact ⟨v',by rw [←EFA.out];rfl,HX1⟩)
     case rest=>
      obtain ⟨v',rfl,HX1⟩:=hcut
      have HSO:=aa.mk (kU b.f0 sn HWS.out HBOK.out.code HBOK.out.rg)
      have HFX2:aa (((enF (bR sn b.f0).2.1 ⟨(bR sn b.f0).1,b.f1,b.f2,b.f3,b.f4⟩).2||((bR sn b.f0).2.2||f))=((bZ sn b).2.2||f)):=⟨by
       show _=(((bR sn b.f0).2.2||(enF (bR sn b.f0).2.1 ⟨(bR sn b.f0).1,b.f1,b.f2,b.f3,b.f4⟩).2)||f)
       cases (bR sn b.f0).2.2<;>cases (enF (bR sn b.f0).2.1 ⟨(bR sn b.f0).1,b.f1,b.f2,b.f3,b.f4⟩).2<;>rfl⟩
      obtain ⟨fq,efq⟩:∃ fq,fq=((bR sn b.f0).2.2||f):=⟨_,rfl⟩
      rw [←efq] at HFX2
      rw [←efq]
      clear efq
      go_upto_region 18 with (fail)
      go_cut [7] (fun s7 X2=>s7 = .bool ((bZ sn b).2.2||f)∧aa (X2.heap[gb]?=some (.cells (bf ((bsn.set n (v',⟨(bR sn b.f0).1,b.f1,b.f2,b.f3,b.f4⟩)).set n (v',(enF (bR sn b.f0).2.1 ⟨(bR sn b.f0).1,b.f1,b.f2,b.f3,b.f4⟩).1)) tl) 47 (0,0))∧Kp (fun x=>x=gb) wc X2))
      case first=>
       go_wp2_with ((go_at_call 129;refine (vI wc gs gb n (bR sn b.f0).2.1 (bsn.set n (v',⟨(bR sn b.f0).1,b.f1,b.f2,b.f3,b.f4⟩)) tl v' ⟨(bR sn b.f0).1,b.f1,b.f2,b.f3,b.f4⟩ HX1.out.1 (by rw [←Ah];exact HX1.out.2.2.1) HSO.out.2.2.1 (aG HB0.out.1) HBOK.out.ends HBOK.out.rl).mono ?_;rintro e X2 ⟨rfl,hr2,hk2⟩;have HX2:=aa.mk (And.intro hr2 hk2);clear hr2 hk2;obtain ⟨fb,efb⟩:∃ fb,fb=(enF (bR sn b.f0).2.1 ⟨(bR sn b.f0).1,b.f1,b.f2,b.f3,b.f4⟩).2:=⟨_,rfl⟩;rw [←efb] at HFX2;rw [←efb];clear efb;cases fb))
       all_goals (go_meet;exact ⟨by rw [←HFX2.out];rfl,HX2⟩)
      case rest=>
       obtain ⟨rfl,HX2⟩:=hcut
       obtain ⟨X1,rfl⟩:∃ X1:World,X1=wc:=⟨_,rfl⟩
       obtain ⟨f2,ef2⟩:∃ f2,f2=((bZ sn b).2.2||f):=⟨_,rfl⟩
       rw [←ef2]
       have EF2:=aa.mk ef2
       clear ef2 HFX2 HSO
       go_upto_region 19 with (fail)
       have HBG:aa (B.n≤g):=⟨by have:=EGG.out;have:=HW.out.lo;have:=ay HW.out.me;omega⟩
       refine forget (fun X=>FM w X B gw gb cap tl g gs L A (bsn.set n (v',(bZ sn b).1)) (bZ sn b).2.1) (FI.mid HF.out HBG.out HB0.out.1 HV.out.2.1 HV.out.1 HV.out.2.2 HX1.out.1 HX1.out.2.1 HX1.out.2.2.1 HX1.out.2.2.2.1 HX1.out.2.2.2.2 HX2.out.1 HX2.out.2) ?_
       clear HX1 HX2 HV HFV
       rintro X HFM0
       have hbk:=jN HBOK.out HWS.out
       obtain ⟨b',eb'⟩:∃ b',b'=(bZ sn b).1:=⟨_,rfl⟩
       obtain ⟨s',es'⟩:∃ s',s'=(bZ sn b).2.1:=⟨_,rfl⟩
       rw [←eb',←es'] at HFM0 hbk
       have hLL:((List.map (fun x:Value × S47=>x.2) bs).length:Int)=(L:Int):=by rw [List.length_map,EL.out]
       rw [hLL] at hbk
       have HNEXT:aa (∀ Y,FM w Y B gw gb cap tl g gs L (nxF b' s' A) (bsn.set n (v',b')) s'→FI w Y B gw gb cap tl g L (bs.map (·.2)) (n+1) f2 (nxF b' s' A) (bsn.set n (v',b'))):=⟨fun Y h=>by
        exact FI.next HF.out HB0.out.1 HB0.out.2.2 HC.out (by rw [←ESN.out];exact eb') (by rw [←ESN.out];exact es') (by rw [←ESN.out];exact EF2.out) h.wk h.gv h.low (rJ HF.out.ok hbk.1 hbk.2.1)⟩
       have hec:=eB hbk.1.ends
       have gy:=bE hbk.1.goal
       have gn:=dw hbk.1.goal
       have hrl:=hbk.1.rl
       have HCC:aa (∀ Y A',FM w Y B gw gb cap tl g gs L A' (bsn.set n (v',b')) s'→Y.cell? ⟨gb,n*8+6,none⟩=some (.int .i64 b'.f3)∧Y.cell? ⟨gb,n*8+7,none⟩=some (.int .i64 b'.f4)∧Y.cell? ⟨gb,n*8+2,none⟩=some (.int .u16 b'.f2.f0)∧Y.cell? ⟨gb,n*8+5,none⟩=some (.int .u32 b'.f2.f3)∧Y.cell? ⟨gb,n*8+1,none⟩=some (.int .i64 b'.f1)):=⟨fun Y A' h=>⟨h.cell (aG HB0.out.1) (j:=6) (by omega),h.cell (aG HB0.out.1) (j:=7) (by omega),h.cell (aG HB0.out.1) (j:=2) (by omega),h.cell (aG HB0.out.1) (j:=5) (by omega),h.cell (aG HB0.out.1) (j:=1) (by omega)⟩⟩
       have HSW:=aa.mk hbk.2.1
       have HFM:=aa.mk HFM0
       have HAK:=aa.mk HF.out.ok
       clear eb' es' HFM0 hbk hLL HF HC HWS HAN ESN EF2 HBOK HB0
       generalize bsn.set n (v',b')=bs2 at HNEXT HCC HFM
       obtain ⟨c',f1',⟨l0,l1,l2,l3⟩,y',m'⟩:=b'
       dsimp only at hec gy gn HCC hrl
       rcases hec with ⟨rfl,hec⟩ | ⟨rfl,hec⟩ | ⟨rfl,hec⟩
       · clear hec gy gn hrl
         obtain ⟨b6,b7,b2,b5,b1⟩:=HCC.out X _ HFM.out
         clear b6 b7 b2 b5 HCC
         go_wp2
         go_roundw
         case rel=>exact ⟨n+1,f2,_,_,by omega,by go_num,rfl,⟨HNEXT.out X HFM.out⟩⟩
         case measure=>simp [intOf];omega
       · have gy2:=gy (by decide)
         clear hec gy gn hrl
         obtain ⟨yk,rfl⟩:∃ k:Nat,y'=(k:Int):=⟨y'.toNat,by omega⟩
         have hyk:yk<L:=by omega
         obtain ⟨b6,b7,b2,b5,b1⟩:=HCC.out X _ HFM.out
         have HYK:=aa.mk hyk
         clear b7 b2 b5 gy2 hyk
         go_upto_region 21 with (fail)
         clear b1
         obtain ⟨cs,ecs⟩:∃ cs,cs=f36 s':=⟨_,rfl⟩
         have hlen:cs.length=36:=by rw [ecs];exact fu _
         have HS6:aa (∀ Y A',FM w Y B gw gb cap tl g gs L A' bs2 s'→Y.cell? ⟨gb,n*8+6,none⟩=some (.int .i64 yk)∧Y.rangeAt gs 0 cs):=⟨fun Y A' h=>⟨(HCC.out Y A' h).1,by rw [ecs];exact h.range HSW.out.len⟩⟩
         have HGO:aa (∀ Y A',FM w Y B gw gb cap tl g gs L A' bs2 s'→AOk A' L→Calls Try.prog 126 #[.int .i64 yk,.agg cs.toArray,.pointer (some ⟨g+1+1+1,0,none⟩),.pointer (some ⟨g+1,0,none⟩)] Y fun e w'=>e = .returned (.tuple #[])∧FM w w' B gw gb cap tl g gs L (kD A' yk s') bs2 s'∧Kp (fun x=>x=g∨x=g+1+1) Y w'):=⟨fun Y A' h ha=>by rw [ecs];exact h.call HBG.out ha hL HYK.out HSW.out.len⟩
         clear ecs
         obtain ⟨e1,e2⟩:=HS6.out X _ HFM.out
         have hu:=Try.underlying151
         have hi:(Try.prog.info? 151).map (·.size)=some cs.length:=by rw [hlen];exact cz
         clear b6
         go_region_held3 (fun Z=>Z.cell? ⟨gb,n*8+6,none⟩=some (.int .i64 yk)∧Z.rangeAt gs 0 cs)
          (first | exact HS6.out _ _ (HFM.out.below (af (Below.refl _ _))) | exact HS6.out _ _ h5)
          ((go_at_call 126;refine (HGO.out _ _ (HFM.out.below (af (Below.refl _ _))) HAK.out).mono ?_;rintro e w5 ⟨rfl,h5,_⟩))
         have H5:=aa.mk h5
         clear h5 e1 e2 hu hi HS6 HGO HCC
         go_wp2
         go_roundw
         case rel=>exact ⟨n+1,f2,_,_,by omega,by go_num,rfl,⟨HNEXT.out _ H5.out⟩⟩
         case measure=>simp [intOf];omega
       have gy2:=gy (by decide)
       have gn2:=gn rfl
       clear hec gy gn
       obtain ⟨yk,rfl⟩:∃ k:Nat,y'=(k:Int):=⟨y'.toNat,by omega⟩
       obtain ⟨mk,rfl⟩:∃ k:Nat,m'=(k:Int):=⟨m'.toNat,by omega⟩
       have hyk:yk<L∧mk<L:=by omega
       obtain ⟨b6,b7,b2,b5,b1⟩:=HCC.out X _ HFM.out
       have HYK:=aa.mk hyk
       have HSS:=aa.mk (And.intro (qP HSW.out.len) (Al s'))
       clear b6 b7 b2 b5 gy2 gn2 hyk
       go_upto_region 24 with (first
        | (refine wpList_load_row rfl 151 (.tmp 10) rfl gs rfl 151 (aA s') (0,0) _ HFM.out.st Try.underlying151 rfl (by rw [HSS.out.1];exact cz) ?_)
        | (refine iL rfl rfl rfl rfl (heap_alloc_new _ _) rfl rfl HSS.out.1 (by exact cz) HSS.out.2 ?_;intro w5 hr5 hk5 hb5;have HR5:=aa.mk hr5;have HB5:=aa.mk hb5;clear hr5 hk5 hb5))
       refine forget (fun Y=>∃ gt,gt=X.heap.size∧FM w Y B gw gb cap tl g gs L A bs2 s'∧Y.heap[gt]?=some (.cells (aA s') 151 (0,0))) ⟨_,rfl,HFM.out.below ((ai (Below.refl _ _) _).trans HB5.out),HR5.out⟩ ?_
       have HXX:=aa.mk (And.intro HFM.out.gv.lt (And.intro (ay HFM.out.st) (And.intro (ay HFM.out.wk.me) HFM.out.wk.lo)))
       clear HR5 HB5 b1 HFM
       rintro Y ⟨gt,egt,hfm,ht⟩
       rw [←egt]
       have HFM:=aa.mk hfm
       have HT:=aa.mk ht
       have HNT:aa (gt≠g∧gt≠g+1+1):=⟨by have:=HXX.out;omega⟩
       have HTG:aa (B.n≤gt∧gs≠gt∧gt≠gw):=⟨by have:=HXX.out;omega⟩
       clear hfm ht egt
       have HYW:=aa.mk (nM (b:=⟨c',3,⟨l0,l1,l2,l3⟩,yk,mk⟩) HSW.out hrl)
       obtain ⟨b6,b7,b2,b5,b1⟩:=HCC.out Y _ HFM.out
       clear b6 b7 b1
       have h21:l0=21∨¬l0=21:=Classical.em _
       rcases h21 with rfl | h21
       · go_upto_region 26 with (go_at_call 125;refine (PA.fP.calls l3 true l3 _ rfl).mono ?_;rintro e w3 ⟨rfl,hk3⟩;have HT3:=aa.mk (ak HT.out hk3);have z0:w3.cell? ⟨gt,0,none⟩=some (.bool (gS s' 0).isSome):=(ae HT3.out 0).trans (bQ (s:=s') (i:=0) (by rw [HSW.out.len];omega));have z1:w3.cell? ⟨gt,1,none⟩=some (.int .u32 ((gS s' 0).getD 0)):=(ae HT3.out 1).trans (cu (s:=s') (i:=0) (by rw [HSW.out.len];omega));have z2:=ah HT3.out 0;have z3:=ah HT3.out 1;have HF3:=aa.mk (HFM.out.below hk3);clear hk3)
         refine forget (fun Z=>FM w Z B gw gb cap tl g gs L A bs2 s'∧Z.heap[gt]?=some (.cells (aA (qW ⟨c',3,⟨21,l1,l2,l3⟩,yk,mk⟩ s')) 151 (0,0))) ⟨?_,aI (aI HT3.out (0*2) _ rfl) (0*2+1) _ (iF (i:=0) (some l3) (by rw [HSW.out.len];omega))⟩ ?_
         · exact HF3.out.put2 HTG.out.1 HTG.out.2.1 HNT.out.1 HT3.out
         clear HF3 HT3 z0 z1 z2 z3 b2 b5 HT HFM
         rintro Z ⟨hfm,ht⟩
         obtain ⟨ys,eys⟩:∃ ys,ys=qW ⟨c',3,⟨21,l1,l2,l3⟩,yk,mk⟩ s':=⟨_,rfl⟩
         rw [←eys] at ht HYW
         have HEY:=aa.mk eys
         have HFM:=aa.mk hfm
         have HT:=aa.mk ht
         obtain ⟨cy,ecy⟩:∃ cy,cy=f36 ys:=⟨_,rfl⟩
         obtain ⟨cs,ecs⟩:∃ cs,cs=f36 s':=⟨_,rfl⟩
         have hly:cy.length=36:=by rw [ecy];exact fu _
         have hlc:cs.length=36:=by rw [ecs];exact fu _
         have HRY:aa (∀ Y:World,Y.heap[gt]?=some (.cells (aA ys) 151 (0,0))→Y.rangeAt gt 0 cy):=⟨fun Y h=>by rw [ecy];exact l6 (by rw [←ja HYW.out.len];exact h)⟩
         have HS6:aa (∀ Y A',FM w Y B gw gb cap tl g gs L A' bs2 s'→Y.cell? ⟨gb,n*8+6,none⟩=some (.int .i64 yk)∧Y.cell? ⟨gb,n*8+7,none⟩=some (.int .i64 mk)∧Y.rangeAt gs 0 cs):=⟨fun Y A' h=>⟨(HCC.out Y A' h).1,(HCC.out Y A' h).2.1,by rw [ecs];exact h.range HSW.out.len⟩⟩
         have HGO:aa (∀ Y A',FM w Y B gw gb cap tl g gs L A' bs2 s'→AOk A' L→Calls Try.prog 126 #[.int .i64 yk,.agg cy.toArray,.pointer (some ⟨g+1+1+1,0,none⟩),.pointer (some ⟨g+1,0,none⟩)] Y fun e w'=>e = .returned (.tuple #[])∧FM w w' B gw gb cap tl g gs L (kD A' yk ys) bs2 s'∧Kp (fun x=>x=g∨x=g+1+1) Y w'):=⟨fun Y A' h ha=>by rw [ecy];exact h.call HBG.out ha hL HYK.out.1 HYW.out.len⟩
         have HGN:aa (∀ Y A',FM w Y B gw gb cap tl g gs L A' bs2 s'→AOk A' L→Calls Try.prog 126 #[.int .i64 mk,.agg cs.toArray,.pointer (some ⟨g+1+1+1,0,none⟩),.pointer (some ⟨g+1,0,none⟩)] Y fun e w'=>e = .returned (.tuple #[])∧FM w w' B gw gb cap tl g gs L (kD A' mk s') bs2 s'∧Kp (fun x=>x=g∨x=g+1+1) Y w'):=⟨fun Y A' h ha=>by rw [ecs];exact h.call HBG.out ha hL HYK.out.2 HSW.out.len⟩
         have HAK2:=aa.mk (kE HAK.out HYK.out.1 HYW.out)
         have HDR:=aa.mk (ak ht (af (Below.refl _ _)))
         clear ecy ecs eys hfm ht HCC
         obtain ⟨e1,_,_⟩:=HS6.out Z _ HFM.out
         have e2:=HRY.out Z HT.out
         have hu:=Try.underlying151
         have hi:(Try.prog.info? 151).map (·.size)=some cy.length:=by rw [hly];exact cz
         go_region_held3 (fun Z=>Z.cell? ⟨gb,n*8+6,none⟩=some (.int .i64 yk)∧Z.rangeAt gt 0 cy)
          (first | exact ⟨(HS6.out _ _ (HFM.out.below (af (Below.refl _ _)))).1,HRY.out _ HDR.out⟩ | exact ⟨(HS6.out _ _ h5).1,HRY.out _ ((h6.block gt (ay HDR.out) (by rintro (e | e);exact HNT.out.1 e;exact HNT.out.2 e)).trans HDR.out)⟩)
          ((go_at_call 126;refine (HGO.out _ _ (HFM.out.below (af (Below.refl _ _))) HAK.out).mono ?_;rintro e w5 ⟨rfl,h5,h6⟩))
         have H5:=aa.mk h5
         clear h5 h6 e1 e2 hi HGO HRY HFM HT HDR
         go_upto_region 27 with (fail)
         obtain ⟨_,e1,e2⟩:=HS6.out w5 _ H5.out
         have hi:(Try.prog.info? 151).map (·.size)=some cs.length:=by rw [hlc];exact cz
         go_region_held3 (fun Z=>Z.cell? ⟨gb,n*8+7,none⟩=some (.int .i64 mk)∧Z.rangeAt gs 0 cs)
          (first | exact (HS6.out _ _ (H5.out.below (af (Below.refl _ _)))).2 | exact (HS6.out _ _ h7).2)
          ((go_at_call 126;refine (HGN.out _ _ (H5.out.below (af (Below.refl _ _))) HAK2.out).mono ?_;rintro e w7 ⟨rfl,h7,_⟩))
         have H7:=aa.mk h7
         clear h7 e1 e2 hu hi HS6 HGN H5
         go_wp2
         have H8:aa (FM w w7 B gw gb cap tl g gs L (nxF ⟨c',3,⟨21,l1,l2,l3⟩,yk,mk⟩ s' A) bs2 s'):=⟨by have h:=H7.out;rw [HEY.out] at h;exact h⟩
         go_roundw
         case rel=>exact ⟨n+1,f2,_,_,by omega,by go_num,rfl,⟨HNEXT.out _ H8.out⟩⟩
         case measure=>simp [intOf];omega
       have h21':(l0==21)=false:=aX h21
       have HYS:aa (qW ⟨c',3,⟨l0,l1,l2,l3⟩,yk,mk⟩ s'=s'):=⟨if_neg h21⟩
       clear h21
       go_upto_region 26 with (fail)
       refine forget (fun Z=>FM w Z B gw gb cap tl g gs L A bs2 s'∧Z.heap[gt]?=some (.cells (aA (qW ⟨c',3,⟨l0,l1,l2,l3⟩,yk,mk⟩ s')) 151 (0,0))) ⟨HFM.out,by rw [HYS.out];exact HT.out⟩ ?_
       clear b2 b5 HT HFM h21'
       rintro Z ⟨hfm,ht⟩
       obtain ⟨ys,eys⟩:∃ ys,ys=qW ⟨c',3,⟨l0,l1,l2,l3⟩,yk,mk⟩ s':=⟨_,rfl⟩
       rw [←eys] at ht HYW
       have HEY:=aa.mk eys
       have HFM:=aa.mk hfm
       have HT:=aa.mk ht
       obtain ⟨cy,ecy⟩:∃ cy,cy=f36 ys:=⟨_,rfl⟩
       obtain ⟨cs,ecs⟩:∃ cs,cs=f36 s':=⟨_,rfl⟩
       have hly:cy.length=36:=by rw [ecy];exact fu _
       have hlc:cs.length=36:=by rw [ecs];exact fu _
       have HRY:aa (∀ Y:World,Y.heap[gt]?=some (.cells (aA ys) 151 (0,0))→Y.rangeAt gt 0 cy):=⟨fun Y h=>by rw [ecy];exact l6 (by rw [←ja HYW.out.len];exact h)⟩
       have HS6:aa (∀ Y A',FM w Y B gw gb cap tl g gs L A' bs2 s'→Y.cell? ⟨gb,n*8+6,none⟩=some (.int .i64 yk)∧Y.cell? ⟨gb,n*8+7,none⟩=some (.int .i64 mk)∧Y.rangeAt gs 0 cs):=⟨fun Y A' h=>⟨(HCC.out Y A' h).1,(HCC.out Y A' h).2.1,by rw [ecs];exact h.range HSW.out.len⟩⟩
       have HGO:aa (∀ Y A',FM w Y B gw gb cap tl g gs L A' bs2 s'→AOk A' L→Calls Try.prog 126 #[.int .i64 yk,.agg cy.toArray,.pointer (some ⟨g+1+1+1,0,none⟩),.pointer (some ⟨g+1,0,none⟩)] Y fun e w'=>e = .returned (.tuple #[])∧FM w w' B gw gb cap tl g gs L (kD A' yk ys) bs2 s'∧Kp (fun x=>x=g∨x=g+1+1) Y w'):=⟨fun Y A' h ha=>by rw [ecy];exact h.call HBG.out ha hL HYK.out.1 HYW.out.len⟩
       have HGN:aa (∀ Y A',FM w Y B gw gb cap tl g gs L A' bs2 s'→AOk A' L→Calls Try.prog 126 #[.int .i64 mk,.agg cs.toArray,.pointer (some ⟨g+1+1+1,0,none⟩),.pointer (some ⟨g+1,0,none⟩)] Y fun e w'=>e = .returned (.tuple #[])∧FM w w' B gw gb cap tl g gs L (kD A' mk s') bs2 s'∧Kp (fun x=>x=g∨x=g+1+1) Y w'):=⟨fun Y A' h ha=>by rw [ecs];exact h.call HBG.out ha hL HYK.out.2 HSW.out.len⟩
       have HAK2:=aa.mk (kE HAK.out HYK.out.1 HYW.out)
       have HDR:=aa.mk (ak ht (af (Below.refl _ _)))
       clear ecy ecs eys hfm ht HCC
       obtain ⟨e1,_,_⟩:=HS6.out Z _ HFM.out
       have e2:=HRY.out Z HT.out
       have hu:=Try.underlying151
       have hi:(Try.prog.info? 151).map (·.size)=some cy.length:=by rw [hly];exact cz
       go_region_held3 (fun Z=>Z.cell? ⟨gb,n*8+6,none⟩=some (.int .i64 yk)∧Z.rangeAt gt 0 cy)
        (first | exact ⟨(HS6.out _ _ (HFM.out.below (af (Below.refl _ _)))).1,HRY.out _ HDR.out⟩ | exact ⟨(HS6.out _ _ h5).1,HRY.out _ ((h6.block gt (ay HDR.out) (by rintro (e | e);exact HNT.out.1 e;exact HNT.out.2 e)).trans HDR.out)⟩)
        ((go_at_call 126;refine (HGO.out _ _ (HFM.out.below (af (Below.refl _ _))) HAK.out).mono ?_;rintro e w5 ⟨rfl,h5,h6⟩))
       have H5:=aa.mk h5
       clear h5 h6 e1 e2 hi HGO HRY HFM HT HDR
       go_upto_region 27 with (fail)
       obtain ⟨_,e1,e2⟩:=HS6.out w5 _ H5.out
       have hi:(Try.prog.info? 151).map (·.size)=some cs.length:=by rw [hlc];exact cz
       go_region_held3 (fun Z=>Z.cell? ⟨gb,n*8+7,none⟩=some (.int .i64 mk)∧Z.rangeAt gs 0 cs)
        (first | exact (HS6.out _ _ (H5.out.below (af (Below.refl _ _)))).2 | exact (HS6.out _ _ h7).2)
        ((go_at_call 126;refine (HGN.out _ _ (H5.out.below (af (Below.refl _ _))) HAK2.out).mono ?_;rintro e w7 ⟨rfl,h7,_⟩))
       have H7:=aa.mk h7
       clear h7 e1 e2 hu hi HS6 HGN H5
       go_wp2
       have H8:aa (FM w w7 B gw gb cap tl g gs L (nxF ⟨c',3,⟨l0,l1,l2,l3⟩,yk,mk⟩ s' A) bs2 s'):=⟨by have h:=H7.out;rw [HEY.out] at h;exact h⟩
       go_roundw
       case rel=>exact ⟨n+1,f2,_,_,by omega,by go_num,rfl,⟨HNEXT.out _ H8.out⟩⟩
       case measure=>simp [intOf];omega
   have hnl:n=L:=by omega
   subst hnl
   have hr:=HF.out.res
   have hgl:(bs.map (·.2)).length=n:=by rw [List.length_map,EL.out]
   rw [List.drop_eq_nil_of_le (by rw [hgl];exact Nat.le_refl _)] at hr
   have e1:(iI (bs.map (·.2))).1=bsn.map (·.2):=by rw [hr];show _++[]=_;rw [List.append_nil,List.take_of_length_le (by rw [List.length_map,HF.out.len];exact Nat.le_refl _)]
   have e2:(iI (bs.map (·.2))).2=f:=by rw [hr];show (f||false)=f;simp
   have HE:=aa.mk (And.intro e1 e2)
   clear hr hgl e1 e2
   go_wp2
   go_ret
   exact ⟨congrArg (fun x=>Ending.returned (Value.bool x)) HE.out.2.symm,⟨bsn,HE.out.1.symm,HF.out.wk⟩,HF.out.low⟩
structure PI (w wr:World) (B:Bs) (gw gb cap:Nat) (tl:List Value) (L:Nat) (G:List S47) (T R:List S47 × Bool) (n:Nat) (f:Bool) (bs:List (Value × S47)):Prop where
 wk:Wk wr B gw gb cap bs tl
 low:Below B.n w wr
 len:bs.length=L
 rest:(bs.map (·.2)).drop n=G.drop n
 res:T=((bs.map (·.2)).take n++R.1,f||R.2)
section
variable {w wr w2:World} {B:Bs} {gw gb cap L n:Nat} {tl:List Value} {G:List S47} {T R R':List S47 × Bool} {f:Bool} {bs:List (Value × S47)}
theorem PI.at_ (h:PI w wr B gw gb cap tl L G T R n f bs) (hn:n<L):∃ v b,bs[n]?=some (v,b)∧G[n]?=some b∧G.drop n=b :: G.drop (n+1):=by
 have h1:n<bs.length:=by rw [h.len];exact hn
 have h2:((bs.map (·.2)).drop n)[0]?=(G.drop n)[0]?:=by rw [h.rest]
 rw [List.getElem?_drop,List.getElem?_drop,Nat.add_zero,List.getElem?_map,List.getElem?_eq_getElem h1,Option.map_some] at h2
 have h3:=(List.getElem?_eq_some_iff.1 h2.symm)
 obtain ⟨h4,h5⟩:=h3
 exact ⟨bs[n].1,bs[n].2,List.getElem?_eq_getElem h1,h2.symm,by rw [List.drop_eq_getElem_cons h4,h5]⟩
theorem PI.below (h:PI w wr B gw gb cap tl L G T R n f bs) (hb:Below wr.heap.size wr w2):PI w w2 B gw gb cap tl L G T R n f bs:=
 ⟨h.wk.below hb,h.low.trans ⟨hb.os,hb.tape,hb.output,hb.size,fun i hi=>hb.block i (by have:=ay h.wk.me;have:=h.wk.lo;omega)⟩,h.len,h.rest,h.res⟩
theorem PI.next (h:PI w wr B gw gb cap tl L G T R n f bs) {v v':Value} {b b':S47} {f2:Bool} (hb:bs[n]?=some (v,b)) (hG:G.drop n=b :: G.drop (n+1)) (hR:R.1=b' :: R'.1) (hf:(f||R.2)=(f2||R'.2)) (hwk:Wk w2 B gw gb cap (bs.set n (v',b')) tl) (hlow:Below B.n w w2) :
 PI w w2 B gw gb cap tl L G T R' (n+1) f2 (bs.set n (v',b')):=by
 have hn:=lT hb
 refine ⟨hwk,hlow,by rw [List.length_set];exact h.len,?_,?_⟩
 · have:=congrArg List.tail h.rest
   rw [List.tail_drop,hG] at this
   rw [List.map_set,List.drop_set_of_lt (by omega)]
   exact this
 have hr:=h.res
 rw [hR,hf] at hr
 have hl:n<((bs.set n (v',b')).map (·.2)).length:=by rw [List.length_map,List.length_set];exact hn
 rw [hr,List.take_succ_eq_append_getElem hl,List.append_assoc]
 have e1:((bs.set n (v',b')).map (·.2))[n]=b':=by
  have:=List.getElem?_eq_getElem hl
  rw [List.getElem?_map,aG hb] at this
  exact (Option.some.inj this).symm
 have e2:((bs.set n (v',b')).map (·.2)).take n=(bs.map (·.2)).take n:=by rw [List.map_set,List.take_set_of_le (Nat.le_refl _)]
 rw [e1,e2]
 rfl
theorem PI.done (h:PI w wr B gw gb cap tl L G T R L f bs) (hR1:R.1=[]) (hR2:R.2=false):bs.map (·.2)=T.1∧T.2=f:=by
 rw [h.res,hR1,hR2]
 refine ⟨?_,by simp⟩
 show _=_++[]
 rw [List.append_nil,List.take_of_length_le (by rw [List.length_map,h.len];exact Nat.le_refl _)]
end
def ofP (k:Nat):List Int:=(List.range k).map (fun i:Nat=>((i:Int)+1))++List.replicate (18 - k) 0
theorem ofP_len {k:Nat} (h:k≤18):(ofP k).length=18:=by unfold ofP;rw [List.length_append,List.length_map,List.length_range,List.length_replicate];omega
theorem zD {k:Nat} (h:k<18):(ofP k).set k ((k:Int)+1)=ofP (k+1):=by
 unfold ofP
 rw [List.set_append_right _ _ (by rw [List.length_map,List.length_range];exact Nat.le_refl _),List.length_map,List.length_range,Nat.sub_self,show 18 - k=(18 - (k+1))+1 by omega,List.replicate_succ,List.set_cons_zero,List.range_succ,List.map_append,List.append_assoc]
 rfl
theorem ofP_18:ofP 18=gP:=by decide +kernel
theorem vG {b:S47} (h:b.f0=[]):fo b=(b,false):=by
 obtain ⟨c,_,_,_,_⟩:=b
 dsimp only at h
 subst h
 rfl
structure CN (w wr:World) (g k:Nat):Prop where
 b:Below w.heap.size w wr
 eg:w.heap.size≤g
 m:wr.heap[g]?=some (.cells (eX (ofP k) k) 160 (0,0))
structure CL (V wr:World) (gm gc cap:Nat) (c:List S45) (k:Nat) (of:List Int) (nx:Int) (o:List S45) (f0 fnd:Bool):Prop where
 kp:Kp (fun x=>x=gm∨x=gc) V wr
 m:wr.heap[gm]?=some (.cells (eX of nx) 160 (0,0))
 fil:Fil wr gc cap k o (c.drop k)
 ol:of.length=18
 nb:0≤nx∧nx≤18+(k:Int)
 res:((cpF gP 18 c).1,(f0||(cpF gP 18 c).2))=(o++(cpF of nx (c.drop k)).1,(fnd||(cpF of nx (c.drop k)).2))
section
variable {V wr w2:World} {gm gc cap k:Nat} {c:List S45} {of:List Int} {nx:Int} {o:List S45} {f0 fnd:Bool} {i:S45}
theorem CL.skip {a t:Nat} (h:CL V wr gm gc cap c k of nx o f0 fnd) (hd:c.drop k=i :: c.drop (k+1)) (hm:mvF i=some (a,t)) (e:of.getD t 0=of.getD a 0) (hk:Kp (fun x=>x=gm∨x=gc) wr w2) (hM:w2.heap[gm]?=some (.cells (eX (of.set t (of.getD a 0)) nx) 160 (0,0))) (hF:Fil w2 gc cap k o (c.drop k)) (ht:t<18) :
 CL V w2 gm gc cap c (k+1) of nx o f0 true:=by
 have hr:=h.res
 rw [hd] at hF
 have es:of.set t (of.getD a 0)=of:=lV (by rw [h.ol];exact ht) e
 rw [es] at hM
 refine ⟨h.kp.trans hk,hM,hF.skip,h.ol,⟨h.nb.1,by have:=h.nb.2;omega⟩,?_⟩
 rw [hr,hd,cpF,hm]
 dsimp only
 rw [if_neg (fun q=>q e),Bool.or_true,Bool.true_or]
theorem CL.keep {a t:Nat} (h:CL V wr gm gc cap c k of nx o f0 fnd) (hd:c.drop k=i :: c.drop (k+1)) (hm:mvF i=some (a,t)) (e:of.getD t 0≠of.getD a 0) (hk:Kp (fun x=>x=gm∨x=gc) wr w2) (hM:w2.heap[gm]?=some (.cells (eX (of.set t (of.getD a 0)) nx) 160 (0,0))) (hF:Fil w2 gc cap (k+1) (o++[i]) (c.drop (k+1))) :
 CL V w2 gm gc cap c (k+1) (of.set t (of.getD a 0)) nx (o++[i]) f0 fnd:=by
 refine ⟨h.kp.trans hk,hM,hF,by rw [List.length_set];exact h.ol,⟨h.nb.1,by have:=h.nb.2;omega⟩,?_⟩
 rw [h.res,hd,cpF,hm]
 dsimp only
 rw [if_pos e,List.append_assoc,List.singleton_append]
theorem CL.fresh (h:CL V wr gm gc cap c k of nx o f0 fnd) (hd:c.drop k=i :: c.drop (k+1)) (hm:mvF i=none) (hk:Kp (fun x=>x=gm∨x=gc) wr w2) (hM:w2.heap[gm]?=some (.cells (eX (of.set (wrF i) (nx+1)) (nx+1)) 160 (0,0))) (hF:Fil w2 gc cap (k+1) (o++[i]) (c.drop (k+1))) :
 CL V w2 gm gc cap c (k+1) (of.set (wrF i) (nx+1)) (nx+1) (o++[i]) f0 fnd:=by
 refine ⟨h.kp.trans hk,hM,hF,by rw [List.length_set];exact h.ol,⟨by have:=h.nb.1;omega,by have:=h.nb.2;omega⟩,?_⟩
 rw [h.res,hd,cpF,hm]
 dsimp only
 rw [List.append_assoc,List.singleton_append]
end
theorem qm (w:World) (B:Bs) (gw gb cap:Nat) (bs:List (Value × S47)) (tl:List Value) (hW:Wk w B gw gb cap bs tl) (hG:GOk (bs.map (·.2))) :
 Calls Try.prog 84 #[.pointer (some ⟨gw,0,none⟩)] w fun e w'=>e = .returned (.bool (iq (bs.map (·.2))).2)∧(∃ bs',bs'.map (·.2)=(iq (bs.map (·.2))).1∧Wk w' B gw gb cap bs' tl)∧Below B.n w w':=by
 obtain ⟨L,eL⟩:∃ L,L=bs.length:=⟨_,rfl⟩
 have hL:L≤4096:=by have:=hG.few;rw [List.length_map] at this;omega
 have c0:w.cell? ⟨gw,0,none⟩=some (.slice (some ⟨gb,0,none⟩) L cap):=by rw [eL];exact (ae hW.me 0).trans rfl
 have HP:aa (PI w w B gw gb cap tl L (bs.map (·.2)) (iq (bs.map (·.2))) (((bs.map (·.2)).drop 0).map (fun b=>(fo b).1),((bs.map (·.2)).drop 0).any (fun b=>(fo b).2)) 0 false bs):=⟨⟨hW,Below.refl _ _,eL.symm,rfl,by simp [iq]⟩⟩
 have HW:=aa.mk hW
 have HG:=aa.mk hG
 have EL:=aa.mk eL
 clear hW hG eL
 go_enter Try.func84,Try.ntmps84
 go_wp2
 go_loopw [3,19] (fun v3 v19 wr=>∃ (n:Nat) (f:Bool) (bsn:List (Value × S47)),n≤L∧v19 = .int .i64 n∧v3 = .bool f∧aa (PI w wr B gw gb cap tl L (bs.map (·.2)) (iq (bs.map (·.2))) (((bs.map (·.2)).drop n).map (fun b=>(fo b).1),((bs.map (·.2)).drop n).any (fun b=>(fo b).2)) n f bsn)) (fun _ v19 _=>L - (intOf v19).toNat)
 case atStart=>exact ⟨0,false,_,Nat.zero_le _,rfl,rfl,HP⟩
 case round=>
  clear HP c0
  obtain ⟨n,f,bsn,hn,rfl,rfl,HP⟩:=hrel
  by_cases hlt:n<L
  · obtain ⟨v,b,hb,hGn,hGd⟩:=HP.out.at_ hlt
    have i0:(0:Int)≤(n:Int):=by omega
    have i1:(n:Int)<(L:Int):=by omega
    have c0:wr.cell? ⟨gw,0,none⟩=some (.slice (some ⟨gb,0,none⟩) L cap):=by have h:=(ae HP.out.wk.me 0).trans rfl;rw [HP.out.len] at h;exact h
    have HB0:=aa.mk (And.intro hb (And.intro hGn hGd))
    clear hb hGn hGd
    go_upto_region 7 with (fail)
    refine forget (fun V=>∃ gm,gm=wr.heap.size∧Below wr.heap.size wr V∧V.heap[gm]?=some (.cells (eX (ofP 0) 0) 160 (0,0))) ⟨_,rfl,ai (Below.refl _ _) _,heap_alloc_new _ _⟩ ?_
    clear c0
    rintro V ⟨gm,egm,hbV,hm⟩
    rw [←egm]
    have HCN:aa (CN wr V gm 0):=⟨⟨hbV,by omega,hm⟩⟩
    have HGM:=aa.mk egm
    clear egm hbV hm
    obtain ⟨wo,rfl⟩:∃ wo:World,wo=wr:=⟨_,rfl⟩
    go_wp2
    go_loopw [30] (fun v30 wr=>∃ k:Nat,k≤18∧v30 = .int .i64 k∧aa (CN wo wr gm k)) (fun v30 _=>18 - (intOf v30).toNat)
    case atStart=>exact ⟨0,by omega,rfl,HCN⟩
    case round=>
     clear HCN
     obtain ⟨k,hk,rfl,HCN⟩:=hrel
     by_cases hk18:k<18
     · go_wp2_with (go_at_call 130;refine (mF wr gm (ofP k) k k HCN.out.m (ofP_len (by omega)) hk18 (by omega)).mono ?_;rintro e w2 ⟨rfl,hm2,hk2⟩;have HM2:=aa.mk (And.intro hm2 hk2);clear hm2 hk2)
       have HC2:aa (CN wo w2 gm (k+1)):=⟨⟨Kp.gW HCN.out.b HM2.out.2 HCN.out.b.size (by rintro x rfl;exact HCN.out.eg),HCN.out.eg,by have h:=HM2.out.1;rw [zD hk18] at h;exact h⟩⟩
       clear HM2 HCN
       go_roundw
       case rel=>exact ⟨k+1,by omega,by go_num,HC2⟩
       case measure=>simp [intOf];omega
     have hk8:k=18:=by omega
     subst hk8
     rw [show ((18:Nat):Int)=(18:Int) from rfl]
     have hM18:wr.heap[gm]?=some (.cells (eX gP 18) 160 (0,0)):=by have h:=HCN.out.m;rw [ofP_18] at h;exact h
     have HPV:=aa.mk (HP.out.below HCN.out.b)
     have hcd:Cd wr v b.f0:=HPV.out.wk.row.code n _ HB0.out.1
     have b0:wr.cell? ⟨gb,n*8,none⟩=some v:=(ae HPV.out.wk.row.row (n*8+0)).trans (bO HB0.out.1 (by omega))
     have HM18:=aa.mk hM18
     have HBW:=aa.mk HCN.out.b
     have HBOK:=aa.mk (HG.out.all n b HB0.out.2.1)
     have HLN:=aa.mk (HG.out.len HB0.out.2.1)
     have hgm:gm≠gb:=by have:=ay HP.out.wk.row.row;have:=HGM.out;omega
     have HNG:=aa.mk hgm
     clear hM18 HCN hk hk18 hgm
     obtain ⟨wp,rfl⟩:∃ wp:World,wp=wr:=⟨_,rfl⟩
     rcases hcd with ⟨rfl,hnil⟩ | ⟨gc,cap2,tlc,rfl,hcd⟩
     · have HN:=aa.mk hnil
       have z0:wp.frozen? ⟨gb,n*8,none⟩=false:=ah HPV.out.wk.row.row (n*8+0)
       clear hnil
       go_wp2
       go_loopw [3,8,47] (fun v3 v8 v47 wr=>v3 = .bool f∧v8 = .slice none 0 0∧v47 = .int .i64 0∧wr=wp) (fun _ _ _ _=>0)
       case atStart=>exact ⟨rfl,rfl,rfl,rfl⟩
       case round=>
        obtain ⟨rfl,rfl,rfl,rfl⟩:=hrel
        go_wp2
        have HK5:=aa.mk ((Kp.refl (fun x=>x=gb) wr).set (.inl rfl) (n*8) (.slice none 0 0))
        have HR5:=aa.mk (bz (j:=0) HPV.out.wk.row.row HB0.out.1 (.slice none 0 0,b) (by omega) (.slice none 0 0) rfl)
        have HPI:aa (PI w (wr.setCell ⟨gb,n*8,none⟩ (.slice none 0 0)) B gw gb cap tl L (bs.map (·.2)) (iq (bs.map (·.2))) (((bs.map (·.2)).drop (n+1)).map (fun b=>(fo b).1),((bs.map (·.2)).drop (n+1)).any (fun b=>(fo b).2)) (n+1) f (bsn.set n (.slice none 0 0,b))):=⟨by
         have hcb:(fo b).1=b∧(fo b).2=false:=by rw [vG HN.out];exact ⟨rfl,rfl⟩
         refine HPV.out.next HB0.out.1 HB0.out.2.2 (by rw [HB0.out.2.2,List.map_cons,hcb.1]) (by rw [HB0.out.2.2,List.any_cons,hcb.2,Bool.false_or]) (HPV.out.wk.step HB0.out.1 HK5.out (fun x e => .inl e) HR5.out (.inl ⟨rfl,HN.out⟩) (fun g hg=>by cases hg)) (Kp.gW HPV.out.low HK5.out (by have:=ay HPV.out.wk.me;have:=HPV.out.wk.lo;omega) (by rintro x rfl;exact HPV.out.wk.row.lo.1))⟩
        go_roundw
        case rel=>exact ⟨n+1,f,_,by omega,by go_num,rfl,HPI⟩
        case measure=>simp [intOf];omega
     have hmax:b.f0.length≤9223372036854775807:=by have:=hcd.len;have:=hcd.max;unfold maxLen at *;omega
     have hcap:cap2≤9223372036854775807:=by have:=hcd.max;unfold maxLen at *;omega
     have HMX:=aa.mk hcd.max
     have HNE:aa (gc≠gm∧gc≠gb):=⟨⟨bF hcd.blk HM18.out (by decide),fun e=>by subst e;exact bF hcd.blk HPV.out.wk.row.row (by decide) rfl⟩⟩
     have HCL:aa (CL wp wp gm gc cap2 b.f0 0 gP 18 [] f f):=⟨⟨Kp.refl _ _,HM18.out,by simpa using Fil.of hcd,rfl,by omega,by simp⟩⟩
     clear hcd
     go_wp2
     go_loopw [3,8,47] (fun v3 v8 v47 wr=>∃ (k:Nat) (of:List Int) (nx:Int) (o:List S45) (fnd:Bool),k≤b.f0.length∧v47 = .int .i64 k∧v3 = .bool fnd∧v8 = .slice (some ⟨gc,0,none⟩) o.length cap2∧aa (CL wp wr gm gc cap2 b.f0 k of nx o f fnd)) (fun _ _ v47 _=>b.f0.length - (intOf v47).toNat)
     case atStart=>exact ⟨0,gP,18,[],f,Nat.zero_le _,rfl,rfl,rfl,HCL⟩
     case round=>
      clear HCL b0
      obtain ⟨k,of,nx,o,fnd,hk,rfl,rfl,rfl,HCL⟩:=hrel
      by_cases hlk:k<b.f0.length
      · have hd:b.f0.drop k=b.f0[k] :: b.f0.drop (k+1):=List.drop_eq_getElem_cons hlk
        have hmem:b.f0[k]∈b.f0:=List.getElem_mem hlk
        have hst:=List.all_eq_true.1 HBOK.out.code _ hmem
        have hrg:=HBOK.out.rg _ hmem
        generalize b.f0[k]=i at hd hmem hst hrg
        have hF:=HCL.out.fil
        rw [hd] at hF
        have x0:wr.cell? ⟨gc,k*4,none⟩=some (.int .u16 i.f0):=(hF.get (q:=0) (by omega)).trans rfl
        have x1:wr.cell? ⟨gc,k*4+1,none⟩=some (.int .u8 i.f1):=(hF.get (q:=1) (by omega)).trans rfl
        have x2:wr.cell? ⟨gc,k*4+2,none⟩=some (.int .u8 i.f2):=(hF.get (q:=2) (by omega)).trans rfl
        have x3:wr.cell? ⟨gc,k*4+3,none⟩=some (.int .u32 i.f3):=(hF.get (q:=3) (by omega)).trans rfl
        have i2:(0:Int)≤(k:Int):=by omega
        have i3:(k:Int)<(b.f0.length:Int):=by omega
        have HD:=aa.mk hd
        have HST:=aa.mk (And.intro hst hrg)
        clear hd hmem hst hrg hF
        go_upto_region 16 with (fail)
        refine forget (fun W=>∃ gi,gi=wr.heap.size∧Below wr.heap.size wr W∧W.heap[gi]?=some (.cells #[.int .u16 i.f0,.int .u8 i.f1,.int .u8 i.f2,.int .u32 i.f3] 45 (0,0))) ⟨_,rfl,ai (Below.refl _ _) _,heap_alloc_new _ _⟩ ?_
        clear x0 x1 x2 x3
        rintro W ⟨gi,egi,hb,hi⟩
        rw [←egi]
        obtain ⟨y0,y1,y2,y3,-,-,-,-⟩:=cz4 ⟨hi⟩
        have HB:=aa.mk hb
        have HIN:=aa.mk hi
        have HGI:aa (gi≠gm∧gi≠gc):=⟨by have:=ay HCL.out.m;have:=HCL.out.fil.lt;omega⟩
        have HCELL:aa (∀ Y:World,Kp (fun x=>x=gm∨x=gc) W Y→Y.cell? ⟨gi,0,none⟩=some (.int .u16 i.f0)∧Y.cell? ⟨gi,1,none⟩=some (.int .u8 i.f1)∧Y.cell? ⟨gi,2,none⟩=some (.int .u8 i.f2)∧Y.cell? ⟨gi,3,none⟩=some (.int .u32 i.f3)):=⟨fun Y hY=>by
         have h:=(hY.block gi (ay hi) (by rintro (e | e);exact HGI.out.1 e;exact HGI.out.2 e)).trans hi
         exact ⟨(ae h 0).trans rfl,(ae h 1).trans rfl,(ae h 2).trans rfl,(ae h 3).trans rfl⟩⟩
        have HKW:aa (∀ Y:World,Kp (fun x=>x=gm∨x=gc) W Y→Kp (fun x=>x=gm∨x=gc) wr Y):=⟨fun Y hY=>((Kp.refl _ wr).below hb).trans hY⟩
        have HMV:=aa.mk (moves_f (i:=i) HST.out.2)
        have HFW:aa (Fil W gc cap2 k o (b.f0.drop k)):=⟨HCL.out.fil.below hb⟩
        have HMW:aa (W.heap[gm]?=some (.cells (eX of nx) 160 (0,0))):=⟨ak HCL.out.m hb⟩
        have HNEW:aa (∀ Y:World,∀ q u,(i4 i)[q]?=some u→(Y.alloc (.cells #[.int .u16 i.f0,.int .u8 i.f1,.int .u8 i.f2,.int .u32 i.f3] 45)).cell? ((⟨Y.heap.size,0,none⟩:Addr).add q)=some u):=⟨by
         intro Y q u hu
         rw [Go.WideShapes.add_plain,Nat.zero_add]
         have:=ae (kQ Y (.cells #[.int .u16 i.f0,.int .u8 i.f1,.int .u8 i.f2,.int .u32 i.f3] 45)) q
         rw [this,List.getElem?_toArray];exact hu⟩
        clear hb hi egi
        obtain ⟨mv,emv⟩:∃ mv,mv=mvF i:=⟨_,rfl⟩
        rw [←emv] at HMV
        have EMV:=aa.mk emv.symm
        clear emv
        cases mv with
        | none=>
         have HWF:=aa.mk (sj HST.out.1 HST.out.2 10)
         have HWL:=aa.mk (Ln.u7 HST.out.1 HST.out.2)
         go_wp2_with (first
          | (go_at_call 131;refine (PA.iC.calls i.f0 i.f1 i.f2 i.f3 _ _ _ _ HMV.out).mono ?_;rintro e w2 ⟨rfl,hb2⟩;have HK2:=aa.mk ((Kp.refl (fun x=>x=gm∨x=gc) W).below hb2);obtain ⟨q0,q1,q2,q3⟩:=HCELL.out w2 HK2.out;have HF2:=aa.mk (HFW.out.below hb2);have HM2:=aa.mk (ak HMW.out hb2);clear hb2)
          | (go_at_call 133;refine (PA.bV.calls 18 i.f0 i.f1 i.f2 i.f3 _ _ HWF.out).mono ?_;rintro e w3 ⟨rfl,hb3⟩;have HK3:=aa.mk (HK2.out.below hb3);have HF3:=aa.mk (HF2.out.below hb3);have HM3:=aa.mk (ak HM2.out hb3);clear hb3)
          | (go_at_call 130;refine (mF w3 gm of nx (wrF i) HM3.out HCL.out.ol HWL.out (by have:=HCL.out.nb;have:=HLN.out;omega)).mono ?_;rintro e w4 ⟨rfl,hm4,hk4⟩;have HK4:=aa.mk (HK3.out.trans (Kp.mono hk4 (fun x e => .inl e)));obtain ⟨r0,r1,r2,r3⟩:=HCELL.out w4 HK4.out;have HF4:=aa.mk (by have h:=(HF3.out.kp hk4 HNE.out.1).below (ai (Below.refl _ _) (.cells #[.int .u16 i.f0,.int .u8 i.f1,.int .u8 i.f2,.int .u32 i.f3] 45));rw [HD.out] at h;exact h);have HM4:=aa.mk (aH hm4 (.cells #[.int .u16 i.f0,.int .u8 i.f1,.int .u8 i.f2,.int .u32 i.f3] 45));clear hm4 hk4)
          | (at_builtin;refine il _ rfl (.tmp 71) (.tmp 73) rfl HF4.out rfl i ⟨w4.heap.size,0,none⟩ rfl (HNEW.out w4) ?_;intro w7 hF7 hk7;have HF7:=aa.mk hF7;have HK7:=aa.mk ((HK4.out.below (ai (Below.refl _ _) _)).trans (Kp.mono hk7 (fun x e => .inr e)));have HM7:=aa.mk ((hk7.block gm (ay HM4.out) (fun e=>HNE.out.1 e.symm)).trans HM4.out);clear hF7 hk7))
         go_roundw
         case rel=>exact ⟨k+1,_,_,_,fnd,by omega,by go_num,rfl,by rw [List.length_append];rfl,⟨HCL.out.fresh HD.out EMV.out (HKW.out _ HK7.out) HM7.out HF7.out⟩⟩
         case measure=>simp [intOf];omega
        | some p=>
         obtain ⟨a,t⟩:=p
         obtain ⟨m1,m2,m3⟩:a<18∧t<18∧True:=⟨(jb [] z16 rfl HST.out.1 HST.out.2 EMV.out).2.1,(jb [] z16 rfl HST.out.1 HST.out.2 EMV.out).2.2.1,trivial⟩
         have HAT:=aa.mk (And.intro m1 m2)
         clear m1 m2 m3
         dsimp only at HMV
         have hcc:(of.getD t 0=of.getD a 0∧(of.getD t 0 != of.getD a 0)=false)∨(of.getD t 0≠of.getD a 0∧(of.getD t 0 != of.getD a 0)=true):=by
          by_cases e:of.getD t 0=of.getD a 0
          · exact .inl ⟨e,bne_eq_false_iff_eq.mpr e⟩
          exact .inr ⟨e,bne_iff_ne.mpr e⟩
         rcases hcc with ⟨e,e2⟩ | ⟨e,e2⟩
         · have HE:=aa.mk (And.intro e e2)
           clear e e2
           go_wp2_with (first
            | (go_at_call 131;refine (PA.iC.calls i.f0 i.f1 i.f2 i.f3 _ _ _ _ HMV.out).mono ?_;rintro e w2 ⟨rfl,hb2⟩;have HK2:=aa.mk ((Kp.refl (fun x=>x=gm∨x=gc) W).below hb2);have HF2:=aa.mk (HFW.out.below hb2);have HM2:=aa.mk (ak HMW.out hb2);clear hb2)
            | (go_at_call 132;refine (lI w2 gm of nx t a HM2.out HCL.out.ol HAT.out.2 HAT.out.1).mono ?_;rintro e w3 ⟨rfl,hm3,hk3⟩;rw [HE.out.2];have HK3:=aa.mk (HK2.out.trans (Kp.mono hk3 (fun x e => .inl e)));have HM3:=aa.mk hm3;have HF3:=aa.mk (HF2.out.kp hk3 HNE.out.1);clear hm3 hk3))
           go_roundw
           case rel=>exact ⟨k+1,_,_,_,true,by omega,by go_num,rfl,rfl,⟨HCL.out.skip HD.out EMV.out HE.out.1 (HKW.out _ HK3.out) HM3.out HF3.out HAT.out.2⟩⟩
           case measure=>simp [intOf];omega
         have HE:=aa.mk (And.intro e e2)
         clear e e2
         go_wp2_with (first
          | (go_at_call 131;refine (PA.iC.calls i.f0 i.f1 i.f2 i.f3 _ _ _ _ HMV.out).mono ?_;rintro e w2 ⟨rfl,hb2⟩;have HK2:=aa.mk ((Kp.refl (fun x=>x=gm∨x=gc) W).below hb2);have HF2:=aa.mk (HFW.out.below hb2);have HM2:=aa.mk (ak HMW.out hb2);clear hb2)
          | (go_at_call 132;refine (lI w2 gm of nx t a HM2.out HCL.out.ol HAT.out.2 HAT.out.1).mono ?_;rintro e w4 ⟨rfl,hm4,hk4⟩;rw [HE.out.2];have HK4:=aa.mk (HK2.out.trans (Kp.mono hk4 (fun x e => .inl e)));obtain ⟨r0,r1,r2,r3⟩:=HCELL.out w4 HK4.out;have HF4:=aa.mk (by have h:=(HF2.out.kp hk4 HNE.out.1).below (ai (Below.refl _ _) (.cells #[.int .u16 i.f0,.int .u8 i.f1,.int .u8 i.f2,.int .u32 i.f3] 45));rw [HD.out] at h;exact h);have HM4:=aa.mk (aH hm4 (.cells #[.int .u16 i.f0,.int .u8 i.f1,.int .u8 i.f2,.int .u32 i.f3] 45));clear hm4 hk4)
          | (at_builtin;refine il _ rfl (.tmp 71) (.tmp 73) rfl HF4.out rfl i ⟨w4.heap.size,0,none⟩ rfl (HNEW.out w4) ?_;intro w7 hF7 hk7;have HF7:=aa.mk hF7;have HK7:=aa.mk ((HK4.out.below (ai (Below.refl _ _) _)).trans (Kp.mono hk7 (fun x e => .inr e)));have HM7:=aa.mk ((hk7.block gm (ay HM4.out) (fun e=>HNE.out.1 e.symm)).trans HM4.out);clear hF7 hk7))
         go_roundw
         case rel=>exact ⟨k+1,_,_,_,fnd,by omega,by go_num,rfl,by rw [List.length_append];rfl,⟨HCL.out.keep HD.out EMV.out HE.out.1 (HKW.out _ HK7.out) HM7.out HF7.out⟩⟩
         case measure=>simp [intOf];omega
      have hkl:k=b.f0.length:=by omega
      subst hkl
      have hr:=HCL.out.res
      rw [List.drop_length] at hr
      have e1:(cpF gP 18 b.f0).1=o:=by have:=congrArg Prod.fst hr;rw [this];show o++[]=o;simp
      have e2:(f||(cpF gP 18 b.f0).2)=fnd:=by have h2:(f||(cpF gP 18 b.f0).2)=(fnd||false):=congrArg Prod.snd hr;simpa using h2
      have hrow:=(HCL.out.kp.block gb (ay HPV.out.wk.row.row) (by rintro (e | e);exact HNG.out e.symm;exact HNE.out.2 e.symm)).trans HPV.out.wk.row.row
      have z0:wr.frozen? ⟨gb,n*8,none⟩=false:=ah hrow (n*8+0)
      have b0:wr.cell? ⟨gb,n*8,none⟩=some (.slice (some ⟨gc,0,none⟩) b.f0.length cap2):=(ae hrow (n*8+0)).trans (bO HB0.out.1 (by omega))
      have HE:=aa.mk (And.intro e1 e2)
      have HRW:=aa.mk hrow
      clear hr e1 e2 hrow
      go_wp2
      have HK5:aa (Kp (fun x=>(x=gm∨x=gc)∨x=gb) wp (wr.setCell ⟨gb,n*8,none⟩ (.slice (some ⟨gc,0,none⟩) o.length cap2))):=⟨(Kp.mono HCL.out.kp (fun x e => .inl e)).set (.inl (.inr rfl)) _ _⟩
      have HR5:=aa.mk (bz (j:=0) HRW.out HB0.out.1 (.slice (some ⟨gc,0,none⟩) o.length cap2,⟨o,b.f1,b.f2,b.f3,b.f4⟩) (by omega) (.slice (some ⟨gc,0,none⟩) o.length cap2) rfl)
      have HPI:aa (PI w (wr.setCell ⟨gb,n*8,none⟩ (.slice (some ⟨gc,0,none⟩) o.length cap2)) B gw gb cap tl L (bs.map (·.2)) (iq (bs.map (·.2))) (((bs.map (·.2)).drop (n+1)).map (fun b=>(fo b).1),((bs.map (·.2)).drop (n+1)).any (fun b=>(fo b).2)) (n+1) fnd (bsn.set n (.slice (some ⟨gc,0,none⟩) o.length cap2,⟨o,b.f1,b.f2,b.f3,b.f4⟩))):=⟨by
       have hcb:(fo b).1=⟨o,b.f1,b.f2,b.f3,b.f4⟩:=by unfold fo;rw [HE.out.1]
       have hcb2:(f||(fo b).2)=fnd:=HE.out.2
       refine HPV.out.next HB0.out.1 HB0.out.2.2 (by rw [HB0.out.2.2,List.map_cons,hcb]) (by rw [HB0.out.2.2,List.any_cons,←Bool.or_assoc,hcb2]) (HPV.out.wk.step HB0.out.1 HK5.out ?_ HR5.out ?_ (fun g hg => .inl hg)) (Kp.gW HPV.out.low HK5.out (by have:=ay HPV.out.wk.me;have:=HPV.out.wk.lo;omega) ?_)
       · rintro x ((rfl | rfl) | rfl)
         · exact .inr (.inr ⟨_,_,_,HM18.out,by decide,by decide,by decide⟩)
         · exact .inr (.inl rfl)
         exact .inl rfl
       · exact (HCL.out.fil.done HMX.out).kp ((Kp.refl (fun x=>x=gb) wr).set (.inl rfl) _ _) (by intro g hg e;injection hg with hg;exact HNE.out.2 (hg.trans e))
       rintro x ((rfl | rfl) | rfl)
       · have:=HGM.out;have:=ay HP.out.wk.me;have:=HP.out.wk.lo;omega
       · exact HPV.out.wk.row.lo.2 _ (List.mem_of_getElem? HB0.out.1) _ rfl
       exact HPV.out.wk.row.lo.1⟩
      go_roundw
      case rel=>exact ⟨n+1,fnd,_,by omega,by go_num,rfl,HPI⟩
      case measure=>simp [intOf];omega
  have hnl:n=L:=by omega
  subst hnl
  have hgl:(bs.map (·.2)).length=n:=by rw [List.length_map,EL.out]
  obtain ⟨e1,e2⟩:=HP.out.done (by rw [List.drop_eq_nil_of_le (by rw [hgl];exact Nat.le_refl _)];rfl) (by rw [List.drop_eq_nil_of_le (by rw [hgl];exact Nat.le_refl _)];rfl)
  have HE:=aa.mk (And.intro e1 e2)
  clear e1 e2 hgl
  go_wp2
  go_ret
  exact ⟨congrArg (fun x=>Ending.returned (Value.bool x)) HE.out.2.symm,⟨bsn,HE.out.1,HP.out.wk⟩,HP.out.low⟩
end Go.Proofs.Ytdkalnkplgfgoaa.Ln
