/- Lemmas and walks for the statements of the texts ZEZ..: the declarations that they need, taken together by a program of this session. Conditions: as each says. -/
import Derived.Deep.DeepCutAuto
import Derived.ArgAppend
import Derived.Test.YtdkalnkplgfgoaaZEb
import Derived.Test.YtdkalnkplgfgoaaZEc
import Derived.Test.YtdkalnkplgfgoaaZEd
import Derived.Test.YtdkalnkplgfgoaaZEf
import Derived.Test.YtdkalnkplgfgoaaZEi
set_option maxHeartbeats 8000000
set_option maxRecDepth 100000
set_option linter.unusedVariables false
set_option linter.unusedSimpArgs false
namespace Go.Proofs.Ytdkalnkplgfgoaa.Ln
open Go.RowKit Go.Maps Go.Proofs.YtdkalnkplgfgoaaW.PrintWords Go.Proofs.YtdkalnkplgfgoaaW.PrintLast Go.Proofs.YtdkalnkplgfgoaaW.PrintMore Go.Proofs.Ytdkalnkplgfgoaa.PA
theorem oz {w:World} {op:Oper} {a:Act} (s x:Operand) (hop:op.op=Op.call {callee:=Callee.builtin Builtin.append,args:=#[s,x],argTypes:=#[26,26]})
 {gc cap k:Nat} {o r:List S45} {i:S45} (hF:Fil w gc cap k o (i :: r)) (hs:a.eval s = .slice (some ⟨gc,0,none⟩) o.length cap) (j:S45) (ad:Addr) (hx:a.eval x = .slice (some ad) 1 1)
 (hnews:∀ q u,(i4 j)[q]?=some u→w.cell? (ad.add q)=some u) :
 ∃ w',(execOp a.eval op).run Try.prog w = .ok (.value (.slice (some ⟨gc,0,none⟩) (o.length+1) cap)) w'∧Fil w' gc cap (k+1) (o++[j]) r∧Kp (fun k=>k=gc) w w':=by
 obtain ⟨cur,h1,h2,h3⟩:=Fil.write (j:=j) hF
 have hle:=hF.le
 obtain ⟨i0,hi,hzz⟩:=Option.map_eq_some_iff.1 wB
 simp only [Prod.mk.injEq] at hzz
 obtain ⟨_,hs1,_⟩:=hzz
 have h4:(i4 j).length=1*i0.size:=by rw [hs1];rfl
 have hrun:=run_append_room (P:=Try.prog) w 26 op.type 45 i0 Try.underlying26 hi gc o.length cap cur h1 ad 1 1 (i4 j) h4 hnews (by intro u hu;simp only [i4,List.mem_cons,List.not_mem_nil,or_false] at hu;rcases hu with rfl | rfl | rfl | rfl<;>rfl) (by simp at hle;omega) (by rw [hs1];exact h2)
 rw [hs1] at hrun
 refine ⟨_,?_,h3 _ (setRow_heap w gc cur _ 45 _ h1),rfl,rfl,rfl,by simp [World.setRow],fun k _ hk=>setRow_other w gc k _ hk⟩
 unfold execOp
 simp [hop,resolve,invoke,builtin,hs,hx,hrun,Result.andThen]
theorem oD {ops:Array Oper} {w:World} {op:Oper} {a:Act} {K:Act→World→Prop} {Q:Exit→Act→World→Prop} (hg:op.guard=none) (s x:Operand) (hop:op.op=Op.call {callee:=Callee.builtin Builtin.append,args:=#[s,x],argTypes:=#[26,26]})
 {gc cap k:Nat} {o r:List S45} {i:S45} (hF:Fil w gc cap k o (i :: r)) (m:Nat) (ho:o.length=m) (hs:a.eval s = .slice (some ⟨gc,0,none⟩) m cap) (j:S45) (ad:Addr) (hx:a.eval x = .slice (some ad) 1 1)
 (hnews:∀ q u,(i4 j)[q]?=some u→w.cell? (ad.add q)=some u)
 (h:∀ w',Fil w' gc cap (k+1) (o++[j]) r→Kp (fun k=>k=gc) w w'→K (a.put op.dst (.slice (some ⟨gc,0,none⟩) (m+1) cap)) w') :
 if Region.wanted op (yielded ops a.tmps)=true then Oper.wp Try.prog op a w K Q else K (a.put op.dst undef) w:=by
 subst ho
 obtain ⟨w',hrun,hF',hk⟩:=oz s x hop hF hs j ad hx hnews
 rw [if_pos (by simp [Region.wanted,hg])]
 unfold Oper.wp
 rw [hrun]
 exact h w' hF' hk
theorem CdA.get {w:World} {g cap:Nat} {c:List S45} {tl:List Value} (h:CdA w g cap c tl) {q:Nat} {i:S45} (hq:c[q]?=some i) {j:Nat} (hj:j<4):w.cell? ⟨g,q*4+j,none⟩=(i4 i)[j]?:=by
 have:=(List.getElem?_eq_some_iff.1 hq).1
 rw [ae h.blk,List.getElem?_toArray,List.getElem?_append_left (by rw [kD];omega)]
 exact uD c q i hq j hj
theorem vV {l:Lw} (hl:l.length=18) (c:List S45):(bkF l c).2.1.length=18:=pg l hl c
theorem vW (l:Lw):∀ c:List S45,(bkF l c).1.length≤c.length:=by
 intro c
 induction c with
 | nil=>exact Nat.le_refl _
 | cons i r ih=>
  rw [bkF]
  split
  · exact Nat.le_succ_of_le ih
  rw [List.length_cons,List.length_cons];omega
theorem yO (l:Lw):∀ c:List S45,(bkF l c).2.2=decide ((bkF l c).1.length<c.length):=by
 intro c
 induction c with
 | nil=>rfl
 | cons i r ih=>
  have:=vW l r
  rw [bkF]
  split
  · show true=_
    rw [eq_comm,decide_eq_true_eq,List.length_cons];show (bkF l r).1.length<_;omega
  show (bkF l r).2.2=_
  rw [ih,List.length_cons,List.length_cons]
  congr 1
  rw [eq_iff_iff];omega
structure BK (w wr:World) (gl:Nat) (l:Lw) (c:List S45) (j:Nat) (vk:Value):Prop where
 kp:Kp (fun x=>x=gl) w wr
 lv:wr.heap[gl]?=some (.cells (bE (bkF l (c.drop j)).2.1) 167 (0,0))
 kept:k45.R 45 wr w.heap.size (fun _=>True) vk (bkF l (c.drop j)).1.reverse
structure BL (w wr:World) (gl gb gc cap n:Nat) (l2:Lw) (bs:List (Value × S47)) (tl:List Value) (bb:S47) (c out:List S45) (vk:Value) (j:Nat):Prop where
 kp:Kp (fun x=>x=gl∨x=gb∨x=gc) w wr
 lv:wr.heap[gl]?=some (.cells (bE l2) 167 (0,0))
 row:wr.heap[gb]?=some (.cells (bA (bs.set n (.slice (some ⟨gc,0,none⟩) j cap,bb)) tl) 47 (0,0))
 fil:Fil wr gc cap j (out.take j) (c.drop j)
 kept:k45.R 45 wr w.heap.size (fun _=>True) vk out.reverse
theorem BK.below {w wr w2:World} {gl j:Nat} {l:Lw} {c:List S45} {vk:Value} (h:BK w wr gl l c j vk) (hb:Below wr.heap.size wr w2):BK w w2 gl l c j vk:=⟨h.kp.below hb,aj h.lv hb,Kd.il h.kept hb⟩
theorem bk_skip {l:Lw} {i:S45} {r:List S45} (h1:inW (bkF l r).2.1 (wrF i)=false) (h2:decide (i.f0∈flL)=false):(bkF l (i :: r)).1=(bkF l r).1∧(bkF l (i :: r)).2.1=(bkF l r).2.1:=by
 rw [bkF,if_pos ⟨h1,of_decide_eq_false h2⟩];exact ⟨rfl,rfl⟩
theorem bk_keep {l:Lw} {i:S45} {r:List S45} (h:¬(inW (bkF l r).2.1 (wrF i)=false∧decide (i.f0∈flL)=false)):(bkF l (i :: r)).1=i :: (bkF l r).1∧(bkF l (i :: r)).2.1=rdF ((bkF l r).2.1.set (wrF i) false) i:=by
 rw [bkF,if_neg (fun q=>h ⟨q.1,decide_eq_false q.2⟩)];exact ⟨rfl,rfl⟩
theorem o6 {w:World} {base:Nat} {ok:Nat→Prop} {v:Value} {xs:List S45} (h:k45.R 45 w base ok v xs):∀ g,v.ownBlock=some g→base≤g:=by
 obtain ⟨inner,ho⟩:=Kd.qH h
 exact fun g hg=>jv ho g hg
theorem BK.skip {w wr:World} {gl q:Nat} {l:Lw} {c:List S45} {vk:Value} {i:S45} (h:BK w wr gl l c (q+1) vk) (hd:c.drop q=i :: c.drop (q+1)) (h1:inW (bkF l (c.drop (q+1))).2.1 (wrF i)=false) (h2:decide (i.f0∈flL)=false):BK w wr gl l c q vk:=by
 obtain ⟨e1,e2⟩:=bk_skip h1 h2
 exact ⟨h.kp,by rw [hd,e2];exact h.lv,by rw [hd,e1];exact h.kept⟩
theorem BK.keep {w wr w5:World} {gl q:Nat} {l:Lw} {c:List S45} {vk v1:Value} {i:S45} (hd:c.drop q=i :: c.drop (q+1)) (h:¬(inW (bkF l (c.drop (q+1))).2.1 (wrF i)=false∧decide (i.f0∈flL)=false)) (hgl:gl<w.heap.size)
 (kp:Kp (fun x=>x=gl) w wr) (hL:wr.heap[gl]?=some (.cells (bE (rdF ((bkF l (c.drop (q+1))).2.1.set (wrF i) false) i)) 167 (0,0))) (hk:k45.R 45 wr w.heap.size (fun _=>True) vk (bkF l (c.drop (q+1))).1.reverse)
 (ho:k45.R 45 w5 w.heap.size (fun _=>True) v1 ((bkF l (c.drop (q+1))).1.reverse++[i])) (hg:wr.grownBy w5 vk.ownBlock):BK w w5 gl l c q v1:=by
 obtain ⟨e1,e2⟩:=bk_keep h
 refine ⟨kp.grown hg (fun b hb => .inr (o6 hk b hb)),?_,by rw [hd,e1,List.reverse_cons];exact ho⟩
 rw [hd,e2]
 exact qJ hL hg (fun e=>by have:=o6 hk gl e.symm;omega)
theorem wX (w:World) (gl gb gc cap n:Nat) (l:Lw) (bs:List (Value × S47)) (tl:List Value) (c:List S45) (tlc:List Value) (bb:S47) (hL:w.heap[gl]?=some (.cells (bE l) 167 (0,0))) (hl:l.length=18) (hB:w.heap[gb]?=some (.cells (bA bs tl) 47 (0,0)))
 (hp:bs[n]?=some (.slice (some ⟨gc,0,none⟩) c.length cap,bb)) (hC:CdA w gc cap c tlc) (hcode:fE c=true) (hk:∀ x∈c,Rg x.f3) (hn:c.length≤4096) :
 Calls Try.prog 135 #[.pointer (some ⟨gl,0,none⟩),.pointer (some ⟨gb,n*8,none⟩)] w fun e w'=>e = .returned (.bool (bkF l c).2.2)∧w'.heap[gl]?=some (.cells (bE (bkF l c).2.1) 167 (0,0)) ∧
  w'.heap[gb]?=some (.cells (bA (bs.set n (.slice (some ⟨gc,0,none⟩) (bkF l c).1.length cap,bb)) tl) 47 (0,0))∧Cd w' (.slice (some ⟨gc,0,none⟩) (bkF l c).1.length cap) (bkF l c).1∧Kp (fun x=>x=gl∨x=gb∨x=gc) w w':=by
 have b0:w.cell? ⟨gb,n*8,none⟩=some (.slice (some ⟨gc,0,none⟩) c.length cap):=(ae hB (n*8+0)).trans (di hp (by omega))
 have hcap:cap≤9223372036854775807:=by have:=hC.max;unfold maxLen at *;omega
 have HNE:aa (gb≠gl∧gb≠gc∧gc≠gl):=⟨⟨bT hB hL (by decide),bT hB hC.blk (by decide),bT hC.blk hL (by decide)⟩⟩
 have HBK:aa (BK w w gl l c c.length (.slice none 0 0)):=⟨⟨Kp.refl _ _,by rw [List.drop_length];exact hL,by rw [List.drop_length];exact Kd.kK _ _ _ _ _⟩⟩
 have HL:=aa.mk (And.intro hL hl)
 have HB:=aa.mk hB
 have HP:=aa.mk hp
 have HC:=aa.mk hC
 have HK:=aa.mk (And.intro hcode hk)
 have HLT:=aa.mk (And.intro (ax hL) (And.intro (ax hB) (ax hC.blk)))
 clear hL hl hB hp hC hcode hk
 go_enter Try.func135,Try.ntmps135
 go_wp2
 go_loopw [5,6] (fun v5 v6 wr=>∃ (j:Nat) (z:Int),j≤c.length∧v6 = .int .i64 z∧aa (z=(j:Int) - 1)∧aa (BK w wr gl l c j v5)) (fun _ v6 _=>(intOf v6+1).toNat)
 case atStart=>exact ⟨c.length,_,Nat.le_refl _,rfl,⟨rfl⟩,HBK⟩
 case round=>
  clear HBK b0
  obtain ⟨j,z,hj,rfl,HZ,HBK⟩:=hrel
  cases j with
  | zero=>
   have hz:z = -1:=by have:=HZ.out;omega
   subst hz
   clear HZ hj
   obtain ⟨out,eout⟩:∃ out,out=(bkF l c).1:=⟨_,rfl⟩
   obtain ⟨l2,el2⟩:∃ l2,l2=(bkF l c).2.1:=⟨_,rfl⟩
   have hmle:out.length≤c.length:=by rw [eout];exact vW l c
   have HFD:=aa.mk (yO l c)
   have hR:k45.R 45 wr w.heap.size (fun _=>True) u5 out.reverse:=by have h:=HBK.out.kept;rw [List.drop_zero,←eout] at h;exact h
   have hlv:wr.heap[gl]?=some (.cells (bE l2) 167 (0,0)):=by have h:=HBK.out.lv;rw [List.drop_zero,←el2] at h;exact h
   rw [←eout] at HFD
   have EO:=aa.mk (And.intro eout el2)
   have HRR:=aa.mk hR
   have HLV:=aa.mk hlv
   have HMC:=aa.mk hmle
   clear eout el2 hlv
   have hrow:=(HBK.out.kp.block gb HLT.out.2.1 HNE.out.1).trans HB.out
   have b0:wr.cell? ⟨gb,n*8,none⟩=some (.slice (some ⟨gc,0,none⟩) c.length cap):=(ae hrow (n*8+0)).trans (di HP.out (by omega))
   have z0:wr.frozen? ⟨gb,n*8,none⟩=false:=af hrow (n*8+0)
   have HROW:=aa.mk (bJ (j:=0) hrow HP.out (.slice (some ⟨gc,0,none⟩) 0 cap,bb) (by omega) (.slice (some ⟨gc,0,none⟩) 0 cap) rfl)
   have HKW:aa (Kp (fun x=>x=gl∨x=gb∨x=gc) w (wr.setCell ⟨gb,n*8,none⟩ (.slice (some ⟨gc,0,none⟩) 0 cap))):=⟨(Kp.mono HBK.out.kp (fun x e => .inl e)).set (.inl (.inr (.inl rfl))) _ _⟩
   have HC0:aa (CdA (wr.setCell ⟨gb,n*8,none⟩ (.slice (some ⟨gc,0,none⟩) 0 cap)) gc cap c tlc):=⟨⟨df ((HBK.out.kp.block gc HLT.out.2.2 HNE.out.2.2).trans HC.out.blk) (fun e=>HNE.out.2.1 e.symm) _,HC.out.len,HC.out.max,HC.out.size⟩⟩
   have HBL0:aa (BL w (wr.setCell ⟨gb,n*8,none⟩ (.slice (some ⟨gc,0,none⟩) 0 cap)) gl gb gc cap n l2 bs tl bb c out u5 0):=⟨⟨HKW.out,df HLV.out (fun e=>HNE.out.1 e.symm) _,HROW.out,by rw [List.take_zero,List.drop_zero];exact Fil.of HC0.out,R_kp HRR.out (S:=fun x=>x=gb) (by rintro x rfl;exact .inl ⟨_,_,_,hrow,by decide⟩) ((Kp.refl (fun x=>x=gb) wr).set (.inl rfl) _ _)⟩⟩
   clear hrow
   rcases lH hR with ⟨e5,hnil⟩ | ⟨gk,capk,tlk,e5,hck⟩
   · subst e5
     have hn0:out=[]:=List.reverse_eq_nil_iff.1 hnil
     subst hn0
     clear hR hnil
     go_wp2
     go_loopw [12] (fun v12 w5=>v12 = .int .i64 (-1)∧w5=wr.setCell ⟨gb,n*8,none⟩ (.slice (some ⟨gc,0,none⟩) 0 cap)) (fun _ _=>0)
     case atStart=>exact ⟨rfl,rfl⟩
     case round=>
      obtain ⟨rfl,rfl⟩:=hrel
      go_wp2
      go_ret
      refine ⟨congrArg (fun x=>Ending.returned (Value.bool x)) (HFD.out.symm),?_⟩
      rw [←EO.out.1,←EO.out.2]
      exact ⟨HBL0.out.lv,HBL0.out.row,by simpa using HBL0.out.fil.done HC.out.max,HBL0.out.kp⟩
   subst e5
   have hgk:gk≠gl∧gk≠gb∧gk≠gc∧w.heap.size≤gk:=by have:=o6 hR gk rfl;have:=HLT.out;omega
   have HGK:=aa.mk hgk
   clear hR hck hgk
   go_wp2
   go_loopw [12] (fun v12 wr=>∃ (j:Nat) (z:Int),j≤out.length∧v12 = .int .i64 z∧aa (z=(out.length:Int) - (j:Int) - 1)∧aa (BL w wr gl gb gc cap n l2 bs tl bb c out (.slice (some ⟨gk,0,none⟩) out.reverse.length capk) j)) (fun v12 _=>(intOf v12+1).toNat)
   case atStart=>exact ⟨0,_,Nat.zero_le _,rfl,⟨by omega⟩,HBL0⟩
   case round=>
    clear HBL0 HC0 HKW HROW HLV HRR HBK b0 z0
    obtain ⟨j,z,hj,rfl,HZ,HBL⟩:=hrel
    by_cases hjm:j<out.length
    · obtain ⟨q,rfl⟩:∃ q:Nat,z=(q:Int):=⟨z.toNat,by have:=HZ.out;omega⟩
      have hqj:q=out.length - 1 - j:=by have:=HZ.out;omega
      have hgq:out.reverse[q]?=some out[j]:=by
       rw [List.getElem?_reverse (by omega),show out.length - 1 - q=j by omega,List.getElem?_eq_getElem hjm]
      have htk:out.take (j+1)=out.take j++[out[j]]:=List.take_succ_eq_append_getElem hjm
      have hcj:c.drop j=c[j]'(by have:=HMC.out;omega) :: c.drop (j+1):=List.drop_eq_getElem_cons (by have:=HMC.out;omega)
      generalize out[j]=i at hgq htk
      have hk0:Cd wr (.slice (some ⟨gk,0,none⟩) out.reverse.length capk) out.reverse:=lH HBL.out.kept
      have hcell:∀ jj,jj<4→wr.cell? ⟨gk,q*4+jj,none⟩=(i4 i)[jj]?:=by
       intro jj hjj
       rcases hk0 with ⟨e,_⟩ | ⟨g',c',t',e,hcd⟩
       · cases e
       cases e;exact hcd.get hgq hjj
      have k0:wr.cell? ⟨gk,q*4,none⟩=some (.int .u16 i.f0):=(hcell 0 (by omega)).trans rfl
      have k1:wr.cell? ⟨gk,q*4+1,none⟩=some (.int .u8 i.f1):=(hcell 1 (by omega)).trans rfl
      have k2:wr.cell? ⟨gk,q*4+2,none⟩=some (.int .u8 i.f2):=(hcell 2 (by omega)).trans rfl
      have k3:wr.cell? ⟨gk,q*4+3,none⟩=some (.int .u32 i.f3):=(hcell 3 (by omega)).trans rfl
      have c0:wr.cell? ⟨gb,n*8,none⟩=some (.slice (some ⟨gc,0,none⟩) j cap):=(ae HBL.out.row (n*8+0)).trans (di (aN HP.out) (by omega))
      have cf:wr.frozen? ⟨gb,n*8,none⟩=false:=af HBL.out.row (n*8+0)
      have i0:(0:Int)≤(q:Int):=by omega
      have i1:(q:Int)<(out.reverse.length:Int):=by rw [List.length_reverse];omega
      have i2:(q:Int)<(out.length:Int):=by omega
      have HTK:aa ((out.take j).length=j):=⟨by rw [List.length_take];omega⟩
      have HA9:aa (Below wr.heap.size wr ((wr.alloc (.cells (i4 i).toArray 45)).drew)):=⟨ak (ai (Below.refl _ _) _)⟩
      have HFA:aa (Fil ((wr.alloc (.cells (i4 i).toArray 45)).drew) gc cap j (out.take j) (c[j]'(by have:=HMC.out;omega) :: c.drop (j+1))):=⟨by have h:=HBL.out.fil.below HA9.out;rw [hcj] at h;exact h⟩
      have HRA:=aa.mk (aj HBL.out.row HA9.out)
      have HNW:aa (∀ q u,(i4 i)[q]?=some u→((wr.alloc (.cells (i4 i).toArray 45)).drew).cell? ((⟨wr.heap.size,0,none⟩:Addr).add q)=some u):=⟨by
       intro q u hu
       rw [Go.WideShapes.add_plain,Nat.zero_add]
       have:=ae (bz (iM wr (.cells (i4 i).toArray 45))) q
       rw [this,List.getElem?_toArray];exact hu⟩
      have HTT:=aa.mk htk
      have HQJ:=aa.mk hqj
      clear hgq htk hcj hk0 hcell hqj
      go_upto_region 16 with (fail)
      refine eD 14 (fun w'=>w'.cell? ⟨gb,n*8,none⟩=some (.slice (some ⟨gc,0,none⟩) j cap)∧w'.frozen? ⟨gb,n*8,none⟩=false∧w'.cell? ⟨gk,q*4,none⟩=some (.int .u16 i.f0)∧w'.cell? ⟨gk,q*4+1,none⟩=some (.int .u8 i.f1)∧w'.cell? ⟨gk,q*4+2,none⟩=some (.int .u8 i.f2)∧w'.cell? ⟨gk,q*4+3,none⟩=some (.int .u32 i.f3)) [10,13] ⟨c0,cf,k0,k1,k2,k3⟩ (fun hHeld=>?_)
      refine aH 0 83 ?_
      refine aH 1 84 ?_
      refine aH 2 85 ?_
      refine aH 3 86 ?_
      refine aH 5 88 ?_
      refine aH 6 89 ?_
      refine aH 7 90 ?_
      refine dC 4 87 hHeld ?_
      refine dC 8 91 hHeld ?_
      refine iG 9 (some 92) (fun K hK=>?_)
      refine vJ (w1:=?_) (v:=?_) (by rfl) rfl ?_ ?_
      rotate_left 2
      · go_simp
        constructor
        · rfl
        rfl
      refine hK.out _ _ ⟨(au (ak (ai (Below.refl _ _) _)) c0),(af (aj HBL.out.row (ak (ai (Below.refl _ _) _))) _),(au (ak (ai (Below.refl _ _) _)) k0),(au (ak (ai (Below.refl _ _) _)) k1),(au (ak (ai (Below.refl _ _) _)) k2),(au (ak (ai (Below.refl _ _) _)) k3)⟩ (fun hHeld=>?_)
      clear hK K
      refine eZ 92 ?_
      refine fM 10 (some 93) (fun K hK=>?_)
      refine oD (by rfl) (.tmp 87) (.tmp 92) (by rfl) HFA.out j HTK.out (by rfl) i ⟨wr.heap.size,0,none⟩ (by rfl) HNW.out ?_
      intro w7 hF7 hk7
      have HF7:=aa.mk hF7
      have HK7:=aa.mk hk7
      have HR7:=aa.mk ((hk7.block gb (ax HRA.out) HNE.out.2.1).trans HRA.out)
      have w70:w7.cell? ⟨gb,n*8,none⟩=some (.slice (some ⟨gc,0,none⟩) j cap):=(ae HR7.out (n*8+0)).trans (di (aN HP.out) (by omega))
      have w7f:w7.frozen? ⟨gb,n*8,none⟩=false:=af HR7.out (n*8+0)
      refine hK.out _ _ ?_
      clear hK K
      refine eZ 93 ?_
      refine aH 11 94 ?_
      refine aH 12 95 ?_
      refine fM 13 none (fun K hK=>?_)
      refine ik ?_
      refine hK.out _ _ ?_
      clear hK K
      refine iA (by kernel_rfl) ?_
      have HEND:aa (BL w (w7.setCell ⟨gb,n*8,none⟩ (.slice (some ⟨gc,0,none⟩) (j+1) cap)) gl gb gc cap n l2 bs tl bb c out (.slice (some ⟨gk,0,none⟩) out.reverse.length capk) (j+1)):=⟨by
       have hkk:Kp (fun x=>x=gc∨x=gb) wr (w7.setCell ⟨gb,n*8,none⟩ (.slice (some ⟨gc,0,none⟩) (j+1) cap)):=(((Kp.refl (fun x=>x=gc∨x=gb) wr).below HA9.out).trans (Kp.mono HK7.out (fun x e => .inl e))).set (.inl (.inr rfl)) _ _
       refine ⟨HBL.out.kp.trans (Kp.mono hkk (fun x e=>by rcases e with e | e;exact .inr (.inr e);exact .inr (.inl e))),(hkk.block gl (ax HBL.out.lv) (by rintro (e | e);exact HNE.out.2.2 e.symm;exact HNE.out.1 e.symm)).trans HBL.out.lv,?_,?_,?_⟩
       · have h:=bJ (j:=0) HR7.out (aN HP.out) (.slice (some ⟨gc,0,none⟩) (j+1) cap,bb) (by omega) (.slice (some ⟨gc,0,none⟩) (j+1) cap) rfl
         rw [set_set] at h;exact h
       · rw [HTT.out]
         exact HF7.out.kp ((Kp.refl (fun x=>x=gb) w7).set (.inl rfl) _ _) (fun e=>HNE.out.2.1 e.symm)
       refine Kd.ig (Kd.rq (Kd.ig (ok':=fun x=>¬(x=gc∨x=gb)) (Kd.vP rfl HBL.out.kept) ?_) (fun x hok hlt=>hkk.block x hlt hok)) (fun _ _=>trivial)
       rintro x hx (e | e)
       · (have hx2:x=gk:=Option.some.inj hx;have:=HGK.out;omega)
       (have hx2:x=gk:=Option.some.inj hx;have:=HGK.out;omega)⟩
      go_wp2
      go_roundw
      case rel=>exact ⟨j+1,_,by omega,rfl,⟨by have:=HQJ.out;omega⟩,HEND⟩
      case measure=>simp [intOf]<;>omega
    have hjl:j=out.length:=by omega
    subst hjl
    have hz:z = -1:=by have:=HZ.out;omega
    subst hz
    have HE:aa (wr.heap[gl]?=some (.cells (bE l2) 167 (0,0))∧wr.heap[gb]?=some (.cells (bA (bs.set n (.slice (some ⟨gc,0,none⟩) out.length cap,bb)) tl) 47 (0,0))∧Cd wr (.slice (some ⟨gc,0,none⟩) out.length cap) out∧Kp (fun x=>x=gl∨x=gb∨x=gc) w wr):=⟨HBL.out.lv,HBL.out.row,by have h:=HBL.out.fil.done HC.out.max;rw [List.take_length] at h;exact h,HBL.out.kp⟩
    clear HBL HZ
    go_wp2
    go_ret
    refine ⟨congrArg (fun x=>Ending.returned (Value.bool x)) (HFD.out.symm),?_⟩
    rw [←EO.out.1,←EO.out.2]
    exact HE.out
  | succ q=>
   have hz:z=(q:Int):=by have:=HZ.out;omega
   subst hz
   clear HZ
   have hq:q<c.length:=hj
   have hd:c.drop q=c[q] :: c.drop (q+1):=List.drop_eq_getElem_cons hq
   have hgq:c[q]?=some c[q]:=List.getElem?_eq_getElem hq
   have hmem:c[q]∈c:=List.getElem_mem hq
   have hst:=List.all_eq_true.1 HK.out.1 _ hmem
   have hrg:=HK.out.2 _ hmem
   generalize c[q]=i at hd hmem hst hrg hgq
   have hC2:CdA wr gc cap c tlc:=⟨(HBK.out.kp.block gc HLT.out.2.2 (fun e=>HNE.out.2.2 e)).trans HC.out.blk,HC.out.len,HC.out.max,HC.out.size⟩
   have x0:wr.cell? ⟨gc,q*4,none⟩=some (.int .u16 i.f0):=(hC2.get hgq (j:=0) (by omega)).trans rfl
   have x1:wr.cell? ⟨gc,q*4+1,none⟩=some (.int .u8 i.f1):=(hC2.get hgq (j:=1) (by omega)).trans rfl
   have x2:wr.cell? ⟨gc,q*4+2,none⟩=some (.int .u8 i.f2):=(hC2.get hgq (j:=2) (by omega)).trans rfl
   have x3:wr.cell? ⟨gc,q*4+3,none⟩=some (.int .u32 i.f3):=(hC2.get hgq (j:=3) (by omega)).trans rfl
   have b0:wr.cell? ⟨gb,n*8,none⟩=some (.slice (some ⟨gc,0,none⟩) c.length cap):=(ae ((HBK.out.kp.block gb HLT.out.2.1 (fun e=>HNE.out.1 e)).trans HB.out) (n*8+0)).trans (di HP.out (by omega))
   have i0:(0:Int)≤(q:Int):=by omega
   have i1:(q:Int)<(c.length:Int):=by omega
   have HD:=aa.mk hd
   have HST:=aa.mk (And.intro hst hrg)
   obtain ⟨R,eR⟩:∃ R,R=bkF l (c.drop (q+1)):=⟨_,rfl⟩
   have hRl:R.2.1.length=18:=by rw [eR];exact vV HL.out.2 _
   have ER:=aa.mk eR
   have HRL:=aa.mk hRl
   clear hd hmem hst hrg hgq hC2 eR hRl
   go_upto_region 6 with (fail)
   refine forget (fun W=>∃ gi,gi=wr.heap.size∧Below wr.heap.size wr W∧W.heap[gi]?=some (.cells #[.int .u16 i.f0,.int .u8 i.f1,.int .u8 i.f2,.int .u32 i.f3] 45 (0,0))) ⟨_,rfl,ai (Below.refl _ _) _,heap_alloc_new _ _⟩ ?_
   clear x0 x1 x2 x3 b0
   rintro W ⟨gi,egi,hb,hi⟩
   rw [←egi]
   have y0:=dA hi 0
   have HGI:aa (gi≠gl∧w.heap.size≤gi):=⟨by have:=ax HBK.out.lv;have:=HBK.out.kp.size;omega⟩
   have HBW:=aa.mk (HBK.out.below hb)
   have HIW:=aa.mk hi
   clear hb hi egi
   obtain ⟨fu1,fu2,hfu⟩:=zn HST.out.1 10
   have HFU:=aa.mk hfu
   obtain ⟨flt,eflt⟩:∃ flt,flt=decide (i.f0∈flL):=⟨_,rfl⟩
   rw [←eflt] at HFU
   have EFL:=aa.mk eflt.symm
   clear hfu eflt
   go_upto_region 7 with (go_at_call 100;refine (fA.calls 18 i.f0 _ _ _ _ HFU.out).mono ?_;rintro e w' ⟨rfl,⟨nd,rfl⟩⟩;have HB2:=aa.mk (HBW.out.below (aA (Below.refl W.heap.size W) nd));have HI2:=aa.mk (aj HIW.out (aA (Below.refl W.heap.size W) nd)))
   refine forget (fun V=>BK w V gl l c (q+1) u5∧V.heap[gi]?=some (.cells #[.int .u16 i.f0,.int .u8 i.f1,.int .u8 i.f2,.int .u32 i.f3] 45 (0,0))) ⟨HB2.out,HI2.out⟩ ?_
   clear HB2 HI2 HBW HIW y0 HBK
   rintro V ⟨hbk,hi⟩
   have HBK:=aa.mk hbk
   have HIV:=aa.mk hi
   clear hbk hi
   have HWF:=aa.mk (uk HST.out.1 HST.out.2 10)
   have HWL:=aa.mk (wS HST.out.1 HST.out.2)
   obtain ⟨tw,etw⟩:∃ tw,tw=wrF i:=⟨_,rfl⟩
   rw [←etw] at HWF HWL
   have hw0:(0:Int)≤(tw:Int):=by omega
   have hw1:(tw:Int)<18:=by have:=HWL.out;omega
   obtain ⟨lb,elb⟩:∃ lb,lb=inW R.2.1 tw:=⟨_,rfl⟩
   have HS7:aa (∀ Y,Below V.heap.size V Y→Y.cell? ⟨gi,0,none⟩=some (.int .u16 i.f0)∧Y.cell? ⟨gi,1,none⟩=some (.int .u8 i.f1)∧Y.cell? ⟨gi,2,none⟩=some (.int .u8 i.f2)∧Y.cell? ⟨gi,3,none⟩=some (.int .u32 i.f3)∧Y.cell? ⟨gl,tw,none⟩=some (.bool lb)):=⟨fun Y hY=>by
    have h:=aj HIV.out hY
    have h2:=aj HBK.out.lv hY
    rw [←ER.out] at h2
    exact ⟨(ae h 0).trans rfl,(ae h 1).trans rfl,(ae h 2).trans rfl,(ae h 3).trans rfl,by rw [elb];exact (ae h2 tw).trans (lu (by rw [HRL.out];exact HWL.out))⟩⟩
   have ELB:=aa.mk elb.symm
   have ETW:=aa.mk etw
   clear elb etw
   obtain ⟨y0,y1,y2,y3,y4⟩:=HS7.out V (Below.refl _ _)
   have HCASE:(lb=false∧flt=false)∨(lb=true)∨(lb=false∧flt=true):=by cases lb<;>cases flt<;>simp
   rcases HCASE with ⟨rfl,rfl⟩ | rfl | ⟨rfl,rfl⟩
   · skip
     go_region_held3 (fun w'=>w'.cell? ⟨gi,0,none⟩=some (.int .u16 i.f0)∧w'.cell? ⟨gi,1,none⟩=some (.int .u8 i.f1)∧w'.cell? ⟨gi,2,none⟩=some (.int .u8 i.f2)∧w'.cell? ⟨gi,3,none⟩=some (.int .u32 i.f3)∧w'.cell? ⟨gl,tw,none⟩=some (.bool false))
      (first | exact HS7.out _ (ak (Below.refl _ _)) | exact HS7.out _ (av (ak (Below.refl _ _)) hb3))
      ((go_at_call 133;refine (PA.dG.calls 18 i.f0 i.f1 i.f2 i.f3 _ V.drew HWF.out).mono ?_;rintro e w3 ⟨rfl,hb3⟩))
     have HB3:=aa.mk (av (ak (Below.refl V.heap.size V)) hb3)
     clear hb3 y0 y1 y2 y3 y4 HS7
     have HEND:aa (BK w w3 gl l c q u5):=⟨(HBK.out.below HB3.out).skip HD.out (by rw [←ER.out,←ETW.out];exact ELB.out) EFL.out⟩
     go_wp2
     go_roundw
     case rel=>exact ⟨q,_,by omega,rfl,⟨rfl⟩,HEND⟩
     case measure=>simp [intOf]<;>omega
   · skip
     refine eD 11 (fun w'=>w'.cell? ⟨gi,0,none⟩=some (.int .u16 i.f0)∧w'.cell? ⟨gi,1,none⟩=some (.int .u8 i.f1)∧w'.cell? ⟨gi,2,none⟩=some (.int .u8 i.f2)∧w'.cell? ⟨gi,3,none⟩=some (.int .u32 i.f3)∧w'.cell? ⟨gl,tw,none⟩=some (.bool true)) [] (HS7.out _ (ak (Below.refl _ _))) (fun hHeld=>?_)
     refine aH 0 37 ?_
     refine aH 3 40 ?_
     refine dC 1 38 hHeld ?_
     refine iG 2 (some 39) (fun K hK=>?_)
     refine gX Try.func133 #[.agg #[.int .u16 i.f0,.int .u8 i.f1,.int .u8 i.f2,.int .u32 i.f3]] ?_
     with_reducible refine (PA.dG.calls 18 i.f0 i.f1 i.f2 i.f3 _ V.drew HWF.out).mono ?_
     rintro e w3 ⟨rfl,hb3⟩
     refine ⟨_,rfl,?_⟩
     refine hK.out _ _ (HS7.out _ (av (ak (Below.refl _ _)) hb3)) (fun hHeld=>?_)
     clear hK K
     refine eZ 39 ?_
     refine aH 4 41 ?_
     refine dC 5 42 hHeld ?_
     refine aH 6 43 ?_
     refine aH 7 44 ?_
     refine ko (i:=8) (N:=some 45) (v:=undef) (a':=?_) #[true,true,true,true,true,true,true,true,true,false,false] rfl rfl (by kernel_rfl) (fun _ _ _ h=>h) (Or.inr ⟨by rfl,rfl⟩) ?_ ?_
     rotate_left
     · simp only [Act.put,List.setIfInBounds_toArray,List.set_cons_zero,List.set_cons_succ,dD,dE]
       rfl
     refine ko (i:=9) (N:=some 46) (v:=undef) (a':=?_) #[true,true,true,true,true,true,true,true,true,true,false] rfl rfl (by kernel_rfl) (fun _ _ _ h=>h) (Or.inr ⟨by rfl,rfl⟩) ?_ ?_
     rotate_left
     · simp only [Act.put,List.setIfInBounds_toArray,List.set_cons_zero,List.set_cons_succ,dD,dE]
       rfl
     refine aH 10 47 ?_
     refine iA (by kernel_rfl) ?_
     have HB3:=aa.mk (av (ak (Below.refl V.heap.size V)) hb3)
     clear hb3 y0 y1 y2 y3 y4 HS7
     go_upto_region 8 with (fail)
     refine forget (fun V=>BK w V gl l c (q+1) u5∧V.heap[gi]?=some (.cells #[.int .u16 i.f0,.int .u8 i.f1,.int .u8 i.f2,.int .u32 i.f3] 45 (0,0))) ⟨HBK.out.below HB3.out,aj HIV.out HB3.out⟩ ?_
     clear HBK HIV HB3
     rintro V ⟨hbk,hi⟩
     have HBK:=aa.mk hbk
     have HIV:=aa.mk hi
     clear hbk hi
     have HLV:aa (V.heap[gl]?=some (.cells (bE R.2.1) 167 (0,0))):=⟨by rw [ER.out];exact HBK.out.lv⟩
     have HS8:aa (∀ Y l',Y.heap[gi]?=some (.cells #[.int .u16 i.f0,.int .u8 i.f1,.int .u8 i.f2,.int .u32 i.f3] 45 (0,0))→Y.heap[gl]?=some (.cells (bE l') 167 (0,0))→l'.length=18→Y.cell? ⟨gi,0,none⟩=some (.int .u16 i.f0)∧Y.cell? ⟨gi,1,none⟩=some (.int .u8 i.f1)∧Y.cell? ⟨gi,2,none⟩=some (.int .u8 i.f2)∧Y.cell? ⟨gi,3,none⟩=some (.int .u32 i.f3)∧Y.cell? ⟨gl,tw,none⟩=some (cellV Y ⟨gl,tw,none⟩)∧Y.frozen? ⟨gl,tw,none⟩=false):=⟨fun Y l' h h2 h3=>⟨(ae h 0).trans rfl,(ae h 1).trans rfl,(ae h 2).trans rfl,(ae h 3).trans rfl,kS ((ae h2 tw).trans (lu (by rw [h3];exact HWL.out))),af h2 tw⟩⟩
     obtain ⟨y0,y1,y2,y3,y4,y5⟩:=HS8.out V _ HIV.out HLV.out HRL.out
     have HPT:aa (∀ Y,Below V.heap.size V Y→(Y.setCell ⟨gl,tw,none⟩ (.bool false)).heap[gl]?=some (.cells (bE (R.2.1.set tw false)) 167 (0,0))∧(Y.setCell ⟨gl,tw,none⟩ (.bool false)).heap[gi]?=some (.cells #[.int .u16 i.f0,.int .u8 i.f1,.int .u8 i.f2,.int .u32 i.f3] 45 (0,0))∧Kp (fun x=>x=gl) V (Y.setCell ⟨gl,tw,none⟩ (.bool false))):=⟨fun Y hY=>⟨aM (aj HLV.out hY) tw _ (qi false),df (aj HIV.out hY) HGI.out.1 _,((Kp.refl (fun x=>x=gl) V).below hY).set (.inl rfl) _ _⟩⟩
     go_region_held3 (fun w'=>w'.cell? ⟨gi,0,none⟩=some (.int .u16 i.f0)∧w'.cell? ⟨gi,1,none⟩=some (.int .u8 i.f1)∧w'.cell? ⟨gi,2,none⟩=some (.int .u8 i.f2)∧w'.cell? ⟨gi,3,none⟩=some (.int .u32 i.f3)∧w'.cell? ⟨gl,tw,none⟩=some (cellV w' ⟨gl,tw,none⟩)∧w'.frozen? ⟨gl,tw,none⟩=false)
      (first | exact HS8.out _ _ (aj HIV.out (ak (Below.refl _ _))) (aj HLV.out (ak (Below.refl _ _))) HRL.out | exact HS8.out _ _ (aj HIV.out (av (ak (Below.refl _ _)) hb3)) (aj HLV.out (av (ak (Below.refl _ _)) hb3)) HRL.out | exact HS8.out _ _ (HPT.out _ (av (ak (Below.refl _ _)) hb3)).2.1 (HPT.out _ (av (ak (Below.refl _ _)) hb3)).1 (by rw [List.length_set];exact HRL.out))
      ((go_at_call 133;refine (PA.dG.calls 18 i.f0 i.f1 i.f2 i.f3 _ V.drew HWF.out).mono ?_;rintro e w3 ⟨rfl,hb3⟩))
     have HB3:=aa.mk (av (ak (Below.refl V.heap.size V)) hb3)
     clear hb3 y0 y1 y2 y3 y4 y5 HS8
     go_upto_region 9 with (fail)
     refine forget (fun U=>Kp (fun x=>x=gl) V U∧U.heap[gl]?=some (.cells (bE (R.2.1.set tw false)) 167 (0,0))∧U.heap[gi]?=some (.cells #[.int .u16 i.f0,.int .u8 i.f1,.int .u8 i.f2,.int .u32 i.f3] 45 (0,0))) ⟨(HPT.out _ HB3.out).2.2,(HPT.out _ HB3.out).1,(HPT.out _ HB3.out).2.1⟩ ?_
     clear HPT HB3
     rintro U ⟨hku,hlu,hiu⟩
     obtain ⟨y0,y1,y2,y3,-,-,-,-⟩:=cz4 ⟨hiu⟩
     have HRD:=aa.mk (kr U gl (R.2.1.set tw false) i hlu (by rw [List.length_set];exact HRL.out) HST.out.2 (.inl HST.out.1))
     unfold fD at HRD
     have HU:=aa.mk (And.intro hku hiu)
     clear hku hlu hiu
     go_upto_region 10 with (go_at_call 134;refine HRD.out.mono ?_;rintro e X ⟨rfl,hlx,hkx⟩;have HX:=aa.mk (And.intro hlx (And.intro (HU.out.1.trans hkx) ((hkx.block gi (ax HU.out.2) HGI.out.1).trans HU.out.2)));clear hlx hkx)
     obtain ⟨z0,z1,z2,z3,-,-,-,-⟩:=cz4 ⟨HX.out.2.2⟩
     have HKX:aa (k45.R 45 X w.heap.size (fun _=>True) u5 R.1.reverse):=⟨by
      have h:=HBK.out.kept
      rw [←ER.out] at h
      exact R_kp h (by rintro x rfl;exact .inl ⟨_,_,_,HLV.out,by decide⟩) HX.out.2.1⟩
     have HSZ:aa (w.heap.size≤X.heap.size∧(R.1.reverse.length+1)*8≤140737488355328):=⟨by
      have h1:=HBK.out.kp.size
      have h2:=HX.out.2.1.size
      have h3:=vW l (c.drop (q+1))
      rw [←ER.out,List.length_drop] at h3
      rw [List.length_reverse]
      omega⟩
     clear y0 y1 y2 y3 HRD
     go_wp2_with (at_builtin;go_loud ((refine Kd.jm k45 (w0:=X) (W:=X) w.heap.size rfl (.tmp 56) (.tmp 58) 26 45 (.agg #[.int .u16 0,.int .u8 0,.int .u8 0,.int .u32 0]) 8 rfl Try.underlying26 l9 rfl (by decide) (by decide) _ _ i (i4 i) (fun _=>True) (fun _=>False) rfl rfl (kG _ _ _ i) (fun _ h=>h.elim) (fun _ _=>trivial) HKX.out (Below.refl _ _) HSZ.out.1 HSZ.out.2 ?_);intro v1 w5 ho hb5 hg hat;have HN:=aa.mk (And.intro ho hg);clear ho hb5 hg hat))
     have HEND:aa (BK w w5 gl l c q v1):=⟨by
      have h1:=HX.out.1
      have h2:=HKX.out
      have h3:=HN.out.1
      have h4:=HBK.out.kp.trans HX.out.2.1
      rw [ETW.out] at h1
      rw [ER.out] at h1 h2 h3
      refine BK.keep HD.out ?_ HLT.out.1 h4 h1 h2 h3 HN.out.2
      rw [←ER.out,←ETW.out]
      rintro ⟨h5,h6⟩
      rw [ELB.out] at h5;cases h5⟩
     clear HN HKX HX HU HBK
     go_roundw
     case rel=>exact ⟨q,_,by omega,rfl,⟨rfl⟩,HEND⟩
     case measure=>simp [intOf]<;>omega
   skip
   go_region_held3 (fun w'=>w'.cell? ⟨gi,0,none⟩=some (.int .u16 i.f0)∧w'.cell? ⟨gi,1,none⟩=some (.int .u8 i.f1)∧w'.cell? ⟨gi,2,none⟩=some (.int .u8 i.f2)∧w'.cell? ⟨gi,3,none⟩=some (.int .u32 i.f3)∧w'.cell? ⟨gl,tw,none⟩=some (.bool false))
    (first | exact HS7.out _ (ak (Below.refl _ _)) | exact HS7.out _ (av (ak (Below.refl _ _)) hb3))
    ((go_at_call 133;refine (PA.dG.calls 18 i.f0 i.f1 i.f2 i.f3 _ V.drew HWF.out).mono ?_;rintro e w3 ⟨rfl,hb3⟩))
   have HB3:=aa.mk (av (ak (Below.refl V.heap.size V)) hb3)
   clear hb3 y0 y1 y2 y3 y4 HS7
   go_upto_region 8 with (fail)
   refine forget (fun V=>BK w V gl l c (q+1) u5∧V.heap[gi]?=some (.cells #[.int .u16 i.f0,.int .u8 i.f1,.int .u8 i.f2,.int .u32 i.f3] 45 (0,0))) ⟨HBK.out.below HB3.out,aj HIV.out HB3.out⟩ ?_
   clear HBK HIV HB3
   rintro V ⟨hbk,hi⟩
   have HBK:=aa.mk hbk
   have HIV:=aa.mk hi
   clear hbk hi
   have HLV:aa (V.heap[gl]?=some (.cells (bE R.2.1) 167 (0,0))):=⟨by rw [ER.out];exact HBK.out.lv⟩
   have HS8:aa (∀ Y l',Y.heap[gi]?=some (.cells #[.int .u16 i.f0,.int .u8 i.f1,.int .u8 i.f2,.int .u32 i.f3] 45 (0,0))→Y.heap[gl]?=some (.cells (bE l') 167 (0,0))→l'.length=18→Y.cell? ⟨gi,0,none⟩=some (.int .u16 i.f0)∧Y.cell? ⟨gi,1,none⟩=some (.int .u8 i.f1)∧Y.cell? ⟨gi,2,none⟩=some (.int .u8 i.f2)∧Y.cell? ⟨gi,3,none⟩=some (.int .u32 i.f3)∧Y.cell? ⟨gl,tw,none⟩=some (cellV Y ⟨gl,tw,none⟩)∧Y.frozen? ⟨gl,tw,none⟩=false):=⟨fun Y l' h h2 h3=>⟨(ae h 0).trans rfl,(ae h 1).trans rfl,(ae h 2).trans rfl,(ae h 3).trans rfl,kS ((ae h2 tw).trans (lu (by rw [h3];exact HWL.out))),af h2 tw⟩⟩
   obtain ⟨y0,y1,y2,y3,y4,y5⟩:=HS8.out V _ HIV.out HLV.out HRL.out
   have HPT:aa (∀ Y,Below V.heap.size V Y→(Y.setCell ⟨gl,tw,none⟩ (.bool false)).heap[gl]?=some (.cells (bE (R.2.1.set tw false)) 167 (0,0))∧(Y.setCell ⟨gl,tw,none⟩ (.bool false)).heap[gi]?=some (.cells #[.int .u16 i.f0,.int .u8 i.f1,.int .u8 i.f2,.int .u32 i.f3] 45 (0,0))∧Kp (fun x=>x=gl) V (Y.setCell ⟨gl,tw,none⟩ (.bool false))):=⟨fun Y hY=>⟨aM (aj HLV.out hY) tw _ (qi false),df (aj HIV.out hY) HGI.out.1 _,((Kp.refl (fun x=>x=gl) V).below hY).set (.inl rfl) _ _⟩⟩
   go_region_held3 (fun w'=>w'.cell? ⟨gi,0,none⟩=some (.int .u16 i.f0)∧w'.cell? ⟨gi,1,none⟩=some (.int .u8 i.f1)∧w'.cell? ⟨gi,2,none⟩=some (.int .u8 i.f2)∧w'.cell? ⟨gi,3,none⟩=some (.int .u32 i.f3)∧w'.cell? ⟨gl,tw,none⟩=some (cellV w' ⟨gl,tw,none⟩)∧w'.frozen? ⟨gl,tw,none⟩=false)
    (first | exact HS8.out _ _ (aj HIV.out (ak (Below.refl _ _))) (aj HLV.out (ak (Below.refl _ _))) HRL.out | exact HS8.out _ _ (aj HIV.out (av (ak (Below.refl _ _)) hb3)) (aj HLV.out (av (ak (Below.refl _ _)) hb3)) HRL.out | exact HS8.out _ _ (HPT.out _ (av (ak (Below.refl _ _)) hb3)).2.1 (HPT.out _ (av (ak (Below.refl _ _)) hb3)).1 (by rw [List.length_set];exact HRL.out))
    ((go_at_call 133;refine (PA.dG.calls 18 i.f0 i.f1 i.f2 i.f3 _ V.drew HWF.out).mono ?_;rintro e w3 ⟨rfl,hb3⟩))
   have HB3:=aa.mk (av (ak (Below.refl V.heap.size V)) hb3)
   clear hb3 y0 y1 y2 y3 y4 y5 HS8
   go_upto_region 9 with (fail)
   refine forget (fun U=>Kp (fun x=>x=gl) V U∧U.heap[gl]?=some (.cells (bE (R.2.1.set tw false)) 167 (0,0))∧U.heap[gi]?=some (.cells #[.int .u16 i.f0,.int .u8 i.f1,.int .u8 i.f2,.int .u32 i.f3] 45 (0,0))) ⟨(HPT.out _ HB3.out).2.2,(HPT.out _ HB3.out).1,(HPT.out _ HB3.out).2.1⟩ ?_
   clear HPT HB3
   rintro U ⟨hku,hlu,hiu⟩
   obtain ⟨y0,y1,y2,y3,-,-,-,-⟩:=cz4 ⟨hiu⟩
   have HRD:=aa.mk (kr U gl (R.2.1.set tw false) i hlu (by rw [List.length_set];exact HRL.out) HST.out.2 (.inl HST.out.1))
   unfold fD at HRD
   have HU:=aa.mk (And.intro hku hiu)
   clear hku hlu hiu
   go_upto_region 10 with (go_at_call 134;refine HRD.out.mono ?_;rintro e X ⟨rfl,hlx,hkx⟩;have HX:=aa.mk (And.intro hlx (And.intro (HU.out.1.trans hkx) ((hkx.block gi (ax HU.out.2) HGI.out.1).trans HU.out.2)));clear hlx hkx)
   obtain ⟨z0,z1,z2,z3,-,-,-,-⟩:=cz4 ⟨HX.out.2.2⟩
   have HKX:aa (k45.R 45 X w.heap.size (fun _=>True) u5 R.1.reverse):=⟨by
    have h:=HBK.out.kept
    rw [←ER.out] at h
    exact R_kp h (by rintro x rfl;exact .inl ⟨_,_,_,HLV.out,by decide⟩) HX.out.2.1⟩
   have HSZ:aa (w.heap.size≤X.heap.size∧(R.1.reverse.length+1)*8≤140737488355328):=⟨by
    have h1:=HBK.out.kp.size
    have h2:=HX.out.2.1.size
    have h3:=vW l (c.drop (q+1))
    rw [←ER.out,List.length_drop] at h3
    rw [List.length_reverse]
    omega⟩
   clear y0 y1 y2 y3 HRD
   go_wp2_with (at_builtin;go_loud ((refine Kd.jm k45 (w0:=X) (W:=X) w.heap.size rfl (.tmp 56) (.tmp 58) 26 45 (.agg #[.int .u16 0,.int .u8 0,.int .u8 0,.int .u32 0]) 8 rfl Try.underlying26 l9 rfl (by decide) (by decide) _ _ i (i4 i) (fun _=>True) (fun _=>False) rfl rfl (kG _ _ _ i) (fun _ h=>h.elim) (fun _ _=>trivial) HKX.out (Below.refl _ _) HSZ.out.1 HSZ.out.2 ?_);intro v1 w5 ho hb5 hg hat;have HN:=aa.mk (And.intro ho hg);clear ho hb5 hg hat))
   have HEND:aa (BK w w5 gl l c q v1):=⟨by
    have h1:=HX.out.1
    have h2:=HKX.out
    have h3:=HN.out.1
    have h4:=HBK.out.kp.trans HX.out.2.1
    rw [ETW.out] at h1
    rw [ER.out] at h1 h2 h3
    refine BK.keep HD.out ?_ HLT.out.1 h4 h1 h2 h3 HN.out.2
    rw [←ER.out,←ETW.out]
    rintro ⟨h5,h6⟩
    rw [EFL.out] at h6;cases h6⟩
   clear HN HKX HX HU HBK
   go_roundw
   case rel=>exact ⟨q,_,by omega,rfl,⟨rfl⟩,HEND⟩
   case measure=>simp [intOf]<;>omega
theorem yL (w:World) (gl gb n:Nat) (bs:List (Value × S47)) (tl:List Value) (bb:S47) (hB:w.heap[gb]?=some (.cells (bA bs tl) 47 (0,0))) (hp:bs[n]?=some (.slice none 0 0,bb)) :
 Calls Try.prog 135 #[.pointer (some ⟨gl,0,none⟩),.pointer (some ⟨gb,n*8,none⟩)] w fun e w'=>e = .returned (.bool false)∧w'.heap[gb]?=some (.cells (bA bs tl) 47 (0,0))∧Kp (fun x=>x=gb) w w':=by
 have b0:w.cell? ⟨gb,n*8,none⟩=some (.slice none 0 0):=(ae hB (n*8+0)).trans (di hp (by omega))
 have z0:w.frozen? ⟨gb,n*8,none⟩=false:=af hB (n*8+0)
 have HROW:=aa.mk (by have h:=bJ (j:=0) hB hp (.slice none 0 0,bb) (by omega) (.slice none 0 0) rfl;rw [set_self hp] at h;exact h)
 have HKR:=aa.mk ((Kp.refl (fun x=>x=gb) w).set (.inl rfl) (n*8) (.slice none 0 0))
 clear hB hp
 go_enter Try.func135,Try.ntmps135
 go_wp2
 go_loopw [5,6] (fun v5 v6 w5=>v5 = .slice none 0 0∧v6 = .int .i64 (-1)∧w5=w) (fun _ _ _=>0)
 case atStart=>exact ⟨rfl,rfl,rfl⟩
 case round=>
  obtain ⟨rfl,rfl,rfl⟩:=hrel
  go_wp2
  go_loopw [12] (fun v12 w5=>v12 = .int .i64 (-1)∧w5=wr.setCell ⟨gb,n*8,none⟩ (.slice none 0 0)) (fun _ _=>0)
  case atStart=>exact ⟨rfl,rfl⟩
  case round=>
   obtain ⟨rfl,rfl⟩:=hrel
   go_wp2
   go_ret
   exact ⟨rfl,HROW.out,HKR.out⟩
theorem l7 (w:World) (gl gb n:Nat) (l:Lw) (bs:List (Value × S47)) (tl:List Value) (v:Value) (c:List S45) (bb:S47) (hL:w.heap[gl]?=some (.cells (bE l) 167 (0,0))) (hl:l.length=18) (hB:w.heap[gb]?=some (.cells (bA bs tl) 47 (0,0)))
 (hp:bs[n]?=some (v,bb)) (hC:Cd w v c) (hcode:fE c=true) (hk:∀ x∈c,Rg x.f3) (hn:c.length≤4096) :
 Calls Try.prog 135 #[.pointer (some ⟨gl,0,none⟩),.pointer (some ⟨gb,n*8,none⟩)] w fun e w'=>e = .returned (.bool (bkF l c).2.2)∧w'.heap[gl]?=some (.cells (bE (bkF l c).2.1) 167 (0,0)) ∧
  (∃ v',v'.ownBlock=v.ownBlock∧w'.heap[gb]?=some (.cells (bA (bs.set n (v',bb)) tl) 47 (0,0))∧Cd w' v' (bkF l c).1)∧Kp (fun x=>x=gl∨x=gb∨some x=v.ownBlock) w w':=by
 rcases hC with ⟨rfl,rfl⟩ | ⟨g,cap,tlc,rfl,hC⟩
 · refine (yL w gl gb n bs tl bb hB hp).mono ?_
   rintro e w' ⟨he,hb,hk⟩
   refine ⟨he,(hk.block gl (ax hL) (fun e=>bT hB hL (by decide) e.symm)).trans hL,⟨_,rfl,by rw [set_self hp];exact hb,.inl ⟨rfl,rfl⟩⟩,Kp.mono hk (fun x h => .inr (.inl h))⟩
 refine (wX w gl gb g cap n l bs tl c tlc bb hL hl hB hp hC hcode hk hn).mono ?_
 rintro e w' ⟨he,hs,hb,hc,hk⟩
 exact ⟨he,hs,⟨.slice (some ⟨g,0,none⟩) (bkF l c).1.length cap,rfl,hb,hc⟩,Kp.mono hk (fun x h=>by rcases h with h | h | h;exact .inl h;exact .inr (.inl h);exact .inr (.inr (by rw [h];rfl)))⟩
def f18 (l:Lw):List Value:=(List.range 18).map fun j => .bool (inW l j)
theorem fQ (l:Lw):(f18 l).length=18:=by unfold f18;rw [List.length_map,List.length_range]
theorem j4 (l:Lw):∀ u∈f18 l,u.oneCell'=true:=by
 intro u hu
 obtain ⟨o,_,rfl⟩:=List.mem_map.1 hu
 rfl
theorem pG {l:Lw} (h:l.length=18):bE l=(f18 l).toArray:=by
 unfold bE f18
 congr 1
 apply List.ext_getElem?
 intro i
 rw [List.getElem?_map,List.getElem?_map]
 by_cases hi:i<18
 · rw [List.getElem?_range hi,List.getElem?_eq_getElem (by omega)]
   unfold inW
   rw [Option.map_some,Option.map_some,List.getD_eq_getElem?_getD,List.getElem?_eq_getElem (by omega)];rfl
 rw [List.getElem?_eq_none (by omega),List.getElem?_eq_none (by rw [List.length_range];omega)];rfl
theorem wR {l:Lw} (h:l.length=18):(bE l).size=18:=by unfold bE;rw [List.size_toArray,List.length_map];exact h
theorem info_wo:(Try.prog.info? 167).map (fun i=>(i.zero,i.size,i.bytes))=some (some (.agg (f18 noW).toArray),18,18):=by kernel_rfl
theorem dU:(Try.prog.info? 167).map (·.size)=some 18:=by kernel_rfl
theorem uO (L:Nat) (hL:L≤4096) (W:World):(Instr.makeSlice 165 (.int .i64 (L:Int)) (.int .i64 (L:Int))).run Try.prog W = .ok (.slice (some ⟨W.heap.size,0,none⟩) L L) (W.alloc (.cells ((List.replicate L noW).flatMap f18).toArray 167)):=by
 obtain ⟨i,hi,hzz⟩:=Option.map_eq_some_iff.1 info_wo
 simp only [Prod.mk.injEq] at hzz
 obtain ⟨hz,hs,hb⟩:=hzz
 have h:=run_make (P:=Try.prog) W 165 167 i _ Try.underlying165 hi hz .i64 .i64 L L (by omega) (Int.le_refl _) (by rw [hb];omega) (by omega)
 rw [Int.toNat_natCast,hs] at h
 have e:=jL f18 noW 18 (fQ _) L
 refine h.trans ?_
 show Result.ok _ (World.alloc W (.cells (madeCells (f18 noW).toArray (L*18)) 167))=_
 rw [e]
structure PD (w wr:World) (B:Bs) (gw gb cap:Nat) (tl:List Value) (L:Nat) (G:List S47) (ga:Nat) (j:Nat) (f:Bool) (bs:List (Value × S47)) (A:List Lw):Prop where
 wk:Wk wr B gw gb cap bs tl
 low:Below B.n w wr
 len:bs.length=L
 pre:(bs.map (·.2)).take j=G.take j
 post:(bs.map (·.2)).drop j=(ddL (G.drop j) j).1
 at_:wr.heap[ga]?=some (.cells (A.flatMap f18).toArray 167 (0,0))
 al:A.length=L
 ad:A.drop j=(ddL (G.drop j) j).2.1
 fnd:f=(ddL (G.drop j) j).2.2
 lo:B.n≤ga
section
variable {w wr w2:World} {B:Bs} {gw gb cap L j ga:Nat} {tl:List Value} {G:List S47} {f:Bool} {bs:List (Value × S47)} {A:List Lw}
theorem PD.get (h:PD w wr B gw gb cap tl L G ga (j+1) f bs A) (hj:j<L) (hG:G.length=L):∃ v b,bs[j]?=some (v,b)∧G[j]?=some b∧G.drop j=b :: G.drop (j+1):=by
 have h1:j<bs.length:=by rw [h.len];exact hj
 have h2:((bs.map (·.2)).take (j+1))[j]?=(G.take (j+1))[j]?:=by rw [h.pre]
 rw [List.getElem?_take,List.getElem?_take,if_pos (by omega),if_pos (by omega),List.getElem?_map,List.getElem?_eq_getElem h1,Option.map_some] at h2
 obtain ⟨h4,h5⟩:=List.getElem?_eq_some_iff.1 h2.symm
 exact ⟨bs[j].1,bs[j].2,List.getElem?_eq_getElem h1,h2.symm,by rw [List.drop_eq_getElem_cons h4,h5]⟩
theorem PD.below (h:PD w wr B gw gb cap tl L G ga j f bs A) (hb:Below wr.heap.size wr w2):PD w w2 B gw gb cap tl L G ga j f bs A:=
 ⟨h.wk.below hb,h.low.trans ⟨hb.os,hb.tape,hb.output,hb.size,fun i hi=>hb.block i (by have:=ax h.wk.me;have:=h.wk.lo;omega)⟩,h.len,h.pre,h.post,aj h.at_ hb,h.al,h.ad,h.fnd,h.lo⟩
theorem PD.kp {gl:Nat} {cs:Array Value} (h:PD w wr B gw gb cap tl L G ga j f bs A) (hk:Kp (fun x=>x=gl) wr w2) (hl:wr.heap[gl]?=some (.cells cs 167 (0,0))) (hne:gl≠ga) (hB:B.n≤gl):PD w w2 B gw gb cap tl L G ga j f bs A:=
 ⟨h.wk.kp hk (by rintro x rfl;exact ⟨_,_,_,hl,by decide,by decide,by decide⟩),Kp.iO h.low hk (by have:=ax h.wk.me;have:=h.wk.lo;omega) (by rintro x rfl;exact hB),h.len,h.pre,h.post,(hk.block ga (ax h.at_) (fun e=>hne e.symm)).trans h.at_,h.al,h.ad,h.fnd,h.lo⟩
theorem PD.lv (h:PD w wr B gw gb cap tl L G ga (j+1) f bs A) {y:Int} (h1:(j:Int)<y) (h2:y<L):(ddL (G.drop (j+1)) (j+1)).2.1.getD (y.toNat - (j+1)) noW=A.getD y.toNat noW:=by
 rw [←h.ad,List.getD_eq_getElem?_getD,List.getD_eq_getElem?_getD,List.getElem?_drop]
 congr 2;omega
theorem PD.next {l:Lw} {v v':Value} {b:S47} {f2:Bool} (h:PD w wr B gw gb cap tl L G ga (j+1) f bs A) (hb:bs[j]?=some (v,b)) (hG:G.drop j=b :: G.drop (j+1)) (hl:l=lvF b ((ddL (G.drop (j+1)) (j+1)).2.1.getD (b.f3.toNat - (j+1)) noW) ((ddL (G.drop (j+1)) (j+1)).2.1.getD (b.f4.toNat - (j+1)) noW))
 (hwk:Wk w2 B gw gb cap (bs.set j (v',⟨(bkF l b.f0).1,b.f1,b.f2,b.f3,b.f4⟩)) tl) (hlow:Below B.n w w2) (hat:w2.heap[ga]?=some (.cells ((A.set j (bkF l b.f0).2.1).flatMap f18).toArray 167 (0,0))) (hf:f2=((bkF l b.f0).2.2||f)) :
 PD w w2 B gw gb cap tl L G ga j f2 (bs.set j (v',⟨(bkF l b.f0).1,b.f1,b.f2,b.f3,b.f4⟩)) (A.set j (bkF l b.f0).2.1):=by
 have hj:=mR hb
 have hjA:j<A.length:=by rw [h.al,←h.len];exact hj
 have hd:ddL (G.drop j) j=(⟨(bkF l b.f0).1,b.f1,b.f2,b.f3,b.f4⟩ :: (ddL (G.drop (j+1)) (j+1)).1,(bkF l b.f0).2.1 :: (ddL (G.drop (j+1)) (j+1)).2.1,(bkF l b.f0).2.2||(ddL (G.drop (j+1)) (j+1)).2.2):=by
  rw [hG,ddL,hl]
 refine ⟨hwk,hlow,by rw [List.length_set];exact h.len,?_,?_,hat,by rw [List.length_set];exact h.al,?_,?_,h.lo⟩
 · rw [List.map_set,List.take_set_of_le (Nat.le_refl _)]
   have:=congrArg (List.take j) h.pre
   rw [List.take_take,List.take_take,Nat.min_eq_left (by omega)] at this
   exact this
 · have hl2:j<((bs.set j (v',⟨(bkF l b.f0).1,b.f1,b.f2,b.f3,b.f4⟩)).map (·.2)).length:=by rw [List.length_map,List.length_set];exact hj
   rw [hd,List.drop_eq_getElem_cons hl2]
   have e1:((bs.set j (v',⟨(bkF l b.f0).1,b.f1,b.f2,b.f3,b.f4⟩)).map (·.2))[j]=⟨(bkF l b.f0).1,b.f1,b.f2,b.f3,b.f4⟩:=by
    have:=List.getElem?_eq_getElem hl2
    rw [List.getElem?_map,aN hb] at this
    exact (Option.some.inj this).symm
   rw [e1,List.map_set,List.drop_set_of_lt (by omega),h.post]
 · have hl2:j<(A.set j (bkF l b.f0).2.1).length:=by rw [List.length_set];exact hjA
   rw [hd,List.drop_eq_getElem_cons hl2,List.getElem_set_self,List.drop_set_of_lt (by omega),h.ad]
 rw [hf,hd,←h.fnd]
end
def orP (y m:Lw) (k:Nat):Lw:=(List.range 18).map (fun j=>inW y j||(decide (j<k)&&inW m j))
theorem lS (y m:Lw) (k:Nat):(orP y m k).length=18:=by unfold orP;rw [List.length_map,List.length_range]
theorem pQ {y m:Lw} {k j:Nat} (hj:j<18):inW (orP y m k) j=(inW y j||(decide (j<k)&&inW m j)):=by unfold orP;rw [iw,decide_eq_true hj,Bool.true_and]
theorem uN {a b:Lw} (ha:a.length=18) (hb:b.length=18) (h:∀ j,j<18→inW a j=inW b j):a=b:=by
 apply List.ext_getElem
 · rw [ha,hb]
 intro j h1 h2
 have:=h j (by omega)
 unfold inW at this
 rw [List.getD_eq_getElem?_getD,List.getD_eq_getElem?_getD,List.getElem?_eq_getElem h1,List.getElem?_eq_getElem h2] at this
 exact this
theorem orP_0 {y:Lw} (m:Lw) (hy:y.length=18):orP y m 0=y:=uN (lS _ _ _) hy (fun j hj=>by rw [pQ hj,decide_eq_false (by omega)];simp)
theorem Bg {y m:Lw} {k:Nat} (hk:k<18):(orP y m k).set k (inW y k||inW m k)=orP y m (k+1):=by
 refine uN (by rw [List.length_set];exact lS _ _ _) (lS _ _ _) (fun j hj=>?_)
 rw [iE (by rw [lS];exact hk),pQ (k:=k+1) hj]
 by_cases e:k=j
 · subst e;rw [if_pos rfl,decide_eq_true (by omega),Bool.true_and]
 rw [if_neg e,pQ hj]
 congr 2
 by_cases q:j<k
 · rw [decide_eq_true q,decide_eq_true (by omega)]
 rw [decide_eq_false q,decide_eq_false (by omega)]
theorem orP_18 (y m:Lw):orP y m 18=(List.range 18).map (fun j=>inW y j||inW m j):=by
 refine uN (lS _ _ _) (by rw [List.length_map,List.length_range]) (fun j hj=>?_)
 rw [pQ hj,iw,decide_eq_true hj];simp
structure DM (w X:World) (B:Bs) (gw gb cap:Nat) (tl:List Value) (L:Nat) (G:List S47) (ga gl j:Nat) (f:Bool) (bs:List (Value × S47)) (A:List Lw) (l:Lw):Prop where
 pd:PD w X B gw gb cap tl L G ga j f bs A
 lv:X.heap[gl]?=some (.cells (bE l) 167 (0,0))
 ne:gl≠ga∧B.n≤gl
theorem DM.put {w X Y:World} {B:Bs} {gw gb cap:Nat} {tl:List Value} {L:Nat} {G:List S47} {ga gl j:Nat} {f:Bool} {bs:List (Value × S47)} {A:List Lw} {l l':Lw} (h:DM w X B gw gb cap tl L G ga gl j f bs A l) (hk:Kp (fun x=>x=gl) X Y) (hl:Y.heap[gl]?=some (.cells (bE l') 167 (0,0))):DM w Y B gw gb cap tl L G ga gl j f bs A l':=
 ⟨h.pd.kp hk h.lv h.ne.1 h.ne.2,hl,h.ne⟩
theorem DM.xk {w X Y Z:World} {B:Bs} {gw gb cap:Nat} {tl:List Value} {L:Nat} {G:List S47} {ga gl j:Nat} {f:Bool} {bs:List (Value × S47)} {A:List Lw} {l:Lw} {v v':Value} {b:S47} {f2:Bool} (h:DM w X B gw gb cap tl L G ga gl (j+1) f bs A l) (hb:bs[j]?=some (v,b)) (hG:G.drop j=b :: G.drop (j+1))
 (hl:l=lvF b ((ddL (G.drop (j+1)) (j+1)).2.1.getD (b.f3.toNat - (j+1)) noW) ((ddL (G.drop (j+1)) (j+1)).2.1.getD (b.f4.toNat - (j+1)) noW)) (hv:v'.ownBlock=v.ownBlock) (hr:Y.heap[gb]?=some (.cells (bA (bs.set j (v',b)) tl) 47 (0,0))) (hc:Cd Y v' (bkF l b.f0).1)
 (hk:Kp (fun x=>x=gl∨x=gb∨some x=v.ownBlock) X Y) (hz:Z.heap[ga]?=some (.cells ((A.set j (bkF l b.f0).2.1).flatMap f18).toArray 167 (0,0))) (hkz:Kp (fun x=>x=ga) Y Z) (hf:f2=((bkF l b.f0).2.2||f)) :
 PD w Z B gw gb cap tl L G ga j f2 (bs.set j (v',⟨(bkF l b.f0).1,b.f1,b.f2,b.f3,b.f4⟩)) (A.set j (bkF l b.f0).2.1):=by
 have hkk:Kp (fun x=>(x=gl∨x=gb∨some x=v.ownBlock)∨x=ga) X Z:=(Kp.mono hk (fun x e => .inl e)).trans (Kp.mono hkz (fun x e => .inr e))
 have hgb:gb≠ga:=fun e=>by have h1:=h.pd.wk.row.row;have h2:=h.pd.at_;rw [e] at h1;exact bT h1 h2 (by decide) rfl
 refine h.pd.next hb hG hl (h.pd.wk.step hb hkk ?_ ?_ ?_ (fun g hg => .inl (by rw [←hv];exact hg))) (Kp.iO h.pd.low hkk (by have:=ax h.pd.wk.me;have:=h.pd.wk.lo;omega) ?_) hz hf
 · rintro x ((rfl | rfl | e) | rfl)
   · exact .inr (.inr ⟨_,_,_,h.lv,by decide,by decide,by decide⟩)
   · exact .inl rfl
   · exact .inr (.inl e)
   exact .inr (.inr ⟨_,_,_,h.pd.at_,by decide,by decide,by decide⟩)
 · rw [←BJ];exact (hkz.block gb (ax hr) hgb).trans hr
 · refine hc.kp hkz (fun g hg e=>?_)
   subst e
   rw [hv] at hg
   obtain ⟨cs,h1⟩:=(h.pd.wk.row.code j _ hb).lt hg
   exact bT h1 h.pd.at_ (by decide) rfl
 rintro x ((rfl | rfl | e) | rfl)
 · exact h.ne.2
 · exact h.pd.wk.row.lo.1
 · exact h.pd.wk.row.lo.2 _ (List.mem_of_getElem? hb) _ e.symm
 exact h.pd.lo
theorem uu (w:World) (B:Bs) (gw gb cap:Nat) (bs:List (Value × S47)) (tl:List Value) (hW:Wk w B gw gb cap bs tl) (hG:GOk (bs.map (·.2))) :
 Calls Try.prog 85 #[.pointer (some ⟨gw,0,none⟩)] w fun e w'=>e = .returned (.bool (jM (bs.map (·.2))).2)∧(∃ bs',bs'.map (·.2)=(jM (bs.map (·.2))).1∧Wk w' B gw gb cap bs' tl)∧Below B.n w w':=by
 obtain ⟨L,eL⟩:∃ L,L=bs.length:=⟨_,rfl⟩
 have hL:L≤4096:=by have:=hG.few;rw [List.length_map] at this;omega
 have hL0:0<L:=by have:=hG.some_;rw [List.length_map] at this;omega
 have c0:w.cell? ⟨gw,0,none⟩=some (.slice (some ⟨gb,0,none⟩) L cap):=by rw [eL];exact (ae hW.me 0).trans rfl
 have hmk:=uO L hL
 have hlt:=ax hW.me
 have HW:=aa.mk hW
 have HG:=aa.mk hG
 have EL:=aa.mk eL
 clear hW hG eL
 go_enter Try.func85,Try.ntmps85
 go_upto_region 3 with (fail)
 obtain ⟨G,eG⟩:∃ G,G=bs.map (·.2):=⟨_,rfl⟩
 refine forget (fun W=>∃ ga,ga=w.heap.size∧PD w W B gw gb cap tl L G ga L false bs (List.replicate L noW)) ⟨_,rfl,?_⟩ ?_
 · have hb:Below w.heap.size w (w.alloc (.cells ((List.replicate L noW).flatMap f18).toArray 167)):=ai (Below.refl _ _) _
   have hgl:G.length=L:=by rw [eG,List.length_map,EL.out]
   have hd:G.drop L=[]:=List.drop_eq_nil_of_le (by omega)
   refine ⟨HW.out.below hb,⟨hb.os,hb.tape,hb.output,hb.size,fun i hi=>hb.block i (by have:=HW.out.lo;omega)⟩,EL.out.symm,by rw [eG],by rw [hd,←eG,hd];rfl,heap_alloc_new _ _,List.length_replicate,by rw [hd];exact List.drop_eq_nil_of_le (by rw [List.length_replicate];exact Nat.le_refl _),by rw [hd];rfl,by have:=HW.out.lo;omega⟩
 have HGL:aa (G.length=L):=⟨by rw [eG,List.length_map,EL.out]⟩
 rw [←eG] at HG
 have EG:=aa.mk eG
 clear hmk hlt c0 eG
 rintro W ⟨ga,ega,hpd⟩
 rw [←ega]
 have HP:=aa.mk hpd
 have EGA:=aa.mk ega
 have c0:W.cell? ⟨gw,0,none⟩=some (.slice (some ⟨gb,0,none⟩) L cap):=by have h:=(ae hpd.wk.me 0).trans rfl;rw [hpd.len] at h;exact h
 clear hpd ega
 go_wp2
 go_loopw [3,5] (fun v3 v5 wr=>∃ (j:Nat) (z:Int) (f:Bool) (bsn:List (Value × S47)) (A:List Lw),j≤L∧v5 = .int .i64 z∧v3 = .bool f∧aa (z=(j:Int) - 1)∧aa (PD w wr B gw gb cap tl L G ga j f bsn A)) (fun _ v5 _=>(intOf v5+1).toNat)
 case atStart=>exact ⟨L,_,false,_,_,Nat.le_refl _,rfl,rfl,⟨rfl⟩,HP⟩
 case round=>
  clear HP c0
  obtain ⟨j,z,f,bsn,A,hj,rfl,rfl,HZ,HP⟩:=hrel
  cases j with
  | zero=>
   have hz:z = -1:=by have:=HZ.out;omega
   subst hz
   have e1:bsn.map (·.2)=(jM G).1:=by have h:=HP.out.post;rw [List.drop_zero,List.drop_zero] at h;exact h
   have e2:f=(jM G).2:=by have h:=HP.out.fnd;rw [List.drop_zero] at h;exact h
   have HE:=aa.mk (And.intro e1 e2)
   clear HZ e1 e2
   go_wp2
   go_ret
   rw [←EG.out]
   exact ⟨congrArg (fun x=>Ending.returned (Value.bool x)) HE.out.2,⟨bsn,HE.out.1,HP.out.wk⟩,HP.out.low⟩
  | succ q=>
   have hz:z=(q:Int):=by have:=HZ.out;omega
   subst hz
   clear HZ
   have hq:q<L:=hj
   obtain ⟨v,b,hb,hGq,hGd⟩:=HP.out.get hq HGL.out
   have i0:(0:Int)≤(q:Int):=by omega
   have i1:(q:Int)<(L:Int):=by omega
   have c0:wr.cell? ⟨gw,0,none⟩=some (.slice (some ⟨gb,0,none⟩) L cap):=by have h:=(ae HP.out.wk.me 0).trans rfl;rw [HP.out.len] at h;exact h
   have HB0:=aa.mk (And.intro hb (And.intro hGq hGd))
   have HBK:=aa.mk (HG.out.all q b hGq)
   have HLN:=aa.mk (HG.out.len hGq)
   clear hb hGq hGd
   go_upto_region 8 with (fail)
   refine forget (fun X=>∃ gl,gl=wr.heap.size∧DM w X B gw gb cap tl L G ga gl (q+1) f bsn A noW) ⟨_,rfl,HP.out.below (ai (Below.refl _ _) _),heap_alloc_new _ _,by have:=ax HP.out.at_;have:=HP.out.lo;omega⟩ ?_
   clear c0
   rintro X ⟨gl,egl,hdm⟩
   rw [←egl]
   have EGL:=aa.mk egl
   have HDM:=aa.mk hdm
   clear egl hdm HP
   have hec:=eO HBK.out.ends
   have gy:=bB HBK.out.goal
   have gn:=dM HBK.out.goal
   rw [HGL.out] at gy gn
   have HCC:aa (∀ (Y:World) (l:Lw),DM w Y B gw gb cap tl L G ga gl (q+1) f bsn A l→Y.cell? ⟨gb,q*8+1,none⟩=some (.int .i64 b.f1)∧Y.cell? ⟨gb,q*8+2,none⟩=some (.int .u16 b.f2.f0)∧Y.cell? ⟨gb,q*8+3,none⟩=some (.int .u8 b.f2.f1)∧Y.cell? ⟨gb,q*8+4,none⟩=some (.int .u8 b.f2.f2)∧Y.cell? ⟨gb,q*8+5,none⟩=some (.int .u32 b.f2.f3)∧Y.cell? ⟨gb,q*8+6,none⟩=some (.int .i64 b.f3)∧Y.cell? ⟨gb,q*8+7,none⟩=some (.int .i64 b.f4)):=⟨fun Y l h=>
    have g:=fun (jj:Nat) (hh:jj<8)=>(ae h.pd.wk.row.row (q*8+jj)).trans (di HB0.out.1 hh)
    ⟨g 1 (by omega),g 2 (by omega),g 3 (by omega),g 4 (by omega),g 5 (by omega),g 6 (by omega),g 7 (by omega)⟩⟩
   obtain ⟨lv,elv⟩:∃ lv,lv=lvF b ((ddL (G.drop (q+1)) (q+1)).2.1.getD (b.f3.toNat - (q+1)) noW) ((ddL (G.drop (q+1)) (q+1)).2.1.getD (b.f4.toNat - (q+1)) noW):=⟨_,rfl⟩
   have ELV:=aa.mk elv
   clear elv
   obtain ⟨b1,b2,b3,b4,b5,b6,b7⟩:=HCC.out X _ HDM.out
   have HEC:=aa.mk hec
   have hcase:b.f1=1∨b.f1=2∨b.f1=3:=by rcases hec with h | h | h;exact .inl h.1;exact .inr (.inl h.1);exact .inr (.inr h.1)
   rcases hcase with h1 | h1 | h1
   · have H1:=aa.mk h1
     rw [h1] at b1
     clear h1 b6 b7 hec gy gn
     go_upto_region 17 with (fail)
     have hre:reB b.f2.f0=true:=by rcases HEC.out with h | h | h;exact h.2.1;have:=h.1;rw [H1.out] at this;cases this;have:=h.1;rw [H1.out] at this;cases this
     have HRD:=aa.mk (kr X gl noW b.f2 HDM.out.lv rfl HBK.out.rl (.inr (.inr hre)))
     unfold fD at HRD
     clear hre
     go_upto_region 18 with (go_at_call 134;refine HRD.out.mono ?_;rintro e X2 ⟨rfl,hl2,hk2⟩;have HDM2:aa (DM w X2 B gw gb cap tl L G ga gl (q+1) f bsn A lv):=⟨HDM.out.put hk2 (by rw [ELV.out];unfold lvF;rw [if_pos H1.out];exact hl2)⟩;clear hl2 hk2)
     clear HRD HDM b2 b3 b4 b5 b1
     have HLL:aa (lv.length=18):=⟨by rw [ELV.out];unfold lvF;rw [if_pos H1.out];unfold rdF;rw [List.length_map,List.length_range]⟩
     go_upto_region 19 with (go_at_call 135;refine (l7 X2 gl gb q lv bsn tl v b.f0 b HDM2.out.lv HLL.out HDM2.out.pd.wk.row.row HB0.out.1 (HDM2.out.pd.wk.row.code q _ HB0.out.1) HBK.out.code HBK.out.rg HLN.out).mono ?_;rintro e Y ⟨rfl,hl',⟨v',hv',hr,hc⟩,hk⟩;have HY:=aa.mk (And.intro hv' (And.intro hr (And.intro hc hk)));have HLY:aa (Y.heap[gl]?=some (.cells (f18 (bkF lv b.f0).2.1).toArray 167 (0,0))):=⟨by rw [←pG (vV HLL.out _)];exact hl'⟩;clear hl' hv' hr hc hk;obtain ⟨fa,efa⟩:∃ fa,fa=(bkF lv b.f0).2.2:=⟨_,rfl⟩;rw [←efa];have EFA:=aa.mk efa;clear efa;cases fa)
     · skip
       have HAY:aa (Y.heap[ga]?=some (.cells (A.flatMap f18).toArray 167 (0,0))∧q<A.length):=⟨⟨(HY.out.2.2.2.block ga (ax HDM2.out.pd.at_) (by
        rintro (e | e | e)
        · exact HDM2.out.ne.1 e.symm
        · exact bT HDM2.out.pd.at_ HDM2.out.pd.wk.row.row (by decide) e
        obtain ⟨cs,h1⟩:=(HDM2.out.pd.wk.row.code q _ HB0.out.1).lt e.symm
        exact bT HDM2.out.pd.at_ h1 (by decide) rfl)).trans HDM2.out.pd.at_,by rw [HDM2.out.pd.al];omega⟩⟩
       go_wp2_with (first
        | (refine wpList_load_row rfl 167 (.tmp 7) rfl gl rfl 167 (f18 (bkF lv b.f0).2.1).toArray (0,0) _ HLY.out Try.underlying167 rfl (by rw [List.size_toArray,fQ];exact dU) ?_)
        | (refine fJ rfl rfl 167 (.tmp 86) (.tmp 85) rfl fQ j4 ga q A (bkF lv b.f0).2.1 167 rfl rfl HAY.out.1 HAY.out.2 dU ?_;intro Z hz hkz;have HZ2:=aa.mk (And.intro hz hkz);clear hz hkz))
       have HEND:=aa.mk (HDM2.out.xk (f2:=(false||f)) HB0.out.1 HB0.out.2.2 ELV.out HY.out.1 HY.out.2.1 HY.out.2.2.1 HY.out.2.2.2 HZ2.out.1 HZ2.out.2 (by rw [←EFA.out]))
       clear HZ2 HAY HLY HY HDM2
       go_roundw
       case rel=>exact ⟨q,_,_,_,_,by omega,rfl,rfl,⟨rfl⟩,by first | exact HEND | (simpa using HEND)⟩
       case measure=>simp [intOf]<;>omega
     skip
     have HAY:aa (Y.heap[ga]?=some (.cells (A.flatMap f18).toArray 167 (0,0))∧q<A.length):=⟨⟨(HY.out.2.2.2.block ga (ax HDM2.out.pd.at_) (by
      rintro (e | e | e)
      · exact HDM2.out.ne.1 e.symm
      · exact bT HDM2.out.pd.at_ HDM2.out.pd.wk.row.row (by decide) e
      obtain ⟨cs,h1⟩:=(HDM2.out.pd.wk.row.code q _ HB0.out.1).lt e.symm
      exact bT HDM2.out.pd.at_ h1 (by decide) rfl)).trans HDM2.out.pd.at_,by rw [HDM2.out.pd.al];omega⟩⟩
     go_wp2_with (first
      | (refine wpList_load_row rfl 167 (.tmp 7) rfl gl rfl 167 (f18 (bkF lv b.f0).2.1).toArray (0,0) _ HLY.out Try.underlying167 rfl (by rw [List.size_toArray,fQ];exact dU) ?_)
      | (refine fJ rfl rfl 167 (.tmp 86) (.tmp 85) rfl fQ j4 ga q A (bkF lv b.f0).2.1 167 rfl rfl HAY.out.1 HAY.out.2 dU ?_;intro Z hz hkz;have HZ2:=aa.mk (And.intro hz hkz);clear hz hkz))
     have HEND:=aa.mk (HDM2.out.xk (f2:=(true||f)) HB0.out.1 HB0.out.2.2 ELV.out HY.out.1 HY.out.2.1 HY.out.2.2.1 HY.out.2.2.2 HZ2.out.1 HZ2.out.2 (by rw [←EFA.out]))
     clear HZ2 HAY HLY HY HDM2
     go_roundw
     case rel=>exact ⟨q,_,_,_,_,by omega,rfl,rfl,⟨rfl⟩,by first | exact HEND | (simpa using HEND)⟩
     case measure=>simp [intOf]<;>omega
   · have H1:=aa.mk h1
     have gy2:=gy (by rw [h1];decide)
     rw [h1] at b1
     obtain ⟨yk,eyk⟩:∃ k:Nat,b.f3=(k:Int):=⟨b.f3.toNat,by omega⟩
     rw [eyk] at b6
     have hyk:yk<L:=by omega
     have HYT:aa (b.f3.toNat=yk):=⟨by rw [eyk];rfl⟩
     have hlvy:=HDM.out.pd.lv gy2.1 gy2.2
     have HLY0:aa ((ddL (G.drop (q+1)) (q+1)).2.1.getD (b.f3.toNat - (q+1)) noW=A.getD yk noW):=⟨by rw [hlvy,HYT.out]⟩
     obtain ⟨y,ey⟩:∃ y,y=A.getD yk noW:=⟨_,rfl⟩
     rw [←ey] at HLY0
     have HAY0:aa (A[yk]?=some y):=⟨by rw [ey,List.getD_eq_getElem?_getD,List.getElem?_eq_getElem (by rw [HDM.out.pd.al];exact hyk)];rfl⟩
     have HYL:aa (y.length=18):=⟨by
      rw [←HLY0.out,List.getD_eq_getElem?_getD]
      cases e:(ddL (G.drop (q+1)) (q+1)).2.1[b.f3.toNat - (q+1)]? with
      | none=>rfl
      | some x=>exact ze _ _ x (List.mem_of_getElem? e)⟩
     have i2:(0:Int)≤(yk:Int):=by omega
     have i3:(yk:Int)<(L:Int):=by omega
     clear h1 gy2 eyk hlvy ey gy gn hec b7
     go_upto_region 10 with (first
      | (refine jE rfl 167 (.tmp 41) rfl fQ ga yk A y 167 rfl HDM.out.pd.at_ HAY0.out _ Try.underlying167 rfl dU ?_)
      | (refine jy (u := .agg (f18 y).toArray) (cs':=(f18 y).toArray) rfl rfl rfl rfl HDM.out.lv rfl rfl (by rw [List.size_toArray,fQ];exact (wR rfl).symm) (by exact dU) (fun u hu=>j4 y u hu) ?_;intro w5 hr5 hk5 hb5;have HDY:aa (DM w w5 B gw gb cap tl L G ga gl (q+1) f bsn A y):=⟨HDM.out.put ⟨hb5.os,hb5.tape,hb5.output,hb5.size,fun x hx hne=>hk5 x hne⟩ (by rw [pG HYL.out];exact hr5)⟩;clear hr5 hk5 hb5))
     clear HDM b1 b2 b3 b4 b5 b6
     obtain ⟨b1,b2,b3,b4,b5,b6,b7⟩:=HCC.out w5 _ HDY.out
     rw [H1.out] at b1
     clear b2 b3 b4 b5 b6 b7
     go_upto_region 18 with (fail)
     have HDM2:aa (DM w w5 B gw gb cap tl L G ga gl (q+1) f bsn A lv):=⟨by have h:=HDY.out;rw [←HLY0.out] at h;rw [ELV.out];unfold lvF;rw [if_neg (by rw [H1.out];decide),if_pos H1.out];exact h⟩
     have HLVL:aa (lv.length=18):=⟨by rw [ELV.out];unfold lvF;rw [if_neg (by rw [H1.out];decide),if_pos H1.out,HLY0.out];exact HYL.out⟩
     clear HDY
     have HLL:aa (lv.length=18):=⟨HLVL.out⟩
     go_upto_region 19 with (go_at_call 135;refine (l7 w5 gl gb q lv bsn tl v b.f0 b HDM2.out.lv HLL.out HDM2.out.pd.wk.row.row HB0.out.1 (HDM2.out.pd.wk.row.code q _ HB0.out.1) HBK.out.code HBK.out.rg HLN.out).mono ?_;rintro e Y ⟨rfl,hl',⟨v',hv',hr,hc⟩,hk⟩;have HY:=aa.mk (And.intro hv' (And.intro hr (And.intro hc hk)));have HLY:aa (Y.heap[gl]?=some (.cells (f18 (bkF lv b.f0).2.1).toArray 167 (0,0))):=⟨by rw [←pG (vV HLL.out _)];exact hl'⟩;clear hl' hv' hr hc hk;obtain ⟨fa,efa⟩:∃ fa,fa=(bkF lv b.f0).2.2:=⟨_,rfl⟩;rw [←efa];have EFA:=aa.mk efa;clear efa;cases fa)
     · skip
       have HAY:aa (Y.heap[ga]?=some (.cells (A.flatMap f18).toArray 167 (0,0))∧q<A.length):=⟨⟨(HY.out.2.2.2.block ga (ax HDM2.out.pd.at_) (by
        rintro (e | e | e)
        · exact HDM2.out.ne.1 e.symm
        · exact bT HDM2.out.pd.at_ HDM2.out.pd.wk.row.row (by decide) e
        obtain ⟨cs,h1⟩:=(HDM2.out.pd.wk.row.code q _ HB0.out.1).lt e.symm
        exact bT HDM2.out.pd.at_ h1 (by decide) rfl)).trans HDM2.out.pd.at_,by rw [HDM2.out.pd.al];omega⟩⟩
       go_wp2_with (first
        | (refine wpList_load_row rfl 167 (.tmp 7) rfl gl rfl 167 (f18 (bkF lv b.f0).2.1).toArray (0,0) _ HLY.out Try.underlying167 rfl (by rw [List.size_toArray,fQ];exact dU) ?_)
        | (refine fJ rfl rfl 167 (.tmp 86) (.tmp 85) rfl fQ j4 ga q A (bkF lv b.f0).2.1 167 rfl rfl HAY.out.1 HAY.out.2 dU ?_;intro Z hz hkz;have HZ2:=aa.mk (And.intro hz hkz);clear hz hkz))
       have HEND:=aa.mk (HDM2.out.xk (f2:=(false||f)) HB0.out.1 HB0.out.2.2 ELV.out HY.out.1 HY.out.2.1 HY.out.2.2.1 HY.out.2.2.2 HZ2.out.1 HZ2.out.2 (by rw [←EFA.out]))
       clear HZ2 HAY HLY HY HDM2
       go_roundw
       case rel=>exact ⟨q,_,_,_,_,by omega,rfl,rfl,⟨rfl⟩,by first | exact HEND | (simpa using HEND)⟩
       case measure=>simp [intOf]<;>omega
     skip
     have HAY:aa (Y.heap[ga]?=some (.cells (A.flatMap f18).toArray 167 (0,0))∧q<A.length):=⟨⟨(HY.out.2.2.2.block ga (ax HDM2.out.pd.at_) (by
      rintro (e | e | e)
      · exact HDM2.out.ne.1 e.symm
      · exact bT HDM2.out.pd.at_ HDM2.out.pd.wk.row.row (by decide) e
      obtain ⟨cs,h1⟩:=(HDM2.out.pd.wk.row.code q _ HB0.out.1).lt e.symm
      exact bT HDM2.out.pd.at_ h1 (by decide) rfl)).trans HDM2.out.pd.at_,by rw [HDM2.out.pd.al];omega⟩⟩
     go_wp2_with (first
      | (refine wpList_load_row rfl 167 (.tmp 7) rfl gl rfl 167 (f18 (bkF lv b.f0).2.1).toArray (0,0) _ HLY.out Try.underlying167 rfl (by rw [List.size_toArray,fQ];exact dU) ?_)
      | (refine fJ rfl rfl 167 (.tmp 86) (.tmp 85) rfl fQ j4 ga q A (bkF lv b.f0).2.1 167 rfl rfl HAY.out.1 HAY.out.2 dU ?_;intro Z hz hkz;have HZ2:=aa.mk (And.intro hz hkz);clear hz hkz))
     have HEND:=aa.mk (HDM2.out.xk (f2:=(true||f)) HB0.out.1 HB0.out.2.2 ELV.out HY.out.1 HY.out.2.1 HY.out.2.2.1 HY.out.2.2.2 HZ2.out.1 HZ2.out.2 (by rw [←EFA.out]))
     clear HZ2 HAY HLY HY HDM2
     go_roundw
     case rel=>exact ⟨q,_,_,_,_,by omega,rfl,rfl,⟨rfl⟩,by first | exact HEND | (simpa using HEND)⟩
     case measure=>simp [intOf]<;>omega
   have H1:=aa.mk h1
   have gy2:=gy (by rw [h1];decide)
   have gn2:=gn h1
   obtain ⟨mk,emk⟩:∃ k:Nat,b.f4=(k:Int):=⟨b.f4.toNat,by omega⟩
   have hmk:mk<L:=by omega
   have HMT:aa (b.f4.toNat=mk):=⟨by rw [emk];rfl⟩
   have hlvm:=HDM.out.pd.lv gn2.1 gn2.2
   have HLM0:aa ((ddL (G.drop (q+1)) (q+1)).2.1.getD (b.f4.toNat - (q+1)) noW=A.getD mk noW):=⟨by rw [hlvm,HMT.out]⟩
   obtain ⟨m,em⟩:∃ m,m=A.getD mk noW:=⟨_,rfl⟩
   rw [←em] at HLM0
   have HAM0:aa (A[mk]?=some m):=⟨by rw [em,List.getD_eq_getElem?_getD,List.getElem?_eq_getElem (by rw [HDM.out.pd.al];exact hmk)];rfl⟩
   have i4:(0:Int)≤(mk:Int):=by omega
   have i5:(mk:Int)<(L:Int):=by omega
   have EMK:=aa.mk emk
   clear hlvm em gn2 emk
   rw [h1] at b1
   obtain ⟨yk,eyk⟩:∃ k:Nat,b.f3=(k:Int):=⟨b.f3.toNat,by omega⟩
   rw [eyk] at b6
   have hyk:yk<L:=by omega
   have HYT:aa (b.f3.toNat=yk):=⟨by rw [eyk];rfl⟩
   have hlvy:=HDM.out.pd.lv gy2.1 gy2.2
   have HLY0:aa ((ddL (G.drop (q+1)) (q+1)).2.1.getD (b.f3.toNat - (q+1)) noW=A.getD yk noW):=⟨by rw [hlvy,HYT.out]⟩
   obtain ⟨y,ey⟩:∃ y,y=A.getD yk noW:=⟨_,rfl⟩
   rw [←ey] at HLY0
   have HAY0:aa (A[yk]?=some y):=⟨by rw [ey,List.getD_eq_getElem?_getD,List.getElem?_eq_getElem (by rw [HDM.out.pd.al];exact hyk)];rfl⟩
   have HYL:aa (y.length=18):=⟨by
    rw [←HLY0.out,List.getD_eq_getElem?_getD]
    cases e:(ddL (G.drop (q+1)) (q+1)).2.1[b.f3.toNat - (q+1)]? with
    | none=>rfl
    | some x=>exact ze _ _ x (List.mem_of_getElem? e)⟩
   have i2:(0:Int)≤(yk:Int):=by omega
   have i3:(yk:Int)<(L:Int):=by omega
   clear h1 gy2 eyk hlvy ey gy gn hec b7
   go_upto_region 10 with (first
    | (refine jE rfl 167 (.tmp 41) rfl fQ ga yk A y 167 rfl HDM.out.pd.at_ HAY0.out _ Try.underlying167 rfl dU ?_)
    | (refine jy (u := .agg (f18 y).toArray) (cs':=(f18 y).toArray) rfl rfl rfl rfl HDM.out.lv rfl rfl (by rw [List.size_toArray,fQ];exact (wR rfl).symm) (by exact dU) (fun u hu=>j4 y u hu) ?_;intro w5 hr5 hk5 hb5;have HDY:aa (DM w w5 B gw gb cap tl L G ga gl (q+1) f bsn A y):=⟨HDM.out.put ⟨hb5.os,hb5.tape,hb5.output,hb5.size,fun x hx hne=>hk5 x hne⟩ (by rw [pG HYL.out];exact hr5)⟩;clear hr5 hk5 hb5))
   clear HDM b1 b2 b3 b4 b5 b6
   obtain ⟨b1,b2,b3,b4,b5,b6,b7⟩:=HCC.out w5 _ HDY.out
   rw [H1.out] at b1
   clear b2 b3 b4 b5 b6 b7
   go_upto_region 11 with (fail)
   go_wp2
   go_loopw [48] (fun v48 wr=>∃ k:Nat,k≤18∧v48 = .int .i64 k∧aa (DM w wr B gw gb cap tl L G ga gl (q+1) f bsn A (orP y m k))) (fun v48 _=>18 - (intOf v48).toNat)
   case atStart=>exact ⟨0,by omega,rfl,⟨by rw [orP_0 m HYL.out];exact HDY.out⟩⟩
   case round=>
    clear HDY b1
    obtain ⟨k,hk,rfl,HDK⟩:=hrel
    by_cases hk18:k<18
    · obtain ⟨b1,b2,b3,b4,b5,b6,b7⟩:=HCC.out wr _ HDK.out
      rw [EMK.out] at b7
      have i6:(0:Int)≤(k:Int):=by omega
      have i7:(k:Int)<18:=by omega
      have x0:wr.cell? ⟨gl,k,none⟩=some (.bool (inW y k)):=(ae HDK.out.lv k).trans ((lu (by rw [lS];exact hk18)).trans (by rw [pQ hk18,decide_eq_false (Nat.lt_irrefl k)];simp))
      have x1:=af HDK.out.lv k
      have m0:wr.cell? ⟨ga,mk*18+k,none⟩=some (.bool (inW m k)):=qd fQ HDK.out.pd.at_ HAM0.out k _ (by unfold f18;rw [List.getElem?_map,List.getElem?_range hk18];rfl)
      have HS:=aa.mk (Bg (y:=y) (m:=m) hk18)
      clear b1 b2 b3 b4 b5 b6
      generalize inW m k=mb at m0 HS
      cases hyb:inW y k
      · rw [hyb] at x0 HS
        go_wp2
        have HD2:aa (DM w (wr.setCell ⟨gl,k,none⟩ (.bool mb)) B gw gb cap tl L G ga gl (q+1) f bsn A (orP y m (k+1))):=⟨HDK.out.put ((Kp.refl (fun x=>x=gl) wr).set (.inl rfl) _ _) (aM HDK.out.lv k _ (by rw [qi,←HS.out];rfl))⟩
        clear HDK
        go_roundw
        case rel=>exact ⟨k+1,by omega,by go_num,HD2⟩
        case measure=>simp [intOf];omega
      rw [hyb] at x0 HS
      go_wp2
      have HD2:aa (DM w (wr.setCell ⟨gl,k,none⟩ (.bool true)) B gw gb cap tl L G ga gl (q+1) f bsn A (orP y m (k+1))):=⟨HDK.out.put ((Kp.refl (fun x=>x=gl) wr).set (.inl rfl) _ _) (aM HDK.out.lv k _ (by rw [qi,←HS.out];rfl))⟩
      clear HDK
      go_roundw
      case rel=>exact ⟨k+1,by omega,by go_num,HD2⟩
      case measure=>simp [intOf];omega
    have hk8:k=18:=by omega
    subst hk8
    clear hk hk18
    rw [show ((18:Nat):Int)=(18:Int) from rfl]
    obtain ⟨X,rfl⟩:∃ X:World,X=wr:=⟨_,rfl⟩
    have HDX:aa (DM w X B gw gb cap tl L G ga gl (q+1) f bsn A ((List.range 18).map (fun j=>inW y j||inW m j))):=⟨by rw [←orP_18];exact HDK.out⟩
    obtain ⟨b1,b2,b3,b4,b5,b6,b7⟩:=HCC.out X _ HDX.out
    rw [H1.out] at b1
    have hjm:jmB b.f2.f0=true:=by rcases HEC.out with h | h | h;have:=h.1;rw [H1.out] at this;cases this;have:=h.1;rw [H1.out] at this;cases this;exact h.2.1
    have HRD:=aa.mk (kr X gl ((List.range 18).map (fun j=>inW y j||inW m j)) b.f2 HDX.out.lv (by rw [List.length_map,List.length_range]) HBK.out.rl (.inr (.inl hjm)))
    unfold fD at HRD
    clear HDK b6 b7 hjm
    go_upto_region 18 with (go_at_call 134;refine HRD.out.mono ?_;rintro e X2 ⟨rfl,hl2,hk2⟩;have HDM2:aa (DM w X2 B gw gb cap tl L G ga gl (q+1) f bsn A lv):=⟨HDX.out.put hk2 (by rw [ELV.out];unfold lvF;rw [if_neg (by rw [H1.out];decide),if_neg (by rw [H1.out];decide),HLY0.out,HLM0.out];exact hl2)⟩;clear hl2 hk2)
    clear HRD HDX b2 b3 b4 b5 b1
    have HLL:aa (lv.length=18):=⟨by rw [ELV.out];unfold lvF;rw [if_neg (by rw [H1.out];decide),if_neg (by rw [H1.out];decide)];unfold rdF;rw [List.length_map,List.length_range]⟩
    go_upto_region 19 with (go_at_call 135;refine (l7 X2 gl gb q lv bsn tl v b.f0 b HDM2.out.lv HLL.out HDM2.out.pd.wk.row.row HB0.out.1 (HDM2.out.pd.wk.row.code q _ HB0.out.1) HBK.out.code HBK.out.rg HLN.out).mono ?_;rintro e Y ⟨rfl,hl',⟨v',hv',hr,hc⟩,hk⟩;have HY:=aa.mk (And.intro hv' (And.intro hr (And.intro hc hk)));have HLY:aa (Y.heap[gl]?=some (.cells (f18 (bkF lv b.f0).2.1).toArray 167 (0,0))):=⟨by rw [←pG (vV HLL.out _)];exact hl'⟩;clear hl' hv' hr hc hk;obtain ⟨fa,efa⟩:∃ fa,fa=(bkF lv b.f0).2.2:=⟨_,rfl⟩;rw [←efa];have EFA:=aa.mk efa;clear efa;cases fa)
    · skip
      have HAY:aa (Y.heap[ga]?=some (.cells (A.flatMap f18).toArray 167 (0,0))∧q<A.length):=⟨⟨(HY.out.2.2.2.block ga (ax HDM2.out.pd.at_) (by
       rintro (e | e | e)
       · exact HDM2.out.ne.1 e.symm
       · exact bT HDM2.out.pd.at_ HDM2.out.pd.wk.row.row (by decide) e
       obtain ⟨cs,h1⟩:=(HDM2.out.pd.wk.row.code q _ HB0.out.1).lt e.symm
       exact bT HDM2.out.pd.at_ h1 (by decide) rfl)).trans HDM2.out.pd.at_,by rw [HDM2.out.pd.al];omega⟩⟩
      go_wp2_with (first
       | (refine wpList_load_row rfl 167 (.tmp 7) rfl gl rfl 167 (f18 (bkF lv b.f0).2.1).toArray (0,0) _ HLY.out Try.underlying167 rfl (by rw [List.size_toArray,fQ];exact dU) ?_)
       | (refine fJ rfl rfl 167 (.tmp 86) (.tmp 85) rfl fQ j4 ga q A (bkF lv b.f0).2.1 167 rfl rfl HAY.out.1 HAY.out.2 dU ?_;intro Z hz hkz;have HZ2:=aa.mk (And.intro hz hkz);clear hz hkz))
      have HEND:=aa.mk (HDM2.out.xk (f2:=(false||f)) HB0.out.1 HB0.out.2.2 ELV.out HY.out.1 HY.out.2.1 HY.out.2.2.1 HY.out.2.2.2 HZ2.out.1 HZ2.out.2 (by rw [←EFA.out]))
      clear HZ2 HAY HLY HY HDM2
      go_roundw
      case rel=>exact ⟨q,_,_,_,_,by omega,rfl,rfl,⟨rfl⟩,by first | exact HEND | (simpa using HEND)⟩
      case measure=>simp [intOf]<;>omega
    skip
    have HAY:aa (Y.heap[ga]?=some (.cells (A.flatMap f18).toArray 167 (0,0))∧q<A.length):=⟨⟨(HY.out.2.2.2.block ga (ax HDM2.out.pd.at_) (by
     rintro (e | e | e)
     · exact HDM2.out.ne.1 e.symm
     · exact bT HDM2.out.pd.at_ HDM2.out.pd.wk.row.row (by decide) e
     obtain ⟨cs,h1⟩:=(HDM2.out.pd.wk.row.code q _ HB0.out.1).lt e.symm
     exact bT HDM2.out.pd.at_ h1 (by decide) rfl)).trans HDM2.out.pd.at_,by rw [HDM2.out.pd.al];omega⟩⟩
    go_wp2_with (first
     | (refine wpList_load_row rfl 167 (.tmp 7) rfl gl rfl 167 (f18 (bkF lv b.f0).2.1).toArray (0,0) _ HLY.out Try.underlying167 rfl (by rw [List.size_toArray,fQ];exact dU) ?_)
     | (refine fJ rfl rfl 167 (.tmp 86) (.tmp 85) rfl fQ j4 ga q A (bkF lv b.f0).2.1 167 rfl rfl HAY.out.1 HAY.out.2 dU ?_;intro Z hz hkz;have HZ2:=aa.mk (And.intro hz hkz);clear hz hkz))
    have HEND:=aa.mk (HDM2.out.xk (f2:=(true||f)) HB0.out.1 HB0.out.2.2 ELV.out HY.out.1 HY.out.2.1 HY.out.2.2.1 HY.out.2.2.2 HZ2.out.1 HZ2.out.2 (by rw [←EFA.out]))
    clear HZ2 HAY HLY HY HDM2
    go_roundw
    case rel=>exact ⟨q,_,_,_,_,by omega,rfl,rfl,⟨rfl⟩,by first | exact HEND | (simpa using HEND)⟩
    case measure=>simp [intOf]<;>omega
theorem pO (w:World) (B:Bs) (gw gb cap:Nat) (bs:List (Value × S47)) (tl:List Value) (hW:Wk w B gw gb cap bs tl) (G:List S47) (hG:GOk G) (hL:bs.length=G.length) (lo j:Nat) (hag:∀ (i:Nat) (v:Value) (b:S47),lo≤i→bs[i]?=some (v,b)→G[i]?=some b) (hj:lo≤j∧j<G.length) :
 Calls Try.prog 136 #[.pointer (some ⟨gw,0,none⟩),.int .i64 j] w fun e w'=>e = .returned (.int .i64 (onG G j:Nat))∧w'=w:=by
 have c0:=dA hW.me 0
 have HW:=aa.mk hW
 have HG:=aa.mk hG
 have HL:=aa.mk hL
 have HAG:=aa.mk hag
 have HJ:aa (lo≤j∧j<bs.length):=⟨by omega⟩
 have hfew:bs.length≤4096:=by have:=hG.few;omega
 clear hW hG hL hag hj
 go_enter Try.func136,Try.ntmps136
 go_wp2
 go_loop [1] (fun v1=>∃ k:Nat,v1 = .int .i64 k∧aa (lo≤k∧k<bs.length∧onG G j=onG G k)) (fun v1=>bs.length - (intOf v1).toNat)
 case atStart=>exact ⟨j,rfl,⟨HJ.out.1,HJ.out.2,rfl⟩⟩
 case round=>
  obtain ⟨k,rfl,HK⟩:=hrel
  have hk:k<bs.length:=HK.out.2.1
  obtain ⟨v,b,hb⟩:∃ v b,bs[k]?=some (v,b):=⟨bs[k].1,bs[k].2,List.getElem?_eq_getElem hk⟩
  have hGk:=HAG.out k v b HK.out.1 hb
  have hcd:Cd w v b.f0:=HW.out.row.code k _ hb
  obtain ⟨Av,cv,rfl⟩:=hcd.slice
  have i0:(0:Int)≤(k:Int):=by omega
  have i1:(k:Int)<(bs.length:Int):=by omega
  have g:=fun (jj:Nat) (hh:jj<8)=>(ae HW.out.row.row (k*8+jj)).trans (di hb hh)
  have b0:w.cell? ⟨gb,k*8,none⟩=some (.slice Av b.f0.length cv):=g 0 (by omega)
  have b1:w.cell? ⟨gb,k*8+1,none⟩=some (.int .i64 b.f1):=g 1 (by omega)
  have b6:w.cell? ⟨gb,k*8+6,none⟩=some (.int .i64 b.f3):=g 6 (by omega)
  have HGK:=aa.mk hGk
  have hgy:=bB (HG.out.all k b hGk).goal
  clear g hb hGk hcd
  by_cases h1:b.f1=2
  · by_cases h0:b.f0.length=0
    · have hgy2:=hgy (by rw [h1];decide)
      have HB:aa (fB b=true):=⟨by unfold fB;rw [h1,h0];rfl⟩
      rw [h1] at b1
      rw [h0] at b0
      obtain ⟨y,hy⟩:∃ y:Nat,b.f3=(y:Int):=⟨b.f3.toNat,by omega⟩
      rw [hy] at b6
      have HY:aa (k<y∧y<bs.length∧b.f3.toNat=y):=⟨by have:=HL.out;omega⟩
      clear hgy hgy2 h1 h0 hy
      go_wp2
      go_round
      case rel=>exact ⟨y,rfl,⟨by have:=HY.out;have:=HK.out;omega,HY.out.2.1,by rw [HK.out.2.2,oU HG.out HGK.out HB.out,HY.out.2.2]⟩⟩
      case measure=>simp [intOf];have:=HY.out;omega
    have HB:aa (¬fB b=true):=⟨by unfold fB;rw [decide_eq_false h0];simp⟩
    rw [h1] at b1
    have h0':((b.f0.length:Int)==0)=false:=bn (by omega)
    have h0'':¬(b.f0=[]):=fun e=>h0 (by rw [e];rfl)
    clear hgy h1 h0
    go_wp2
    go_ret
    exact ⟨congrArg (fun x:Nat=>Ending.returned (Value.int .i64 (x:Int))) (HK.out.2.2.trans (nJ HGK.out HB.out)).symm,rfl⟩
  have HB:aa (¬fB b=true):=⟨by unfold fB;rw [decide_eq_false h1];simp⟩
  have h1':(b.f1==2)=false:=bn h1
  clear hgy h1
  go_wp2
  go_ret
  exact ⟨congrArg (fun x:Nat=>Ending.returned (Value.int .i64 (x:Int))) (HK.out.2.2.trans (nJ HGK.out HB.out)).symm,rfl⟩
theorem Wk.field {w:World} {B:Bs} {gw gb cap n j:Nat} {bs:List (Value × S47)} {tl:List Value} {v:Value} {b b':S47} {u:Value} (h:Wk w B gw gb cap bs tl) (hp:bs[n]?=some (v,b)) (hj:j<8) (e:(b8 (v,b)).set j u=b8 (v,b')) (hf:b'.f0=b.f0):Wk (w.setCell ⟨gb,n*8+j,none⟩ u) B gw gb cap (bs.set n (v,b')) tl:=by
 have hk:=(Kp.refl (fun x=>x=gb) w).set (g:=gb) (.inl rfl) (n*8+j) u
 refine h.step hp hk (fun x e => .inl e) (bJ h.row.row hp (v,b') hj u e) ?_ (fun g hg => .inl hg)
 show Cd _ v b'.f0
 rw [hf]
 refine (h.row.code n _ hp).kp hk (fun g hg e=>?_)
 subst e
 obtain ⟨cs,hc⟩:=(h.row.code n _ hp).lt hg
 exact bT h.row.row hc (by decide) rfl
theorem Wk.low {w w2:World} {B:Bs} {gw gb cap:Nat} {bs:List (Value × S47)} {tl:List Value} {w0:World} (h:Wk w B gw gb cap bs tl) (hb:Below B.n w0 w) (hk:Kp (fun x=>x=gb) w w2):Below B.n w0 w2:=
 Kp.iO hb hk (by have:=ax h.me;have:=h.lo;omega) (by rintro x rfl;exact h.row.lo.1)
theorem PI.agree {w wr:World} {B:Bs} {gw gb cap L n:Nat} {tl:List Value} {G:List S47} {T R:List S47 × Bool} {f:Bool} {bs:List (Value × S47)} (h:PI w wr B gw gb cap tl L G T R n f bs) (q:Value × S47) :
 ∀ (i:Nat) (v:Value) (b:S47),n+1≤i→(bs.set n q)[i]?=some (v,b)→G[i]?=some b:=by
 intro i v b hi hb
 rw [List.getElem?_set_ne (by omega)] at hb
 have h2:((bs.map (·.2)).drop n)[i - n]?=(G.drop n)[i - n]?:=by rw [h.rest]
 rw [List.getElem?_drop,List.getElem?_drop,show n+(i - n)=i by omega,List.getElem?_map,hb] at h2
 exact h2.symm
theorem tJ (w:World) (B:Bs) (gw gb cap:Nat) (bs:List (Value × S47)) (tl:List Value) (hW:Wk w B gw gb cap bs tl) (hG:GOk (bs.map (·.2))) :
 Calls Try.prog 86 #[.pointer (some ⟨gw,0,none⟩)] w fun e w'=>e = .returned (.bool (iF (bs.map (·.2))).2)∧(∃ bs',bs'.map (·.2)=(iF (bs.map (·.2))).1∧Wk w' B gw gb cap bs' tl)∧Below B.n w w':=by
 obtain ⟨L,eL⟩:∃ L,L=bs.length:=⟨_,rfl⟩
 have hL:L≤4096:=by have:=hG.few;rw [List.length_map] at this;omega
 have c0:w.cell? ⟨gw,0,none⟩=some (.slice (some ⟨gb,0,none⟩) L cap):=by rw [eL];exact (ae hW.me 0).trans rfl
 obtain ⟨G,eG⟩:∃ G,G=bs.map (·.2):=⟨_,rfl⟩
 rw [←eG] at hG ⊢
 have HGL:aa (G.length=L):=⟨by rw [eG,List.length_map,eL]⟩
 have HP:aa (PI w w B gw gb cap tl L G (iF G) ((G.drop 0).map (fun b=>(goB G b).1),(G.drop 0).any (fun b=>(goB G b).2)) 0 false bs):=⟨⟨hW,Below.refl _ _,eL.symm,by rw [eG],by simp [iF]⟩⟩
 have HG:=aa.mk hG
 clear hW hG eL eG
 go_enter Try.func86,Try.ntmps86
 go_wp2
 go_loopw [3,13] (fun v3 v13 wr=>∃ (n:Nat) (f:Bool) (bsn:List (Value × S47)),n≤L∧v13 = .int .i64 n∧v3 = .bool f∧aa (PI w wr B gw gb cap tl L G (iF G) ((G.drop n).map (fun b=>(goB G b).1),(G.drop n).any (fun b=>(goB G b).2)) n f bsn)) (fun _ v13 _=>L - (intOf v13).toNat)
 case atStart=>exact ⟨0,false,_,Nat.zero_le _,rfl,rfl,HP⟩
 case round=>
  clear HP c0
  obtain ⟨n,f,bsn,hn,rfl,rfl,HP⟩:=hrel
  by_cases hlt:n<L
  · obtain ⟨v,b,hb,hGn,hGd⟩:=HP.out.at_ hlt
    have i0:(0:Int)≤(n:Int):=by omega
    have i1:(n:Int)<(L:Int):=by omega
    have c0:wr.cell? ⟨gw,0,none⟩=some (.slice (some ⟨gb,0,none⟩) L cap):=by have h:=(ae HP.out.wk.me 0).trans rfl;rw [HP.out.len] at h;exact h
    have g:=fun (jj:Nat) (hh:jj<8)=>(ae HP.out.wk.row.row (n*8+jj)).trans (di hb hh)
    have b1:wr.cell? ⟨gb,n*8+1,none⟩=some (.int .i64 b.f1):=g 1 (by omega)
    have b6:wr.cell? ⟨gb,n*8+6,none⟩=some (.int .i64 b.f3):=g 6 (by omega)
    have z6:wr.frozen? ⟨gb,n*8+6,none⟩=false:=af HP.out.wk.row.row (n*8+6)
    have HB0:=aa.mk (And.intro hb (And.intro hGn hGd))
    have HBK:=aa.mk (HG.out.all n b hGn)
    have hec:=eO HBK.out.ends
    have gy:=bB HBK.out.goal
    have gn:=dM HBK.out.goal
    rw [HGL.out] at gy gn
    have HGO:=fun (b':S47) (f2:Bool) (w2:World) (h1:(goB G b).1=b') (h2:f2=(f||(goB G b).2)) (h3:Wk w2 B gw gb cap (bsn.set n (v,b')) tl) (h4:Below B.n w w2)=>HP.out.next (R':=((G.drop (n+1)).map (fun b=>(goB G b).1),(G.drop (n+1)).any (fun b=>(goB G b).2))) (f2:=f2) HB0.out.1 HB0.out.2.2 (by rw [HB0.out.2.2,List.map_cons,h1]) (by rw [HB0.out.2.2,List.any_cons,←Bool.or_assoc,h2]) h3 h4
    have HGO2:=aa.mk HGO
    have hcase:b.f1=1∨b.f1=2∨b.f1=3:=by rcases hec with h | h | h;exact .inl h.1;exact .inr (.inl h.1);exact .inr (.inr h.1)
    clear g hb hGn hGd HGO hec
    rcases hcase with h1 | h1
    · have HE:aa (PI w wr B gw gb cap tl L G (iF G) ((G.drop (n+1)).map (fun b=>(goB G b).1),(G.drop (n+1)).any (fun b=>(goB G b).2)) (n+1) f (bsn.set n (v,b))):=⟨HGO2.out b f wr (by unfold goB;rw [if_pos h1]) (by unfold goB;rw [if_pos h1];simp) (by rw [set_self HB0.out.1];exact HP.out.wk) HP.out.low⟩
      rw [h1] at b1
      clear h1 gy gn HGO2 b6 z6
      go_wp2
      go_roundw
      case rel=>exact ⟨n+1,f,_,by omega,by go_num,rfl,HE⟩
      case measure=>simp [intOf];omega
    have hne1:b.f1≠1:=by omega
    have gy2:=gy hne1
    obtain ⟨y,hy⟩:∃ y:Nat,b.f3=(y:Int):=⟨b.f3.toNat,by omega⟩
    have hyT:b.f3.toNat=y:=by rw [hy];rfl
    rw [hy] at b6
    have h1':(b.f1==1)=false:=bn hne1
    obtain ⟨yn,eyn⟩:∃ yn,yn=onG G y:=⟨_,rfl⟩
    have HON:=aa.mk (pO wr B gw gb cap bsn tl HP.out.wk G HG.out (by rw [HP.out.len,HGL.out]) (n+1) y (by have h:=HP.out.agree (v,b);rw [set_self HB0.out.1] at h;exact h) (by rw [HGL.out];omega))
    rw [←eyn] at HON
    have HY:=aa.mk (And.intro hyT (And.intro eyn hy))
    clear hy hyT eyn gy2 gy hne1
    go_upto_region 8 with (go_at_call 136;refine HON.out.mono ?_;rintro e w2 ⟨rfl,hw⟩;have hw':=hw.symm;clear hw;subst hw')
    clear HON
    have HMAP:aa (∀ (b':S47),b'.f0=b.f0→True):=⟨fun _ _=>trivial⟩
    go_cut [3] (fun s3 wx=>s3 = .bool (f||decide (yn≠y))∧wx=wr)
    case first=>
     by_cases e:yn=y
     · subst e
       cases f
       all_goals
        go_wp2
        go_meet
        exact ⟨by simp,rfl⟩
     have e':¬y=yn:=fun h=>e h.symm
     cases f
     all_goals
      go_wp2
      go_meet
      exact ⟨by first | (simp [e];done) | (simp [e];omega),rfl⟩
    case rest=>
     obtain ⟨rfl,hwx⟩:=hcut
     have hw':=hwx.symm
     clear hwx
     subst hw'
     obtain ⟨f1,ef1⟩:∃ f1,f1=(f||decide (yn≠y)):=⟨_,rfl⟩
     rw [←ef1]
     have EF1:=aa.mk ef1
     clear ef1
     go_upto_region 10 with (fail)
     have hwk:=HP.out.wk.field HB0.out.1 (j:=6) (b':=⟨b.f0,b.f1,b.f2,(yn:Int),b.f4⟩) (u := .int .i64 yn) (by omega) rfl rfl
     have hlow:=HP.out.wk.low HP.out.low ((Kp.refl (fun x=>x=gb) wr).set (g:=gb) (.inl rfl) (n*8+6) (.int .i64 yn))
     refine forget (fun V=>Wk V B gw gb cap (bsn.set n (v,⟨b.f0,b.f1,b.f2,(yn:Int),b.f4⟩)) tl∧Below B.n w V) ⟨hwk,hlow⟩ ?_
     clear hwk hlow b1 b6 z6 c0
     rintro V ⟨hwk,hlow⟩
     have g:=fun (jj:Nat) (hh:jj<8)=>(ae hwk.row.row (n*8+jj)).trans (di (aN HB0.out.1) hh)
     have b1:V.cell? ⟨gb,n*8+1,none⟩=some (.int .i64 b.f1):=g 1 (by omega)
     have b7:V.cell? ⟨gb,n*8+7,none⟩=some (.int .i64 b.f4):=g 7 (by omega)
     have z7:V.frozen? ⟨gb,n*8+7,none⟩=false:=af hwk.row.row (n*8+7)
     have HV:=aa.mk (And.intro hwk hlow)
     clear g hwk hlow
     rcases h1 with h1 | h1
     · have HE:aa (PI w V B gw gb cap tl L G (iF G) ((G.drop (n+1)).map (fun b=>(goB G b).1),(G.drop (n+1)).any (fun b=>(goB G b).2)) (n+1) f1 (bsn.set n (v,⟨b.f0,b.f1,b.f2,(yn:Int),b.f4⟩))):=⟨HGO2.out _ f1 V (by unfold goB;rw [if_neg (by rw [h1];decide),if_pos h1,HY.out.1,←HY.out.2.1]) (by unfold goB;rw [if_neg (by rw [h1];decide),if_pos h1,HY.out.1,←HY.out.2.1,HY.out.2.2,EF1.out];congr 1;rw [decide_eq_decide];omega) HV.out.1 HV.out.2⟩
       rw [h1] at b1
       clear h1 gn HGO2 b7 z7 HV
       go_wp2
       go_roundw
       case rel=>exact ⟨n+1,f1,_,by omega,by go_num,rfl,HE⟩
       case measure=>simp [intOf];omega
     have gn2:=gn h1
     obtain ⟨m,hm⟩:∃ m:Nat,b.f4=(m:Int):=⟨b.f4.toNat,by omega⟩
     have hmT:b.f4.toNat=m:=by rw [hm];rfl
     rw [hm] at b7
     have h2':(b.f1==2)=false:=bn (by omega)
     obtain ⟨mn,emn⟩:∃ mn,mn=onG G m:=⟨_,rfl⟩
     have HON:=aa.mk (pO V B gw gb cap _ tl HV.out.1 G HG.out (by rw [List.length_set,HP.out.len,HGL.out]) (n+1) m (HP.out.agree _) (by rw [HGL.out];omega))
     rw [←emn] at HON
     have HM:=aa.mk (And.intro hmT (And.intro emn hm))
     have H1:=aa.mk h1
     have c0:V.cell? ⟨gw,0,none⟩=some (.slice (some ⟨gb,0,none⟩) L cap):=by have h:=(ae HV.out.1.me 0).trans rfl;rw [List.length_set,HP.out.len] at h;exact h
     clear hm hmT emn gn2 gn h1
     go_upto_region 12 with (go_at_call 136;refine HON.out.mono ?_;rintro e w2 ⟨rfl,hw⟩;have hw':=hw.symm;clear hw;subst hw')
     clear HON c0
     go_cut [3] (fun s3 wx=>s3 = .bool (f1||decide (mn≠m))∧wx=V)
     case first=>
      by_cases e:mn=m
      · subst e
        cases f1
        all_goals
         go_wp2
         go_meet
         exact ⟨by simp,rfl⟩
      have e':¬m=mn:=fun h=>e h.symm
      cases f1
      all_goals
       go_wp2
       go_meet
       exact ⟨by first | (simp [e];done) | (simp [e];omega),rfl⟩
     case rest=>
      obtain ⟨rfl,hwx⟩:=hcut
      have hw':=hwx.symm
      clear hwx
      subst hw'
      obtain ⟨f2,ef2⟩:∃ f2,f2=(f1||decide (mn≠m)):=⟨_,rfl⟩
      rw [←ef2]
      have EF2:=aa.mk ef2
      clear ef2
      go_upto_region 14 with (fail)
      have hwk:=HV.out.1.field (aN HB0.out.1) (j:=7) (b':=⟨b.f0,b.f1,b.f2,(yn:Int),(mn:Int)⟩) (u := .int .i64 mn) (by omega) rfl rfl
      have hlow:=HV.out.1.low HV.out.2 ((Kp.refl (fun x=>x=gb) V).set (g:=gb) (.inl rfl) (n*8+7) (.int .i64 mn))
      rw [set_set] at hwk
      refine forget (fun U=>Wk U B gw gb cap (bsn.set n (v,⟨b.f0,b.f1,b.f2,(yn:Int),(mn:Int)⟩)) tl∧Below B.n w U) ⟨hwk,hlow⟩ ?_
      clear hwk hlow b1 b7 z7 HV
      rintro U ⟨hwk,hlow⟩
      have HU:=aa.mk (And.intro hwk hlow)
      have hgo:goB G b=if yn=mn then (⟨b.f0,2,⟨0,0,0,0⟩,(yn:Int),0⟩,true) else (⟨b.f0,b.f1,b.f2,(yn:Int),(mn:Int)⟩,decide ((yn:Int)≠b.f3)||decide ((mn:Int)≠b.f4)):=by
       unfold goB
       rw [if_neg (by rw [H1.out];decide),if_neg (by rw [H1.out];decide),HY.out.1,HM.out.1,←HY.out.2.1,←HM.out.2.1]
      by_cases e:yn=mn
      · rw [if_pos e] at hgo
        have HGB:=aa.mk hgo
        have g:=fun (jj:Nat) (hh:jj<8)=>(ae hwk.row.row (n*8+jj)).trans (di (aN HB0.out.1) hh)
        have b1:U.cell? ⟨gb,n*8+1,none⟩=some (.int .i64 b.f1):=g 1 (by omega)
        have b2:U.cell? ⟨gb,n*8+2,none⟩=some (.int .u16 b.f2.f0):=g 2 (by omega)
        have b3:U.cell? ⟨gb,n*8+3,none⟩=some (.int .u8 b.f2.f1):=g 3 (by omega)
        have b4:U.cell? ⟨gb,n*8+4,none⟩=some (.int .u8 b.f2.f2):=g 4 (by omega)
        have b5:U.cell? ⟨gb,n*8+5,none⟩=some (.int .u32 b.f2.f3):=g 5 (by omega)
        have b7:U.cell? ⟨gb,n*8+7,none⟩=some (.int .i64 mn):=g 7 (by omega)
        have z1:=af hwk.row.row (n*8+1)
        have z2:=af hwk.row.row (n*8+2)
        have z3:=af hwk.row.row (n*8+3)
        have z4:=af hwk.row.row (n*8+4)
        have z5:=af hwk.row.row (n*8+5)
        have z7:=af hwk.row.row (n*8+7)
        clear g hgo hwk hlow
        subst e
        go_wp2
        have hw1:=HU.out.1.field (aN HB0.out.1) (j:=1) (b':=⟨b.f0,2,b.f2,(yn:Int),(yn:Int)⟩) (u := .int .i64 2) (by omega) rfl rfl
        have hw2:=hw1.field (aN (aN HB0.out.1)) (j:=2) (b':=⟨b.f0,2,⟨0,b.f2.f1,b.f2.f2,b.f2.f3⟩,(yn:Int),(yn:Int)⟩) (u := .int .u16 0) (by omega) rfl rfl
        have hw3:=hw2.field (aN (aN (aN HB0.out.1))) (j:=3) (b':=⟨b.f0,2,⟨0,0,b.f2.f2,b.f2.f3⟩,(yn:Int),(yn:Int)⟩) (u := .int .u8 0) (by omega) rfl rfl
        have hw4:=hw3.field (aN (aN (aN (aN HB0.out.1)))) (j:=4) (b':=⟨b.f0,2,⟨0,0,0,b.f2.f3⟩,(yn:Int),(yn:Int)⟩) (u := .int .u8 0) (by omega) rfl rfl
        have hw5:=hw4.field (aN (aN (aN (aN (aN HB0.out.1))))) (j:=5) (b':=⟨b.f0,2,⟨0,0,0,0⟩,(yn:Int),(yn:Int)⟩) (u := .int .u32 0) (by omega) rfl rfl
        have hw6:=hw5.field (aN (aN (aN (aN (aN (aN HB0.out.1)))))) (j:=7) (b':=⟨b.f0,2,⟨0,0,0,0⟩,(yn:Int),0⟩) (u := .int .i64 0) (by omega) rfl rfl
        rw [set_set,set_set,set_set,set_set,set_set,set_set] at hw6
        have hlow6:=HU.out.1.low HU.out.2 (((((((Kp.refl (fun x=>x=gb) U).set (g:=gb) (.inl rfl) (n*8+1) (.int .i64 2)).set (g:=gb) (.inl rfl) (n*8+2) (.int .u16 0)).set (g:=gb) (.inl rfl) (n*8+3) (.int .u8 0)).set (g:=gb) (.inl rfl) (n*8+4) (.int .u8 0)).set (g:=gb) (.inl rfl) (n*8+5) (.int .u32 0)).set (g:=gb) (.inl rfl) (n*8+7) (.int .i64 0))
        have HE:=aa.mk (HGO2.out _ true _ (by rw [HGB.out]) (by rw [HGB.out];simp) hw6 hlow6)
        clear hw1 hw2 hw3 hw4 hw5 hw6 hlow6 HGO2 HU
        go_roundw
        case rel=>exact ⟨n+1,true,_,by omega,by go_num,rfl,HE⟩
        case measure=>simp [intOf];omega
      rw [if_neg e] at hgo
      have HE:=aa.mk (HGO2.out _ f2 U (by rw [hgo]) (by rw [hgo,EF2.out,EF1.out,HY.out.2.2,HM.out.2.2,Bool.or_assoc];congr 1;congr 1<;>(rw [decide_eq_decide];omega)) HU.out.1 HU.out.2)
      have e2:¬mn=yn:=fun h=>e h.symm
      clear hgo hwk hlow HGO2 HU
      go_wp2
      go_roundw
      case rel=>exact ⟨n+1,f2,_,by omega,by go_num,rfl,HE⟩
      case measure=>simp [intOf];omega
  have hnl:n=L:=by omega
  subst hnl
  obtain ⟨e1,e2⟩:=HP.out.done (by rw [List.drop_eq_nil_of_le (by rw [HGL.out];exact Nat.le_refl _)];rfl) (by rw [List.drop_eq_nil_of_le (by rw [HGL.out];exact Nat.le_refl _)];rfl)
  have HE:=aa.mk (And.intro e1 e2)
  clear e1 e2
  go_wp2
  go_ret
  exact ⟨congrArg (fun x=>Ending.returned (Value.bool x)) HE.out.2.symm,⟨bsn,HE.out.1,HP.out.wk⟩,HP.out.low⟩
theorem rz {p:Value × S47} (h:p.1.oneCell'=true):∀ u∈b8 p,u.oneCell'=true:=by
 intro u hu
 simp only [b8,List.mem_cons,List.not_mem_nil,or_false] at hu
 rcases hu with rfl | rfl | rfl | rfl | rfl | rfl | rfl | rfl
 · exact h
 all_goals rfl
theorem reps_b8 {W:World} {base:Nat} {ok:Nat→Prop} {bs:List (Value × S47)} {cs:List Value} (h:fZ ((Kd.raw 8).M W base ok) 8 (bs.map b8) cs):cs=bs.flatMap b8:=by
 obtain ⟨h1,h2⟩:=h
 rw [List.length_map] at h1
 apply List.ext_getElem?
 intro q
 by_cases hq:q<bs.length*8
 · have hj:q / 8<bs.length:=by omega
   have h3:=h2 (q / 8) (b8 bs[q / 8]) (by rw [List.getElem?_map,List.getElem?_eq_getElem hj];rfl)
   have h4:(cs.drop (q / 8*8)).take 8=b8 bs[q / 8]:=h3.1
   have e1:cs[q]?=((cs.drop (q / 8*8)).take 8)[q % 8]?:=by
    rw [List.getElem?_take,List.getElem?_drop,if_pos (by omega)];congr 1;omega
   rw [e1,h4]
   have e2:=rc_fm bs (q / 8) bs[q / 8] (List.getElem?_eq_getElem hj) (q % 8) (by omega)
   rw [show q / 8*8+q % 8=q by omega] at e2
   rw [e2]
 rw [List.getElem?_eq_none (by omega),List.getElem?_eq_none (by rw [sG];omega)]
theorem pU {w:World} {base:Nat} {ok:Nat→Prop} {v:Value} {bs:List (Value × S47)} (h:(Kd.raw 8).R 47 w base ok v (bs.map b8)) (hne:bs≠[]) :
 ∃ gb cap tl,v = .slice (some ⟨gb,0,none⟩) bs.length cap∧base≤gb∧w.heap[gb]?=some (.cells (bA bs tl) 47 (0,0))∧(bs.flatMap b8++tl).length=cap*8∧bs.length≤cap∧cap≤maxLen:=by
 obtain ⟨_,inner,ho,hr⟩:=h
 obtain rfl:=reps_b8 hr
 rw [List.length_map] at ho
 rcases ho.2 with ⟨h1,h2⟩ | ⟨g,cap,cur,h1,hb,h3,h4,h5,h6,h7⟩
 · exact absurd (List.eq_nil_of_length_eq_zero h2) hne
 have e:=List.take_append_drop (bs.length*8) cur.toList
 rw [show cur.toList.take (bs.length*8)=bs.flatMap b8 from h7] at e
 exact ⟨g,cap,cur.toList.drop (bs.length*8),h1,hb,by rw [h3];unfold bA;rw [e],by rw [e,Array.length_toList,h6];rfl,h4,h5⟩
theorem wD:(Try.prog.info? 3).map (fun i=>(i.zero,i.size,i.bytes))=some (some (.int .i64 0),1,8):=by kernel_rfl
def inC (l:List Int):Array Value:=(l.map (Value.int .i64)).toArray
theorem qN (L:Nat) (hL:L≤4096) (W:World):(Instr.makeSlice 70 (.int .i64 (L:Int)) (.int .i64 (L:Int))).run Try.prog W = .ok (.slice (some ⟨W.heap.size,0,none⟩) L L) (W.alloc (.cells (inC (List.replicate L 0)) 3)):=by
 obtain ⟨i,hi,hzz⟩:=Option.map_eq_some_iff.1 wD
 simp only [Prod.mk.injEq] at hzz
 obtain ⟨hz,hs,hb⟩:=hzz
 have h:=run_make (P:=Try.prog) W 70 3 i _ Try.underlying70 hi hz .i64 .i64 L L (by omega) (Int.le_refl _) (by rw [hb];omega) (by omega)
 rw [Int.toNat_natCast,hs] at h
 have e:=jL (fun b:Int=>[Value.int .i64 b]) 0 1 rfl L
 refine h.trans ?_
 show Result.ok _ (World.alloc W (.cells (madeCells [Value.int .i64 0].toArray (L*1)) 3))=_
 rw [e]
 unfold inC
 rw [List.map_eq_flatMap]
theorem iN {l:List Int} {j:Nat} (h:j<l.length):(inC l)[j]?=some (.int .i64 (l.getD j 0)):=by
 unfold inC
 rw [List.getElem?_toArray,List.getElem?_map,List.getD_eq_getElem?_getD,List.getElem?_eq_getElem h];rfl
theorem rU {l:List Int} (j:Nat) (v:Int):(inC l).setIfInBounds j (.int .i64 v)=inC (l.set j v):=by
 unfold inC
 rw [List.setIfInBounds_toArray,←List.map_set]
theorem jH {l:List Bool} {j:Nat} (h:j<l.length):(boC l)[j]?=some (.bool (l.getD j false)):=by
 unfold boC
 rw [List.getElem?_toArray,List.getElem?_map,List.getD_eq_getElem?_getD,List.getElem?_eq_getElem h];rfl
theorem rH {l:List Bool} (j:Nat) (v:Bool):(boC l).setIfInBounds j (.bool v)=boC (l.set j v):=by
 unfold boC
 rw [List.setIfInBounds_toArray,←List.map_set]
def dpV (c:List Bool):List (Value × S47)→Nat→List (Value × S47)
 | [],_=>[]
 | p :: r,n=>if c.getD n false=true then (p.1,gM c p.2) :: dpV c r (n+1) else dpV c r (n+1)
theorem wh (c:List Bool):∀ (l:List (Value × S47)) (n:Nat),(dpV c l n).map (·.2)=dpL c (l.map (·.2)) n:=by
 intro l
 induction l with
 | nil=>intro n;rfl
 | cons p r ih=>
  intro n
  rw [dpV,List.map_cons,dpL]
  split
  · rw [List.map_cons,ih]
  exact ih _
theorem oL (c:List Bool):∀ (l:List (Value × S47)) (n:Nat),((dpV c l n).map (fun p=>(p.1,p.2.f0))).Sublist (l.map (fun p=>(p.1,p.2.f0))):=by
 intro l
 induction l with
 | nil=>intro n;exact List.Sublist.slnil
 | cons p r ih=>
  intro n
  rw [dpV]
  split
  · exact (ih (n+1)).cons_cons _
  exact (ih (n+1)).cons _
theorem dpV_app (c:List Bool):∀ (l r:List (Value × S47)) (n:Nat),dpV c (l++r) n=dpV c l n++dpV c r (n+l.length):=by
 intro l
 induction l with
 | nil=>intro r n;rfl
 | cons p l ih=>
  intro r n
  rw [List.cons_append,dpV,dpV,ih,List.length_cons,show n+1+l.length=n+(l.length+1) by omega]
  split<;>rfl
def Apt (bs:List (Value × S47)):Prop:=(bs.map (fun p=>(p.1,p.2.f0))).Pairwise (fun a b=>∀ g,a.1.ownBlock=some g→b.1.ownBlock≠some g)
theorem apt_of {w:World} {B gb cap:Nat} {bs:List (Value × S47)} {tl:List Value} (h:Wr8 w B gb cap bs tl):Apt bs:=by
 unfold Apt
 rw [List.pairwise_map,List.pairwise_iff_getElem]
 intro i j hi hj hij
 exact h.sep i j _ _ (by omega) (List.getElem?_eq_getElem hi) (List.getElem?_eq_getElem hj)
theorem vT {bs:List (Value × S47)} (h:Apt bs):∀ (n m:Nat) (p q:Value × S47),n≠m→bs[n]?=some p→bs[m]?=some q→∀ g,p.1.ownBlock=some g→q.1.ownBlock≠some g:=by
 unfold Apt at h
 rw [List.pairwise_map,List.pairwise_iff_getElem] at h
 intro n m p q hnm hp hq g hg hg2
 obtain ⟨h1,rfl⟩:=List.getElem?_eq_some_iff.1 hp
 obtain ⟨h2,rfl⟩:=List.getElem?_eq_some_iff.1 hq
 rcases Nat.lt_or_gt_of_ne hnm with h3 | h3
 · exact h n m h1 h2 h3 g hg hg2
 exact h m n h2 h1 h3 g hg2 hg
theorem mk_bo (L:Nat) (hL:L≤4096) (W:World):(Instr.makeSlice 73 (.int .i64 ((L:Int)+1)) (.int .i64 ((L:Int)+1))).run Try.prog W = .ok (.slice (some ⟨W.heap.size,0,none⟩) (L+1) (L+1)) (W.alloc (.cells (boC (List.replicate (L+1) false)) 4)):=by
 rw [show (L:Int)+1=((L+1:Nat):Int) by omega]
 obtain ⟨i,hi,hzz⟩:=Option.map_eq_some_iff.1 wz
 simp only [Prod.mk.injEq] at hzz
 obtain ⟨hz,hs,hb⟩:=hzz
 have h:=run_make (P:=Try.prog) W 73 4 i _ Try.underlying73 hi hz .i64 .i64 ((L+1:Nat):Int) ((L+1:Nat):Int) (by omega) (Int.le_refl _) (by rw [hb];omega) (by omega)
 rw [Int.toNat_natCast,hs] at h
 have e:=jL (fun b:Bool=>[Value.bool b]) false 1 rfl (L+1)
 refine h.trans ?_
 show Result.ok _ (World.alloc W (.cells (madeCells [Value.bool false].toArray ((L+1)*1)) 4))=_
 rw [e]
 unfold boC
 rw [List.map_eq_flatMap]
theorem MkB.old {i:S45} {s:Nat} {F:List Bool} (h:MkB i s F) {F1:List Bool} (m:∀ s,Tr F s→Tr F1 s):MkB i s F1:=⟨fun e=>m _ (h.ja e),fun e=>m _ (h.jt e),fun e=>m _ (h.jf e),fun e=>m _ (h.nx e)⟩
structure BgI (w X:World) (gf n:Nat) (F:List Bool):Prop where
 low:Below w.heap.size w X
 row:X.heap[gf]?=some (.cells (boC F) 4 (0,0))
 len:F.length=n+1
 lo:w.heap.size≤gf
section
variable {w X Y:World} {gf n:Nat} {F:List Bool}
theorem BgI.below (h:BgI w X gf n F) (hb:Below X.heap.size X Y):BgI w Y gf n F:=⟨av h.low hb,aj h.row hb,h.len,h.lo⟩
theorem BgI.set (h:BgI w X gf n F) (j:Nat):BgI w (X.setCell ⟨gf,j,none⟩ (.bool true)) gf n (F.set j true):=⟨h.low.setCell h.lo _,aM h.row j _ (rH j true),by rw [List.length_set];exact h.len,h.lo⟩
theorem BgI.cell (h:BgI w X gf n F) {j:Nat} (hj:j<n+1):X.cell? ⟨gf,j,none⟩=some (.bool (F.getD j false))∧X.frozen? ⟨gf,j,none⟩=false:=⟨(ae h.row j).trans (jH (by rw [h.len];exact hj)),af h.row j⟩
end
structure BgM (p:List S45) (F:List Bool) (i:Nat):Prop where
 t0:Tr F 0
 m:∀ (s:Nat) (h:s<p.length),s<i→MkB p[s] s F
theorem BgM.old {p:List S45} {F F1:List Bool} {i:Nat} (h:BgM p F i) (m:∀ s,Tr F s→Tr F1 s):BgM p F1 i:=⟨m _ h.t0,fun s h1 h2=>(h.m s h1 h2).old m⟩
structure BgG (b:S45) (i:Nat) (F:List Bool):Prop where
 ja:b.f0=5→Tr F (i+1+b.f3.toNat)
 jt:jmB b.f0=true→Tr F (i+1+b.f1.toNat)
 jf:jmB b.f0=true→Tr F (i+1+b.f2.toNat)
theorem BgG.old {b:S45} {i:Nat} {F F1:List Bool} (h:BgG b i F) (m:∀ s,Tr F s→Tr F1 s):BgG b i F1:=⟨fun e=>m _ (h.ja e),fun e=>m _ (h.jt e),fun e=>m _ (h.jf e)⟩
theorem BgM.next {p:List S45} {F:List Bool} {i:Nat} {b:S45} (h:BgM p F i) (hb:p[i]?=some b) (hg:BgG b i F) (hn:aU b.f0=5∨reB b.f0=true→Tr F (i+1)):BgM p F (i+1):=by
 refine ⟨h.t0,fun s h1 h2=>?_⟩
 by_cases e:s=i
 · subst e
   have:=(List.getElem?_eq_some_iff.1 hb).2
   rw [this]
   exact ⟨hg.ja,hg.jt,hg.jf,hn⟩
 exact h.m s h1 (by omega)
theorem rC (w:World) (p:List S45) (A:Option Addr) (c:Nat) (hP:Kd.C k45 w A p.length p) (hc:p.length≤c) (hw:PrW p) (hp:p.length≤4096) (h0:0<p.length) (hok:∀ (s:Nat) (h:s<p.length),okJ p s p[s]) :
 Calls Try.prog 60 #[.slice A p.length c] w fun e w'=>∃ F gf,e = .returned (.slice (some ⟨gf,0,none⟩) (p.length+1) (p.length+1))∧BgI w w' gf p.length F∧BgM p F p.length:=by
 obtain ⟨n,en⟩:∃ n,n=p.length:=⟨_,rfl⟩
 have hmk:=mk_bo n (by omega)
 have HC:=aa.mk hP
 have HCC:=aa.mk hc
 have HW:=aa.mk hw
 have HOK:=aa.mk hok
 have EN:=aa.mk en
 rw [←en] at hp h0 HC ⊢
 clear hP hc hw hok en
 go_enter Try.func60,Try.ntmps60
 go_upto_region 2 with (fail)
 refine forget (fun X=>∃ gf,gf=w.heap.size∧BgI w X gf n (List.replicate (n+1) false)) ⟨_,rfl,ai (Below.refl _ _) _,heap_alloc_new _ _,List.length_replicate,Nat.le_refl _⟩ ?_
 rintro X ⟨gf,egf,hI⟩
 rw [←egf]
 obtain ⟨k0,kz⟩:=hI.cell (show 0<n+1 by omega)
 have i0:(0:Int)<((n:Int)+1):=by omega
 have HI:=aa.mk hI
 clear hI egf hmk
 go_upto_region 3 with (fail)
 refine forget (fun Y=>∃ F,BgI w Y gf n F∧BgM p F 0) ⟨_,HI.out.set 0,nR (by rw [List.length_replicate];omega),fun s _ h=>absurd h (by omega)⟩ ?_
 clear k0 kz HI i0
 rintro Y ⟨F,hI,hM⟩
 have HI:=aa.mk (And.intro hI hM)
 clear hI hM
 go_wp2
 go_loopw [4,5] (fun v4 v5 wr=>∃ (i:Nat) (F:List Bool),i≤n∧v4 = .int .i64 i∧aa (BgI w wr gf n F∧BgM p F i)) (fun v4 _ _=>n - (intOf v4).toNat)
 case atStart=>exact ⟨0,F,Nat.zero_le _,rfl,HI⟩
 case round=>
  clear HI
  obtain ⟨i,F,hi,rfl,HI⟩:=hrel
  by_cases hlt:i<n
  · obtain ⟨b,hb⟩:∃ b,p[i]?=some b:=⟨_,List.getElem?_eq_getElem (by rw [←EN.out];exact hlt)⟩
    have hbo:okJ p i b∧(0≤b.f1∧b.f1<256∧0≤b.f2∧b.f2<256∧0≤b.f3∧b.f3<4294967296):=by
     obtain ⟨h1,h2⟩:=List.getElem?_eq_some_iff.1 hb
     exact ⟨by have:=HOK.out i h1;rw [h2] at this;exact this,HW.out.w b (List.mem_of_getElem? hb)⟩
    have hrd:aV p (i:Int)=b:=by
     obtain ⟨h1,h2⟩:=List.getElem?_eq_some_iff.1 hb
     rw [kw h1,h2]
    have i0:(0:Int)≤(i:Int):=by omega
    have i1:(i:Int)<(n:Int):=by omega
    have HB:aa (Below w.heap.size w wr):=⟨HI.out.1.low⟩
    obtain ⟨ad,rfl,x0,x1,x2,x3,-,-⟩:=gV HC HB (i:Int) (decide_eq_true i0) (decide_eq_true i1)
    rw [hrd] at x0 x1 x2 x3
    rw [Int.toNat_natCast] at x0 x1 x2 x3
    have hja:=hbo.1.2.1
    have hjm:=hbo.1.2.2
    rw [←EN.out] at hja hjm
    have HBB:=aa.mk (And.intro hb hbo)
    obtain ⟨hw1,hw2,hw3,hw4,hw5,hw6⟩:=hbo.2
    have HJ:=aa.mk (fun W=>aK.calls b.f0 _ W (uJ b.f0))
    clear hbo hb
    go_upto_block 2 with (fail)
    go_cut [4,5] (fun v4 v5 wc=>v4 = .int .i64 i∧v5 = .int .u16 b.f0∧∃ F1,aa (BgI w wc gf n F1∧BgM p F1 i∧BgG b i F1))
    case first=>
     by_cases c5:b.f0=5
     · have hj:=hja c5
       obtain ⟨q,hq⟩:∃ q:Nat,b.f3=(q:Int):=⟨b.f3.toNat,by omega⟩
       rw [hq] at x3 hj
       have hj2:i+1+q<n:=by omega
       obtain ⟨k0,kz⟩:=HI.out.1.cell (show i+1+q<n+1 by omega)
       have hg:aa (BgG b i (F.set (i+1+q) true)):=⟨fun _=>by rw [hq];exact nR (by rw [HI.out.1.len];omega),fun h=>absurd c5 (zY h),fun h=>absurd c5 (zY h)⟩
       have b5:(b.f0==5)=true:=by rw [c5];rfl
       clear hja hjm hj c5
       go_wp2
       go_meet
       exact ⟨rfl,rfl,_,⟨HI.out.1.set (i+1+q),HI.out.2.old (fun s h=>nS _ h),hg.out⟩⟩
     have b5:(b.f0==5)=false:=beq_eq_false_iff_ne.mpr c5
     have HF:=aa.mk c5
     obtain ⟨t,et⟩:∃ t,t=jmB b.f0:=⟨_,rfl⟩
     rw [←et] at HJ hjm
     have ET:=aa.mk et
     clear hja c5 et
     cases t
     case' false=>
      go_wp2_with (go_at_call 50;refine (HJ.out _).mono ?_;rintro e w' ⟨rfl,⟨nd,rfl⟩⟩)
      go_meet
      exact ⟨rfl,rfl,F,⟨HI.out.1.below (aA (Below.refl _ _) _),HI.out.2,fun h=>absurd h HF.out,(fun h=>by rw [←ET.out] at h;cases h),(fun h=>by rw [←ET.out] at h;cases h)⟩⟩
     case' true=>
      obtain ⟨q,hq⟩:∃ q:Nat,b.f1=(q:Int):=⟨b.f1.toNat,by omega⟩
      obtain ⟨r,hr⟩:∃ r:Nat,b.f2=(r:Int):=⟨b.f2.toNat,by omega⟩
      have hj:=hjm rfl
      rw [hq,hr] at hj
      have hj1:i+1+q<n:=by omega
      have hj2:i+1+r<n:=by omega
      have HQ:=aa.mk (And.intro hq hr)
      clear hjm
      go_upto_region 10 with (go_at_call 50;refine (HJ.out _).mono ?_;rintro e w' ⟨rfl,⟨nd,rfl⟩⟩)
      refine forget (fun V=>BgI w V gf n F) (HI.out.1.below (aA (Below.refl _ _) _)) ?_
      clear x0 x1 x2 x3
      rintro V hV
      have HV:=aa.mk hV
      have HBV:aa (Below w.heap.size w V):=⟨hV.low⟩
      obtain ⟨x0,x1,x2,x3,-,-⟩:=gP HC HBV (i:Int) (decide_eq_true i0) (decide_eq_true i1)
      rw [hrd,Int.toNat_natCast] at x1
      rw [hq] at x1
      obtain ⟨k0,kz⟩:=hV.cell (show i+1+q<n+1 by omega)
      clear hV x0 x2 x3
      go_upto_region 11 with (fail)
      refine forget (fun V=>BgI w V gf n (F.set (i+1+q) true)) (HV.out.set (i+1+q)) ?_
      clear x1 k0 kz HBV HV
      rintro V hV
      have HV:=aa.mk hV
      have HBV:aa (Below w.heap.size w V):=⟨hV.low⟩
      obtain ⟨x0,x1,x2,x3,-,-⟩:=gP HC HBV (i:Int) (decide_eq_true i0) (decide_eq_true i1)
      rw [hrd,Int.toNat_natCast] at x2
      rw [hr] at x2
      obtain ⟨k0,kz⟩:=hV.cell (show i+1+r<n+1 by omega)
      clear hV x0 x1 x3
      go_wp2
      go_meet
      exact ⟨rfl,rfl,_,⟨HV.out.set (i+1+r),HI.out.2.old (fun s h=>nS _ (nS _ h)),fun h=>absurd h HF.out,(fun h=>by rw [HQ.out.1];exact nS _ (nR (by rw [HI.out.1.len];omega))),(fun h=>by rw [HQ.out.2];exact nR (by rw [List.length_set,HI.out.1.len];omega))⟩⟩
    case rest=>
     clear x0 x1 x2 x3 HB HI HJ hja hjm
     obtain ⟨rfl,rfl,F1,HF⟩:=hcut
     obtain ⟨v,ev⟩:∃ v,v=aU b.f0:=⟨_,rfl⟩
     obtain ⟨t,et⟩:∃ t,t=reB b.f0:=⟨_,rfl⟩
     have HCL:aa (∀ W,Calls Try.prog 61 #[.int .u16 b.f0] W fun e w'=>e = .returned (.int .i64 v)∧bZ W w'):=⟨fun W=>by rw [ev];exact bL.calls 10 b.f0 _ W (gu b.f0 2).2⟩
     have HRT:aa (∀ W,Calls Try.prog 51 #[.int .u16 b.f0] W fun e w'=>e = .returned (.bool t)∧bZ W w'):=⟨fun W=>by rw [et];exact bP.calls b.f0 _ W (ll b.f0)⟩
     have HNX:aa (∀ F2:List Bool,(∀ s,Tr F1 s→Tr F2 s)→(v=5∨t=true→Tr F2 (i+1))→BgM p F2 (i+1)):=⟨fun F2 h1 h2=>(HF.out.2.1.old h1).next HBB.out.1 (HF.out.2.2.old h1) (fun h=>h2 (by rw [ev,et];exact h))⟩
     obtain ⟨k0,kz⟩:=HF.out.1.cell (show i+1<n+1 by omega)
     have i2:(i:Int)+1<(n:Int)+1:=by omega
     clear ev et
     by_cases c5:v=5
     · have HN2:aa (BgM p (F1.set (i+1) true) (i+1)):=⟨HNX.out _ (fun s h=>nS _ h) (fun _=>nR (by rw [HF.out.1.len];omega))⟩
       have b5:(v==5)=true:=by rw [c5];rfl
       clear c5 HNX
       go_upto_region 13 with (go_at_call 61;refine (HCL.out _).mono ?_;rintro e w' ⟨rfl,⟨nd,rfl⟩⟩)
       refine forget (fun V=>BgI w V gf n F1) (HF.out.1.below (aA (Below.refl _ _) _)) ?_
       clear k0 kz HF
       rintro V hV
       have HV:=aa.mk hV
       obtain ⟨k0,kz⟩:=hV.cell (show i+1<n+1 by omega)
       clear hV
       go_wp2
       go_roundw
       case rel=>exact ⟨i+1,_,by omega,by go_num,⟨HV.out.set (i+1),HN2.out⟩⟩
       case measure=>simp [intOf];omega
     have b5:(v==5)=false:=beq_eq_false_iff_ne.mpr c5
     cases t
     case' true=>
      have HN2:aa (BgM p (F1.set (i+1) true) (i+1)):=⟨HNX.out _ (fun s h=>nS _ h) (fun _=>nR (by rw [HF.out.1.len];omega))⟩
      clear c5 HNX
      go_upto_region 13 with (first | (go_at_call 61;refine (HCL.out _).mono ?_;rintro e w' ⟨rfl,⟨nd,rfl⟩⟩) | (go_at_call 51;refine (HRT.out _).mono ?_;rintro e w' ⟨rfl,⟨nd2,rfl⟩⟩))
      refine forget (fun V=>BgI w V gf n F1) (HF.out.1.below (aA (Below.refl _ _) _)) ?_
      clear k0 kz HF
      rintro V hV
      have HV:=aa.mk hV
      obtain ⟨k0,kz⟩:=hV.cell (show i+1<n+1 by omega)
      clear hV
      go_wp2
      go_roundw
      case rel=>exact ⟨i+1,_,by omega,by go_num,⟨HV.out.set (i+1),HN2.out⟩⟩
      case measure=>simp [intOf];omega
     case' false=>
      have HN2:aa (BgM p F1 (i+1)):=⟨HNX.out _ (fun s h=>h) (fun h=>by rcases h with h | h;exact absurd h c5;cases h)⟩
      clear c5 HNX k0 kz
      go_wp2_with (first | (go_at_call 61;refine (HCL.out _).mono ?_;rintro e w' ⟨rfl,⟨nd,rfl⟩⟩) | (go_at_call 51;refine (HRT.out _).mono ?_;rintro e w' ⟨rfl,⟨nd2,rfl⟩⟩))
      go_roundw
      case rel=>exact ⟨i+1,_,by omega,by go_num,⟨HF.out.1.below (aA (Below.refl _ _) _),HN2.out⟩⟩
      case measure=>simp [intOf];omega
  have hin:i=n:=by omega
  subst hin
  go_wp2
  go_ret
  exact ⟨F,gf,rfl,HI.out.1,HI.out.2⟩
theorem nb_tg {n:Nat} {F:List Bool} {N:List Int} (hN:NB n F N n) {t a o:Nat} (ht:t<n) (hT:Tr F t) (ha:a≤t) (ho:bcn F a=o+1):(o:Int)<rd N (t:Int)∧rd N (t:Int)<(bcn F n:Int):=by
 have e:rd N (t:Int)=(bcn F (t+1):Int) - 1:=by
  unfold rd
  rw [Int.toNat_natCast]
  exact hN.at_ t ht
 have h1:=kR hT
 have h2:=rA F ha
 have h3:=rA F (show t+1≤n by omega)
 rw [e]
 omega
structure DR (w X:World) (gc gn L:Nat) (c:List Bool) (nm:List Int):Prop where
 low:Below w.heap.size w X
 cm:X.heap[gc]?=some (.cells (boC c) 4 (0,0))
 nb:X.heap[gn]?=some (.cells (inC nm) 3 (0,0))
 cl:c.length=L
 nl:nm.length=L
 lc:w.heap.size≤gc
 ln:w.heap.size≤gn
section
variable {w X Y:World} {gc gn gt L n:Nat} {c C:List Bool} {nm:List Int} {q q':Value × S47} {G:List S47} {b:S47}
theorem DR.ne (h:DR w X gc gn L c nm):gc≠gn:=bT h.cm h.nb (by decide)
theorem DR.below (h:DR w X gc gn L c nm) (hb:Below X.heap.size X Y):DR w Y gc gn L c nm:=⟨av h.low hb,aj h.cm hb,aj h.nb hb,h.cl,h.nl,h.lc,h.ln⟩
theorem DR.setc (h:DR w X gc gn L c nm) (j:Nat) (x:Bool):DR w (X.setCell ⟨gc,j,none⟩ (.bool x)) gc gn L (c.set j x) nm:=
 ⟨h.low.setCell h.lc _,aM h.cm j _ (rH j x),(Deep.blk_setCell_other _ _ _ _ h.ne.symm).trans h.nb,by rw [List.length_set];exact h.cl,h.nl,h.lc,h.ln⟩
theorem DR.qB (h:DR w X gc gn L c nm) (j:Nat) (x:Int):DR w (X.setCell ⟨gn,j,none⟩ (.int .i64 x)) gc gn L c (nm.set j x):=
 ⟨h.low.setCell h.ln _,(Deep.blk_setCell_other _ _ _ _ h.ne).trans h.cm,aM h.nb j _ (rU j x),h.cl,by rw [List.length_set];exact h.nl,h.lc,h.ln⟩
structure DT (w X:World) (gc gn L:Nat) (c:List Bool) (nm:List Int) (gt:Nat) (q:Value × S47):Prop where
 dr:DR w X gc gn L c nm
 bt:X.heap[gt]?=some (.cells (b8 q).toArray 47 (0,0))
 lt:w.heap.size≤gt
theorem DT.setc (h:DT w X gc gn L c nm gt q) (j:Nat) (x:Bool):DT w (X.setCell ⟨gc,j,none⟩ (.bool x)) gc gn L (c.set j x) nm gt q:=
 ⟨h.dr.setc j x,(Deep.blk_setCell_other _ _ _ _ (bT h.bt h.dr.cm (by decide))).trans h.bt,h.lt⟩
theorem DT.qB (h:DT w X gc gn L c nm gt q) (j:Nat) (x:Int):DT w (X.setCell ⟨gn,j,none⟩ (.int .i64 x)) gc gn L c (nm.set j x) gt q:=
 ⟨h.dr.qB j x,(Deep.blk_setCell_other _ _ _ _ (bT h.bt h.dr.nb (by decide))).trans h.bt,h.lt⟩
theorem DT.mg (h:DT w X gc gn L c nm gt q) {j:Nat} {u:Value} (e:(b8 q).set j u=b8 q'):DT w (X.setCell ⟨gt,j,none⟩ u) gc gn L c nm gt q':=
 ⟨⟨h.dr.low.setCell h.lt _,(Deep.blk_setCell_other _ _ _ _ (bT h.dr.cm h.bt (by decide))).trans h.dr.cm,(Deep.blk_setCell_other _ _ _ _ (bT h.dr.nb h.bt (by decide))).trans h.dr.nb,h.dr.cl,h.dr.nl,h.dr.lc,h.dr.ln⟩,
  aM h.bt j u (by rw [List.setIfInBounds_toArray,e]),h.lt⟩
structure DI (w X:World) (gc gn L:Nat) (C:List Bool) (G:List S47) (n:Nat) (c:List Bool) (nm:List Int):Prop where
 dr:DR w X gc gn L c nm
 cf:cmF (G.drop n) n c=C
 nf:∀ j,j<n→C.getD j false=true→nm.getD j 0=(cO C j:Nat)
theorem DI.at_ (h:DI w X gc gn L C G n c nm) (hG:GOk G):c.getD n false=C.getD n false:=by
 have e:=cm_o G.length (G.drop n) n c (fun j b hb=>by rw [List.getElem?_drop] at hb;exact hG.all (n+j) b hb) n (Nat.le_refl n)
 rw [h.cf] at e
 exact e.symm
theorem DI.skip (h:DI w X gc gn L C G n c nm) (hG:GOk G) (hd:G.drop n=b :: G.drop (n+1)) (hc:C.getD n false=false) (hY:DR w Y gc gn L c nm):DI w Y gc gn L C G (n+1) c nm:=by
 have e:=h.at_ hG
 rw [hc] at e
 refine ⟨hY,?_,fun j hj hcj=>?_⟩
 · have h2:=h.cf
   rw [hd,cmF,if_neg (by rw [e];decide)] at h2
   exact h2
 by_cases ej:j=n
 · subst ej;rw [hc] at hcj;cases hcj
 exact h.nf j (by omega) hcj
theorem DI.go (h:DI w X gc gn L C G n c nm) (hG:GOk G) (hd:G.drop n=b :: G.drop (n+1)) (hn:n<L) (hc:C.getD n false=true) (hY:DR w Y gc gn L (mkC b c) (nm.set n (cO C n:Nat))):DI w Y gc gn L C G (n+1) (mkC b c) (nm.set n (cO C n:Nat)):=by
 have e:=h.at_ hG
 rw [hc] at e
 refine ⟨hY,?_,fun j hj hcj=>?_⟩
 · have h2:=h.cf
   rw [hd,cmF,if_pos e] at h2
   exact h2
 rw [dL (by rw [h.dr.nl];exact hn)]
 by_cases ej:n=j
 · subst ej;rw [if_pos rfl]
 rw [if_neg ej];exact h.nf j (by omega) hcj
theorem DI.done (h:DI w X gc gn L C G L c nm) (hL:G.length=L):c=C:=by
 have:=h.cf
 rw [List.drop_eq_nil_of_le (by omega)] at this
 exact this
structure DO (w X:World) (gc gn L:Nat) (C:List Bool) (nm:List Int) (bs:List (Value × S47)) (n:Nat) (v:Value):Prop where
 dr:DR w X gc gn L C nm
 out:(Kd.raw 8).R 47 X w.heap.size (fun _=>True) v ((dpV C (bs.take n) 0).map b8)
theorem mF {bs:List (Value × S47)} (h:bs[n]?=some q):dpV C (bs.take (n+1)) 0=dpV C (bs.take n) 0++(if C.getD n false=true then [(q.1,gM C q.2)] else []):=by
 have hn:=mR h
 rw [List.take_succ_eq_append_getElem hn,dpV_app]
 congr 1
 rw [List.length_take,Nat.min_eq_left (by omega),Nat.zero_add]
 have e:bs[n]=q:=by rw [List.getElem?_eq_getElem hn] at h;exact Option.some.inj h
 rw [e,dpV]
 rfl
theorem DO.skip {bs:List (Value × S47)} {v:Value} (h:DO w X gc gn L C nm bs n v) (hq:bs[n]?=some q) (hc:C.getD n false=false) (hb:Below X.heap.size X Y):DO w Y gc gn L C nm bs (n+1) v:=by
 refine ⟨h.dr.below hb,?_⟩
 rw [mF hq,if_neg (by rw [hc];decide),List.append_nil]
 exact Kd.il h.out hb
theorem DR.grown {v:Value} {bs:List (Value × S47)} (h:DR w X gc gn L C nm) (hr:(Kd.raw 8).R 47 X w.heap.size (fun _=>True) v (bs.map b8)) (hb:Below w.heap.size w Y) (hg:X.grownBy Y v.ownBlock):DR w Y gc gn L C nm:=
 ⟨hb,(hg.block _ (ax h.cm) (Kd.sV hr h.cm (by decide))).trans h.cm,(hg.block _ (ax h.nb) (Kd.sV hr h.nb (by decide))).trans h.nb,h.cl,h.nl,h.lc,h.ln⟩
theorem dpV_le:∀ (bs:List (Value × S47)) (n:Nat),(dpV C bs n).length≤bs.length:=by
 intro bs n
 have:=(oL C bs n).length_le
 rw [List.length_map,List.length_map] at this
 exact this
theorem drop_wk {B:Bs} {gw gb cap:Nat} {bs:List (Value × S47)} {tl:List Value} {v:Value} (hW:Wk w B gw gb cap bs tl) (hb:Below w.heap.size w X) (h:(Kd.raw 8).R 47 X w.heap.size (fun _=>True) v ((dpV C bs 0).map b8)) (hne:dpV C bs 0≠[]) :
 ∃ gb' cap' tl',Wk (X.setCell ⟨gw,0,none⟩ v) B gw gb' cap' (dpV C bs 0) tl'∧Below B.n w (X.setCell ⟨gw,0,none⟩ v):=by
 obtain ⟨gb',cap',tl',e,hge,hr,hs,hle,hmx⟩:=pU h hne
 have hgw:=ax hW.me
 have hlo:=hW.lo
 have hne2:gb'≠gw:=by omega
 have hk:=(Kp.refl (fun x=>x=gw) X).set (g:=gw) (.inl rfl) 0 v
 refine ⟨gb',cap',tl',⟨?_,⟨(Deep.blk_setCell_other _ _ _ _ hne2).trans hr,hs,hle,hmx,fun n p hp=>?_,?_,by omega,fun p hp g hg=>?_⟩,hlo,(Deep.blk_setCell_other _ _ _ _ (bT hW.ps hW.me (by decide))).trans (aj hW.ps hb)⟩,?_⟩
 · refine aM (aj hW.me hb) 0 _ ?_
   rw [e];rfl
 · have hm:(p.1,p.2.f0)∈(dpV C bs 0).map (fun p=>(p.1,p.2.f0)):=List.mem_map_of_mem (List.mem_of_getElem? hp)
   obtain ⟨q,hq,eq⟩:=List.mem_map.1 ((oL C bs 0).subset hm)
   simp only [Prod.mk.injEq] at eq
   obtain ⟨j,hj,rfl⟩:=List.getElem_of_mem hq
   have hcd:=hW.row.code j _ (List.getElem?_eq_getElem hj)
   rw [eq.1,eq.2] at hcd
   refine (hcd.below hb).kp hk (fun g hg e2=>?_)
   subst e2
   obtain ⟨cs,h1⟩:=hcd.lt hg
   exact bT hW.me h1 (by decide) rfl
 · have ha:Apt (dpV C bs 0):=by
    have h0:Apt bs:=apt_of hW.row
    unfold Apt at h0 ⊢
    exact List.Pairwise.sublist (oL C bs 0) h0
   exact vT ha
 · have hm:(p.1,p.2.f0)∈(dpV C bs 0).map (fun p=>(p.1,p.2.f0)):=List.mem_map_of_mem hp
   obtain ⟨q,hq,eq⟩:=List.mem_map.1 ((oL C bs 0).subset hm)
   simp only [Prod.mk.injEq] at eq
   exact hW.row.lo.2 q hq g (by rw [eq.1];exact hg)
 exact (show Below B.n w X from ⟨hb.os,hb.tape,hb.output,hb.size,fun i hi=>hb.block i (by omega)⟩).setCell hlo _
end
theorem mk_in (L:Nat) (hL:L≤4096) (W:World):(Instr.makeSlice 70 (.int .i64 ((L:Int)+1)) (.int .i64 ((L:Int)+1))).run Try.prog W = .ok (.slice (some ⟨W.heap.size,0,none⟩) (L+1) (L+1)) (W.alloc (.cells (inC (List.replicate (L+1) 0)) 3)):=by
 rw [show (L:Int)+1=((L+1:Nat):Int) by omega]
 obtain ⟨i,hi,hzz⟩:=Option.map_eq_some_iff.1 wD
 simp only [Prod.mk.injEq] at hzz
 obtain ⟨hz,hs,hb⟩:=hzz
 have h:=run_make (P:=Try.prog) W 70 3 i _ Try.underlying70 hi hz .i64 .i64 ((L+1:Nat):Int) ((L+1:Nat):Int) (by omega) (Int.le_refl _) (by rw [hb];omega) (by omega)
 rw [Int.toNat_natCast,hs] at h
 have e:=jL (fun b:Int=>[Value.int .i64 b]) 0 1 rfl (L+1)
 refine h.trans ?_
 show Result.ok _ (World.alloc W (.cells (madeCells [Value.int .i64 0].toArray ((L+1)*1)) 3))=_
 rw [e]
 unfold inC
 rw [List.map_eq_flatMap]
structure OfS (w X:World) (gf gn n:Nat) (F:List Bool) (N:List Int) (v:Value) (out:List S47):Prop where
 dr:DR w X gf gn (n+1) F N
 out:k47.R 47 X w.heap.size (fun _=>True) v out
structure OfT (w X:World) (gt:Nat) (q:Value × S47):Prop where
 low:Below w.heap.size w X
 bt:X.heap[gt]?=some (.cells (b8 q).toArray 47 (0,0))
 lt:w.heap.size≤gt
 code:k45.R 45 X w.heap.size (fun _=>True) q.1 q.2.f0
section
variable {w wr X Y:World} {gf gn n gt:Nat} {F:List Bool} {N:List Int} {v:Value} {out:List S47} {q q':Value × S47}
theorem OfS.below (h:OfS w X gf gn n F N v out) (hb:Below X.heap.size X Y):OfS w Y gf gn n F N v out:=⟨h.dr.below hb,Kd.il h.out hb⟩
theorem OfT.below (h:OfT w X gt q) (hb:Below X.heap.size X Y):OfT w Y gt q:=⟨av h.low hb,aj h.bt hb,h.lt,Kd.il h.code hb⟩
theorem OfT.far (h:OfT w X gt q) {j:Nat} {u:Value}:k45.R 45 (X.setCell ⟨gt,j,none⟩ u) w.heap.size (fun _=>True) q.1 q.2.f0:=Kd.ig (Kd.vN (p:=⟨gt,j,none⟩) (Kd.lC h.code h.bt (by decide)) (fun _ hk=>hk.2) u) (fun _ _=>trivial)
theorem OfT.mg (h:OfT w X gt q) {j:Nat} {u:Value} (e:(b8 q).set j u=b8 q') (e0:q'.1=q.1) (e1:q'.2.f0=q.2.f0):OfT w (X.setCell ⟨gt,j,none⟩ u) gt q':=
 ⟨h.low.setCell h.lt _,aM h.bt j u (by rw [List.setIfInBounds_toArray,e]),h.lt,by rw [e0,e1];exact h.far⟩
theorem OfT.grown {v1:Value} {c1:List S45} (h:OfT w X gt q) (hR:k45.R 45 Y w.heap.size (fun _=>True) v1 c1) (hB:Below w.heap.size w Y) (hG:X.drew.grownBy Y q.1.ownBlock) :
 Y.heap[gt]?=some (.cells (b8 q).toArray 47 (0,0))∧OfT w (Y.setCell ⟨gt,0,none⟩ v1) gt (v1,⟨c1,q.2.f1,q.2.f2,q.2.f3,q.2.f4⟩):=by
 have h1:Y.heap[gt]?=some (.cells (b8 q).toArray 47 (0,0)):=(hG.block gt (ax h.bt) (Kd.sV h.code h.bt (by decide))).trans h.bt
 exact ⟨h1,hB.setCell h.lt _,aM h1 0 v1 (by rw [List.setIfInBounds_toArray];rfl),h.lt,Kd.ig (Kd.vN (p:=⟨gt,0,none⟩) (Kd.lC hR h1 (by decide)) (fun _ hk=>hk.2) v1) (fun _ _=>trivial)⟩
theorem OfT.m (h:OfT wr X gt q) (hs:w.heap.size≤wr.heap.size):k47.M X w.heap.size (fun k=>wr.heap.size≤k) q.2 (b8 q):=
 mK X _ _ q.2 (mi (lH h.code) (fun g hg=>by
  have:=(Kd.jG h.code).1 g hg
  exact ⟨by have:=this.2.1;omega,this.2.1⟩))
theorem OfT.last (h:OfT w X gt q) (l:S45):OfT w ((((X.setCell ⟨gt,2,none⟩ (.int .u16 l.f0)).setCell ⟨gt,3,none⟩ (.int .u8 l.f1)).setCell ⟨gt,4,none⟩ (.int .u8 l.f2)).setCell ⟨gt,5,none⟩ (.int .u32 l.f3)) gt (q.1,⟨q.2.f0,q.2.f1,l,q.2.f3,q.2.f4⟩):=
 (((h.mg (q':=(q.1,⟨q.2.f0,q.2.f1,⟨l.f0,q.2.f2.f1,q.2.f2.f2,q.2.f2.f3⟩,q.2.f3,q.2.f4⟩)) (j:=2) rfl rfl rfl).mg (q':=(q.1,⟨q.2.f0,q.2.f1,⟨l.f0,l.f1,q.2.f2.f2,q.2.f2.f3⟩,q.2.f3,q.2.f4⟩)) (j:=3) rfl rfl rfl).mg (q':=(q.1,⟨q.2.f0,q.2.f1,⟨l.f0,l.f1,l.f2,q.2.f2.f3⟩,q.2.f3,q.2.f4⟩)) (j:=4) rfl rfl rfl).mg (q':=(q.1,⟨q.2.f0,q.2.f1,⟨l.f0,l.f1,l.f2,l.f3⟩,q.2.f3,q.2.f4⟩)) (j:=5) rfl rfl rfl
theorem OfS.put {v1:Value} (h:OfS w X gf gn n F N v out) (hR:k47.R 47 Y w.heap.size (fun _=>True) v1 (out++[q.2])) (hB:Below w.heap.size w Y) (hG:X.grownBy Y v.ownBlock):OfS w Y gf gn n F N v1 (out++[q.2]):=
 ⟨⟨hB,(hG.block _ (ax h.dr.cm) (Kd.sV h.out h.dr.cm (by decide))).trans h.dr.cm,(hG.block _ (ax h.dr.nb) (Kd.sV h.out h.dr.nb (by decide))).trans h.dr.nb,h.dr.cl,h.dr.nl,h.dr.lc,h.dr.ln⟩,hR⟩
end
structure OfP (p:List S45) (n:Nat) (F:List Bool) (N:List Int):Prop where
 len:n=p.length
 few:n≤4096
 some_:0<n
 w:PrW p
 ok:∀ (s:Nat) (h:s<p.length),okJ p s p[s]
 re:∀ b,p[n - 1]?=some b→reB b.f0=true
 f:F.length=n+1
 m:BgM p F n
 nb:NB n F N n
structure OfH (n:Nat) (F:List Bool) (out:List S47) (i:Nat):Prop where
 t:i<n→Tr F i
 c:bcn F i=out.length
 o:OI (bcn F n) out i
structure OfI (n:Nat) (F:List Bool) (out:List S47) (e:Nat) (i:Nat) (c:List S45):Prop where
 lt:i<n
 oc:OC c
 o:OI (bcn F n) out e
 le:e+c.length≤i
 z:c=[]→Tr F i∧bcn F i=out.length
section
variable {p c:List S45} {n i e:Nat} {F:List Bool} {N:List Int} {out:List S47} {b:S45}
theorem OfP.at_ (h:OfP p n F N) (hi:i<n):∃ b,p[i]?=some b∧aV p (i:Int)=b∧(flF b.f0 b.f3=0∧(b.f0=5→b.f3<(n:Int) - 1 - i)∧(jmB b.f0=true→b.f1<(n:Int) - 1 - i∧b.f2<(n:Int) - 1 - i))∧(0≤b.f1∧b.f1<256∧0≤b.f2∧b.f2<256∧0≤b.f3∧b.f3<4294967296)∧MkB b i F∧(i+1=n→reB b.f0=true):=by
 have hlt:i<p.length:=by rw [←h.len];exact hi
 refine ⟨p[i],List.getElem?_eq_getElem hlt,kw hlt,?_,h.w.w _ (List.getElem_mem hlt),h.m.m i hlt hi,fun e=>h.re _ ?_⟩
 · rw [h.len];exact h.ok i hlt
 rw [show n - 1=i by omega];exact List.getElem?_eq_getElem hlt
theorem OfP.goal (h:OfP p n F N) {t a o:Nat} (ht:t<n) (hT:Tr F t) (ha:a≤t) (ho:bcn F a=o+1):(o:Int)<N.getD t 0∧N.getD t 0<(bcn F n:Int):=by
 have:=nb_tg h.nb ht hT ha ho
 unfold rd at this
 rwa [Int.toNat_natCast] at this
theorem OfI.next (h:OfI n F out e i c) (hp:OfP p n F N) (hb:p[i]?=some b) (h5:¬aU b.f0=5) (h6:¬reB b.f0=true) (hn:c≠[]→¬Tr F i∧bcn F i=out.length+1):i+1<n∧OC (c++[b])∧e+(c++[b]).length≤i+1∧bcn F (i+1)=out.length+1:=by
 obtain ⟨b',hb',-,h1,h2,h3,h4⟩:=hp.at_ h.lt
 obtain rfl:b'=b:=Option.some.inj (hb'.symm.trans hb)
 refine ⟨?_,h.oc.add (st_ok h1.1 h5 h6) ⟨h2.2.2.2.2.1,h2.2.2.2.2.2⟩,by rw [List.length_append];show e+(c.length+1)≤i+1;have:=h.le;omega,?_⟩
 · have:=h.lt
   by_cases e1:i+1=n
   · exact absurd (h4 e1) h6
   omega
 by_cases hz:c=[]
 · have:=h.z hz;rw [kR this.1];omega
 have:=hn hz;rw [o9 this.1];omega
end
end Go.Proofs.Ytdkalnkplgfgoaa.Ln
