/- Lemmas and walks for the statements of the texts ZBZ..: the declarations that they need, taken together by a program of this session. Conditions: as each says. -/
import Derived.WalkMore
import Derived.Test.YtdkalnkplgfgoaaZBb
import Derived.Test.YtdkalnkplgfgoaaZBc
import Derived.Test.YtdkalnkplgfgoaaZBe
import Derived.Test.YtdkalnkplgfgoaaZBh
import Derived.Test.YtdkalnkplgfgoaaZBi
set_option maxHeartbeats 4000000
set_option maxRecDepth 100000
set_option linter.unusedVariables false
set_option linter.unusedSimpArgs false
namespace Go.Proofs.Ytdkalnkplgfgoaa.Ln
open Go.RowKit Go.Maps Go.Proofs.YtdkalnkplgfgoaaW.PrintWords Go.Proofs.YtdkalnkplgfgoaaW.PrintLast Go.Proofs.YtdkalnkplgfgoaaW.PrintMore Go.Proofs.Ytdkalnkplgfgoaa.PA
structure Ws (w0 w:World) (g:List S47) (A:Option Addr) (c B:Nat) (vc vo:Value) (code:List S45) (order:List Int) (bA bF bP nA nF nP:Nat) (after PL:Int→Int) (fars:Int→Bool × Bool):Prop where
 me:Wr w0 w g A c B vc vo (.map (some bP)) order bA bF nA nF after fars
 code:k45.R 45 w w0.heap.size (fun _=>True) vc code
 mP:MI w bP nP PL
 hP:w0.heap.size≤bP
def jaI (tt here:Int):S45:=⟨5,0,0,IntKind.u32.wrap (wrap64 (wrap64 (tt - here) - 1))⟩
theorem Ws.wrote {w0 w w1:World} {g:List S47} {A:Option Addr} {c B:Nat} {vc vc1 vo:Value} {code code1:List S45} {order:List Int} {bA bF bP nA nF nP:Nat} {after PL:Int→Int} {fars:Int→Bool × Bool}
 (H:Ws w0 w g A c B vc vo code order bA bF bP nA nF nP after PL fars) (kp:Kp (fun k=>k=B∨some k=vc.ownBlock) w w1)
 (blk:w1.heap[B]?=some (.cells #[vc1,.slice A g.length c,vo,.map (some bA),.map (some bP),.map (some bF)] 72 (0,0))) (hc:k45.R 45 w1 w0.heap.size (fun _=>True) vc1 code1):Ws w0 w1 g A c B vc1 vo code1 order bA bF bP nA nF nP after PL fars:=by
 have hty:=Kd.iI H.code
 have hbase:=Kd.jV H.code
 have hmap:∀ {b:Nat},(∃ es c,w.heap[b]?=some (.map es c))→w1.heap[b]?=w.heap[b]?:=by
  rintro b ⟨es,c,hb⟩
  refine kp.block b (Array.getElem?_eq_some_iff.1 hb).1 ?_
  rintro (rfl | h)
  · have:=H.me.blk;rw [hb] at this;cases this
  obtain ⟨cells,hc⟩:=hty b h.symm
  rw [hb] at hc;cases hc
 refine ⟨⟨kp.il H.me.below H.me.below.size (by rintro k (rfl | h);exact H.me.hB;exact hbase k h.symm),blk,H.me.graph,rH H.me.ord ?_ kp,H.me.ordin,H.me.goin,H.me.mA.move (hmap H.me.mA.iD),H.me.mF.move (hmap H.me.mF.iD),H.me.hB,H.me.hA,H.me.hF,H.me.ne⟩,hc,H.mP.move (hmap H.mP.iD),H.hP⟩
 rintro k (rfl | h)
 · exact .inl ⟨_,_,_,H.me.blk,by decide⟩
 obtain ⟨cells,hc⟩:=hty k h.symm
 exact .inl ⟨_,_,_,hc,by decide⟩
theorem iV (w0 w:World) (g:List S47) (A:Option Addr) (c B:Nat) (vc vo:Value) (code:List S45) (order:List Int) (bA bF bP nA nF nP:Nat) (after PL:Int→Int) (fars:Int→Bool × Bool)
 (H:Ws w0 w g A c B vc vo code order bA bF bP nA nF nP after PL fars) (tt:Int) (hwf:(Lit.int .i64 tt).wf=true) (hn:(code.length+1)*8≤140737488355328) :
 Calls Try.prog 78 #[.pointer (some ⟨B,0,none⟩),.int .i64 tt] w fun e w'=>
  e = .returned (.tuple #[])∧∃ vc',Ws w0 w' g A c B vc' vo (code++[jaI (PL tt) (code.length:Int)]) order bA bF bP nA nF nP after PL fars∧Kp (fun k=>k=B∨some k=vc.ownBlock) w w':=by
 have b0:w.cell? ⟨B,0,none⟩=some vc:=(ag H.me.blk 0).trans rfl
 have b4:=fQ H.me.blk 4
 have f0:=aj H.me.blk 0
 have hBl:=aZ H.me.blk
 have lP:(Instr.lookup 66 (.map (some bP)) (.int .i64 tt) false).run Try.prog w.drew = .ok (.int .i64 (PL tt)) w.drew:=fM (H.mP.below (ae (Below.refl _ _))) tt hwf
 obtain ⟨Ac,cc,rfl,hcc,hC⟩:=Kd.fP H.code
 have hu:=Try.underlying26
 have keep:∀ W,Kp (fun k=>some k=(Value.slice Ac code.length cc).ownBlock) w W→(W.cell? ⟨B,0,none⟩=some (.slice Ac code.length cc)∧W.cell? ⟨B,4,none⟩=some (.map (some bP))∧W.frozen? ⟨B,0,none⟩=false∧(Instr.lookup 66 (.map (some bP)) (.int .i64 tt) false).run Try.prog W = .ok (.int .i64 (PL tt)) W):=by
  intro W kp
  have hb:W.heap[B]?=_:=(kp.block B hBl (Kd.jH H.code H.me.blk (by decide))).trans H.me.blk
  obtain ⟨es,cl,hm⟩:=H.mP.iD
  have hm2:W.heap[bP]?=w.heap[bP]?:=kp.block bP H.mP.lt (fun h=>by obtain ⟨cells,hc⟩:=Kd.iI H.code bP h.symm;rw [hm] at hc;cases hc)
  exact ⟨(ag hb 0).trans rfl,(ag hb 4).trans rfl,aj hb 0,fM (H.mP.move hm2) tt hwf⟩
 have Keep:=aa.mk keep
 have HH:=aa.mk H
 clear H hC keep
 go_enter Try.func78,Try.ntmps78
 go_wp2
 refine gQ 28 (fun w'=>w'.cell? ⟨B,0,none⟩=some (.slice Ac code.length cc)∧w'.cell? ⟨B,4,none⟩=some (.map (some bP))∧w'.frozen? ⟨B,0,none⟩=false∧(Instr.lookup 66 (.map (some bP)) (.int .i64 tt) false).run Try.prog w' = .ok (.int .i64 (PL tt)) w') [27] ⟨b0,b4,f0,lP⟩ (fun hHeld=>?_)
 refine aM 0 4 ?_
 refine aM 1 5 ?_
 refine aM 2 6 ?_
 refine aM 3 7 ?_
 refine aM 4 8 ?_
 refine aM 6 10 ?_
 refine aM 7 11 ?_
 refine aM 8 12 ?_
 refine aM 10 14 ?_
 refine aM 12 16 ?_
 refine aM 13 17 ?_
 refine aM 14 18 ?_
 refine aM 15 19 ?_
 refine dN 5 9 hHeld ?_
 refine dN 9 13 hHeld ?_
 refine dN 11 15 hHeld ?_
 refine dN 16 20 hHeld ?_
 refine aM 17 21 ?_
 refine aM 18 22 ?_
 refine aM 19 23 ?_
 refine aM 20 24 ?_
 refine aM 21 25 ?_
 refine iZ 22 (some 26) (fun K hK=>?_)
 refine oh (w1:=?_) (v:=?_) (by rfl) rfl ?_ ?_
 rotate_left 2
 · go_simp
   constructor
   · rfl
   rfl
 refine hK.out _ _ (Keep.out _ ((Kp.refl _ w).below (ai (ae (Below.refl _ _)) _))) (fun hHeld=>?_)
 clear hK K
 refine fU 26 ?_
 refine iZ 23 (some 27) (fun K hK=>?_)
 refine gp k45 (w0:=w0) (W:=w) w0.heap.size (.tmp 9) (.tmp 26) 26 45 (.agg #[.int .u16 0,.int .u8 0,.int .u8 0,.int .u32 0]) 8 (by rfl) (by rfl) hu iU rfl (by decide) (by decide) (.slice Ac code.length cc) code (jaI (PL tt) code.length) [.int .u16 5,.int .u8 0,.int .u8 0,.int .u32 (jaI (PL tt) code.length).f3] (by rfl) (by rfl) (ik _ _ _ (jaI (PL tt) code.length)) HH.out.code HH.out.me.below HH.out.me.below.size hn ?_
 intro v1 w1 hR hB hG
 obtain ⟨A1,cc1,rfl⟩:=Kd.dz hR
 refine hK.out _ _ (Keep.out _ (((Kp.refl _ w).below (ae (Below.refl _ _))).grown hG (fun b hb => .inl hb.symm))) (fun hHeld=>?_)
 clear hK K
 refine fU 27 ?_
 refine aM 24 28 ?_
 refine aM 25 29 ?_
 refine aM 26 30 ?_
 refine gI 27 none (fun K hK=>?_)
 refine iy ?_
 refine hK.out _ _ ?_
 clear hK K
 refine dS (by kernel_rfl) ?_
 go_wp2
 go_end0
 have kp1:Kp (fun k=>k=B∨some k=(Value.slice Ac code.length cc).ownBlock) w w1:=(((Kp.refl (fun k=>k=B∨some k=(Value.slice Ac code.length cc).ownBlock) w).below (ae (Below.refl _ _))).grown hG (fun b hb => .inl (.inr hb.symm)))
 have hb1:w1.heap[B]?=_:=(((Kp.refl (fun k=>some k=(Value.slice Ac code.length cc).ownBlock) w).below (ae (Below.refl _ _))).grown hG (fun b hb => .inl hb.symm)).block B hBl (Kd.jH HH.out.code HH.out.me.blk (by decide))
 have hb2:=hb1.trans HH.out.me.blk
 exact ⟨rfl,_,HH.out.wrote (kp1.set (.inl (.inl rfl)) 0 _) (aJ hb2 0 _ rfl) (by have:=Kd.kK hR hb2 (by decide) 0 (.slice A1 (code.length+1) cc1);rw [List.length_append,List.length_singleton] at this;exact this),kp1.set (.inl (.inl rfl)) 0 _⟩
def dV (b:S47) (PL:Int→Int) (f:Bool × Bool) (here:Int):S45:=
 ⟨b.f2.f0,if f.1 then 0 else IntKind.u8.wrap (wrap64 (PL b.f3 - here)),if f.2 then (if f.1 then 1 else 0) else IntKind.u8.wrap (wrap64 (PL b.f4 - here)),b.f2.f3⟩
def jas (b:S47) (PL:Int→Int) (f:Bool × Bool) (code:List S45):List S45:=
 let c1:=if f.1 then code++[jaI (PL b.f3) (code.length:Int)] else code
 if f.2 then c1++[jaI (PL b.f4) (c1.length:Int)] else c1
def mZ (b:S47) (PL:Int→Int) (f:Bool × Bool) (code:List S45):List S45:=jas b PL f (code++[dV b PL f ((code.length:Int)+1)])
theorem nw2 (w:World) (o1 o2:Obj):((w.alloc o1).alloc o2).heap[w.heap.size+1]?=some o2:=by
 have:=dY (w.alloc o1) o2
 rwa [World.size_alloc] at this
theorem nw3 (w:World) (o1 o2 o3:Obj):(((w.alloc o1).alloc o2).alloc o3).heap[w.heap.size+1+1]?=some o3:=by
 have:=dY ((w.alloc o1).alloc o2) o3
 rwa [World.size_alloc,World.size_alloc] at this
theorem Ws.stay {w0 w w1:World} {g:List S47} {A:Option Addr} {c B:Nat} {vc vo:Value} {code:List S45} {order:List Int} {bA bF bP nA nF nP:Nat} {after PL:Int→Int} {fars:Int→Bool × Bool}
 (H:Ws w0 w g A c B vc vo code order bA bF bP nA nF nP after PL fars) (hb:Below w.heap.size w w1):Ws w0 w1 g A c B vc vo code order bA bF bP nA nF nP after PL fars:=
 ⟨H.me.stay hb,Kd.fq H.code hb,H.mP.below hb,H.hP⟩
theorem Ws.loc {w0 w w1:World} {g:List S47} {A:Option Addr} {c B G:Nat} {vc vo:Value} {code:List S45} {order:List Int} {bA bF bP nA nF nP:Nat} {after PL:Int→Int} {fars:Int→Bool × Bool}
 (H:Ws w0 w g A c B vc vo code order bA bF bP nA nF nP after PL fars) (kp:Kp (fun k=>k=B∨some k=vc.ownBlock) w w1) {cs:Array Value} {t:TypeId} (h:w.heap[G]?=some (.cells cs t (0,0))) (h1:t≠72) (h2:t≠45) :
 w1.heap[G]?=some (.cells cs t (0,0)):=by
 refine (kp.block G (aZ h) ?_).trans h
 rintro (rfl | e)
 · rw [H.me.blk] at h
   injection h with h
   injection h with _ h
   exact h1 h.symm
 exact Kd.jH H.code h (Ne.symm h2) e
theorem jT {blk:S47} {PL:Int→Int} {q f:Bool × Bool} {code:List S45} {T:S45} (h:T=dV blk PL q ((code.length:Int)+1)) (hf:q=f):mZ blk PL f code=jas blk PL f (code++[T]):=by rw [h,hf];rfl
theorem qF (w0 w:World) (g:List S47) (A A0:Option Addr) (c c0 B:Nat) (vc vo:Value) (code:List S45) (order:List Int) (bA bF bP nA nF nP:Nat) (after PL:Int→Int) (fars:Int→Bool × Bool)
 (H:Ws w0 w g A c B vc vo code order bA bF bP nA nF nP after PL fars) (i:Int) (hi:i∈order) (blk:S47) (hb:ah g i=blk) (hn:(code.length+3)*8≤140737488355328) :
 Calls Try.prog 79 #[.pointer (some ⟨B,0,none⟩),.int .i64 i,.agg #[.slice A0 blk.f0.length c0,.int .i64 blk.f1,.int .u16 blk.f2.f0,.int .u8 blk.f2.f1,.int .u8 blk.f2.f2,.int .u32 blk.f2.f3,.int .i64 blk.f3,.int .i64 blk.f4]] w fun e w'=>
  e = .returned (.tuple #[])∧∃ vc',Ws w0 w' g A c B vc' vo (mZ blk PL (fars i) code) order bA bF bP nA nF nP after PL fars:=by
 have b0:w.cell? ⟨B,0,none⟩=some vc:=(ag H.me.blk 0).trans rfl
 have b4:=fQ H.me.blk 4
 have b5:=fQ H.me.blk 5
 have hBl:=aZ H.me.blk
 have hBl1:B<w.heap.size+1:=by omega
 have hBl2:B<w.heap.size+1+1:=by omega
 obtain ⟨hi0,hi1⟩:=H.me.ordin i hi
 obtain ⟨hwy,hwn⟩:=H.me.goin i hi
 rw [hb] at hwy hwn
 have hwf:(Lit.int .i64 i).wf=true:=WalkArith.wf_i64 (by have:=Kd.kI H.me.graph;omega)
 have lF:∀ o,(Instr.lookup 67 (.map (some bF)) (.int .i64 i) false).run Try.prog (w.alloc o) = .ok (.agg #[.bool (fars i).1,.bool (fars i).2]) (w.alloc o):=fun o=>lc (H.me.mF.below (ai (Below.refl _ _) o)) i hwf
 obtain ⟨Ac,cc,rfl,hcc,hC⟩:=Kd.fP H.code
 have hu:=Try.underlying26
 have HH:=aa.mk H
 have hlc:code.length≤9223372036854775807:=Kd.kI hC
 clear H hC hb hi
 generalize hfi:fars i=fi at *
 have Hfi:=aa.mk hfi
 clear hfi
 obtain ⟨fy,fn⟩:=fi
 dsimp only at lF
 go_enter Try.func79,Try.ntmps79
 go_wp2
 refine forget (fun W=>Below w.heap.size w W∧W.heap[w.heap.size]?=some (.cells #[.slice A0 blk.f0.length c0,.int .i64 blk.f1,.int .u16 blk.f2.f0,.int .u8 blk.f2.f1,.int .u8 blk.f2.f2,.int .u32 blk.f2.f3,.int .i64 blk.f3,.int .i64 blk.f4] 47 (0,0))∧W.heap[w.heap.size+1]?=some (.cells #[.bool fy,.bool fn] 121 (0,0))∧W.heap[w.heap.size+1+1]?=some (.cells #[.int .u16 blk.f2.f0,.int .u8 blk.f2.f1,.int .u8 blk.f2.f2,.int .u32 blk.f2.f3] 45 (0,0))) ⟨ai (ai (ai (Below.refl _ _) _) _) _,aV (aV (dY _ _) _) _,aV (nw2 _ _ _) _,nw3 _ _ _ _⟩ ?_
 rintro W ⟨hb,hO,hF,hI⟩
 have u4:W.cell? ⟨B,4,none⟩=some (.map (some bP)):=aI hb b4
 have u6:W.cell? ⟨w.heap.size,6,none⟩=some (.int .i64 blk.f3):=(ag hO 6).trans rfl
 have u7:W.cell? ⟨w.heap.size,7,none⟩=some (.int .i64 blk.f4):=(ag hO 7).trans rfl
 have i1:W.cell? ⟨w.heap.size+1+1,1,none⟩=some (.int .u8 blk.f2.f1):=(ag hI 1).trans rfl
 have i2:W.cell? ⟨w.heap.size+1+1,2,none⟩=some (.int .u8 blk.f2.f2):=(ag hI 2).trans rfl
 have i1f:=aj hI 1
 have i2f:=aj hI 2
 have lY:(Instr.lookup 66 (.map (some bP)) (.int .i64 blk.f3) false).run Try.prog W.drew = .ok (.int .i64 (PL blk.f3)) W.drew:=fM (HH.out.mP.below (ae hb)) blk.f3 hwy
 have lN:(Instr.lookup 66 (.map (some bP)) (.int .i64 blk.f4) false).run Try.prog W.drew = .ok (.int .i64 (PL blk.f4)) W.drew:=fM (HH.out.mP.below (ae hb)) blk.f4 hwn
 have Keep4:aa (∀ W',Kp (fun k=>k=w.heap.size+1+1) W W'→(W'.cell? ⟨B,4,none⟩=some (.map (some bP))∧W'.cell? ⟨w.heap.size,6,none⟩=some (.int .i64 blk.f3)∧W'.cell? ⟨w.heap.size,7,none⟩=some (.int .i64 blk.f4) ∧
  (Instr.lookup 66 (.map (some bP)) (.int .i64 blk.f3) false).run Try.prog W' = .ok (.int .i64 (PL blk.f3)) W'∧(Instr.lookup 66 (.map (some bP)) (.int .i64 blk.f4) false).run Try.prog W' = .ok (.int .i64 (PL blk.f4)) W')):=by
  refine ⟨fun W' kp=>?_⟩
  have hlt:B<W.heap.size:=Nat.lt_of_lt_of_le hBl hb.size
  have hB':W'.heap[B]?=_:=(kp.block B hlt (by omega)).trans (au HH.out.me.blk hb)
  have hO':W'.heap[w.heap.size]?=_:=(kp.block _ (aZ hO) (by omega)).trans hO
  have hm:=HH.out.mP.below hb
  have hm':=hm.move (kp.block bP hm.lt (by have:=HH.out.mP.lt;omega))
  exact ⟨(ag hB' 4).trans rfl,(ag hO' 6).trans rfl,(ag hO' 7).trans rfl,fM hm' blk.f3 hwy,fM hm' blk.f4 hwn⟩
 have Hb:=aa.mk hb
 have HO:=aa.mk hO
 have HF:=aa.mk hF
 have HI:=aa.mk hI
 clear hb hO hF hI b0 b4 b5 lF
 refine gQ 24 (fun w'=>w'.cell? ⟨B,4,none⟩=some (.map (some bP))∧w'.cell? ⟨w.heap.size,6,none⟩=some (.int .i64 blk.f3)∧w'.cell? ⟨w.heap.size,7,none⟩=some (.int .i64 blk.f4)∧(Instr.lookup 66 (.map (some bP)) (.int .i64 blk.f3) false).run Try.prog w' = .ok (.int .i64 (PL blk.f3)) w'∧(Instr.lookup 66 (.map (some bP)) (.int .i64 blk.f4) false).run Try.prog w' = .ok (.int .i64 (PL blk.f4)) w') [23] ⟨u4,u6,u7,lY,lN⟩ (fun hHeld=>?_)
 refine aM 0 24 ?_
 refine aM 1 25 ?_
 refine aM 2 26 ?_
 refine aM 4 28 ?_
 refine aM 7 31 ?_
 refine aM 10 34 ?_
 refine aM 11 35 ?_
 refine aM 12 36 ?_
 refine aM 14 38 ?_
 refine aM 17 41 ?_
 refine dN 3 27 hHeld ?_
 refine dN 5 29 hHeld ?_
 refine dN 6 30 hHeld ?_
 refine aM 8 32 ?_
 refine aM 9 33 ?_
 refine aM 20 44 ?_
 refine dN 13 37 hHeld ?_
 refine dN 15 39 hHeld ?_
 refine dN 16 40 hHeld ?_
 refine aM 18 42 ?_
 refine aM 19 43 ?_
 refine iZ 21 none (fun K hK=>?_)
 refine iy ?_
 refine hK.out _ _ (Keep4.out _ (((Kp.refl (fun k=>k=w.heap.size+1+1) W).set (.inl rfl) 1 _).below (ae (Below.refl _ _)))) (fun hHeld=>?_)
 clear hK K
 refine aM 22 45 ?_
 refine gI 23 none (fun K hK=>?_)
 refine iy ?_
 refine hK.out _ _ ?_
 clear hK K
 refine dS (by kernel_rfl) ?_
 go_upto_region 5 with (fail)
 have hne0:w.heap.size≠w.heap.size+1+1:=by omega
 have hne1:w.heap.size+1≠w.heap.size+1+1:=by omega
 have hle2:w.heap.size≤w.heap.size+1+1:=by omega
 refine forget (fun V=>Below w.heap.size w V∧V.heap[w.heap.size]?=some (.cells #[.slice A0 blk.f0.length c0,.int .i64 blk.f1,.int .u16 blk.f2.f0,.int .u8 blk.f2.f1,.int .u8 blk.f2.f2,.int .u32 blk.f2.f3,.int .i64 blk.f3,.int .i64 blk.f4] 47 (0,0))∧V.heap[w.heap.size+1]?=some (.cells #[.bool fy,.bool fn] 121 (0,0))∧V.heap[w.heap.size+1+1]?=some (.cells #[.int .u16 blk.f2.f0,.int .u8 (IntKind.u8.wrap (wrap64 (PL blk.f3 - ((code.length:Int)+1)))),.int .u8 (IntKind.u8.wrap (wrap64 (PL blk.f4 - ((code.length:Int)+1)))),.int .u32 blk.f2.f3] 45 (0,0)))
  ⟨ae (bU (bU Hb.out hle2) hle2),aX (bQ (bQ HO.out hne0 _) hne0 _),aX (bQ (bQ HF.out hne1 _) hne1 _),aX (aJ (aJ HI.out 1 _ rfl) 2 _ rfl)⟩ ?_
 clear Hb HO HF HI u4 u6 u7 i1 i2 i1f i2f lY lN Keep4
 rintro V ⟨hb,hO,hF,hI⟩
 have y0:V.cell? ⟨w.heap.size+1,0,none⟩=some (.bool fy):=(ag hF 0).trans rfl
 have y1:V.cell? ⟨w.heap.size+1,1,none⟩=some (.bool fn):=(ag hF 1).trans rfl
 have i1:V.cell? ⟨w.heap.size+1+1,1,none⟩=some (.int .u8 (IntKind.u8.wrap (wrap64 (PL blk.f3 - ((code.length:Int)+1))))):=(ag hI 1).trans rfl
 have i2:V.cell? ⟨w.heap.size+1+1,2,none⟩=some (.int .u8 (IntKind.u8.wrap (wrap64 (PL blk.f4 - ((code.length:Int)+1))))):=(ag hI 2).trans rfl
 have i1f:=aj hI 1
 have i2f:=aj hI 2
 have Hb:=aa.mk hb
 have HO:=aa.mk hO
 have HF:=aa.mk hF
 have HI:=aa.mk hI
 clear hb hO hF hI
 cases fy<;>cases fn
 all_goals go_wp2
 refine forget (fun V=>Below w.heap.size w V∧V.heap[w.heap.size]?=some (.cells #[.slice A0 blk.f0.length c0,.int .i64 blk.f1,.int .u16 blk.f2.f0,.int .u8 blk.f2.f1,.int .u8 blk.f2.f2,.int .u32 blk.f2.f3,.int .i64 blk.f3,.int .i64 blk.f4] 47 (0,0))∧V.heap[w.heap.size+1]?=some (.cells #[.bool (fars i).1,.bool (fars i).2] 121 (0,0))∧∃ T,aa (T=dV blk PL (fars i) ((code.length:Int)+1))∧V.heap[w.heap.size+1+1]?=some (.cells #[.int .u16 T.f0,.int .u8 T.f1,.int .u8 T.f2,.int .u32 T.f3] 45 (0,0)))
  ⟨Hb.out,HO.out,by rw [Hfi.out];exact HF.out,_,⟨rfl⟩,by rw [Hfi.out];exact HI.out⟩ ?_
 rotate_left
 refine forget (fun V=>Below w.heap.size w V∧V.heap[w.heap.size]?=some (.cells #[.slice A0 blk.f0.length c0,.int .i64 blk.f1,.int .u16 blk.f2.f0,.int .u8 blk.f2.f1,.int .u8 blk.f2.f2,.int .u32 blk.f2.f3,.int .i64 blk.f3,.int .i64 blk.f4] 47 (0,0))∧V.heap[w.heap.size+1]?=some (.cells #[.bool (fars i).1,.bool (fars i).2] 121 (0,0))∧∃ T,aa (T=dV blk PL (fars i) ((code.length:Int)+1))∧V.heap[w.heap.size+1+1]?=some (.cells #[.int .u16 T.f0,.int .u8 T.f1,.int .u8 T.f2,.int .u32 T.f3] 45 (0,0)))
  ⟨bU (Hb.out) hle2,bQ (HO.out) hne0 _,by rw [Hfi.out];exact bQ (HF.out) hne1 _,_,⟨rfl⟩,by rw [Hfi.out];exact aJ (HI.out) 2 _ rfl⟩ ?_
 rotate_left
 refine forget (fun V=>Below w.heap.size w V∧V.heap[w.heap.size]?=some (.cells #[.slice A0 blk.f0.length c0,.int .i64 blk.f1,.int .u16 blk.f2.f0,.int .u8 blk.f2.f1,.int .u8 blk.f2.f2,.int .u32 blk.f2.f3,.int .i64 blk.f3,.int .i64 blk.f4] 47 (0,0))∧V.heap[w.heap.size+1]?=some (.cells #[.bool (fars i).1,.bool (fars i).2] 121 (0,0))∧∃ T,aa (T=dV blk PL (fars i) ((code.length:Int)+1))∧V.heap[w.heap.size+1+1]?=some (.cells #[.int .u16 T.f0,.int .u8 T.f1,.int .u8 T.f2,.int .u32 T.f3] 45 (0,0)))
  ⟨bU (Hb.out) hle2,bQ (HO.out) hne0 _,by rw [Hfi.out];exact bQ (HF.out) hne1 _,_,⟨rfl⟩,by rw [Hfi.out];exact aJ (HI.out) 1 _ rfl⟩ ?_
 rotate_left
 refine forget (fun V=>Below w.heap.size w V∧V.heap[w.heap.size]?=some (.cells #[.slice A0 blk.f0.length c0,.int .i64 blk.f1,.int .u16 blk.f2.f0,.int .u8 blk.f2.f1,.int .u8 blk.f2.f2,.int .u32 blk.f2.f3,.int .i64 blk.f3,.int .i64 blk.f4] 47 (0,0))∧V.heap[w.heap.size+1]?=some (.cells #[.bool (fars i).1,.bool (fars i).2] 121 (0,0))∧∃ T,aa (T=dV blk PL (fars i) ((code.length:Int)+1))∧V.heap[w.heap.size+1+1]?=some (.cells #[.int .u16 T.f0,.int .u8 T.f1,.int .u8 T.f2,.int .u32 T.f3] 45 (0,0)))
  ⟨bU (bU (bU (Hb.out) hle2) hle2) hle2,bQ (bQ (bQ (HO.out) hne0 _) hne0 _) hne0 _,by rw [Hfi.out];exact bQ (bQ (bQ (HF.out) hne1 _) hne1 _) hne1 _,_,⟨rfl⟩,by rw [Hfi.out];exact aJ (aJ (aJ (HI.out) 1 _ rfl) 2 _ rfl) 2 _ rfl⟩ ?_
 rotate_left
 all_goals
  clear Hb HO HF HI y0 y1 i1 i2 i1f i2f
  rintro V2 ⟨hb,hO,hF,⟨t0,t1,t2,t3⟩,HT,hI⟩
  have HV:=aa.mk (HH.out.stay hb)
  have VB:=aa.mk HV.out.me.blk
  have v0:=fQ VB.out 0
  have vf:=aj VB.out 0
  obtain ⟨z0,z1,z2,z3,-,-,-,-⟩:=cz4 ⟨hI⟩
  have HO:=aa.mk hO
  have HF:=aa.mk hF
  clear hb hO hF hI
  refine gQ 13 (fun w'=>w'.cell? ⟨B,0,none⟩=some (.slice Ac code.length cc)∧w'.frozen? ⟨B,0,none⟩=false∧w'.cell? ⟨w.heap.size+1+1,0,none⟩=some (.int .u16 t0)∧w'.cell? ⟨w.heap.size+1+1,1,none⟩=some (.int .u8 t1)∧w'.cell? ⟨w.heap.size+1+1,2,none⟩=some (.int .u8 t2)∧w'.cell? ⟨w.heap.size+1+1,3,none⟩=some (.int .u32 t3)) [8,12] ⟨v0,vf,z0,z1,z2,z3⟩ (fun hHeld=>?_)
  refine aM 0 55 ?_
  refine aM 1 56 ?_
  refine aM 2 57 ?_
  refine aM 3 58 ?_
  refine aM 4 59 ?_
  refine dN 5 60 hHeld ?_
  refine dN 6 61 hHeld ?_
  refine iZ 7 (some 62) (fun K hK=>?_)
  refine oh (w1:=?_) (v:=?_) (by rfl) rfl ?_ ?_
  rotate_left 2
  · go_simp
    constructor
    · rfl
    rfl
  refine hK.out _ _ ⟨(aI (ae (ai (Below.refl _ _) _)) v0),(aj (au (w:=V2) VB.out (ae (ai (Below.refl _ _) _))) 0),(aI (ae (ai (Below.refl _ _) _)) z0),(aI (ae (ai (Below.refl _ _) _)) z1),(aI (ae (ai (Below.refl _ _) _)) z2),(aI (ae (ai (Below.refl _ _) _)) z3)⟩ (fun hHeld=>?_)
  clear hK K
  refine fU 62 ?_
  refine gI 8 (some 63) (fun K hK=>?_)
  refine gp k45 (w0:=w0) (W:=V2) w0.heap.size (.tmp 60) (.tmp 62) 26 45 (.agg #[.int .u16 0,.int .u8 0,.int .u8 0,.int .u32 0]) 8 (by rfl) (by rfl) hu iU rfl (by decide) (by decide) (.slice Ac code.length cc) code ⟨t0,t1,t2,t3⟩ [.int .u16 t0,.int .u8 t1,.int .u8 t2,.int .u32 t3] (by rfl) (by rfl) (ik _ _ _ ⟨t0,t1,t2,t3⟩) HV.out.code HV.out.me.below HV.out.me.below.size (by omega) ?_
  intro v1 w1 hR hB hG
  obtain ⟨A1,cc1,rfl⟩:=Kd.dz hR
  have HB1:=aa.mk (((((Kp.refl (fun k=>some k=(Value.slice Ac code.length cc).ownBlock) V2).below (ae (Below.refl _ _))).grown hG (fun b hb => .inl hb.symm)).block B (aZ VB.out) (Kd.jH HV.out.code VB.out (by decide))).trans VB.out)
  have w10:=fQ HB1.out 0
  have w1f:=aj HB1.out 0
  refine hK.out _ _ ?_
  clear hK K
  refine fU 63 ?_
  refine aM 9 64 ?_
  refine aM 10 65 ?_
  refine aM 11 66 ?_
  refine gI 12 none (fun K hK=>?_)
  refine iy ?_
  refine hK.out _ _ ?_
  clear hK K
  refine dS (by kernel_rfl) ?_
  go_upto_region 12 with (fail)
  have kv:Kp (fun k=>k=B∨some k=(Value.slice Ac code.length cc).ownBlock) V2 w1:=(((Kp.refl (fun k=>k=B∨some k=(Value.slice Ac code.length cc).ownBlock) V2).below (ae (Below.refl _ _))).grown hG (fun b hb => .inl (.inr hb.symm)))
  have kv1:=kv.set (.inl (.inl rfl)) 0 (.slice A1 (code.length+1) cc1)
  refine forget (fun V=>(∃ vc3,Ws w0 V g A c B vc3 vo (code++[⟨t0,t1,t2,t3⟩]) order bA bF bP nA nF nP after PL fars)∧V.heap[w.heap.size]?=some (.cells #[.slice A0 blk.f0.length c0,.int .i64 blk.f1,.int .u16 blk.f2.f0,.int .u8 blk.f2.f1,.int .u8 blk.f2.f2,.int .u32 blk.f2.f3,.int .i64 blk.f3,.int .i64 blk.f4] 47 (0,0))∧V.heap[w.heap.size+1]?=some (.cells #[.bool (fars i).1,.bool (fars i).2] 121 (0,0)))
   ⟨⟨_,HV.out.wrote kv1 (aJ HB1.out 0 _ rfl) (by have:=Kd.kK hR HB1.out (by decide) 0 (.slice A1 (code.length+1) cc1);rw [List.length_append,List.length_singleton] at this;exact this)⟩,HV.out.loc kv1 HO.out (by decide) (by decide),HV.out.loc kv1 HF.out (by decide) (by decide)⟩ ?_
  clear w10 w1f HB1 kv kv1 hR hG hB HV VB HO HF v0 vf z0 z1 z2 z3
  rintro V3 ⟨⟨vc3,hs⟩,hO,hF⟩
  rw [Hfi.out] at hF
  have q0:=(ag hF 0)
  have q1:=(ag hF 1)
  have q6:V3.cell? ⟨w.heap.size,6,none⟩=some (.int .i64 blk.f3):=(ag hO 6).trans rfl
  have q7:V3.cell? ⟨w.heap.size,7,none⟩=some (.int .i64 blk.f4):=(ag hO 7).trans rfl
  have HS:=aa.mk hs
  have HO:=aa.mk hO
  have HF:=aa.mk hF
  clear hs hO hF
 · go_wp2
   go_end0
   exact ⟨rfl,vc3,by rw [jT HT.out Hfi.out];exact HS.out⟩
 · go_wp2_with fail
   refine (iV w0 _ g A c B vc3 vo _ order bA bF bP nA nF nP after PL fars HS.out blk.f4 hwn (by rw [List.length_append,List.length_singleton];omega)).mono ?_
   rintro e w' ⟨rfl,vc4,hs,kp⟩
   have HS4:=aa.mk hs
   clear hs kp
   go_wp2
   go_end0
   exact ⟨rfl,vc4,by rw [jT HT.out Hfi.out];exact HS4.out⟩
 · go_wp2_with fail
   refine (iV w0 _ g A c B vc3 vo _ order bA bF bP nA nF nP after PL fars HS.out blk.f3 hwy (by rw [List.length_append,List.length_singleton];omega)).mono ?_
   rintro e w' ⟨rfl,vc4,hs,kp⟩
   have r1:=(ag (HS.out.loc kp HF.out (by decide) (by decide)) 1)
   have HS4:=aa.mk hs
   clear hs kp
   go_wp2
   go_end0
   exact ⟨rfl,vc4,by rw [jT HT.out Hfi.out];exact HS4.out⟩
 go_wp2_with fail
 refine (iV w0 _ g A c B vc3 vo _ order bA bF bP nA nF nP after PL fars HS.out blk.f3 hwy (by rw [List.length_append,List.length_singleton];omega)).mono ?_
 rintro e w' ⟨rfl,vc4,hs,kp⟩
 have r1:=(ag (HS.out.loc kp HF.out (by decide) (by decide)) 1)
 have r7:w'.cell? ⟨w.heap.size,7,none⟩=some (.int .i64 blk.f4):=(ag (HS.out.loc kp HO.out (by decide) (by decide)) 7).trans rfl
 have HS4:=aa.mk hs
 clear hs kp
 go_wp2_with fail
 refine (iV w0 _ g A c B vc4 vo _ order bA bF bP nA nF nP after PL fars HS4.out blk.f4 hwn (by rw [List.length_append,List.length_append,List.length_singleton,List.length_singleton];omega)).mono ?_
 rintro e w'' ⟨rfl,vc5,hs,kp⟩
 have HS5:=aa.mk hs
 clear hs kp
 go_wp2
 go_end0
 exact ⟨rfl,vc5,by rw [jT HT.out Hfi.out];exact HS5.out⟩
def fE (b:S47) (a:Int) (PL:Int→Int) (f:Bool × Bool) (code:List S45):List S45:=
 if b.f1=1 then (code++b.f0)++[b.f2] else if b.f1=2 then (if b.f3=a then code++b.f0 else (code++b.f0)++[jaI (PL b.f3) ((code++b.f0).length:Int)]) else mZ b PL f (code++b.f0)
theorem pF (w0 w:World) (g:List S47) (A:Option Addr) (c B:Nat) (vc vo:Value) (code:List S45) (order:List Int) (bA bF bP nA nF nP:Nat) (after PL:Int→Int) (fars:Int→Bool × Bool)
 (H:Ws w0 w g A c B vc vo code order bA bF bP nA nF nP after PL fars) (i:Int) (hi:i∈order) (hn:(code.length+(ah g i).f0.length+3)*8≤140737488355328) :
 Calls Try.prog 46 #[.pointer (some ⟨B,0,none⟩),.int .i64 i] w fun e w'=>
  e = .returned (.tuple #[])∧∃ vc',Ws w0 w' g A c B vc' vo (fE (ah g i) (after i) PL (fars i) code) order bA bF bP nA nF nP after PL fars:=by
 have Hi:=aa.mk hi
 have b1:=fQ H.me.blk 1
 have hBl:=aZ H.me.blk
 obtain ⟨hi0,hi1⟩:=H.me.ordin i hi
 obtain ⟨hwy,hwn⟩:=H.me.goin i hi
 have hwf:(Lit.int .i64 i).wf=true:=WalkArith.wf_i64 (by have:=Kd.kI H.me.graph;omega)
 obtain ⟨ad,A0,c0,rfl,x0,x1,x2,x3,x4,x5,x6,x7,hl,hic⟩:=iJ (Kd.bJ H.me.graph H.me.below) i hi0 hi1
 obtain ⟨Ac,cc,rfl,hcc,hC⟩:=Kd.fP H.code
 have hu:=Try.underlying26
 have HH:=aa.mk H
 have HIC:=aa.mk hic
 clear H hC hi hic hl
 generalize hblk:ah g i=blk at *
 have Hblk:=aa.mk hblk
 clear hblk
 go_enter Try.func46,Try.ntmps46
 go_upto_region 1 with (fail)
 refine forget (fun W=>Below w.heap.size w W∧W.heap[w.heap.size]?=some (.cells #[.slice A0 blk.f0.length c0,.int .i64 blk.f1,.int .u16 blk.f2.f0,.int .u8 blk.f2.f1,.int .u8 blk.f2.f2,.int .u32 blk.f2.f3,.int .i64 blk.f3,.int .i64 blk.f4] 47 (0,0))) ⟨ai (Below.refl _ _) _,dY _ _⟩ ?_
 clear b1 x0 x1 x2 x3 x4 x5 x6 x7
 rintro W ⟨hb,hO⟩
 have HV:=aa.mk (HH.out.stay hb)
 have VB:=aa.mk HV.out.me.blk
 have HC:=aa.mk (Kd.bJ HIC.out hb)
 have HO:=aa.mk hO
 have v0:=fQ VB.out 0
 have vf:=aj VB.out 0
 have g0:W.cell? ⟨w.heap.size,0,none⟩=some (.slice A0 blk.f0.length c0):=(ag hO 0).trans rfl
 clear hb hO HH HIC
 refine gQ 13 (fun w'=>w'.cell? ⟨B,0,none⟩=some (.slice Ac code.length cc)∧w'.frozen? ⟨B,0,none⟩=false∧w'.cell? ⟨w.heap.size,0,none⟩=some (.slice A0 blk.f0.length c0)) [8,12] ⟨v0,vf,g0⟩ (fun hHeld=>?_)
 refine aM 0 12 ?_
 refine aM 1 13 ?_
 refine aM 2 14 ?_
 refine aM 3 15 ?_
 refine aM 4 16 ?_
 refine aM 6 18 ?_
 refine dN 5 17 hHeld ?_
 refine dN 7 19 hHeld ?_
 refine gI 8 (some 20) (fun K hK=>?_)
 refine oq k45 (Rr:=k45.K W) (w0:=w0) (W:=W.drew) w0.heap.size (.tmp 17) (.tmp 19) 26 45 (.agg #[.int .u16 0,.int .u8 0,.int .u8 0,.int .u32 0]) 8 (by rfl) (by rfl) hu iU rfl (by decide) (by decide) (.slice Ac code.length cc) code blk.f0 A0 blk.f0.length c0 (by rfl) (by rfl) (Kd.gF HV.out.code) HC.out (fun x cs h=>by obtain rfl:=iE h;exact ik _ _ _ x) (ae HV.out.me.below) HV.out.me.below.size (by omega) ?_
 intro v1 w1 hR hB hG
 obtain ⟨A1,cc1,rfl⟩:=Kd.dz hR
 have HB1:=aa.mk (((((Kp.refl (fun k=>some k=(Value.slice Ac code.length cc).ownBlock) W).below (ae (Below.refl _ _))).grown hG (fun b hb => .inl hb.symm)).block B (aZ VB.out) (Kd.jH HV.out.code VB.out (by decide))).trans VB.out)
 have w10:=fQ HB1.out 0
 have w1f:=aj HB1.out 0
 refine hK.out _ _ ?_
 clear hK K
 refine fU 20 ?_
 refine aM 9 21 ?_
 refine aM 10 22 ?_
 refine aM 11 23 ?_
 refine gI 12 none (fun K hK=>?_)
 refine iy ?_
 refine hK.out _ _ ?_
 clear hK K
 refine dS (by kernel_rfl) ?_
 go_upto_region 2 with (fail)
 have kv:Kp (fun k=>k=B∨some k=(Value.slice Ac code.length cc).ownBlock) W w1:=(((Kp.refl (fun k=>k=B∨some k=(Value.slice Ac code.length cc).ownBlock) W).below (ae (Below.refl _ _))).grown hG (fun b hb => .inl (.inr hb.symm)))
 have kv1:=kv.set (.inl (.inl rfl)) 0 (.slice A1 (code.length+blk.f0.length) cc1)
 refine forget (fun V=>(∃ vc3,Ws w0 V g (some ad) c B vc3 vo (code++blk.f0) order bA bF bP nA nF nP after PL fars)∧V.heap[w.heap.size]?=some (.cells #[.slice A0 blk.f0.length c0,.int .i64 blk.f1,.int .u16 blk.f2.f0,.int .u8 blk.f2.f1,.int .u8 blk.f2.f2,.int .u32 blk.f2.f3,.int .i64 blk.f3,.int .i64 blk.f4] 47 (0,0)))
  ⟨⟨_,HV.out.wrote kv1 (aJ HB1.out 0 _ rfl) (by have:=Kd.kK hR HB1.out (by decide) 0 (.slice A1 (code.length+blk.f0.length) cc1);rw [List.length_append] at this;exact this)⟩,HV.out.loc kv1 HO.out (by decide) (by decide)⟩ ?_
 clear w10 w1f HB1 kv kv1 hR hG hB HV VB HC HO v0 vf g0
 rintro V ⟨⟨vc3,hs⟩,hO⟩
 obtain ⟨Ad,cd,rfl,hcd,_⟩:=Kd.fP hs.code
 have hle:(code++blk.f0).length=code.length+blk.f0.length:=List.length_append
 have HLE:=aa.mk hle
 rw [hle] at hs
 have HV:=aa.mk hs
 have VB:=aa.mk hs.me.blk
 have HO:=aa.mk hO
 have l1:V.cell? ⟨w.heap.size,1,none⟩=some (.int .i64 blk.f1):=(ag hO 1).trans rfl
 clear hs hle hcd hcc
 by_cases c1:blk.f1=1
 · have c1b:(blk.f1==1)=true:=beq_iff_eq.mpr c1
   have l2:V.cell? ⟨w.heap.size,2,none⟩=some (.int .u16 blk.f2.f0):=(ag hO 2).trans rfl
   have l3:V.cell? ⟨w.heap.size,3,none⟩=some (.int .u8 blk.f2.f1):=(ag hO 3).trans rfl
   have l4:V.cell? ⟨w.heap.size,4,none⟩=some (.int .u8 blk.f2.f2):=(ag hO 4).trans rfl
   have l5:V.cell? ⟨w.heap.size,5,none⟩=some (.int .u32 blk.f2.f3):=(ag hO 5).trans rfl
   have d0:=fQ VB.out 0
   have df:=aj VB.out 0
   have C1:=aa.mk c1
   clear hO c1
   go_wp2
   refine gQ 14 (fun w'=>w'.cell? ⟨B,0,none⟩=some (.slice Ad (code.length+blk.f0.length) cd)∧w'.frozen? ⟨B,0,none⟩=false∧w'.cell? ⟨w.heap.size,2,none⟩=some (.int .u16 blk.f2.f0)∧w'.cell? ⟨w.heap.size,3,none⟩=some (.int .u8 blk.f2.f1)∧w'.cell? ⟨w.heap.size,4,none⟩=some (.int .u8 blk.f2.f2)∧w'.cell? ⟨w.heap.size,5,none⟩=some (.int .u32 blk.f2.f3)) [9,13] ⟨d0,df,l2,l3,l4,l5⟩ (fun hHeld=>?_)
   refine aM 0 32 ?_
   refine aM 1 33 ?_
   refine aM 2 34 ?_
   refine aM 3 35 ?_
   refine aM 4 36 ?_
   refine aM 6 38 ?_
   refine dN 5 37 hHeld ?_
   refine dN 7 39 hHeld ?_
   refine iZ 8 (some 40) (fun K hK=>?_)
   refine oh (w1:=?_) (v:=?_) (by rfl) rfl ?_ ?_
   rotate_left 2
   · go_simp
     constructor
     · rfl
     rfl
   refine hK.out _ _ ⟨(aI (ae (ai (Below.refl _ _) _)) d0),(aj (au (w:=V) VB.out (ae (ai (Below.refl _ _) _))) 0),(aI (ae (ai (Below.refl _ _) _)) l2),(aI (ae (ai (Below.refl _ _) _)) l3),(aI (ae (ai (Below.refl _ _) _)) l4),(aI (ae (ai (Below.refl _ _) _)) l5)⟩ (fun hHeld=>?_)
   clear hK K
   refine fU 40 ?_
   refine gI 9 (some 41) (fun K hK=>?_)
   refine gp k45 (w0:=w0) (W:=V) w0.heap.size (.tmp 37) (.tmp 40) 26 45 (.agg #[.int .u16 0,.int .u8 0,.int .u8 0,.int .u32 0]) 8 (by rfl) (by rfl) hu iU rfl (by decide) (by decide) (.slice Ad (code.length+blk.f0.length) cd) (code++blk.f0) blk.f2 [.int .u16 blk.f2.f0,.int .u8 blk.f2.f1,.int .u8 blk.f2.f2,.int .u32 blk.f2.f3] (by rfl) (by rfl) (ik _ _ _ blk.f2) HV.out.code HV.out.me.below HV.out.me.below.size (by rw [List.length_append];omega) ?_
   intro v1 w1 hR hB hG
   obtain ⟨A1,cc1,rfl⟩:=Kd.dz hR
   have HB1:=aa.mk (((((Kp.refl (fun k=>some k=(Value.slice Ad (code.length+blk.f0.length) cd).ownBlock) V).below (ae (Below.refl _ _))).grown hG (fun b hb => .inl hb.symm)).block B (aZ VB.out) (Kd.jH HV.out.code VB.out (by decide))).trans VB.out)
   have w10:=fQ HB1.out 0
   have w1f:=aj HB1.out 0
   refine hK.out _ _ ?_
   clear hK K
   refine fU 41 ?_
   refine aM 10 42 ?_
   refine aM 11 43 ?_
   refine aM 12 44 ?_
   refine gI 13 none (fun K hK=>?_)
   refine iy ?_
   refine hK.out _ _ ?_
   clear hK K
   refine dS (by kernel_rfl) ?_
   go_wp2
   go_end0
   have kv:Kp (fun k=>k=B∨some k=(Value.slice Ad (code.length+blk.f0.length) cd).ownBlock) V w1:=(((Kp.refl (fun k=>k=B∨some k=(Value.slice Ad (code.length+blk.f0.length) cd).ownBlock) V).below (ae (Below.refl _ _))).grown hG (fun b hb => .inl (.inr hb.symm)))
   have kv1:=kv.set (.inl (.inl rfl)) 0 (.slice A1 (code.length+blk.f0.length+1) cc1)
   exact ⟨rfl,_,by
    rw [show fE blk (after i) PL (fars i) code=(code++blk.f0)++[blk.f2] from if_pos C1.out]
    exact HV.out.wrote kv1 (aJ HB1.out 0 _ rfl) (by have:=Kd.kK hR HB1.out (by decide) 0 (.slice A1 (code.length+blk.f0.length+1) cc1);rw [List.length_append,List.length_singleton,HLE.out] at this;exact this)⟩
 have c1b:(blk.f1==1)=false:=beq_eq_false_iff_ne.mpr c1
 by_cases c2:blk.f1=2
 · have c2b:(blk.f1==2)=true:=beq_iff_eq.mpr c2
   have l6:V.cell? ⟨w.heap.size,6,none⟩=some (.int .i64 blk.f3):=(ag hO 6).trans rfl
   have d3:=fQ VB.out 3
   have lA:∀ n,(Instr.lookup 66 (.map (some bA)) (.int .i64 i) false).run Try.prog (V.drewN n) = .ok (.int .i64 (after i)) (V.drewN n):=fun n=>fM (HV.out.me.mA.below (af (Below.refl _ _) n)) i hwf
   by_cases c3:blk.f3=after i
   · have c3b:(blk.f3 != after i)=false:=bne_eq_false_iff_eq.mpr c3
     have e:fE blk (after i) PL (fars i) code=code++blk.f0:=by unfold fE;rw [if_neg c1,if_pos c2,if_pos c3]
     have E:=aa.mk e
     clear hO c1 c2 c3 e
     go_wp2
     go_quiet (fail)
     go_wp2
     go_end0
     exact ⟨rfl,_,by rw [E.out];exact HV.out.stay (af (Below.refl _ _) _)⟩
   have c3b:(blk.f3 != after i)=true:=bne_iff_ne.mpr c3
   have e:fE blk (after i) PL (fars i) code=(code++blk.f0)++[jaI (PL blk.f3) ((code++blk.f0).length:Int)]:=by unfold fE;rw [if_neg c1,if_pos c2,if_neg c3]
   have E:=aa.mk e
   clear hO c1 c2 c3 e
   go_wp2
   go_quiet (fail)
   go_wp2_with fail
   refine (iV w0 _ g _ c B _ vo _ order bA bF bP nA nF nP after PL fars (HV.out.stay (af (Below.refl _ _) _)) blk.f3 hwy (by rw [HLE.out];omega)).mono ?_
   rintro e w' ⟨rfl,vc4,hs,kp⟩
   have HS4:=aa.mk hs
   clear hs kp
   go_wp2
   go_end0
   exact ⟨rfl,vc4,by rw [E.out];exact HS4.out⟩
 have c2b:(blk.f1==2)=false:=beq_eq_false_iff_ne.mpr c2
 have e:fE blk (after i) PL (fars i) code=mZ blk PL (fars i) (code++blk.f0):=by unfold fE;rw [if_neg c1,if_neg c2]
 have E:=aa.mk e
 have m0:=(ag hO 0)
 have m2:=(ag hO 2)
 have m3:=(ag hO 3)
 have m4:=(ag hO 4)
 have m5:=(ag hO 5)
 have m6:=(ag hO 6)
 have m7:=(ag hO 7)
 clear hO c1 c2 e
 go_wp2_with fail
 refine (qF w0 _ g _ A0 c c0 B _ vo _ order bA bF bP nA nF nP after PL fars HV.out i Hi.out blk Hblk.out (by rw [HLE.out];omega)).mono ?_
 rintro e w' ⟨rfl,vc4,hs⟩
 have HS4:=aa.mk hs
 clear hs
 go_wp2
 go_end0
 exact ⟨rfl,vc4,by rw [E.out];exact HS4.out⟩
def cz (b:S47):List Int:=if b.f1=2 then [b.f3] else if b.f1=3 then [b.f3,b.f4] else []
inductive Rch (g:List S47):Int→Prop where
 | zero:Rch g 0
 | step {i x:Int}:Rch g i→0≤i→i<(g.length:Int)→x∈cz (ah g i)→Rch g x
structure RSt (w wr:World) (g:List S47) (go co:Nat) (R:List Bool) (vl:Value) (L:List Int) (X:Int→Prop):Prop where
 below:Below w.heap.size w wr
 out:Kd.bool.R 4 wr w.heap.size (fun _=>True) (.slice (some ⟨go,0,none⟩) g.length co) R
 lst:(Kd.int .i64).R 3 wr w.heap.size (fun _=>True) vl L
 len:R.length=g.length
 zero:dI false R 0=true
 snd:∀ i:Int,0≤i→i<g.length→dI false R i=true→Rch g i
 inL:∀ i,i∈L→0≤i∧i<(g.length:Int)∧dI false R i=true
 cls:∀ i:Int,0≤i→i<g.length→dI false R i=true→i∈L∨X i∨∀ x∈cz (ah g i),dI false R x=true
theorem lS {R:List Bool} {i x:Int} (h0:0≤i) (hi:i<R.length) (hx:0≤x):dI false (R.set i.toNat true) x=if x=i then true else dI false R x:=by
 unfold dI
 rw [List.getD_eq_getElem?_getD,List.getD_eq_getElem?_getD,List.getElem?_set]
 by_cases e:x=i
 · subst e
   rw [if_pos rfl,if_pos rfl,if_pos (by omega)];rfl
 rw [if_neg e,if_neg (by omega)]
theorem oW {n:Nat} {x:Int}:dI false (List.replicate n false) x=false:=by
 unfold dI
 rw [List.getD_eq_getElem?_getD,List.getElem?_replicate]
 split<;>rfl
theorem mH {R:List Bool} {i:Nat} (hi:i<R.length) (h:R.getD i false=false):(R.set i true).count false+1=R.count false:=by
 induction R generalizing i with
 | nil=>simp at hi
 | cons b R ih=>
  cases i with
  | zero=>
   have:b=false:=by simpa using h
   subst this
   simp
  | succ i=>
   have:=ih (i:=i) (by simpa using hi) (by simpa using h)
   simp only [List.set_cons_succ,List.count_cons]
   omega
theorem jD {L:List Int} {m:Nat} (h:L.length=m+1):L=L.take m++[dI (0:Int) L (m:Int)]:=by
 have:=List.take_append_drop m L
 rw [List.drop_eq_getElem_cons (by omega),List.drop_eq_nil_of_le (by omega)] at this
 unfold dI
 rw [Int.toNat_natCast,List.getD_eq_getElem?_getD,List.getElem?_eq_getElem (by omega)]
 exact this.symm
structure RIn (w wr:World) (g:List S47) (go co:Nat) (R:List Bool) (vl:Value) (L:List Int) (x:Int) (vg:Value) (gs:List Int) (j:Nat):Prop where
 st:RSt w wr g go co R vl L (fun i=>i=x)
 lst:(Kd.int .i64).R 3 wr w.heap.size (fun k=>some k≠vg.ownBlock) vl L
 row:(Kd.int .i64).R 3 wr w.heap.size (fun k=>some k=vg.ownBlock) vg gs
 done:∀ i,i∈gs.take j→dI false R i=true
theorem RSt.back {w wr wr':World} {g:List S47} {go co m cl:Nat} {R:List Bool} {A:Option Addr} {L:List Int} {x:Int} (H:RSt w wr g go co R (.slice A (m+1) cl) L (fun _=>False)) (hm:L.length=m+1) (hx:x=dI (0:Int) L (m:Int)) (hb:Below wr.heap.size wr wr') :
 RSt w wr' g go co R (.slice A m cl) (L.take m) (fun i=>i=x):=by
 have hs:=jD hm
 refine ⟨H.below.trans ⟨hb.os,hb.tape,hb.output,hb.size,fun i hi=>hb.block i (Nat.lt_of_lt_of_le hi H.below.size)⟩,Kd.fq H.out hb,Kd.fq (Kd.sP H.lst (by omega)) hb,H.len,H.zero,H.snd,fun i hi=>H.inL i (List.mem_of_mem_take hi),fun i h0 h1 h2=>?_⟩
 rcases H.cls i h0 h1 h2 with h | h | h
 · rw [hs] at h
   rcases List.mem_append.1 h with h | h
   · exact .inl h
   exact .inr (.inl (by rw [hx];exact List.mem_singleton.1 h))
 · exact h.elim
 exact .inr (.inr h)
theorem RSt.close {w wr:World} {g:List S47} {go co:Nat} {R:List Bool} {vl:Value} {L:List Int} {x:Int} (H:RSt w wr g go co R vl L (fun i=>i=x)) (h:∀ y∈cz (ah g x),dI false R y=true):RSt w wr g go co R vl L (fun _=>False):=by
 refine ⟨H.below,H.out,H.lst,H.len,H.zero,H.snd,H.inL,fun i h0 h1 h2=>?_⟩
 rcases H.cls i h0 h1 h2 with h3 | h3 | h3
 · exact .inl h3
 · subst h3;exact .inr (.inr h)
 exact .inr (.inr h3)
theorem sH {gs:List Int} {j:Nat} (h:j<gs.length):gs.take (j+1)=gs.take j++[rd gs (j:Int)]:=by
 rw [List.take_succ_eq_append_getElem h]
 unfold rd
 rw [Int.toNat_natCast,List.getD_eq_getElem?_getD,List.getElem?_eq_getElem h]
 rfl
theorem RIn.next {w wr:World} {g:List S47} {go co:Nat} {R:List Bool} {vl:Value} {L:List Int} {x:Int} {vg:Value} {gs:List Int} {j:Nat} (H:RIn w wr g go co R vl L x vg gs j) (h:j<gs.length) :
 ∀ R':List Bool,(∀ i,0≤i→dI false R i=true→dI false R' i=true)→(∀ y∈gs,0≤y)→dI false R' (rd gs (j:Int))=true→∀ i,i∈gs.take (j+1)→dI false R' i=true:=by
 intro R' hm h0 hy i hi
 rw [sH h] at hi
 rcases List.mem_append.1 hi with h1 | h1
 · exact hm i (h0 i (List.mem_of_mem_take h1)) (H.done i h1)
 rw [List.mem_singleton.1 h1];exact hy
theorem RIn.found {w wr w1:World} {g:List S47} {go co:Nat} {R:List Bool} {vl v1:Value} {L:List Int} {x y:Int} {vg:Value} {gs:List Int} {j:Nat} (H:RIn w wr g go co R vl L x vg gs j) (hR:R.length=g.length)
 (hy0:0≤y) (hy1:y<(g.length:Int)) (hRy:dI false R y=false) (hm:∀ y∈gs,y∈cz (ah g x)) (hmem:y∈gs) (hx:Rch g x) (hx0:0≤x) (hx1:x<(g.length:Int)) (h0:∀ y∈gs,0≤y)
 (hd:∀ R':List Bool,(∀ i,0≤i→dI false R i=true→dI false R' i=true)→(∀ y∈gs,0≤y)→dI false R' y=true→∀ i,i∈gs.take (j+1)→dI false R' i=true)
 (hl:(Kd.int .i64).R 3 (wr.setCell ⟨go,y.toNat,none⟩ (.bool true)) w.heap.size (fun k=>some k≠vg.ownBlock) vl L) (hr:(Kd.int .i64).R 3 (wr.setCell ⟨go,y.toNat,none⟩ (.bool true)) w.heap.size (fun k=>some k=vg.ownBlock) vg gs)
 (ho:Kd.bool.R 4 (wr.setCell ⟨go,y.toNat,none⟩ (.bool true)) w.heap.size (fun _=>True) (.slice (some ⟨go,0,none⟩) g.length co) (R.set y.toNat true)) (hb:Below w.heap.size w w1)
 (hl1:(Kd.int .i64).R 3 w1 w.heap.size (fun k=>some k≠vg.ownBlock) v1 (L++[y])) (hg:(wr.setCell ⟨go,y.toNat,none⟩ (.bool true)).grownBy w1 vl.ownBlock) :
 RIn w w1 g go co (R.set y.toNat true) v1 (L++[y]) x vg gs (j+1):=by
 have hset:∀ i,0≤i→dI false (R.set y.toNat true) i=if i=y then true else dI false R i:=fun i hi=>lS hy0 (by rw [hR];omega) hi
 have hmono:∀ i,0≤i→dI false R i=true→dI false (R.set y.toNat true) i=true:=fun i hi h=>by rw [hset i hi,h];split<;>rfl
 refine ⟨⟨hb,Kd.R_over ho hl (by decide) hg,Kd.eG hl1 (fun _ _=>trivial),by rw [List.length_set];exact H.st.len,hmono 0 (Int.le_refl 0) H.st.zero,fun i h0 h1 h2=>?_,fun i hi=>?_,fun i h0 h1 h2=>?_⟩,hl1,Kd.qL hr hg (fun k hk he=>hl.1 k he.symm hk),hd _ hmono h0 (by rw [hset y hy0,if_pos rfl])⟩
 · rw [hset i h0] at h2
   by_cases e:i=y
   · subst e;exact .step hx hx0 hx1 (hm _ hmem)
   rw [if_neg e] at h2;exact H.st.snd i h0 h1 h2
 · rcases List.mem_append.1 hi with h | h
   · obtain ⟨a,b,c⟩:=H.st.inL i h
     exact ⟨a,b,hmono i a c⟩
   rw [List.mem_singleton.1 h]
   exact ⟨hy0,hy1,by rw [hset y hy0,if_pos rfl]⟩
 rw [hset i h0] at h2
 by_cases e:i=y
 · exact .inl (List.mem_append_right _ (by rw [e];exact List.mem_singleton_self _))
 rw [if_neg e] at h2
 rcases H.st.cls i h0 h1 h2 with h3 | h3 | h3
 · exact .inl (List.mem_append_left _ h3)
 · exact .inr (.inl h3)
 refine .inr (.inr fun z hz=>?_)
 have:=h3 z hz
 by_cases hz0:0≤z
 · exact hmono z hz0 this
 unfold dI at this ⊢
 rw [show z.toNat=0 by omega] at this ⊢
 have h4:=hmono 0 (Int.le_refl 0) H.st.zero
 unfold dI at h4
 exact h4
theorem uo (b:S47):dD.f b.f0 b.f1 b.f2.f0 b.f2.f1 b.f2.f2 b.f2.f3 b.f3 b.f4=some (cz b):=by
 unfold dD.f cz
 split
 · rfl
 split<;>rfl
theorem rch_of {w wr:World} {g:List S47} {go co:Nat} {R:List Bool} {vl:Value} (H:RSt w wr g go co R vl [] (fun _=>False)) (hg:∀ i:Int,0≤i→i<g.length→∀ x∈cz (ah g i),0≤x∧x<(g.length:Int)) {i:Int} (h:Rch g i) :
 dI false R i=true:=by
 induction h with
 | zero=>exact H.zero
 | step h a b c ih=>
  rcases H.cls _ a b ih with h1 | h1 | h1
  · cases h1
  · exact h1.elim
  exact h1 _ c
theorem o5 (k:Nat) (w:World) (g:List S47) (A:Option Addr) (c:Nat) (HG:Kd.C k47 w A g.length g) (hc:g.length≤c) (ht:dh.f k g=some 0) (h0:0<g.length) (hn:g.length≤4096)
 (hg:∀ i:Int,0≤i→i<g.length→∀ x∈cz (ah g i),0≤x∧x<(g.length:Int)) (hv:∀ i:Int,0≤i→i<g.length→(ah g i).f1=1∨(ah g i).f1=2∨(ah g i).f1=3) :
 Calls Try.prog 44 #[.slice A g.length c] w fun e w'=>∃ (R:List Bool) (v:Value),e = .returned (.tuple #[v,.int .i64 0])∧Kd.bool.R 4 w' w.heap.size (fun _=>True) v R∧Below w.heap.size w w'∧R.length=g.length∧(∀ i:Int,0≤i→i<g.length→(dI false R i=true↔Rch g i)):=by
 have HGA:=aa.mk HG
 have HCA:=aa.mk hc
 have HT:=aa.mk ht
 have Hg:=aa.mk hg
 have Hv:=aa.mk hv
 clear HG hc ht hg hv
 have hub:=Try.underlying73
 go_enter Try.func44,Try.ntmps44
 go_wp2
 go_step3
 go_wp2_with fail
 refine (dh.calls k A c g 0 _ HGA.out HCA.out HT.out).mono ?_
 rintro e w1 ⟨rfl,hb⟩
 have HB1:=aa.mk hb
 clear hb
 go_wp2_with (first | ((with_reducible refine bH (N:=17) rfl ?_);refine Kd.R_make Kd.bool w.heap.size 4 rfl (N:=17) rfl 73 _ _ rfl (g.length:Int) rfl rfl hub (.bool false) 1 info4 rfl (by decide) (by omega) false (w0:=w) (ok:=fun _=>True) (okp:=fun _=>True) rfl (fun _ hk=>hk) trivial (by omega) (by omega) HB1.out HB1.out.size ?_;intro v1 w2 ho hb hgr hnew;clear hgr hnew;rw [Int.toNat_natCast] at ho;obtain ⟨go,co,rfl,gb,gl,cl,hcl⟩:=Kd.pI ho (by rw [List.length_replicate];omega);rw [List.length_replicate] at ho ⊢;clear hcl cl gb;have HO:=aa.mk ho;have HB2:=aa.mk hb;clear ho hb HB1;have s0:=Kd.nk false (g:=go) (by rw [List.length_replicate];exact HO.out) 0 (by omega) (by rw [List.length_replicate];omega);obtain ⟨s0,s1⟩:=s0;replace s0:w2.cell? ⟨go,0,none⟩=some (.bool (dI false (List.replicate g.length false) 0)):=s0;replace s1:w2.frozen? ⟨go,0,none⟩=false:=s1))
 have hst:aa (RSt w ((w2.setCell ⟨go,0,none⟩ (.bool true)).alloc (.cells #[.int .i64 0] 3)) g go co ((List.replicate g.length false).set 0 true) (.slice (some ⟨w2.heap.size,0,none⟩) 1 1) [0] (fun _=>False)):=by
  have hsz:(w2.setCell ⟨go,0,none⟩ (.bool true)).heap.size=w2.heap.size:=by simp [World.setCell]
  have hb:=bU (v := .bool true) (j:=0) HB2.out (Kd.jV HO.out go rfl)
  have hp:=(Kd.R_put (xs:=List.replicate g.length false) (g:=go) (by rw [List.length_replicate];exact HO.out) 0 true).1
  have hl:=own_lit (w2.setCell ⟨go,0,none⟩ (.bool true)) w.heap.size 3 .i64 [0] (by rw [hsz];exact HB2.out.size) (by simp)
  rw [hsz] at hl
  have h1:dI false ((List.replicate g.length false).set 0 true) 0=true:=by
   have:=lS (R:=List.replicate g.length false) (i:=0) (x:=0) (by omega) (by rw [List.length_replicate];omega) (by omega)
   rw [if_pos rfl] at this
   exact this
  have h2:∀ i:Int,0≤i→dI false ((List.replicate g.length false).set 0 true) i=true→i=0:=by
   intro i hi h
   have:=lS (R:=List.replicate g.length false) (i:=0) (x:=i) (by omega) (by rw [List.length_replicate];omega) hi
   rw [oW] at this
   by_cases e:i=0
   · exact e
   rw [if_neg e] at this
   have h':dI false ((List.replicate g.length false).set (0:Int).toNat true) i=true:=h
   rw [this] at h'
   cases h'
  refine ⟨⟨ai hb _,Kd.fO (by rw [List.length_replicate] at hp;exact hp) _,Kd.oo (enc:=Value.int .i64) (h1:=fun _=>rfl) hl (fun _ _=>trivial),by simp,h1,fun i hi0 _ h=>by rw [h2 i hi0 h];exact .zero,fun i hi=>?_,fun i hi0 _ h => .inl (by rw [h2 i hi0 h];exact List.mem_singleton_self _)⟩⟩
  rw [List.mem_singleton.1 hi]
  exact ⟨by omega,by omega,h1⟩
 have hcs:=mH (R:=List.replicate g.length false) (i:=0) (by rw [List.length_replicate];omega) (oW (n:=g.length) (x:=0))
 rw [List.count_replicate_self] at hcs
 have HCS:=aa.mk hcs
 clear hcs
 go_step3
 go_wp2
 go_loopg [6] (2*g.length+1) (fun kq v6 w'=>∃ (R:List Bool) (L:List Int),aa (2*R.count false+L.length≤kq∧kq≤2*g.length+1)∧aa (RSt w w' g go co R v6 L (fun _=>False)))
 case atStart=>exact ⟨_,_,⟨by have:=HCS.out;rw [List.length_singleton];omega⟩,hst⟩
 case round=>
  clear hst s0 s1 HCS
  obtain ⟨R,L,HK,HS⟩:=hrel
  obtain ⟨Al,cl,rfl,hcl,_⟩:=Kd.fP HS.out.lst
  have hLm:L.length≤9223372036854775807:=Kd.kI (Kd.dO HS.out.lst).2.2
  by_cases hL:L.length=0
  · have hL0:L=[]:=List.eq_nil_of_length_eq_zero hL
    subst hL0
    have hR:=HS.out.out
    have HR:=aa.mk hR
    clear hR
    go_wp2
    rw [Exit.noGoto_ret]
    go_ret2
    exact ⟨R,_,rfl,HR.out,HS.out.below,HS.out.len,fun i hi0 hi1=>⟨HS.out.snd i hi0 hi1,rch_of HS.out Hg.out⟩⟩
  obtain ⟨m,hm⟩:∃ m,L.length=m+1:=⟨L.length - 1,by omega⟩
  obtain ⟨gl0,cl',e,_,_,_⟩:=Kd.pI HS.out.lst (by omega)
  injection e with e1 _ e2
  subst e1
  subst e2
  have hcell:=(Kd.nk (0:Int) HS.out.lst (m:Int) (by omega) (by omega)).1
  rw [Int.toNat_natCast] at hcell
  have hx:dI (0:Int) L (m:Int)∈L:=by
   rw [jD hm]
   exact List.mem_append_right _ (by rw [←jD hm];exact List.mem_singleton_self _)
  obtain ⟨x,hxe⟩:∃ x,x=dI (0:Int) L (m:Int):=⟨_,rfl⟩
  rw [←hxe] at hcell hx
  obtain ⟨hx0,hx1,hxR⟩:=HS.out.inL x hx
  have hgx:=Hg.out x hx0 hx1
  have hSx:=HS.out.snd x hx0 hx1 hxR
  have HS1:=HS.out
  rw [hm] at HS1
  have Hm:=aa.mk hm
  have Hxe:=aa.mk hxe
  have HS2:=aa.mk HS1
  have Hgx:=aa.mk hgx
  have HSx:=aa.mk hSx
  rw [hm]
  have hm':m≤9223372036854775806:=by omega
  have hcl':m+1≤cl:=by omega
  have hK1:2*R.count false+m+1≤gk:=by have:=HK.out;omega
  have hK2:gk≤2*g.length+1:=HK.out.2
  clear HS HS1 hm hxe hgx hSx hx hxR hcl hL HK hLm
  obtain ⟨ad,A0,c0,rfl,x0,x1,x2,x3,x4,x5,x6,x7,hl,hic⟩:=iJ (Kd.bJ HGA.out HS2.out.below) x hx0 hx1
  have HIC:=aa.mk hic
  have HLC:=aa.mk hl
  clear hic hl
  generalize hblk:ah g x=blk at *
  have Hblk:=aa.mk hblk
  clear hblk
  by_cases e1:blk.f1=1
  · have e1b:(blk.f1==1)=true:=beq_iff_eq.mpr e1
    have E1:=aa.mk e1
    clear e1
    go_wp2
    have HF:=aa.mk ((HS2.out.back Hm.out Hxe.out (Below.refl _ _)).close (by
     intro y hy
     rw [Hblk.out] at hy
     unfold cz at hy
     rw [E1.out] at hy
     exact absurd hy (by simp)))
    obtain ⟨k1,rfl⟩:∃ k1,gk=k1+1:=⟨gk - 1,by omega⟩
    go_roundg k1
    case measure=>omega
    case rel=>exact ⟨R,L.take m,⟨by rw [List.length_take];omega⟩,HF⟩
  have e1b:(blk.f1==1)=false:=beq_eq_false_iff_ne.mpr e1
  clear e1
  go_wp2_with fail
  refine (dD.calls A0 c0 blk.f0 blk.f1 blk.f2.f0 blk.f2.f1 blk.f2.f2 blk.f2.f3 blk.f3 blk.f4 (cz blk) _ HIC.out HLC.out (uo blk)).mono ?_
  rintro e w3 ⟨vg,rfl,hvg,hb⟩
  obtain ⟨k1,rfl⟩:∃ k1,gk=k1+1:=⟨gk - 1,by omega⟩
  have hst3:=HS2.out.back Hm.out Hxe.out hb
  have HI3:=aa.mk (RIn.mk (j:=0) hst3 (Kd.eG (Kd.R_elder (Kd.sP HS2.out.lst (by have:=Hm.out;omega)) hvg hb) (fun _ h=>h.2)) (Kd.qM rfl (Kd.gN hvg HS2.out.below.size)) (by intro i hi;simp at hi))
  obtain ⟨Ag,cg,rfl⟩:=Kd.dz hvg
  have hgl:(cz blk).length≤2:=by unfold cz;split;simp;split<;>simp
  have hgm:∀ y∈cz blk,y∈cz (ah g x):=by rw [Hblk.out];exact fun _ h=>h
  have Hgm:=aa.mk hgm
  clear hvg hb hst3 HS2 hgm x0 x1 x2 x3 x4 x5 x6 x7 hcell e1b Hm Hxe
  generalize hgs:cz blk=gs at *
  have GSE:∀ y∈cz blk,y∈gs:=by rw [hgs];exact fun _ h=>h
  clear hgs
  have hui:=Try.underlying70
  go_wp2
  go_loopw [6,47] (fun v6 v47 wr=>∃ (j:Nat) (R:List Bool) (L:List Int),j≤gs.length∧v47 = .int .i64 j∧aa (2*R.count false+L.length≤k1)∧aa (RIn w wr g go co R v6 L x (.slice Ag gs.length cg) gs j)) (fun _ v47 _=>gs.length - (intOf v47).toNat)
  case atStart=>exact ⟨0,R,L.take m,Nat.zero_le _,rfl,⟨by rw [List.length_take];omega⟩,HI3⟩
  case round=>
   clear HI3 hK1
   obtain ⟨j,R,L,hj,rfl,HK,HI⟩:=hrel
   obtain ⟨Al,cl,rfl,hcl,hCl⟩:=Kd.fP HI.out.lst
   by_cases hlt:j<gs.length
   · obtain ⟨adg,rfl,hgc⟩:=Kd.iw (Kd.dO HI.out.row).2.2 (j:Int) (by omega) (by omega)
     rw [Int.toNat_natCast] at hgc
     have hmem:=lU hlt
     have hdone:=RIn.next HI.out hlt
     generalize rd gs (j:Int)=y at *
     obtain ⟨hy0,hy1⟩:=Hgx.out y hmem
     have hRl:=HI.out.st.len
     have hcy:=Kd.nk false (xs:=R) (g:=go) (by rw [hRl];exact HI.out.st.out) y hy0 (by rw [hRl];omega)
     obtain ⟨hcy,hfy⟩:=hcy
     have Hmem:=aa.mk hmem
     have Hdone:=aa.mk hdone
     have HRl:=aa.mk hRl
     clear hmem hdone hRl hCl
     generalize hRy:dI false R y=b at *
     have HRy:=aa.mk hRy
     clear hRy
     cases b
     · obtain ⟨cls,hcls⟩:=Kd.iI HI.out.st.out go rfl
       have HL1:=aa.mk (Kd.kK HI.out.lst hcls (by decide) y.toNat (.bool true))
       have HR1:=aa.mk (Kd.kK HI.out.row hcls (by decide) y.toNat (.bool true))
       have HO1:=aa.mk (Kd.R_put (xs:=R) (g:=go) (by rw [HRl.out];exact HI.out.st.out) y true).1
       have HB1:=aa.mk (bU (v := .bool true) (j:=y.toNat) HI.out.st.below (Kd.jV HI.out.st.out go rfl))
       clear hcls
       have HSZ:aa ((wr.setCell ⟨go,y.toNat,none⟩ (.bool true)).heap.size=wr.heap.size):=⟨by simp [World.setCell]⟩
       have hll:(L.length+1)*8≤140737488355328:=by have:=HK.out;omega
       go_wp2_with (at_builtin;refine Kd.iB (Kd.int .i64) (w0:=w) (W:=wr.setCell ⟨go,y.toNat,none⟩ (.bool true)) w.heap.size rfl (.tmp 59) (.tmp 61) 70 3 (.int .i64 0) 8 rfl hui info3 rfl (by decide) (by decide) (.slice Al L.length cl) L y [.int .i64 y] (fun k=>some k≠(Value.slice (some adg) gs.length cg).ownBlock) (fun _=>False) rfl (by rw [HSZ.out];rfl) rfl (fun _ h=>h.elim) (Kd.fresh' (Kd.R_lt HR1.out)) HL1.out HB1.out HB1.out.size hll ?_;intro v1 w1 ho hb hg hat)
       have HI2:=aa.mk (RIn.found HI.out HRl.out hy0 hy1 HRy.out Hgm.out Hmem.out HSx.out hx0 hx1 (fun y hy=>(Hgx.out y hy).1) Hdone.out HL1.out HR1.out (by have:=HO1.out;rw [HRl.out] at this;exact this) hb ho hg)
       have HK2:=mH (R:=R) (i:=y.toNat) (by rw [HRl.out];omega) HRy.out
       clear ho hb hg hat HO1 HL1 HR1 HB1
       go_roundw
       case rel=>exact ⟨j+1,R.set y.toNat true,L++[y],by omega,by go_num,⟨by rw [List.length_append,List.length_singleton];have:=HK.out;omega⟩,HI2⟩
       case measure=>simp [intOf];omega
     have HI2:=aa.mk (RIn.mk (j:=j+1) HI.out.st HI.out.lst HI.out.row (Hdone.out R (fun _ _ h=>h) (fun y hy=>(Hgx.out y hy).1) HRy.out))
     go_wp2
     go_roundw
     case rel=>exact ⟨j+1,R,L,by omega,by go_num,HK,HI2⟩
     case measure=>simp [intOf];omega
   have hjl:j=gs.length:=by omega
   subst hjl
   have HF:=aa.mk (HI.out.st.close (by rw [Hblk.out];intro y hy;exact HI.out.done y (by rw [List.take_length];exact GSE y hy)))
   go_wp2
   go_roundg k1
   case measure=>omega
   case rel=>exact ⟨R,L,⟨HK.out,by omega⟩,HF⟩
theorem qf (k:Nat) (w:World) (g:List S47) (A:Option Addr) (c:Nat) (HG:Kd.C k47 w A g.length g) (hc:g.length≤c) (r1 r2:Int) (hm:cO.f k g=some (r1,r2)) (hr:r2≠0) :
 Calls Try.prog 16 #[.slice A g.length c] w fun e w'=>e = .returned (.tuple #[.slice none 0 0,.int .i64 180])∧Below w.heap.size w w':=by
 have h1:(r2 != 0)=true:=bne_iff_ne.mpr hr
 have HGA:=aa.mk HG
 have HCA:=aa.mk hc
 have HM:=aa.mk hm
 clear HG hc hm hr
 go_enter Try.func16,Try.ntmps16
 go_wp2_with (go_at_call 42;refine (cO.calls k A c g r1 r2 _ HGA.out HCA.out HM.out).mono ?_;rintro e w1 ⟨rfl,hb⟩)
 go_ret2
 exact ⟨rfl,hb⟩
theorem oL (k:Nat) (w:World) (g:List S47) (A:Option Addr) (c:Nat) (HG:Kd.C k47 w A g.length g) (hc:g.length≤c) (r1:Int) (hm:cO.f k g=some (r1,0)) (hr:4096<r1) :
 Calls Try.prog 16 #[.slice A g.length c] w fun e w'=>e = .returned (.tuple #[.slice none 0 0,.int .i64 181])∧Below w.heap.size w w':=by
 have h1:decide (r1>4096)=true:=decide_eq_true hr
 have HGA:=aa.mk HG
 have HCA:=aa.mk hc
 have HM:=aa.mk hm
 clear HG hc hm
 go_enter Try.func16,Try.ntmps16
 go_wp2_with (go_at_call 42;refine (cO.calls k A c g r1 0 _ HGA.out HCA.out HM.out).mono ?_;rintro e w1 ⟨rfl,hb⟩)
 go_ret2
 exact ⟨rfl,hb⟩
def bC (R:List Bool):Nat→List Int × (Int→Int)
 | 0=>([],fun _=>0)
 | k+1=>if dI false R (k:Int) then ((bC R k).1++[(k:Int)],if (bC R k).1.length=0 then (bC R k).2 else upd (bC R k).2 (rd (bC R k).1 ((bC R k).1.length - 1)) (k:Int)) else bC R k
def kW (g:List S47) (after:Int→Int) (order:List Int):Nat→(Int→Bool × Bool)→Option ((Int→Int) × (Int→Bool × Bool))
 | 0,_=>none
 | k+1,f=>if (fJ g (iF g after f order 0 (fun _=>0)) order f false).2 then kW g after order k (fJ g (iF g after f order 0 (fun _=>0)) order f false).1 else some (iF g after f order 0 (fun _=>0),(fJ g (iF g after f order 0 (fun _=>0)) order f false).1)
def kF (g:List S47) (after PL:Int→Int) (f:Int→Bool × Bool):List Int→List S45→List S45
 | [],c=>c
 | i :: r,c=>kF g after PL f r (fE (ah g i) (after i) PL (f i) c)
def og (g:List S47):List Int→Nat
 | []=>0
 | i :: r=>(ah g i).f0.length+3+og g r
structure L1 (w wr:World) (g:List S47) (A:Option Addr) (c B:Nat) (vo:Value) (order:List Int) (bA bF nA:Nat) (after:Int→Int) (vR:Value) (R:List Bool):Prop where
 below:Below w.heap.size w wr
 blk:wr.heap[B]?=some (.cells #[.slice none 0 0,.slice A g.length c,vo,.map (some bA),.map none,.map (some bF)] 72 (0,0))
 ord:(Kd.int .i64).R 3 wr w.heap.size (fun _=>True) vo order
 mA:MI wr bA nA after
 mF:MF wr bF 0 (fun _=>(false,false))
 bools:Kd.bool.R 4 wr w.heap.size (fun _=>True) vR R
 hB:w.heap.size≤B
 hA:w.heap.size≤bA
 hF:w.heap.size≤bF
 ne:bA≠bF
theorem L1.move {w wr w1:World} {g:List S47} {A:Option Addr} {c B:Nat} {vo vo1:Value} {order order1:List Int} {bA bF nA nA1:Nat} {after after1:Int→Int} {vR:Value} {R:List Bool}
 (H:L1 w wr g A c B vo order bA bF nA after vR R) (kp:Kp (fun k=>k=B∨k=bA∨some k=vo.ownBlock) wr w1)
 (blk:w1.heap[B]?=some (.cells #[.slice none 0 0,.slice A g.length c,vo1,.map (some bA),.map none,.map (some bF)] 72 (0,0)))
 (ord:(Kd.int .i64).R 3 w1 w.heap.size (fun _=>True) vo1 order1) (mA:MI w1 bA nA1 after1):L1 w w1 g A c B vo1 order1 bA bF nA1 after1 vR R:=by
 have hty:=Kd.iI H.ord
 obtain ⟨es,cl,hF⟩:=H.mF.iD
 refine ⟨kp.il H.below H.below.size ?_,blk,ord,mA,H.mF.move (kp.block bF H.mF.lt ?_),rH H.bools ?_ kp,H.hB,H.hA,H.hF,H.ne⟩
 · rintro k (rfl | rfl | h)
   · exact H.hB
   · exact H.hA
   exact Kd.jV H.ord k h.symm
 · rintro (rfl | h | h)
   · have:=H.blk;rw [hF] at this;cases this
   · exact H.ne h.symm
   obtain ⟨cells,hc⟩:=hty bF h.symm
   rw [hF] at hc;cases hc
 rintro k (rfl | rfl | h)
 · exact .inl ⟨_,_,_,H.blk,by decide⟩
 · exact .inr H.mA.iD
 obtain ⟨cells,hc⟩:=hty k h.symm
 exact .inl ⟨_,_,_,hc,by decide⟩
theorem L1.stay {w wr w1:World} {g:List S47} {A:Option Addr} {c B:Nat} {vo:Value} {order:List Int} {bA bF nA nA1:Nat} {after:Int→Int} {vR:Value} {R:List Bool}
 (H:L1 w wr g A c B vo order bA bF nA after vR R) (hb:Below wr.heap.size wr w1) (hn:nA≤nA1):L1 w w1 g A c B vo order bA bF nA1 after vR R:=
 H.move ((Kp.refl _ _).below hb) (au H.blk hb) (Kd.fq H.ord hb) (eX.mono (H.mA.below hb) hn)
theorem L1.uH {w wr:World} {g:List S47} {A:Option Addr} {c B:Nat} {vo:Value} {order:List Int} {bA bF nA:Nat} {after:Int→Int} {vR:Value} {R:List Bool}
 (H:L1 w wr g A c B vo order bA bF nA after vR R):bA≠B:=by
 obtain ⟨es,cl,h⟩:=H.mA.iD
 rintro rfl
 rw [H.blk] at h
 cases h
theorem Kd.sO {α:Type} {d:Kd α} {e:Nat} {w:World} {base b:Nat} {ok:Nat→Prop} {v:Value} {xs:List α} (h:d.R e w base ok v xs) (hm:∃ es c,w.heap[b]?=some (.map es c)):d.R e w base (fun x=>x≠b) v xs:=by
 obtain ⟨es,c,hm⟩:=hm
 refine Kd.eG (Kd.fu h) ?_
 rintro k ⟨_,_,_,q,hq,cells,hc⟩ rfl
 rw [hm] at hc
 cases hc
theorem jb {l:List Int} (h:¬l.length=0):rd l ((l.length:Int) - 1)∈l:=by
 have:=lU (l:=l) (k:=l.length - 1) (by omega)
 rwa [show ((l.length - 1:Nat):Int)=(l.length:Int) - 1 by omega] at this
theorem jR (R:List Bool):∀ (k:Nat) (i:Int),i∈(bC R k).1→0≤i∧i<(k:Int)
 | 0,i,h=>by simp [bC] at h
 | k+1,i,h=>by
  unfold bC at h
  split at h
  · rcases List.mem_append.1 h with h | h
    · have:=jR R k i h;omega
    rw [List.mem_singleton.1 h];omega
  have:=jR R k i h;omega
theorem jas_len (b:S47) (PL:Int→Int) (f:Bool × Bool) (code:List S45):(jas b PL f code).length≤code.length+2:=by
 unfold jas
 obtain ⟨fy,fn⟩:=f
 cases fy<;>cases fn<;>simp
theorem qI (b:S47) (a:Int) (PL:Int→Int) (f:Bool × Bool) (code:List S45):(fE b a PL f code).length≤code.length+b.f0.length+3:=by
 unfold fE
 split
 · simp;omega
 split
 · split
   · simp
   simp;omega
 have:=jas_len b PL f (code++b.f0++[dV b PL f (((code++b.f0).length:Int)+1)])
 unfold mZ
 simp at this ⊢
 omega
theorem kD (R:List Bool):∀ k:Nat,(bC R k).1.length≤k
 | 0=>Nat.le_refl _
 | k+1=>by
  have:=kD R k
  unfold bC
  split
  · rw [List.length_append,List.length_singleton];omega
  omega
theorem rX (k kp:Nat) (w:World) (g:List S47) (A:Option Addr) (c:Nat) (HG:Kd.C k47 w A g.length g) (hc:g.length≤c) (r1:Int) (hm:cO.f k g=some (r1,0)) (hr:r1≤4096)
 (ht:dh.f k g=some 0) (h0:0<g.length) (hn:g.length≤4096)
 (hg:∀ i:Int,0≤i→i<g.length→∀ x∈cz (ah g i),0≤x∧x<(g.length:Int)) (hv:∀ i:Int,0≤i→i<g.length→(ah g i).f1=1∨(ah g i).f1=2∨(ah g i).f1=3)
 (hw:∀ i:Int,0≤i→i<g.length→(Lit.int .i64 (ah g i).f3).wf=true∧(Lit.int .i64 (ah g i).f4).wf=true)
 (hkp:kp≤10000)
 (hp:∀ R:List Bool,R.length=g.length→(∀ i:Int,0≤i→i<g.length→(dI false R i=true↔Rch g i))→(kW g (bC R g.length).2 (bC R g.length).1 kp (fun _=>(false,false))).isSome=true)
 (hs:∀ R:List Bool,og g (bC R g.length).1≤1000000) :
 Calls Try.prog 16 #[.slice A g.length c] w fun e w'=>∃ (R:List Bool) (PL:Int→Int) (f:Int→Bool × Bool) (v:Value),e = .returned (.tuple #[v,.int .i64 0])∧R.length=g.length∧(∀ i:Int,0≤i→i<g.length→(dI false R i=true↔Rch g i)) ∧
  kW g (bC R g.length).2 (bC R g.length).1 kp (fun _=>(false,false))=some (PL,f)∧k45.R 45 w' w.heap.size (fun _=>True) v (kF g (bC R g.length).2 PL f (bC R g.length).1 [])∧Below w.heap.size w w':=by
 have hmm:=@run_makeMap Try.prog
 have h1:decide (r1>4096)=false:=decide_eq_false (by omega)
 have HGA:=aa.mk HG
 have HCA:=aa.mk hc
 have HM:=aa.mk hm
 have HT:=aa.mk ht
 have Hg:=aa.mk hg
 have Hv:=aa.mk hv
 have Hw:=aa.mk hw
 have Hp:=aa.mk hp
 have Hs:=aa.mk hs
 clear HG hc hm ht hg hv hw hp hs hr
 go_enter Try.func16,Try.ntmps16
 go_wp2_with fail
 refine (cO.calls k A c g r1 0 _ HGA.out HCA.out HM.out).mono ?_
 rintro e w1 ⟨rfl,hb⟩
 have HB1:=aa.mk hb
 clear hb
 go_wp2_with fail
 have hbW:Below w1.heap.size w1 (((w1.alloc (.map #[] 0)).alloc (.map #[] 0)).alloc (.cells #[.slice none 0 0,.slice A g.length c,.slice none 0 0,.map (some w1.heap.size),.map none,.map (some (w1.heap.size+1))] 72)):=ai (ai (ai (Below.refl _ _) _) _) _
 have hmA:MI (((w1.alloc (.map #[] 0)).alloc (.map #[] 0)).alloc (.cells #[.slice none 0 0,.slice A g.length c,.slice none 0 0,.map (some w1.heap.size),.map none,.map (some (w1.heap.size+1))] 72)) w1.heap.size 0 (fun _=>0):=(eX.made w1 Try.prog 3 (.int .i64 0)).below (ai (ai (Below.refl _ _) _) _)
 have hmF:MF (((w1.alloc (.map #[] 0)).alloc (.map #[] 0)).alloc (.cells #[.slice none 0 0,.slice A g.length c,.slice none 0 0,.map (some w1.heap.size),.map none,.map (some (w1.heap.size+1))] 72)) (w1.heap.size+1) 0 (fun _=>(false,false)):=by
  have:=(eX.made (w1.alloc (.map #[] 0)) Try.prog 3 (.agg #[.bool false,.bool false])).below (ai (Below.refl _ _) (.cells #[.slice none 0 0,.slice A g.length c,.slice none 0 0,.map (some w1.heap.size),.map none,.map (some (w1.heap.size+1))] 72))
  rw [World.size_alloc] at this
  exact this
 have hblk:=nw3 w1 (.map #[] 0) (.map #[] 0) (.cells #[.slice none 0 0,.slice A g.length c,.slice none 0 0,.map (some w1.heap.size),.map none,.map (some (w1.heap.size+1))] 72)
 have hbw:=ak HB1.out hbW
 have HS0:=aa.mk (fun w2 (hb:Below _ _ w2) v R (hr:Kd.bool.R 4 w2 _ (fun _=>True) v R)=>L1.mk (w:=w) (wr:=w2) (g:=g) (A:=A) (c:=c) (B:=w1.heap.size+2) (vo := .slice none 0 0) (order:=[]) (bA:=w1.heap.size) (bF:=w1.heap.size+1) (nA:=0) (after:=fun _=>0)
  (ak hbw hb) (au hblk hb) (Kd.jy _ _ _ _ _) (hmA.below hb) (hmF.below hb) (Kd.gN hr hbw.size) (by have:=HB1.out.size;omega) HB1.out.size (by have:=HB1.out.size;omega) (by omega))
 have HBW:=aa.mk hbw
 clear hbW hmA hmF hblk hbw
 refine (o5 k _ g A c (Kd.bJ HGA.out HBW.out) HCA.out HT.out h0 hn Hg.out Hv.out).mono ?_
 rintro e w2 ⟨R,vR,rfl,hR,hb,hRl,hRr⟩
 have HL0:=aa.mk (HS0.out w2 hb vR R hR)
 have HRl:=aa.mk hRl
 have HRr:=aa.mk hRr
 clear HS0 HBW hb hRr
 obtain ⟨go,co,rfl,_,_,_,_⟩:=Kd.pI hR (by omega)
 rw [hRl] at HL0
 rw [hRl]
 clear hR hRl
 obtain ⟨B,hB⟩:∃ B,B=w1.heap.size+1+1:=⟨_,rfl⟩
 rw [←hB]
 rw [show w1.heap.size+2=B from hB.symm] at HL0
 generalize w1.heap.size=bA at *
 have hne:bA≠bA+1:=by omega
 obtain ⟨bF,hF⟩:∃ bF,bF=bA+1:=⟨_,rfl⟩
 rw [←hF] at HL0
 clear hB hF hne
 go_wp2
 go_loopw [34] (fun v34 wr=>∃ (k:Nat) (vo:Value),k≤g.length∧v34 = .int .i64 k∧aa (L1 w wr g A c B vo (bC R k).1 bA bF k (bC R k).2 (.slice (some ⟨go,0,none⟩) g.length co) R)) (fun v34 _=>g.length - (intOf v34).toNat)
 case atStart=>exact ⟨0,.slice none 0 0,Nat.zero_le _,rfl,HL0⟩
 case round=>
  clear HL0
  obtain ⟨k,vo,hk,rfl,HL⟩:=hrel
  by_cases hlt:k<g.length
  · have hui:=Try.underlying70
    have hlen:=kD R k
    obtain ⟨Ao,co1,rfl⟩:=Kd.dz HL.out.ord
    have hcy:=Kd.nk false (xs:=R) (g:=go) (by rw [HRl.out];exact HL.out.bools) (k:Int) (by omega) (by rw [HRl.out];omega)
    obtain ⟨hcy,hfy⟩:=hcy
    rw [Int.toNat_natCast] at hcy hfy
    have b2:=fQ HL.out.blk 2
    have b3:=fQ HL.out.blk 3
    by_cases hb:dI false R (k:Int)=true
    · rw [hb] at hcy
      by_cases hz:(bC R k).1.length=0
      · have hzb:decide (0<(bC R k).1.length)=false:=decide_eq_false (by omega)
        have HE:aa (bC R (k+1)=((bC R k).1++[(k:Int)],(bC R k).2)):=⟨by show (if dI false R (k:Int) then _ else _)=_;rw [if_pos hb,if_pos hz]⟩
        clear hb hz b3
        have HL4:=aa.mk (HL.out)
        have bw2:=fQ HL.out.blk 2
        go_wp2_with (at_builtin;go_loud (refine Kd.iB (Kd.int .i64) (w0:=w) (W:=wr) w.heap.size rfl (.tmp 66) (.tmp 68) 70 3 (.int .i64 0) 8 rfl hui info3 rfl (by decide) (by decide) (.slice Ao (bC R k).1.length co1) (bC R k).1 (k:Int) [.int .i64 (k:Int)] (fun _=>True) (fun _=>False) rfl rfl rfl (fun _ h=>h.elim) (fun _ _=>trivial) HL4.out.ord HL4.out.below HL4.out.below.size (by omega) ?_);intro v1 w4 ho hb hg hat;obtain ⟨A1,cc1,rfl⟩:=Kd.dz ho;have HG:=aa.mk hg;have HO:=aa.mk ho;have HB5:=aa.mk (fw HL4.out.blk hg (Kd.jH HL4.out.ord HL4.out.blk (by decide)));have bx2:w4.cell? ⟨B,2,none⟩=some (.slice Ao (bC R k).1.length co1):=(ag HB5.out 2).trans rfl;have bf2:=aj HB5.out 2;clear ho hb hg hat bw2)
        have kq:Kp (fun x=>x=B∨x=bA∨some x=(Value.slice Ao (bC R k).1.length co1).ownBlock) wr w4:=(Kp.refl _ _).grown HG.out (fun b hb => .inl (.inr (.inr hb.symm)))
        have kq1:=kq.set (.inl (.inl rfl)) 2 (.slice A1 ((bC R k).1.length+1) cc1)
        have hmm2:=(HL4.out.mA.kept HG.out (by intro e;obtain ⟨es,cl,hA⟩:=HL4.out.mA.iD;obtain ⟨cells,hc⟩:=Kd.iI HL4.out.ord bA e.symm;rw [hA] at hc;cases hc))
        have HN:=aa.mk (HL4.out.move kq1 (aJ HB5.out 2 _ rfl) (by have:=Kd.kK HO.out HB5.out (by decide) 2 (.slice A1 ((bC R k).1.length+1) cc1);rw [List.length_append,List.length_singleton] at this;exact this) (eX.mono (hmm2.move (Below.heap_setCell _ _ _ _ (HL4.out.uH))) (show k≤k+1 by omega)))
        clear kq kq1 hmm2 HG HO HB5 bx2 bf2 HL4
        go_roundw
        case rel=>exact ⟨k+1,_,by omega,by go_num,by rw [HE.out];exact HN⟩
        case measure=>simp [intOf];omega
      have hzb:decide (0<(bC R k).1.length)=true:=decide_eq_true (by omega)
      have HE:aa (bC R (k+1)=((bC R k).1++[(k:Int)],upd (bC R k).2 (rd (bC R k).1 ((bC R k).1.length - 1)) (k:Int))):=⟨by show (if dI false R (k:Int) then _ else _)=_;rw [if_pos hb,if_neg hz]⟩
      have hcast:(((bC R k).1.length - 1:Nat):Int)=((bC R k).1.length:Int) - 1:=by omega
      obtain ⟨ado,rfl,hco⟩:=Kd.iw (Kd.dO HL.out.ord).2.2 (((bC R k).1.length - 1:Nat):Int) (by omega) (by omega)
      rw [Int.toNat_natCast,hcast] at hco
      clear hcast
      have hwl:(Lit.int .i64 (rd (bC R k).1 (((bC R k).1.length:Int) - 1))).wf=true:=by
       obtain ⟨ho1,ho2⟩:=jR R k _ (jb hz)
       exact WalkArith.wf_i64 (by omega)
      obtain ⟨w3,hrun,hm3,hg3⟩:=eX.store (HL.out.mA.below (ae (Below.refl _ _))) rW Try.underlying3 Try.underlying66 (by unfold maxLen;omega) (rd (bC R k).1 (((bC R k).1.length:Int) - 1)) hwl (.int .i64 (k:Int))
      rw [rD] at hm3
      have HM3:=aa.mk hm3
      have HG3:=aa.mk hg3
      clear hm3 hg3 hb hz
      have hq0:(0:Int)≤((bC R k).1.length:Int) - 1:=by have:=of_decide_eq_true hzb;omega
      go_wp2
      go_region
      go_upto_region 15 with (fail)
      have HL3:=aa.mk (HL.out.move (w1:=w3) (((Kp.refl _ wr).below (ae (Below.refl _ _))).grown HG3.out (fun b hb => .inl (.inr (.inl (Option.some.inj hb).symm)))) (fw (aX HL.out.blk) HG3.out (by intro e;injection e with e;exact HL.out.uH e.symm)) (Kd.qL (ok:=fun x=>x≠bA) (Kd.sO (Kd.gF HL.out.ord) HL.out.mA.iD) HG3.out (fun x hx e=>hx (Option.some.inj e)) |> fun h=>Kd.eG h (fun _ _=>trivial)) HM3.out)
      clear hrun hco b2 b3 HM3 HG3 HL hzb hwl
      have HL4:=aa.mk (HL3.out)
      have bw2:=fQ HL3.out.blk 2
      go_wp2_with (at_builtin;refine Kd.iB (Kd.int .i64) (w0:=w) (W:=w3) w.heap.size rfl (.tmp 66) (.tmp 68) 70 3 (.int .i64 0) 8 rfl hui info3 rfl (by decide) (by decide) (.slice (some ado) (bC R k).1.length co1) (bC R k).1 (k:Int) [.int .i64 (k:Int)] (fun _=>True) (fun _=>False) rfl rfl rfl (fun _ h=>h.elim) (fun _ _=>trivial) HL4.out.ord HL4.out.below HL4.out.below.size (by omega) ?_;intro v1 w4 ho hb hg hat;obtain ⟨A1,cc1,rfl⟩:=Kd.dz ho;have HG:=aa.mk hg;have HO:=aa.mk ho;have HB5:=aa.mk (fw HL4.out.blk hg (Kd.jH HL4.out.ord HL4.out.blk (by decide)));have bx2:w4.cell? ⟨B,2,none⟩=some (.slice (some ado) (bC R k).1.length co1):=(ag HB5.out 2).trans rfl;have bf2:=aj HB5.out 2;clear ho hb hg hat bw2)
      have kq:Kp (fun x=>x=B∨x=bA∨some x=(Value.slice (some ado) (bC R k).1.length co1).ownBlock) w3 w4:=(Kp.refl _ _).grown HG.out (fun b hb => .inl (.inr (.inr hb.symm)))
      have kq1:=kq.set (.inl (.inl rfl)) 2 (.slice A1 ((bC R k).1.length+1) cc1)
      have hmm2:=(HL4.out.mA.kept HG.out (by intro e;obtain ⟨es,cl,hA⟩:=HL4.out.mA.iD;obtain ⟨cells,hc⟩:=Kd.iI HL4.out.ord bA e.symm;rw [hA] at hc;cases hc))
      have HN:=aa.mk (HL4.out.move kq1 (aJ HB5.out 2 _ rfl) (by have:=Kd.kK HO.out HB5.out (by decide) 2 (.slice A1 ((bC R k).1.length+1) cc1);rw [List.length_append,List.length_singleton] at this;exact this) (eX.mono (hmm2.move (Below.heap_setCell _ _ _ _ (HL4.out.uH))) (show k+1≤k+1 by omega)))
      clear kq kq1 hmm2 HG HO HB5 bx2 bf2 HL4
      go_roundw
      case rel=>exact ⟨k+1,_,by omega,by go_num,by rw [HE.out];exact HN⟩
      case measure=>simp [intOf];omega
    have HE:aa (bC R (k+1)=bC R k):=⟨by show (if dI false R (k:Int) then _ else _)=_;rw [if_neg hb]⟩
    rw [Bool.eq_false_iff.mpr hb] at hcy
    clear hb
    go_wp2
    have HN:=aa.mk (HL.out.stay (Below.refl _ _) (Nat.le_succ k))
    go_roundw
    case rel=>exact ⟨k+1,_,by omega,by go_num,by rw [HE.out];exact HN⟩
    case measure=>simp [intOf];omega
  have hkl:k=g.length:=by omega
  subst hkl
  clear hlt hk
  obtain ⟨⟨PL,F⟩,hres⟩:=Option.isSome_iff_exists.1 (Hp.out R HRl.out HRr.out)
  have HRes:=aa.mk hres
  have hsum:=Hs.out R
  have hol:=kD R g.length
  have hin:=jR R g.length
  have HW0:=aa.mk (Wr.mk HL.out.below HL.out.blk HGA.out HL.out.ord hin (fun i hi=>Hw.out i (hin i hi).1 (hin i hi).2) HL.out.mA HL.out.mF HL.out.hB HL.out.hA HL.out.hF HL.out.ne)
  clear hres hin HL
  generalize hso:bC R g.length=so at *
  have HSO:=aa.mk hso
  clear hso
  obtain ⟨order,after⟩:=so
  dsimp only at HRes hsum hol HW0
  have HSum:=aa.mk hsum
  clear hsum
  go_wp2
  go_loopg [74] kp (fun kq _ w'=>∃ (f:Int→Bool × Bool) (vp:Value) (nF:Nat),aa (kW g after order kq f=some (PL,F))∧aa (nF+kq*4096≤kp*4096)∧aa (Wr w w' g A c B (.slice none 0 0) vo vp order bA bF g.length nF after f))
  case atStart=>exact ⟨_,_,0,HRes,⟨by omega⟩,HW0⟩
  case round=>
   clear HW0
   obtain ⟨f,vp,nF,HP,HN,HW⟩:=hrel
   cases gk with
   | zero=>exact absurd HP.out (by simp [kW])
   | succ kq=>
    have hPI:=HP.out
    unfold kW at hPI
    have HPI:=aa.mk hPI
    clear hPI HP
    go_wp2_with fail
    refine (oU w _ g A c B _ vo vp order bA bF g.length nF after f HW.out (by unfold maxLen;have:=HN.out;omega)).mono ?_
    rintro e w5 ⟨rfl,hW5,hM5,hk5⟩
    have hbp:=HW.out.below.size
    generalize iF g after f order 0 (fun _=>0)=PL1 at *
    generalize hfr:fJ g PL1 order f false=fr at *
    obtain ⟨f1,b1⟩:=fr
    have HW5:=aa.mk hW5
    have HM5:=aa.mk hM5
    clear hW5 hM5 hk5 hfr HW
    dsimp only at HPI HW5
    cases b1
    · have hend:PL1=PL∧f1=F:=by have:=HPI.out;simpa using this
      obtain ⟨rfl,rfl⟩:=hend
      have HWs:=aa.mk (Ws.mk HW5.out (Kd.jy _ _ _ _ _) HM5.out hbp)
      have HL0:=aa.mk (show ([]:List S45).length+og g order≤1000000 by have:=HSum.out;simpa using this)
      clear HPI HN HW5 HM5 hbp
      obtain ⟨Ao,co1,rfl⟩:=Kd.dz HWs.out.me.ord
      have b2:=fQ HWs.out.me.blk 2
      generalize wr.heap.size=bP at *
      generalize nF+order.length=nF1 at *
      go_wp2
      go_loopw [80] (fun v80 wr=>∃ (k:Nat) (vc:Value) (code:List S45),k≤order.length∧v80 = .int .i64 k∧aa (kF g after PL1 f1 (order.drop k) code=kF g after PL1 f1 order [])∧aa (code.length+og g (order.drop k)≤1000000)∧aa (Ws w wr g A c B vc (.slice Ao order.length co1) code order bA bF bP g.length nF1 order.length after PL1 f1)) (fun v80 _=>order.length - (intOf v80).toNat)
      case atStart=>exact ⟨0,_,[],Nat.zero_le _,rfl,⟨rfl⟩,HL0,HWs⟩
      case round=>
       clear HWs HL0 b2
       obtain ⟨k,vc,code,hk,rfl,HC,HLn,HS⟩:=hrel
       by_cases hlt:k<order.length
       · obtain ⟨ado,rfl,hco⟩:=Kd.iw (Kd.dO HS.out.me.ord).2.2 (k:Int) (by omega) (by omega)
         rw [Int.toNat_natCast] at hco
         have hmem:=lU hlt
         have hdr:=nX hlt
         generalize rd order (k:Int)=i at *
         have Hmem:=aa.mk hmem
         have hC:=HC.out
         have hL:=HLn.out
         rw [hdr] at hC hL
         have HC1:=aa.mk hC
         have HL1:=aa.mk hL
         clear hmem hdr hC hL HC HLn
         go_wp2_with fail
         refine (pF w _ g A c B vc _ code order bA bF bP g.length nF1 order.length after PL1 f1 HS.out i Hmem.out (by have:=HL1.out;unfold og at this;omega)).mono ?_
         rintro e w7 ⟨rfl,vc',hs⟩
         have HS7:=aa.mk hs
         have HL7:=aa.mk (show (fE (ah g i) (after i) PL1 (f1 i) code).length+og g (order.drop (k+1))≤1000000 by have:=HL1.out;unfold og at this;have:=qI (ah g i) (after i) PL1 (f1 i) code;omega)
         clear hs HL1 HS
         go_wp2
         go_roundw
         case rel=>exact ⟨k+1,vc',_,by omega,by go_num,HC1,HL7,HS7⟩
         case measure=>simp [intOf];omega
       have hkl:k=order.length:=by omega
       subst hkl
       have hC:=HC.out
       rw [List.drop_length] at hC
       have HC1:=aa.mk hC
       have b0:wr.cell? ⟨B,0,none⟩=some vc:=(ag HS.out.me.blk 0).trans rfl
       obtain ⟨Ac,cc,rfl⟩:=Kd.dz HS.out.code
       clear hC HC HLn hlt hk
       go_wp2
       go_ret2
       exact ⟨R,PL1,f1,_,rfl,HRl.out,HRr.out,by rw [HSO.out];exact HRes.out,by rw [HSO.out];show Kd.R _ _ _ _ _ _ (kF g after PL1 f1 order []);rw [←HC1.out];exact HS.out.code,HS.out.me.below⟩
    have HP2:=aa.mk (show kW g after order kq f1=some (PL,F) by have:=HPI.out;simpa using this)
    clear HPI HM5
    go_wp2
    go_roundg kq
    case measure=>omega
    case rel=>exact ⟨f1,_,_,HP2,⟨by have:=HN.out;omega⟩,HW5⟩
end Go.Proofs.Ytdkalnkplgfgoaa.Ln
