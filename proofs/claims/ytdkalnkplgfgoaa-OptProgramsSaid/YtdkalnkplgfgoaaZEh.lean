/- Lemmas and walks for the statements of the texts ZEZ..: the declarations that they need, taken together by a program of this session. Conditions: as each says. -/
import Derived.ArgAppend
import Derived.Deep.MidRow
import Derived.Deep.RegionHeld3
import Derived.Test.YtdkalnkplgfgoaaZEb
import Derived.Test.YtdkalnkplgfgoaaZEc
import Derived.Test.YtdkalnkplgfgoaaZEd
import Derived.Test.YtdkalnkplgfgoaaZEf
import Derived.Test.YtdkalnkplgfgoaaZEg
set_option maxHeartbeats 4000000
set_option maxRecDepth 100000
set_option linter.unusedVariables false
set_option linter.unusedSimpArgs false
namespace Go.Proofs.Ytdkalnkplgfgoaa.Ln
open Go.RowKit Go.Maps Go.Proofs.YtdkalnkplgfgoaaW.PrintWords Go.Proofs.YtdkalnkplgfgoaaW.PrintLast Go.Proofs.YtdkalnkplgfgoaaW.PrintMore Go.Proofs.Ytdkalnkplgfgoaa.PA
theorem after_0 (w:World) (gs:Nat) (s:St) (i1 i2 k:Int) (hS:w.heap[gs]?=some (.cells (aC s) 151 (0,0))) (hl:s.length=18) :
 Calls Try.prog 160 #[.pointer (some ⟨gs,0,none⟩),.agg #[.int .u16 0,.int .u8 i1,.int .u8 i2,.int .u32 k]] w fun e w'=>e = .returned (.tuple #[])∧w'.heap[gs]?=some (.cells (aC (s.set 0 (some k))) 151 (0,0))∧Kp (fun k=>k=gs) w w':=by
 have HS:=aa.mk hS
 clear hS
 go_enter Try.func160,Try.ntmps160
 go_upto_region 6 with (fail)
 refine forget (fun W=>∃ gi,gi=w.heap.size∧Below w.heap.size w W∧W.heap[gi]?=some (.cells #[.int .u16 0,.int .u8 i1,.int .u8 i2,.int .u32 k] 45 (0,0))) ⟨_,rfl,ai (Below.refl _ _) _,heap_alloc_new _ _⟩ ?_
 rintro W ⟨gi,egi,hb,hi⟩
 rw [←egi]
 have hs:=aj HS.out hb
 have y3:=dA hi 3
 have d0:W.cell? ⟨gs,0,none⟩=_:=(ae hs (0*2)).trans (dw (s:=s) (i:=0) (by omega))
 have d1:W.cell? ⟨gs,1,none⟩=_:=(ae hs (0*2+1)).trans (dO (s:=s) (i:=0) (by omega))
 have f0:W.frozen? ⟨gs,0,none⟩=false:=af hs (0*2)
 have f1:W.frozen? ⟨gs,1,none⟩=false:=af hs (0*2+1)
 generalize (gS s 0).isSome=ob at d0
 generalize (gS s 0).getD 0=ov at d1
 have KC:aa (∀ V' V'',Below W.heap.size W V'→Below V'.heap.size V' V''→V''.cell? ⟨gi,3,none⟩=some (.int .u32 k)∧V''.cell? ⟨gs,0,none⟩=some (.bool ob)∧V''.cell? ⟨gs,1,none⟩=some (.int .u32 ov)∧V''.frozen? ⟨gs,0,none⟩=false∧V''.frozen? ⟨gs,1,none⟩=false):=
  ⟨fun V' V'' h1 h2=>⟨au h2 (au h1 y3),au h2 (au h1 d0),au h2 (au h1 d1),af (aj (aj hs h1) h2) 0,af (aj (aj hs h1) h2) 1⟩⟩
 have HB:=aa.mk hb
 have HS2:=aa.mk hs
 have EG:=aa.mk egi
 clear hb hi hs egi
 refine eD 7 (fun w'=>w'.cell? ⟨gi,3,none⟩=some (.int .u32 k)∧w'.cell? ⟨gs,0,none⟩=some (.bool ob)∧w'.cell? ⟨gs,1,none⟩=some (.int .u32 ov)∧w'.frozen? ⟨gs,0,none⟩=false∧w'.frozen? ⟨gs,1,none⟩=false) [6] ⟨y3,d0,d1,f0,f1⟩ (fun hHeld=>?_)
 refine aH 0 20 ?_
 refine aH 1 21 ?_
 refine aH 4 24 ?_
 refine dC 2 22 hHeld ?_
 refine iG 3 (some 23) (fun K hK=>?_)
 refine gX Try.func125 #[.int .u32 k] ?_
 with_reducible refine (PA.gY.calls k true k _ rfl).mono ?_
 rintro e w3 ⟨rfl,hk3⟩
 refine ⟨_,rfl,?_⟩
 refine hK.out _ _ (KC.out _ _ iy hk3) (fun hHeld=>?_)
 clear hK K
 refine eZ 23 ?_
 refine aH 5 25 ?_
 refine fM 6 none (fun K hK=>?_)
 refine ik ?_
 refine hK.out _ _ ?_
 clear hK K
 refine iA (by kernel_rfl) ?_
 go_wp2
 go_end0
 have h1:=av (ak (Below.refl W.heap.size W)) hk3
 exact ⟨rfl,aM (aM (aj HS2.out h1) (0*2) _ rfl) (0*2+1) _ (ji (i:=0) (some k) (by omega)),
  Kp.set (S:=fun k=>k=gs) (g:=gs) (Kp.set (S:=fun k=>k=gs) (g:=gs) ((Kp.refl _ w).below (av HB.out h1)) (.inl rfl) _ _) (.inl rfl) _ _⟩
theorem after_1 (w:World) (gs:Nat) (s:St) (i1 i2 k:Int) (hS:w.heap[gs]?=some (.cells (aC s) 151 (0,0))) (hl:s.length=18) :
 Calls Try.prog 160 #[.pointer (some ⟨gs,0,none⟩),.agg #[.int .u16 1,.int .u8 i1,.int .u8 i2,.int .u32 k]] w fun e w'=>e = .returned (.tuple #[])∧w'.heap[gs]?=some (.cells (aC (s.set 1 (some k))) 151 (0,0))∧Kp (fun k=>k=gs) w w':=by
 have HS:=aa.mk hS
 clear hS
 go_enter Try.func160,Try.ntmps160
 go_upto_region 8 with (fail)
 refine forget (fun W=>∃ gi,gi=w.heap.size∧Below w.heap.size w W∧W.heap[gi]?=some (.cells #[.int .u16 1,.int .u8 i1,.int .u8 i2,.int .u32 k] 45 (0,0))) ⟨_,rfl,ai (Below.refl _ _) _,heap_alloc_new _ _⟩ ?_
 rintro W ⟨gi,egi,hb,hi⟩
 rw [←egi]
 have hs:=aj HS.out hb
 have y3:=dA hi 3
 have d0:W.cell? ⟨gs,2,none⟩=_:=(ae hs (1*2)).trans (dw (s:=s) (i:=1) (by omega))
 have d1:W.cell? ⟨gs,3,none⟩=_:=(ae hs (1*2+1)).trans (dO (s:=s) (i:=1) (by omega))
 have f0:W.frozen? ⟨gs,2,none⟩=false:=af hs (1*2)
 have f1:W.frozen? ⟨gs,3,none⟩=false:=af hs (1*2+1)
 generalize (gS s 1).isSome=ob at d0
 generalize (gS s 1).getD 0=ov at d1
 have KC:aa (∀ V' V'',Below W.heap.size W V'→Below V'.heap.size V' V''→V''.cell? ⟨gi,3,none⟩=some (.int .u32 k)∧V''.cell? ⟨gs,2,none⟩=some (.bool ob)∧V''.cell? ⟨gs,3,none⟩=some (.int .u32 ov)∧V''.frozen? ⟨gs,2,none⟩=false∧V''.frozen? ⟨gs,3,none⟩=false):=
  ⟨fun V' V'' h1 h2=>⟨au h2 (au h1 y3),au h2 (au h1 d0),au h2 (au h1 d1),af (aj (aj hs h1) h2) 2,af (aj (aj hs h1) h2) 3⟩⟩
 have HB:=aa.mk hb
 have HS2:=aa.mk hs
 have EG:=aa.mk egi
 clear hb hi hs egi
 refine eD 7 (fun w'=>w'.cell? ⟨gi,3,none⟩=some (.int .u32 k)∧w'.cell? ⟨gs,2,none⟩=some (.bool ob)∧w'.cell? ⟨gs,3,none⟩=some (.int .u32 ov)∧w'.frozen? ⟨gs,2,none⟩=false∧w'.frozen? ⟨gs,3,none⟩=false) [6] ⟨y3,d0,d1,f0,f1⟩ (fun hHeld=>?_)
 refine aH 0 28 ?_
 refine aH 1 29 ?_
 refine aH 4 32 ?_
 refine dC 2 30 hHeld ?_
 refine iG 3 (some 31) (fun K hK=>?_)
 refine gX Try.func125 #[.int .u32 k] ?_
 with_reducible refine (PA.gY.calls k true k _ rfl).mono ?_
 rintro e w3 ⟨rfl,hk3⟩
 refine ⟨_,rfl,?_⟩
 refine hK.out _ _ (KC.out _ _ iy hk3) (fun hHeld=>?_)
 clear hK K
 refine eZ 31 ?_
 refine aH 5 33 ?_
 refine fM 6 none (fun K hK=>?_)
 refine ik ?_
 refine hK.out _ _ ?_
 clear hK K
 refine iA (by kernel_rfl) ?_
 go_wp2
 go_end0
 have h1:=av (ak (Below.refl W.heap.size W)) hk3
 exact ⟨rfl,aM (aM (aj HS2.out h1) (1*2) _ rfl) (1*2+1) _ (ji (i:=1) (some k) (by omega)),
  Kp.set (S:=fun k=>k=gs) (g:=gs) (Kp.set (S:=fun k=>k=gs) (g:=gs) ((Kp.refl _ w).below (av HB.out h1)) (.inl rfl) _ _) (.inl rfl) _ _⟩
theorem sW (w:World) (gs:Nat) (s:St) (i:S45) (hS:w.heap[gs]?=some (.cells (aC s) 151 (0,0))) (hl:s.length=18) (hc:stB i.f0 i.f3=true) (hk:Rg i.f3) :
 Calls Try.prog 160 #[.pointer (some ⟨gs,0,none⟩),fD i] w fun e w'=>e = .returned (.tuple #[])∧w'.heap[gs]?=some (.cells (aC (dK s i)) 151 (0,0))∧Kp (fun k=>k=gs) w w':=by
 obtain ⟨hm,h16,_,_⟩:=gQ hc
 obtain ⟨_,hx,_⟩:=uq i.f0 hm
 obtain ⟨c,i1,i2,k⟩:=i
 dsimp only at h16 hk hx
 have hk0:=hk.1
 unfold dK
 dsimp only
 by_cases c0:c=0
 · rw [if_pos c0];subst c0;exact after_0 w gs s i1 i2 k hS hl
 rw [if_neg c0]
 by_cases c1:c=1
 · rw [if_pos c1];subst c1;exact after_1 w gs s i1 i2 k hS hl
 rw [if_neg c1]
 by_cases c2:c=2
 · rw [if_pos c2];subst c2
   have hk6:=h16 (by omega)
   obtain ⟨n,rfl⟩:∃ n:Nat,k=(n:Int):=⟨k.toNat,by omega⟩
   rw [Int.toNat_natCast]
   exact after_2 w gs s i1 i2 n hS hl (by omega)
 rw [if_neg c2]
 by_cases c3:c=3
 · rw [if_pos c3];subst c3
   have hk6:=h16 (by omega)
   obtain ⟨n,rfl⟩:∃ n:Nat,k=(n:Int):=⟨k.toNat,by omega⟩
   rw [Int.toNat_natCast]
   exact after_3 w gs s i1 i2 n hS hl (by omega)
 rw [if_neg c3]
 by_cases c7:c=7
 · rw [if_pos c7];subst c7;exact after_7 w gs s i1 i2 k hS hl
 rw [if_neg c7]
 by_cases c8:c=135
 · rw [if_pos c8];subst c8;exact wU w gs s i1 i2 k hS hl
 rw [if_neg c8]
 simp only [List.mem_cons,List.not_mem_nil,or_false] at hx
 by_cases c9:c=97∨c=129∨c=177
 · rw [if_pos c9]
   exact after_x w gs s c i1 i2 k hS hl (bn c0) (bn c1) (bn c2) (bn c3) (bn c7) (bn c8) (iH (hx.2 (.inr c9)))
 rw [if_neg c9]
 exact after_o w gs s c i1 i2 k hS hl (bn c0) (bn c1) (bn c2) (bn c3) (bn c7) (bn c8) (bn (fun h=>(hx.1 h).elim c1 c9))
theorem dec_x (w:World) (gs:Nat) (s:St) (c i1 i2 k:Int) (hS:w.heap[gs]?=some (.cells (aC s) 151 (0,0))) (hl:s.length=18) (h8:(Go.bits .and .u16 c 8 != 0)=true) :
 Calls Try.prog 161 #[.pointer (some ⟨gs,0,none⟩),.agg #[.int .u16 c,.int .u8 i1,.int .u8 i2,.int .u32 k]] w fun e w'=>e = .returned (.tuple #[.bool false,.bool false])∧Below w.heap.size w w':=by
 have hlt:=ax hS
 have HS:=aa.mk hS
 clear hS
 go_enter Try.func161,Try.ntmps161
 go_wp2
 go_ret2
 exact ⟨rfl,ai (Below.refl _ _) _⟩
theorem dec_53y (w:World) (gs:Nat) (s:St) (i1 i2 k:Int) (hS:w.heap[gs]?=some (.cells (aC s) 151 (0,0))) (hl:s.length=18) (e0:gS s 0=none) (hk:(k==0)=true) :
 Calls Try.prog 161 #[.pointer (some ⟨gs,0,none⟩),.agg #[.int .u16 53,.int .u8 i1,.int .u8 i2,.int .u32 k]] w fun e w'=>e = .returned (.tuple #[.bool true,.bool true])∧Below w.heap.size w w':=by
 have c0:=cN 0 hS e0
 have hlt:=ax hS
 have HS:=aa.mk hS
 clear hS
 go_enter Try.func161,Try.ntmps161
 go_wp2
 go_ret2
 exact ⟨rfl,ai (Below.refl _ _) _⟩
theorem dec_53n (w:World) (gs:Nat) (s:St) (i1 i2 k:Int) (hS:w.heap[gs]?=some (.cells (aC s) 151 (0,0))) (hl:s.length=18) (e0:gS s 0=none) (hk:(k==0)=false) :
 Calls Try.prog 161 #[.pointer (some ⟨gs,0,none⟩),.agg #[.int .u16 53,.int .u8 i1,.int .u8 i2,.int .u32 k]] w fun e w'=>e = .returned (.tuple #[.bool false,.bool false])∧Below w.heap.size w w':=by
 have c0:=cN 0 hS e0
 have hlt:=ax hS
 have HS:=aa.mk hS
 clear hS
 go_enter Try.func161,Try.ntmps161
 go_wp2
 go_ret2
 exact ⟨rfl,ai (Below.refl _ _) _⟩
theorem dec_37y (w:World) (gs:Nat) (s:St) (i1 i2 k:Int) (hS:w.heap[gs]?=some (.cells (aC s) 151 (0,0))) (hl:s.length=18) (e0:gS s 0=none) (hk:(k==4294967295)=true) :
 Calls Try.prog 161 #[.pointer (some ⟨gs,0,none⟩),.agg #[.int .u16 37,.int .u8 i1,.int .u8 i2,.int .u32 k]] w fun e w'=>e = .returned (.tuple #[.bool false,.bool true])∧Below w.heap.size w w':=by
 have c0:=cN 0 hS e0
 have hlt:=ax hS
 have HS:=aa.mk hS
 clear hS
 go_enter Try.func161,Try.ntmps161
 go_wp2
 go_ret2
 exact ⟨rfl,ai (Below.refl _ _) _⟩
theorem dec_37n (w:World) (gs:Nat) (s:St) (i1 i2 k:Int) (hS:w.heap[gs]?=some (.cells (aC s) 151 (0,0))) (hl:s.length=18) (e0:gS s 0=none) (hk:(k==4294967295)=false) :
 Calls Try.prog 161 #[.pointer (some ⟨gs,0,none⟩),.agg #[.int .u16 37,.int .u8 i1,.int .u8 i2,.int .u32 k]] w fun e w'=>e = .returned (.tuple #[.bool false,.bool false])∧Below w.heap.size w w':=by
 have c0:=cN 0 hS e0
 have hlt:=ax hS
 have HS:=aa.mk hS
 clear hS
 go_enter Try.func161,Try.ntmps161
 go_wp2
 go_ret2
 exact ⟨rfl,ai (Below.refl _ _) _⟩
theorem dec_69y (w:World) (gs:Nat) (s:St) (i1 i2 k:Int) (hS:w.heap[gs]?=some (.cells (aC s) 151 (0,0))) (hl:s.length=18) (e0:gS s 0=none) (hk:(k==0)=true) :
 Calls Try.prog 161 #[.pointer (some ⟨gs,0,none⟩),.agg #[.int .u16 69,.int .u8 i1,.int .u8 i2,.int .u32 k]] w fun e w'=>e = .returned (.tuple #[.bool false,.bool true])∧Below w.heap.size w w':=by
 have c0:=cN 0 hS e0
 have hlt:=ax hS
 have HS:=aa.mk hS
 clear hS
 go_enter Try.func161,Try.ntmps161
 go_wp2
 go_ret2
 exact ⟨rfl,ai (Below.refl _ _) _⟩
theorem dec_69n (w:World) (gs:Nat) (s:St) (i1 i2 k:Int) (hS:w.heap[gs]?=some (.cells (aC s) 151 (0,0))) (hl:s.length=18) (e0:gS s 0=none) (hk:(k==0)=false) :
 Calls Try.prog 161 #[.pointer (some ⟨gs,0,none⟩),.agg #[.int .u16 69,.int .u8 i1,.int .u8 i2,.int .u32 k]] w fun e w'=>e = .returned (.tuple #[.bool false,.bool false])∧Below w.heap.size w w':=by
 have c0:=cN 0 hS e0
 have hlt:=ax hS
 have HS:=aa.mk hS
 clear hS
 go_enter Try.func161,Try.ntmps161
 go_wp2
 go_ret2
 exact ⟨rfl,ai (Below.refl _ _) _⟩
theorem dec_21 (w:World) (gs:Nat) (s:St) (i1 i2 k:Int) (hS:w.heap[gs]?=some (.cells (aC s) 151 (0,0))) (hl:s.length=18) (e0:gS s 0=none) :
 Calls Try.prog 161 #[.pointer (some ⟨gs,0,none⟩),.agg #[.int .u16 21,.int .u8 i1,.int .u8 i2,.int .u32 k]] w fun e w'=>e = .returned (.tuple #[.bool false,.bool false])∧Below w.heap.size w w':=by
 have c0:=cN 0 hS e0
 have hlt:=ax hS
 have HS:=aa.mk hS
 clear hS
 go_enter Try.func161,Try.ntmps161
 go_wp2
 go_ret2
 exact ⟨rfl,ai (Below.refl _ _) _⟩
theorem dec_k (w:World) (gs:Nat) (s:St) (c v i1 i2 k:Int) (hS:w.heap[gs]?=some (.cells (aC s) 151 (0,0))) (hl:s.length=18) (e0:gS s 0=some v) (h8:(Go.bits .and .u16 c 8 != 0)=false) (r:Bool) (hr:PA.ic.f c v k=some r) :
 Calls Try.prog 161 #[.pointer (some ⟨gs,0,none⟩),.agg #[.int .u16 c,.int .u8 i1,.int .u8 i2,.int .u32 k]] w fun e w'=>e = .returned (.tuple #[.bool r,.bool true])∧Below w.heap.size w w':=by
 have c0:=cY 0 hS e0
 have c1:=dY 1 hS e0
 have HC:=aa.mk (fun W=>PA.ic.calls c v k r W hr)
 clear hr
 have hlt:=ax hS
 have HS:=aa.mk hS
 clear hS
 go_enter Try.func161,Try.ntmps161
 go_upto_region 4 with (fail)
 refine forget (fun W=>∃ gi,gi=w.heap.size∧Below w.heap.size w W∧W.heap[gi]?=some (.cells #[.int .u16 c,.int .u8 i1,.int .u8 i2,.int .u32 k] 45 (0,0))) ⟨_,rfl,ai (Below.refl _ _) _,heap_alloc_new _ _⟩ ?_
 rintro W ⟨gi,egi,hb,hi⟩
 rw [←egi]
 have x1:=au hb c1
 have y0:=dA hi 0
 have y3:=dA hi 3
 have HB:=aa.mk hb
 have EG:=aa.mk egi
 clear hb hi egi c0 c1
 go_quiet ((go_at_call 157;exact Calls.quiet_of ((HC.out _).mono fun _ _ ⟨he,⟨m,hm⟩⟩=>⟨he,m,hm⟩)))
 go_wp2
 go_ret2
 exact ⟨rfl,av HB.out (aA (Below.refl _ _) _)⟩
theorem jd (w:World) (gs:Nat) (s:St) (l:S45) (hS:w.heap[gs]?=some (.cells (aC s) 151 (0,0))) (hl:s.length=18) (hj:jmB l.f0=true) :
 Calls Try.prog 161 #[.pointer (some ⟨gs,0,none⟩),fD l] w fun e w'=>e = .returned (.tuple #[.bool ((jI s l).getD false),.bool (jI s l).isSome])∧Below w.heap.size w w':=by
 obtain ⟨c,i1,i2,k⟩:=l
 dsimp only at hj
 have hm:c∈([21,29,37,45,53,61,69,77]:List Int):=of_decide_eq_true hj
 unfold jI
 dsimp only
 by_cases hx:c∈tX
 · have H:∀ c∈tX,(Go.bits .and .u16 c 8 != 0)=true:=by decide +kernel
   rw [if_pos hx];exact dec_x w gs s c i1 i2 k hS hl (H c hx)
 rw [if_neg hx]
 simp only [tX,List.mem_cons,List.not_mem_nil,or_false] at hm hx
 have hc:c=21∨c=37∨c=53∨c=69:=by omega
 cases e:gS s 0 with
 | some a=>
  refine dec_k w gs s c a i1 i2 k hS hl e ?_ _ (holds_f hj (by simp only [tX,List.mem_cons,List.not_mem_nil,or_false];omega))
  rcases hc with rfl | rfl | rfl | rfl<;>decide +kernel
 | none=>
  dsimp only
  rcases hc with rfl | rfl | rfl | rfl
  · rw [if_neg (by omega),if_neg (by omega)];exact dec_21 w gs s i1 i2 k hS hl e
  · rw [if_neg (by omega)]
    by_cases q:k=4294967295
    · rw [if_pos (.inl ⟨rfl,q⟩)];exact dec_37y w gs s i1 i2 k hS hl e (iH q)
    rw [if_neg (by omega)];exact dec_37n w gs s i1 i2 k hS hl e (bn q)
  · by_cases q:k=0
    · rw [if_pos ⟨rfl,q⟩];exact dec_53y w gs s i1 i2 k hS hl e (iH q)
    rw [if_neg (by omega),if_neg (by omega)];exact dec_53n w gs s i1 i2 k hS hl e (bn q)
  rw [if_neg (by omega)]
  by_cases q:k=0
  · rw [if_pos (.inr ⟨rfl,q⟩)];exact dec_69y w gs s i1 i2 k hS hl e (iH q)
  rw [if_neg (by omega)];exact dec_69n w gs s i1 i2 k hS hl e (bn q)
def gq (of:List Int) (nx:Int):Array Value:=((of++[nx]).map (fun v=>Value.int .i64 v)).toArray
theorem uQ {of:List Int} {nx:Int} {i:Nat} (h:i<of.length):(gq of nx)[i]?=some (.int .i64 (of.getD i 0)):=by
 unfold gq
 rw [List.getElem?_toArray,List.getElem?_map,List.getElem?_append_left h,List.getD_eq_getElem?_getD,List.getElem?_eq_getElem h];rfl
theorem oc_nx {of:List Int} {nx:Int} (h:of.length=18):(gq of nx)[18]?=some (.int .i64 nx):=by
 unfold gq
 rw [List.getElem?_toArray,List.getElem?_map,List.getElem?_append_right (by omega),h];rfl
theorem AY {of:List Int} {nx:Int} {i:Nat} (v:Int) (h:i<of.length):(gq of nx).setIfInBounds i (.int .i64 v)=gq (of.set i v) nx:=by
 unfold gq
 rw [List.setIfInBounds_toArray,←List.map_set,List.set_append_left _ _ h]
theorem oc_setn {of:List Int} {nx:Int} (v:Int) (h:of.length=18):(gq of nx).setIfInBounds 18 (.int .i64 v)=gq of v:=by
 unfold gq
 rw [List.setIfInBounds_toArray,←List.map_set,List.set_append_right _ _ (by omega),h];rfl
theorem nY (w:World) (gm:Nat) (of:List Int) (nx:Int) (t:Nat) (hM:w.heap[gm]?=some (.cells (gq of nx) 160 (0,0))) (hl:of.length=18) (ht:t<18) (hn:0≤nx∧nx<4294967296) :
 Calls Try.prog 130 #[.pointer (some ⟨gm,0,none⟩),.int .i64 (t:Int)] w fun e w'=>e = .returned (.tuple #[])∧w'.heap[gm]?=some (.cells (gq (of.set t (nx+1)) (nx+1)) 160 (0,0))∧Kp (fun k=>k=gm) w w':=by
 have hwr:wrap64 (nx+1)=nx+1:=w64 (by omega) (by omega)
 have c18:=(ae hM 18).trans (oc_nx hl)
 have ct:=(ae hM t).trans (uQ (by omega))
 have f18:=af hM 18
 have ft:=af hM t
 have hlt:=ax hM
 have h0:(0:Int)≤(t:Int):=by omega
 have h1:(t:Int)<18:=by omega
 have hne:¬t=18:=by omega
 have hne2:¬18=t:=by omega
 have HM:=aa.mk hM
 have HW:=aa.mk hwr
 clear hM hwr
 go_enter Try.func130,Try.ntmps130
 go_wp2
 go_region
 go_wp2
 go_end0
 refine ⟨rfl,?_,?_⟩
 · exact aj (aM (aM HM.out 18 _ (oc_setn _ hl)) t _ (AY _ (by omega))) (by repeat (first | (with_reducible exact Below.refl _ _) | apply ak))
 exact (Kp.set (S:=fun k=>k=gm) (g:=gm) (Kp.set (S:=fun k=>k=gm) (g:=gm) (Kp.refl _ w) (.inl rfl) _ _) (.inl rfl) _ _).below (by repeat (first | (with_reducible exact Below.refl _ _) | apply ak))
theorem mE (w:World) (gm:Nat) (of:List Int) (nx:Int) (t f:Nat) (hM:w.heap[gm]?=some (.cells (gq of nx) 160 (0,0))) (hl:of.length=18) (ht:t<18) (hf:f<18) :
 Calls Try.prog 132 #[.pointer (some ⟨gm,0,none⟩),.int .i64 (t:Int),.int .i64 (f:Int)] w fun e w'=>e = .returned (.bool (of.getD t 0 != of.getD f 0))∧w'.heap[gm]?=some (.cells (gq (of.set t (of.getD f 0)) nx) 160 (0,0))∧Kp (fun k=>k=gm) w w':=by
 have ct:=(ae hM t).trans (uQ (by omega))
 have cf:=(ae hM f).trans (uQ (by omega))
 have ft:=af hM t
 have hlt:=ax hM
 have h0:(0:Int)≤(t:Int):=by omega
 have h1:(t:Int)<18:=by omega
 have h2:(0:Int)≤(f:Int):=by omega
 have h3:(f:Int)<18:=by omega
 have HM:=aa.mk hM
 clear hM
 generalize of.getD t 0=vt at ct ⊢
 obtain ⟨vf,evf⟩:∃ v,v=of.getD f 0:=⟨_,rfl⟩
 rw [←evf] at cf ⊢
 have EV:=aa.mk evf
 clear evf
 go_enter Try.func132,Try.ntmps132
 go_wp2
 go_region
 go_wp2
 go_region
 go_wp2
 go_ret
 refine ⟨rfl,?_,?_⟩
 · exact aj (aM (aj HM.out (by repeat (first | (with_reducible exact Below.refl _ _) | apply ak))) t _ (AY _ (by omega))) (by repeat (first | (with_reducible exact Below.refl _ _) | apply ak))
 exact (Kp.set (S:=fun k=>k=gm) (g:=gm) ((Kp.refl _ w).below (by repeat (first | (with_reducible exact Below.refl _ _) | apply ak))) (.inl rfl) _ _).below (by repeat (first | (with_reducible exact Below.refl _ _) | apply ak))
def b8 (p:Value × S47):List Value:=[p.1,.int .i64 p.2.f1,.int .u16 p.2.f2.f0,.int .u8 p.2.f2.f1,.int .u8 p.2.f2.f2,.int .u32 p.2.f2.f3,.int .i64 p.2.f3,.int .i64 p.2.f4]
def bA (bs:List (Value × S47)) (tl:List Value):Array Value:=(bs.flatMap b8++tl).toArray
theorem sG (bs:List (Value × S47)):(bs.flatMap b8).length=bs.length*8:=by
 induction bs with
 | nil=>rfl
 | cons a r ih=>rw [List.flatMap_cons,List.length_append,ih,List.length_cons];show 8+_=_;omega
theorem rc_fm:∀ (bs:List (Value × S47)) (n:Nat) (p:Value × S47),bs[n]?=some p→∀ j,j<8→(bs.flatMap b8)[n*8+j]?=(b8 p)[j]?:=by
 intro bs
 induction bs with
 | nil=>intro n p h;simp at h
 | cons a r ih=>
  intro n p h j hj
  rw [List.flatMap_cons]
  have hl:(b8 a).length=8:=rfl
  cases n with
  | zero=>
   cases h
   rw [Nat.zero_mul,Nat.zero_add,List.getElem?_append_left (by omega)]
  | succ n=>
   rw [List.getElem?_append_right (by omega),hl,show (n+1)*8+j - 8=n*8+j by omega]
   exact ih n p h j hj
theorem mR {bs:List (Value × S47)} {n:Nat} {p:Value × S47} (h:bs[n]?=some p):n<bs.length:=(List.getElem?_eq_some_iff.1 h).1
theorem di {bs:List (Value × S47)} {tl:List Value} {n:Nat} {p:Value × S47} (h:bs[n]?=some p) {j:Nat} (hj:j<8):(bA bs tl)[n*8+j]?=(b8 p)[j]?:=by
 unfold bA;rw [List.getElem?_toArray,List.getElem?_append_left (by rw [sG];have:=mR h;omega)];exact rc_fm bs n p h j hj
theorem rc_set1:∀ (bs:List (Value × S47)) (n:Nat) (p q:Value × S47) (j:Nat) (v:Value),bs[n]?=some p→j<8→(b8 p).set j v=b8 q→(bs.flatMap b8).set (n*8+j) v=(bs.set n q).flatMap b8:=by
 intro bs
 induction bs with
 | nil=>intro n p q j v h;simp at h
 | cons a r ih=>
  intro n p q j v h hj e
  rw [List.flatMap_cons]
  have hl:(b8 a).length=8:=rfl
  cases n with
  | zero=>
   cases h
   rw [Nat.zero_mul,Nat.zero_add,List.set_append_left _ _ (by omega),e,List.set_cons_zero,List.flatMap_cons]
  | succ n=>
   rw [List.set_append_right _ _ (by omega),hl,show (n+1)*8+j - 8=n*8+j by omega,ih n p q j v h hj e,List.set_cons_succ,List.flatMap_cons]
theorem rc_set {bs:List (Value × S47)} {tl:List Value} {n:Nat} {p:Value × S47} (h:bs[n]?=some p) (q:Value × S47) {j:Nat} (hj:j<8) {v:Value} (e:(b8 p).set j v=b8 q):(bA bs tl).setIfInBounds (n*8+j) v=bA (bs.set n q) tl:=by
 unfold bA;rw [List.setIfInBounds_toArray,List.set_append_left _ _ (by rw [sG];have:=mR h;omega),rc_set1 bs n p q j v h hj e]
theorem aN {bs:List (Value × S47)} {n:Nat} {p q:Value × S47} (h:bs[n]?=some p):(bs.set n q)[n]?=some q:=by
 rw [List.getElem?_set_self (mR h)]
theorem set_set {bs:List (Value × S47)} {n:Nat} {q r:Value × S47}:(bs.set n q).set n r=bs.set n r:=List.set_set _
theorem set_self {bs:List (Value × S47)} {n:Nat} {p:Value × S47} (h:bs[n]?=some p):bs.set n p=bs:=by
 apply List.ext_getElem?
 intro i
 rw [List.getElem?_set]
 split
 · rename_i e;subst e;split
   · exact h.symm
   have:=mR h;omega
 rfl
theorem bJ {W:World} {gb n j:Nat} {bs:List (Value × S47)} {tl:List Value} {p:Value × S47} (hB:W.heap[gb]?=some (.cells (bA bs tl) 47 (0,0))) (h:bs[n]?=some p) (q:Value × S47) (hj:j<8) (v:Value) (e:(b8 p).set j v=b8 q) :
 (W.setCell ⟨gb,n*8+j,none⟩ v).heap[gb]?=some (.cells (bA (bs.set n q) tl) 47 (0,0)):=aM hB (n*8+j) v (rc_set h q hj e)
def i4 (i:S45):List Value:=[.int .u16 i.f0,.int .u8 i.f1,.int .u8 i.f2,.int .u32 i.f3]
theorem kD (c:List S45):(c.flatMap i4).length=c.length*4:=by
 induction c with
 | nil=>rfl
 | cons a r ih=>rw [List.flatMap_cons,List.length_append,ih,List.length_cons];show 4+_=_;omega
theorem uD:∀ (c:List S45) (n:Nat) (i:S45),c[n]?=some i→∀ j,j<4→(c.flatMap i4)[n*4+j]?=(i4 i)[j]?:=by
 intro c
 induction c with
 | nil=>intro n p h;simp at h
 | cons a r ih=>
  intro n p h j hj
  rw [List.flatMap_cons]
  have hl:(i4 a).length=4:=rfl
  cases n with
  | zero=>
   cases h
   rw [Nat.zero_mul,Nat.zero_add,List.getElem?_append_left (by omega)]
  | succ n=>
   rw [List.getElem?_append_right (by omega),hl,show (n+1)*4+j - 4=n*4+j by omega]
   exact ih n p h j hj
structure CdA (w:World) (g cap:Nat) (c:List S45) (tl:List Value):Prop where
 blk:w.heap[g]?=some (.cells (c.flatMap i4++tl).toArray 45 (0,0))
 len:c.length≤cap
 max:cap≤maxLen
 size:(c.flatMap i4++tl).length=cap*4
def Cd (w:World) (v:Value) (c:List S45):Prop:=(v = .slice none 0 0∧c=[])∨∃ g cap tl,v = .slice (some ⟨g,0,none⟩) c.length cap∧CdA w g cap c tl
theorem reps_i4 {W:World} {base:Nat} {ok:Nat→Prop}:∀ (c:List S45),fZ (k45.M W base ok) 4 c (c.flatMap i4):=by
 intro c
 refine ⟨kD c,fun j i h=>?_⟩
 have h2:((c.flatMap i4).drop (j*4)).take 4=i4 i:=by
  apply List.ext_getElem?
  intro q
  rw [List.getElem?_take,List.getElem?_drop]
  split
  · rename_i hq;exact uD c j i h q hq
  rename_i hq;exact (List.getElem?_eq_none (by show 4≤q;omega)).symm
 rw [h2]
 exact kG _ _ _ i
theorem i4_reps {W:World} {base:Nat} {ok:Nat→Prop} {c:List S45} {cs:List Value} (h:fZ (k45.M W base ok) 4 c cs):cs=c.flatMap i4:=by
 obtain ⟨h1,h2⟩:=h
 apply List.ext_getElem?
 intro q
 by_cases hq:q<c.length*4
 · have hj:q / 4<c.length:=by omega
   have h3:=h2 (q / 4) c[q / 4] (List.getElem?_eq_getElem hj)
   have h4:=kW (k45.K_of_M h3)
   have e1:cs[q]?=((cs.drop (q / 4*4)).take 4)[q % 4]?:=by
    rw [List.getElem?_take,List.getElem?_drop,if_pos (by omega)];congr 1;omega
   rw [e1,h4]
   have e2:=uD c (q / 4) c[q / 4] (List.getElem?_eq_getElem hj) (q % 4) (by omega)
   rw [show q / 4*4+q % 4=q by omega] at e2
   rw [e2];rfl
 rw [List.getElem?_eq_none (by omega),List.getElem?_eq_none (by rw [kD];omega)]
theorem lH {w:World} {base:Nat} {ok:Nat→Prop} {v:Value} {c:List S45} (h:k45.R 45 w base ok v c):Cd w v c:=by
 obtain ⟨_,inner,ho,hr⟩:=h
 obtain rfl:=i4_reps hr
 rcases ho.2 with ⟨h1,h2⟩ | ⟨g,cap,cur,h1,_,h3,h4,h5,h6,h7⟩
 · exact .inl ⟨h1,List.eq_nil_of_length_eq_zero h2⟩
 refine .inr ⟨g,cap,cur.toList.drop (c.length*4),h1,?_,h4,h5,?_⟩
 · rw [h3]
   congr 2
   have:=List.take_append_drop (c.length*4) cur.toList
   rw [show cur.toList.take (c.length*4)=c.flatMap i4 from h7] at this
   rw [this]
 have:=List.take_append_drop (c.length*4) cur.toList
 rw [show cur.toList.take (c.length*4)=c.flatMap i4 from h7] at this
 rw [this,Array.length_toList,h6];rfl
theorem mi {w:World} {base:Nat} {ok:Nat→Prop} {v:Value} {c:List S45} (h:Cd w v c) (hb:∀ g,v.ownBlock=some g→base≤g∧ok g):k45.R 45 w base ok v c:=by
 refine ⟨fun k hk=>(hb k hk).2,c.flatMap i4,⟨kD c,?_⟩,reps_i4 c⟩
 rcases h with ⟨h1,rfl⟩ | ⟨g,cap,tl,h1,h2⟩
 · exact .inl ⟨h1,rfl⟩
 refine .inr ⟨g,cap,_,h1,(hb g (by rw [h1];rfl)).1,h2.blk,h2.len,h2.max,?_,?_⟩
 · rw [List.size_toArray,h2.size];rfl
 show (c.flatMap i4++tl).take (c.length*4)=_
 rw [←kD c,List.take_left]
theorem Cd.slice {w:World} {v:Value} {c:List S45} (h:Cd w v c):∃ A cap,v = .slice A c.length cap:=by
 rcases h with ⟨h1,rfl⟩ | ⟨g,cap,tl,h1,_⟩
 · exact ⟨none,0,h1⟩
 exact ⟨_,cap,h1⟩
theorem Cd.kp {S:Nat→Prop} {w w1:World} {v:Value} {c:List S45} (h:Cd w v c) (k:Kp S w w1) (hS:∀ g,v.ownBlock=some g→¬S g):Cd w1 v c:=by
 rcases h with h | ⟨g,cap,tl,h1,h2⟩
 · exact .inl h
 exact .inr ⟨g,cap,tl,h1,(k.block g (ax h2.blk) (hS g (by rw [h1];rfl))).trans h2.blk,h2.len,h2.max,h2.size⟩
theorem Cd.below {w w1:World} {v:Value} {c:List S45} (h:Cd w v c) (k:Below w.heap.size w w1):Cd w1 v c:=by
 rcases h with h | ⟨g,cap,tl,h1,h2⟩
 · exact .inl h
 exact .inr ⟨g,cap,tl,h1,aj h2.blk k,h2.len,h2.max,h2.size⟩
theorem Cd.lt {w:World} {v:Value} {c:List S45} (h:Cd w v c) {g:Nat} (hg:v.ownBlock=some g):∃ cs,w.heap[g]?=some (.cells cs 45 (0,0)):=by
 rcases h with ⟨h1,_⟩ | ⟨g',cap,tl,h1,h2⟩
 · rw [h1] at hg;cases hg
 rw [h1] at hg;injection hg with hg;subst hg;exact ⟨_,h2.blk⟩
theorem ni {P:Program} (w:World) {ops:Array Oper} {rest:List Oper} {o:Oper} {a:Act} {Q:Exit→Act→World→Prop}
 (hg:o.guard=none) (s x:Operand) (t:TypeId) (hop:o.op=Op.call {callee:=Callee.builtin Builtin.append,args:=#[s,x],argTypes:=#[t,t]})
 (e:TypeId) (z:Value) (size bytes:Nat) (ht:P.underlying t=some (.slice e)) (hinfo:(P.info? e).map (fun i=>(i.zero,i.size,i.bytes))=some (some z,size,bytes))
 (g n cap:Nat) (hs:a.eval s = .slice (some ⟨g,0,none⟩) n cap) (cur:Array Value) (hcur:w.heap[g]?=some (.cells cur e (0,0)))
 (ad:Addr) (m c:Nat) (news:List Value) (hx:a.eval x = .slice (some ad) m c) (hl:news.length=m*size) (hnews:∀ j u,news[j]?=some u→w.cell? (ad.add j)=some u) (h1:∀ u∈news,u.oneCell'=true)
 (hroom:n+m≤cap) (hfit:n*size+news.length≤cur.size)
 (hK:∀ w',w'.heap[g]?=some (.cells (cur.toList.take (n*size)++news++cur.toList.drop (n*size+news.length)).toArray e (0,0))→Kp (fun k=>k=g) w w'→wpList P ops Q rest (a.put o.dst (.slice (some ⟨g,0,none⟩) (n+m) cap)) w') :
 wpList P ops Q (o :: rest) a w:=by
 obtain ⟨i,hi,hzz⟩:=Option.map_eq_some_iff.1 hinfo
 simp only [Prod.mk.injEq] at hzz
 obtain ⟨_,hs1,_⟩:=hzz
 subst hs1
 refine wpList_plain hg fun K hK'=>?_
 have hrun:=run_append_room (P:=P) w t o.type e i ht hi g n cap cur hcur ad m c news hl hnews h1 hroom hfit
 unfold Oper.wp
 simp [execOp,hop,resolve,invoke,builtin,hs,hx,hrun,Result.andThen]
 rw [←List.append_assoc]
 refine hK' _ _ (hK _ (setRow_heap w g cur _ e _ hcur) ⟨rfl,rfl,rfl,by simp [World.setRow],fun k _ hk=>setRow_other w g k _ hk⟩)
theorem rc8 {w:World} {g n:Nat} {bs:List (Value × S47)} {tl:List Value} {v0:Value} {c:List S45} {f1 l0 l1 l2 l3 y m:Int} (hB:w.heap[g]?=some (.cells (bA bs tl) 47 (0,0))) (hp:bs[n]?=some (v0,⟨c,f1,⟨l0,l1,l2,l3⟩,y,m⟩)) :
 w.cell? ⟨g,n*8+1,none⟩=some (.int .i64 f1)∧w.cell? ⟨g,n*8+2,none⟩=some (.int .u16 l0)∧w.cell? ⟨g,n*8+3,none⟩=some (.int .u8 l1)∧w.cell? ⟨g,n*8+4,none⟩=some (.int .u8 l2)∧w.cell? ⟨g,n*8+5,none⟩=some (.int .u32 l3)∧w.cell? ⟨g,n*8+6,none⟩=some (.int .i64 y)∧w.cell? ⟨g,n*8+7,none⟩=some (.int .i64 m) ∧
 w.frozen? ⟨g,n*8+1,none⟩=false∧w.frozen? ⟨g,n*8+2,none⟩=false∧w.frozen? ⟨g,n*8+3,none⟩=false∧w.frozen? ⟨g,n*8+4,none⟩=false∧w.frozen? ⟨g,n*8+5,none⟩=false∧w.frozen? ⟨g,n*8+6,none⟩=false∧w.frozen? ⟨g,n*8+7,none⟩=false:=by
 have h:∀ j v,j<8→(b8 (v0,⟨c,f1,⟨l0,l1,l2,l3⟩,y,m⟩))[j]?=some v→w.cell? ⟨g,n*8+j,none⟩=some v:=fun j v hj e=>(ae hB (n*8+j)).trans ((di hp hj).trans e)
 exact ⟨h 1 _ (by omega) rfl,h 2 _ (by omega) rfl,h 3 _ (by omega) rfl,h 4 _ (by omega) rfl,h 5 _ (by omega) rfl,h 6 _ (by omega) rfl,h 7 _ (by omega) rfl,af hB _,af hB _,af hB _,af hB _,af hB _,af hB _,af hB _⟩
theorem rG {W:World} {g x a0 a1 a2 a3:Nat} {cs:Array Value} {T:TypeId} {v0 v1 v2 v3:Value} (h:W.heap[x]?=some (.cells cs T (0,0))) (hne:x≠g) :
 ((((W.setCell ⟨g,a0,none⟩ v0).setCell ⟨g,a1,none⟩ v1).setCell ⟨g,a2,none⟩ v2).setCell ⟨g,a3,none⟩ v3).heap[x]?=some (.cells cs T (0,0)):=
 df (df (df (df h hne _) hne _) hne _) hne _
theorem end_a (w:World) (gs gb n:Nat) (s:St) (bs:List (Value × S47)) (tl:List Value) (v0:Value) (c:List S45) (f1 l0 l1 l2 l3 y m:Int) (hS:w.heap[gs]?=some (.cells (aC s) 151 (0,0))) (hB:w.heap[gb]?=some (.cells (bA bs tl) 47 (0,0))) (hl:s.length=18) (hp:bs[n]?=some (v0,⟨c,f1,⟨l0,l1,l2,l3⟩,y,m⟩))
 (h1:(f1==1)=true) (h22:(l0==22)=true) (v:Int) (e0:gS s 0=some v) :
 Calls Try.prog 129 #[.pointer (some ⟨gs,0,none⟩),.pointer (some ⟨gb,n*8,none⟩)] w fun e w'=>e = .returned (.bool true)∧w'.heap[gb]?=some (.cells (bA (bs.set n (v0,⟨c,f1,⟨6,0,0,v⟩,y,m⟩)) tl) 47 (0,0))∧Kp (fun k=>k=gb) w w':=by
 obtain ⟨b1,b2,-,-,-,-,-,-,-,-,-,-,-,-⟩:=rc8 hB hp
 have c0:=cY 0 hS e0
 have d0:=dY 1 hS e0
 have z2:=af hB (n*8+2)
 have z3:=af hB (n*8+3)
 have z4:=af hB (n*8+4)
 have z5:=af hB (n*8+5)
 obtain ⟨-,-,b3,b4,b5,-,-,-,-,-,-,-,-,-⟩:=rc8 hB hp
 have HS:=aa.mk hS
 have HB:=aa.mk hB
 have HP:=aa.mk hp
 have hlt:=ax hB
 have hlts:=ax hS
 clear hS hB hp
 go_enter Try.func129,Try.ntmps129
 go_wp2
 go_ret
 exact ⟨rfl,by have h:=bJ (j:=5) (bJ (j:=4) (bJ (j:=3) (bJ (j:=2) HB.out HP.out (v0,⟨c,f1,⟨6,l1,l2,l3⟩,y,m⟩) (by omega) _ rfl) (aN HP.out) (v0,⟨c,f1,⟨6,0,l2,l3⟩,y,m⟩) (by omega) _ rfl) (aN (aN HP.out)) (v0,⟨c,f1,⟨6,0,0,l3⟩,y,m⟩) (by omega) _ rfl) (aN (aN (aN HP.out))) (v0,⟨c,f1,⟨6,0,0,v⟩,y,m⟩) (by omega) _ rfl;rw [set_set,set_set,set_set] at h;exact h,((((Kp.refl (fun k=>k=gb) w).set (.inl rfl) _ _).set (.inl rfl) _ _).set (.inl rfl) _ _).set (.inl rfl) _ _⟩
theorem end_b (w:World) (gs gb n:Nat) (s:St) (bs:List (Value × S47)) (tl:List Value) (v0:Value) (c:List S45) (f1 l0 l1 l2 l3 y m:Int) (hS:w.heap[gs]?=some (.cells (aC s) 151 (0,0))) (hB:w.heap[gb]?=some (.cells (bA bs tl) 47 (0,0))) (hl:s.length=18) (hp:bs[n]?=some (v0,⟨c,f1,⟨l0,l1,l2,l3⟩,y,m⟩))
 (h1:(f1==1)=true) (h22:(l0==22)=true) (h3:(f1 != 3)=true) (e0:gS s 0=none) :
 Calls Try.prog 129 #[.pointer (some ⟨gs,0,none⟩),.pointer (some ⟨gb,n*8,none⟩)] w fun e w'=>e = .returned (.bool false)∧w'=w:=by
 obtain ⟨b1,b2,-,-,-,-,-,-,-,-,-,-,-,-⟩:=rc8 hB hp
 have c0:=cN 0 hS e0
 have HS:=aa.mk hS
 have HB:=aa.mk hB
 have HP:=aa.mk hp
 have hlt:=ax hB
 have hlts:=ax hS
 clear hS hB hp
 go_enter Try.func129,Try.ntmps129
 go_wp2
 go_ret
 exact ⟨rfl,rfl⟩
theorem end_c (w:World) (gs gb n:Nat) (s:St) (bs:List (Value × S47)) (tl:List Value) (v0:Value) (c:List S45) (f1 l0 l1 l2 l3 y m:Int) (hS:w.heap[gs]?=some (.cells (aC s) 151 (0,0))) (hB:w.heap[gb]?=some (.cells (bA bs tl) 47 (0,0))) (hl:s.length=18) (hp:bs[n]?=some (v0,⟨c,f1,⟨l0,l1,l2,l3⟩,y,m⟩))
 (h1:(f1==1)=true) (h22:(l0==22)=false) (h3:(f1 != 3)=true) :
 Calls Try.prog 129 #[.pointer (some ⟨gs,0,none⟩),.pointer (some ⟨gb,n*8,none⟩)] w fun e w'=>e = .returned (.bool false)∧w'=w:=by
 obtain ⟨b1,b2,-,-,-,-,-,-,-,-,-,-,-,-⟩:=rc8 hB hp
 have HS:=aa.mk hS
 have HB:=aa.mk hB
 have HP:=aa.mk hp
 have hlt:=ax hB
 have hlts:=ax hS
 clear hS hB hp
 go_enter Try.func129,Try.ntmps129
 go_wp2
 go_ret
 exact ⟨rfl,rfl⟩
theorem end_d (w:World) (gs gb n:Nat) (s:St) (bs:List (Value × S47)) (tl:List Value) (v0:Value) (c:List S45) (f1 l0 l1 l2 l3 y m:Int) (hS:w.heap[gs]?=some (.cells (aC s) 151 (0,0))) (hB:w.heap[gb]?=some (.cells (bA bs tl) 47 (0,0))) (hl:s.length=18) (hp:bs[n]?=some (v0,⟨c,f1,⟨l0,l1,l2,l3⟩,y,m⟩))
 (h1:(f1==1)=false) (h3:(f1 != 3)=true) :
 Calls Try.prog 129 #[.pointer (some ⟨gs,0,none⟩),.pointer (some ⟨gb,n*8,none⟩)] w fun e w'=>e = .returned (.bool false)∧w'=w:=by
 obtain ⟨b1,b2,-,-,-,-,-,-,-,-,-,-,-,-⟩:=rc8 hB hp
 have HS:=aa.mk hS
 have HB:=aa.mk hB
 have HP:=aa.mk hp
 have hlt:=ax hB
 have hlts:=ax hS
 clear hS hB hp
 go_enter Try.func129,Try.ntmps129
 go_wp2
 go_ret
 exact ⟨rfl,rfl⟩
theorem end_xn (w:World) (gs gb n:Nat) (s:St) (bs:List (Value × S47)) (tl:List Value) (v0:Value) (c:List S45) (f1 l0 l1 l2 l3 y m:Int) (hS:w.heap[gs]?=some (.cells (aC s) 151 (0,0))) (hB:w.heap[gb]?=some (.cells (bA bs tl) 47 (0,0))) (hl:s.length=18) (hp:bs[n]?=some (v0,⟨c,f1,⟨l0,l1,l2,l3⟩,y,m⟩))
 (h1:(f1==1)=false) (h3:(f1 != 3)=false) (h8:(Go.bits .and .u16 l0 8 != 0)=true) (x:Int) (e1:gS s 1=some x) (hj:jmB (Go.bits .andNot .u16 l0 8)=true) (hd:jI s ⟨Go.bits .andNot .u16 l0 8,0,0,x⟩=none) :
 Calls Try.prog 129 #[.pointer (some ⟨gs,0,none⟩),.pointer (some ⟨gb,n*8,none⟩)] w fun e w'=>e = .returned (.bool true)∧w'.heap[gb]?=some (.cells (bA (bs.set n (v0,⟨c,f1,⟨Go.bits .andNot .u16 l0 8,0,0,x⟩,y,m⟩)) tl) 47 (0,0))∧Kp (fun k=>k=gb) w w':=by
 obtain ⟨b1,b2,-,-,-,-,-,-,-,-,-,-,-,-⟩:=rc8 hB hp
 have c1:=cY 2 hS e1
 have d1:=dY 3 hS e1
 have z2:=af hB (n*8+2)
 have z3:=af hB (n*8+3)
 have z4:=af hB (n*8+4)
 have z5:=af hB (n*8+5)
 obtain ⟨-,-,b3,b4,b5,b6,b7,-,-,-,-,-,-,-⟩:=rc8 hB hp
 have HS:=aa.mk hS
 have HB:=aa.mk hB
 have HP:=aa.mk hp
 have hlt:=ax hB
 have hlts:=ax hS
 clear hS hB hp
 go_enter Try.func129,Try.ntmps129
 have HJ:=aa.mk hj
 have HD:=aa.mk hd
 clear hj hd
 go_upto_region 8 with (fail)
 go_region
 go_upto_region 10 with (fail)
 have DR:Below w.heap.size w w.drew:=ak (Below.refl _ _)
 have hne:=bT HB.out HS.out (by decide)
 refine forget (fun W=>W.heap[gs]?=some (.cells (aC s) 151 (0,0))∧∃ bs',bs'[n]?=some (v0,⟨c,f1,⟨Go.bits .andNot .u16 l0 8,0,0,x⟩,y,m⟩)∧(∀ q,bs'.set n q=bs.set n q)∧W.heap[gb]?=some (.cells (bA bs' tl) 47 (0,0))∧Kp (fun k=>k=gb) w W) ⟨?_,_,aN HP.out,fun q=>set_set,?_,?_⟩ ?_
 · exact rG HS.out (fun e=>hne e.symm)
 · have h:=bJ (j:=5) (bJ (j:=4) (bJ (j:=3) (bJ (j:=2) HB.out HP.out (v0,⟨c,f1,⟨(Go.bits .andNot .u16 l0 8),l1,l2,l3⟩,y,m⟩) (by omega) _ rfl) (aN HP.out) (v0,⟨c,f1,⟨(Go.bits .andNot .u16 l0 8),0,l2,l3⟩,y,m⟩) (by omega) _ rfl) (aN (aN HP.out)) (v0,⟨c,f1,⟨(Go.bits .andNot .u16 l0 8),0,0,l3⟩,y,m⟩) (by omega) _ rfl) (aN (aN (aN HP.out))) (v0,⟨c,f1,⟨(Go.bits .andNot .u16 l0 8),0,0,x⟩,y,m⟩) (by omega) _ rfl
   rw [set_set,set_set,set_set] at h
   exact h
 · exact (((((Kp.refl (fun k=>k=gb) w).set (.inl rfl) _ _).set (.inl rfl) _ _).set (.inl rfl) _ _).set (.inl rfl) _ _).below (ak (Below.refl _ _))
 clear HS HB HP b1 b2 c1 d1 z2 z3 z4 z5 b3 b4 b5 hlt hlts DR hne
 rintro W ⟨hS,bs',hp,hset,hB,hk⟩
 obtain ⟨-,b2,b3,b4,b5,-,-,-,-,-,-,-,-,-⟩:=rc8 hB hp
 have HS:=aa.mk hS
 have HP:=aa.mk hp
 have HB:=aa.mk hB
 have HK:=aa.mk hk
 have HT:=aa.mk hset
 clear hS hp hset hB hk
 go_wp2_with (go_at_call 161;refine (jd W gs s ⟨Go.bits .andNot .u16 l0 8,0,0,x⟩ HS.out hl HJ.out).mono ?_;rintro e w2 ⟨rfl,hb⟩;rw [HD.out];have HB2:=aa.mk (aj HB.out hb);have HK2:=aa.mk (HK.out.below hb);clear hb)
 go_ret
 exact ⟨rfl,by rw [←HT.out,set_self HP.out];exact HB2.out,HK2.out⟩
theorem end_xt (w:World) (gs gb n:Nat) (s:St) (bs:List (Value × S47)) (tl:List Value) (v0:Value) (c:List S45) (f1 l0 l1 l2 l3 y m:Int) (hS:w.heap[gs]?=some (.cells (aC s) 151 (0,0))) (hB:w.heap[gb]?=some (.cells (bA bs tl) 47 (0,0))) (hl:s.length=18) (hp:bs[n]?=some (v0,⟨c,f1,⟨l0,l1,l2,l3⟩,y,m⟩))
 (h1:(f1==1)=false) (h3:(f1 != 3)=false) (h8:(Go.bits .and .u16 l0 8 != 0)=true) (x:Int) (e1:gS s 1=some x) (hj:jmB (Go.bits .andNot .u16 l0 8)=true) (hd:jI s ⟨Go.bits .andNot .u16 l0 8,0,0,x⟩=some true) :
 Calls Try.prog 129 #[.pointer (some ⟨gs,0,none⟩),.pointer (some ⟨gb,n*8,none⟩)] w fun e w'=>e = .returned (.bool true)∧w'.heap[gb]?=some (.cells (bA (bs.set n (v0,⟨c,2,⟨0,0,0,0⟩,y,0⟩)) tl) 47 (0,0))∧Kp (fun k=>k=gb) w w':=by
 obtain ⟨b1,b2,-,-,-,-,-,-,-,-,-,-,-,-⟩:=rc8 hB hp
 have c1:=cY 2 hS e1
 have d1:=dY 3 hS e1
 have z2:=af hB (n*8+2)
 have z3:=af hB (n*8+3)
 have z4:=af hB (n*8+4)
 have z5:=af hB (n*8+5)
 obtain ⟨-,-,b3,b4,b5,b6,b7,-,-,-,-,-,-,-⟩:=rc8 hB hp
 have HS:=aa.mk hS
 have HB:=aa.mk hB
 have HP:=aa.mk hp
 have hlt:=ax hB
 have hlts:=ax hS
 clear hS hB hp
 go_enter Try.func129,Try.ntmps129
 have HJ:=aa.mk hj
 have HD:=aa.mk hd
 clear hj hd
 go_upto_region 8 with (fail)
 go_region
 go_upto_region 10 with (fail)
 have DR:Below w.heap.size w w.drew:=ak (Below.refl _ _)
 have hne:=bT HB.out HS.out (by decide)
 refine forget (fun W=>W.heap[gs]?=some (.cells (aC s) 151 (0,0))∧∃ bs',bs'[n]?=some (v0,⟨c,f1,⟨Go.bits .andNot .u16 l0 8,0,0,x⟩,y,m⟩)∧(∀ q,bs'.set n q=bs.set n q)∧W.heap[gb]?=some (.cells (bA bs' tl) 47 (0,0))∧Kp (fun k=>k=gb) w W) ⟨?_,_,aN HP.out,fun q=>set_set,?_,?_⟩ ?_
 · exact rG HS.out (fun e=>hne e.symm)
 · have h:=bJ (j:=5) (bJ (j:=4) (bJ (j:=3) (bJ (j:=2) HB.out HP.out (v0,⟨c,f1,⟨(Go.bits .andNot .u16 l0 8),l1,l2,l3⟩,y,m⟩) (by omega) _ rfl) (aN HP.out) (v0,⟨c,f1,⟨(Go.bits .andNot .u16 l0 8),0,l2,l3⟩,y,m⟩) (by omega) _ rfl) (aN (aN HP.out)) (v0,⟨c,f1,⟨(Go.bits .andNot .u16 l0 8),0,0,l3⟩,y,m⟩) (by omega) _ rfl) (aN (aN (aN HP.out))) (v0,⟨c,f1,⟨(Go.bits .andNot .u16 l0 8),0,0,x⟩,y,m⟩) (by omega) _ rfl
   rw [set_set,set_set,set_set] at h
   exact h
 · exact (((((Kp.refl (fun k=>k=gb) w).set (.inl rfl) _ _).set (.inl rfl) _ _).set (.inl rfl) _ _).set (.inl rfl) _ _).below (ak (Below.refl _ _))
 clear HS HB HP b1 b2 c1 d1 z2 z3 z4 z5 b3 b4 b5 hlt hlts DR hne
 rintro W ⟨hS,bs',hp,hset,hB,hk⟩
 obtain ⟨-,b2,b3,b4,b5,-,-,-,-,-,-,-,-,-⟩:=rc8 hB hp
 have HS:=aa.mk hS
 have HP:=aa.mk hp
 have HB:=aa.mk hB
 have HK:=aa.mk hk
 have HT:=aa.mk hset
 clear hS hp hset hB hk
 go_upto_region 15 with (go_at_call 161;refine (jd W gs s ⟨Go.bits .andNot .u16 l0 8,0,0,x⟩ HS.out hl HJ.out).mono ?_;rintro e w2 ⟨rfl,hb⟩;rw [HD.out];have HB2:=aa.mk (aj HB.out hb);have HK2:=aa.mk (HK.out.below hb);clear hb)
 clear HS HB HK b2 b3 b4 b5
 refine forget (fun V=>∃ bs2,bs2[n]?=some (v0,⟨c,f1,⟨Go.bits .andNot .u16 l0 8,0,0,x⟩,y,m⟩)∧(∀ q,bs2.set n q=bs.set n q)∧V.heap[gb]?=some (.cells (bA bs2 tl) 47 (0,0))∧Kp (fun k=>k=gb) w V) ⟨_,HP.out,HT.out,HB2.out,HK2.out⟩ ?_
 clear HP HT HB2 HK2
 rintro V ⟨bs2,hp,hset,hB,hk⟩
 obtain ⟨b1,b2,b3,b4,b5,-,b7,z1,z2,z3,z4,z5,-,z7⟩:=rc8 hB hp
 have HP:=aa.mk hp
 have HB:=aa.mk hB
 have HK:=aa.mk hk
 have HT:=aa.mk hset
 clear hp hset hB hk
 go_wp2
 go_ret
 have h:=bJ (j:=7) (bJ (j:=5) (bJ (j:=4) (bJ (j:=3) (bJ (j:=2) (bJ (j:=1) HB.out HP.out (v0,⟨c,2,⟨Go.bits .andNot .u16 l0 8,0,0,x⟩,y,m⟩) (by omega) _ rfl) (aN HP.out) (v0,⟨c,2,⟨0,0,0,x⟩,y,m⟩) (by omega) _ rfl) (aN (aN HP.out)) (v0,⟨c,2,⟨0,0,0,x⟩,y,m⟩) (by omega) _ rfl) (aN (aN (aN HP.out))) (v0,⟨c,2,⟨0,0,0,x⟩,y,m⟩) (by omega) _ rfl) (aN (aN (aN (aN HP.out)))) (v0,⟨c,2,⟨0,0,0,0⟩,y,m⟩) (by omega) _ rfl) (aN (aN (aN (aN (aN HP.out))))) (v0,⟨c,2,⟨0,0,0,0⟩,y,0⟩) (by omega) _ rfl
 rw [set_set,set_set,set_set,set_set,set_set,HT.out] at h
 exact ⟨rfl,h,(((((HK.out.set (.inl rfl) _ _).set (.inl rfl) _ _).set (.inl rfl) _ _).set (.inl rfl) _ _).set (.inl rfl) _ _).set (.inl rfl) _ _⟩
theorem end_xf (w:World) (gs gb n:Nat) (s:St) (bs:List (Value × S47)) (tl:List Value) (v0:Value) (c:List S45) (f1 l0 l1 l2 l3 y m:Int) (hS:w.heap[gs]?=some (.cells (aC s) 151 (0,0))) (hB:w.heap[gb]?=some (.cells (bA bs tl) 47 (0,0))) (hl:s.length=18) (hp:bs[n]?=some (v0,⟨c,f1,⟨l0,l1,l2,l3⟩,y,m⟩))
 (h1:(f1==1)=false) (h3:(f1 != 3)=false) (h8:(Go.bits .and .u16 l0 8 != 0)=true) (x:Int) (e1:gS s 1=some x) (hj:jmB (Go.bits .andNot .u16 l0 8)=true) (hd:jI s ⟨Go.bits .andNot .u16 l0 8,0,0,x⟩=some false) :
 Calls Try.prog 129 #[.pointer (some ⟨gs,0,none⟩),.pointer (some ⟨gb,n*8,none⟩)] w fun e w'=>e = .returned (.bool true)∧w'.heap[gb]?=some (.cells (bA (bs.set n (v0,⟨c,2,⟨0,0,0,0⟩,m,0⟩)) tl) 47 (0,0))∧Kp (fun k=>k=gb) w w':=by
 obtain ⟨b1,b2,-,-,-,-,-,-,-,-,-,-,-,-⟩:=rc8 hB hp
 have c1:=cY 2 hS e1
 have d1:=dY 3 hS e1
 have z2:=af hB (n*8+2)
 have z3:=af hB (n*8+3)
 have z4:=af hB (n*8+4)
 have z5:=af hB (n*8+5)
 obtain ⟨-,-,b3,b4,b5,b6,b7,-,-,-,-,-,-,-⟩:=rc8 hB hp
 have HS:=aa.mk hS
 have HB:=aa.mk hB
 have HP:=aa.mk hp
 have hlt:=ax hB
 have hlts:=ax hS
 clear hS hB hp
 go_enter Try.func129,Try.ntmps129
 have HJ:=aa.mk hj
 have HD:=aa.mk hd
 clear hj hd
 go_upto_region 8 with (fail)
 go_region
 go_upto_region 10 with (fail)
 have DR:Below w.heap.size w w.drew:=ak (Below.refl _ _)
 have hne:=bT HB.out HS.out (by decide)
 refine forget (fun W=>W.heap[gs]?=some (.cells (aC s) 151 (0,0))∧∃ bs',bs'[n]?=some (v0,⟨c,f1,⟨Go.bits .andNot .u16 l0 8,0,0,x⟩,y,m⟩)∧(∀ q,bs'.set n q=bs.set n q)∧W.heap[gb]?=some (.cells (bA bs' tl) 47 (0,0))∧Kp (fun k=>k=gb) w W) ⟨?_,_,aN HP.out,fun q=>set_set,?_,?_⟩ ?_
 · exact rG HS.out (fun e=>hne e.symm)
 · have h:=bJ (j:=5) (bJ (j:=4) (bJ (j:=3) (bJ (j:=2) HB.out HP.out (v0,⟨c,f1,⟨(Go.bits .andNot .u16 l0 8),l1,l2,l3⟩,y,m⟩) (by omega) _ rfl) (aN HP.out) (v0,⟨c,f1,⟨(Go.bits .andNot .u16 l0 8),0,l2,l3⟩,y,m⟩) (by omega) _ rfl) (aN (aN HP.out)) (v0,⟨c,f1,⟨(Go.bits .andNot .u16 l0 8),0,0,l3⟩,y,m⟩) (by omega) _ rfl) (aN (aN (aN HP.out))) (v0,⟨c,f1,⟨(Go.bits .andNot .u16 l0 8),0,0,x⟩,y,m⟩) (by omega) _ rfl
   rw [set_set,set_set,set_set] at h
   exact h
 · exact (((((Kp.refl (fun k=>k=gb) w).set (.inl rfl) _ _).set (.inl rfl) _ _).set (.inl rfl) _ _).set (.inl rfl) _ _).below (ak (Below.refl _ _))
 clear HS HB HP b1 b2 c1 d1 z2 z3 z4 z5 b3 b4 b5 hlt hlts DR hne
 rintro W ⟨hS,bs',hp,hset,hB,hk⟩
 obtain ⟨-,b2,b3,b4,b5,-,-,-,-,-,-,-,-,-⟩:=rc8 hB hp
 have HS:=aa.mk hS
 have HP:=aa.mk hp
 have HB:=aa.mk hB
 have HK:=aa.mk hk
 have HT:=aa.mk hset
 clear hS hp hset hB hk
 go_upto_region 14 with (go_at_call 161;refine (jd W gs s ⟨Go.bits .andNot .u16 l0 8,0,0,x⟩ HS.out hl HJ.out).mono ?_;rintro e w2 ⟨rfl,hb⟩;rw [HD.out];have HB2:=aa.mk (aj HB.out hb);have HK2:=aa.mk (HK.out.below hb);clear hb)
 clear HS HB HK b2 b3 b4 b5
 have g6:=(ae HB2.out (n*8+6)).trans (di HP.out (by omega))
 have g7:w2.cell? ⟨gb,n*8+7,none⟩=some (.int .i64 m):=(ae HB2.out (n*8+7)).trans (di HP.out (by omega))
 have y6:=af HB2.out (n*8+6)
 go_upto_region 15 with (fail)
 refine forget (fun V=>∃ bs2,bs2[n]?=some (v0,⟨c,f1,⟨Go.bits .andNot .u16 l0 8,0,0,x⟩,m,m⟩)∧(∀ q,bs2.set n q=bs.set n q)∧V.heap[gb]?=some (.cells (bA bs2 tl) 47 (0,0))∧Kp (fun k=>k=gb) w V) ⟨_,aN HP.out,fun q=>set_set.trans (HT.out q),bJ (j:=6) HB2.out HP.out (v0,⟨c,f1,⟨Go.bits .andNot .u16 l0 8,0,0,x⟩,m,m⟩) (by omega) _ rfl,HK2.out.set (.inl rfl) _ _⟩ ?_
 clear g6 g7 y6
 clear HP HT HB2 HK2
 rintro V ⟨bs2,hp,hset,hB,hk⟩
 obtain ⟨b1,b2,b3,b4,b5,-,b7,z1,z2,z3,z4,z5,-,z7⟩:=rc8 hB hp
 have HP:=aa.mk hp
 have HB:=aa.mk hB
 have HK:=aa.mk hk
 have HT:=aa.mk hset
 clear hp hset hB hk
 go_wp2
 go_ret
 have h:=bJ (j:=7) (bJ (j:=5) (bJ (j:=4) (bJ (j:=3) (bJ (j:=2) (bJ (j:=1) HB.out HP.out (v0,⟨c,2,⟨Go.bits .andNot .u16 l0 8,0,0,x⟩,m,m⟩) (by omega) _ rfl) (aN HP.out) (v0,⟨c,2,⟨0,0,0,x⟩,m,m⟩) (by omega) _ rfl) (aN (aN HP.out)) (v0,⟨c,2,⟨0,0,0,x⟩,m,m⟩) (by omega) _ rfl) (aN (aN (aN HP.out))) (v0,⟨c,2,⟨0,0,0,x⟩,m,m⟩) (by omega) _ rfl) (aN (aN (aN (aN HP.out)))) (v0,⟨c,2,⟨0,0,0,0⟩,m,m⟩) (by omega) _ rfl) (aN (aN (aN (aN (aN HP.out))))) (v0,⟨c,2,⟨0,0,0,0⟩,m,0⟩) (by omega) _ rfl
 rw [set_set,set_set,set_set,set_set,set_set,HT.out] at h
 exact ⟨rfl,h,(((((HK.out.set (.inl rfl) _ _).set (.inl rfl) _ _).set (.inl rfl) _ _).set (.inl rfl) _ _).set (.inl rfl) _ _).set (.inl rfl) _ _⟩
theorem end_un (w:World) (gs gb n:Nat) (s:St) (bs:List (Value × S47)) (tl:List Value) (v0:Value) (c:List S45) (f1 l0 l1 l2 l3 y m:Int) (hS:w.heap[gs]?=some (.cells (aC s) 151 (0,0))) (hB:w.heap[gb]?=some (.cells (bA bs tl) 47 (0,0))) (hl:s.length=18) (hp:bs[n]?=some (v0,⟨c,f1,⟨l0,l1,l2,l3⟩,y,m⟩))
 (h1:(f1==1)=false) (h3:(f1 != 3)=false) (h8:(Go.bits .and .u16 l0 8 != 0)=true) (e1:gS s 1=none) (hj:jmB l0=true) (hd:jI s ⟨l0,l1,l2,l3⟩=none) :
 Calls Try.prog 129 #[.pointer (some ⟨gs,0,none⟩),.pointer (some ⟨gb,n*8,none⟩)] w fun e w'=>e = .returned (.bool false)∧w'.heap[gb]?=some (.cells (bA (bs.set n (v0,⟨c,f1,⟨l0,l1,l2,l3⟩,y,m⟩)) tl) 47 (0,0))∧Kp (fun k=>k=gb) w w':=by
 obtain ⟨b1,b2,-,-,-,-,-,-,-,-,-,-,-,-⟩:=rc8 hB hp
 have c1:=cN 2 hS e1
 have z2:=af hB (n*8+2)
 have z3:=af hB (n*8+3)
 have z4:=af hB (n*8+4)
 have z5:=af hB (n*8+5)
 obtain ⟨-,-,b3,b4,b5,b6,b7,-,-,-,-,-,-,-⟩:=rc8 hB hp
 have HS:=aa.mk hS
 have HB:=aa.mk hB
 have HP:=aa.mk hp
 have hlt:=ax hB
 have hlts:=ax hS
 clear hS hB hp
 go_enter Try.func129,Try.ntmps129
 have HJ:=aa.mk hj
 have HD:=aa.mk hd
 clear hj hd
 go_upto_region 10 with (fail)
 refine forget (fun W=>W.heap[gs]?=some (.cells (aC s) 151 (0,0))∧∃ bs',bs'[n]?=some (v0,⟨c,f1,⟨l0,l1,l2,l3⟩,y,m⟩)∧(∀ q,bs'.set n q=bs.set n q)∧W.heap[gb]?=some (.cells (bA bs' tl) 47 (0,0))∧Kp (fun k=>k=gb) w W) ⟨HS.out,bs,HP.out,fun q=>rfl,HB.out,Kp.refl _ _⟩ ?_
 clear HS HB HP b1 b2 c1 z2 z3 z4 z5 b3 b4 b5 hlt hlts
 rintro W ⟨hS,bs',hp,hset,hB,hk⟩
 obtain ⟨-,b2,b3,b4,b5,-,-,-,-,-,-,-,-,-⟩:=rc8 hB hp
 have HS:=aa.mk hS
 have HP:=aa.mk hp
 have HB:=aa.mk hB
 have HK:=aa.mk hk
 have HT:=aa.mk hset
 clear hS hp hset hB hk
 go_wp2_with (go_at_call 161;refine (jd W gs s ⟨l0,l1,l2,l3⟩ HS.out hl HJ.out).mono ?_;rintro e w2 ⟨rfl,hb⟩;rw [HD.out];have HB2:=aa.mk (aj HB.out hb);have HK2:=aa.mk (HK.out.below hb);clear hb)
 go_ret
 exact ⟨rfl,by rw [←HT.out,set_self HP.out];exact HB2.out,HK2.out⟩
theorem end_kn (w:World) (gs gb n:Nat) (s:St) (bs:List (Value × S47)) (tl:List Value) (v0:Value) (c:List S45) (f1 l0 l1 l2 l3 y m:Int) (hS:w.heap[gs]?=some (.cells (aC s) 151 (0,0))) (hB:w.heap[gb]?=some (.cells (bA bs tl) 47 (0,0))) (hl:s.length=18) (hp:bs[n]?=some (v0,⟨c,f1,⟨l0,l1,l2,l3⟩,y,m⟩))
 (h1:(f1==1)=false) (h3:(f1 != 3)=false) (h8:(Go.bits .and .u16 l0 8 != 0)=false) (hj:jmB l0=true) (hd:jI s ⟨l0,l1,l2,l3⟩=none) :
 Calls Try.prog 129 #[.pointer (some ⟨gs,0,none⟩),.pointer (some ⟨gb,n*8,none⟩)] w fun e w'=>e = .returned (.bool false)∧w'.heap[gb]?=some (.cells (bA (bs.set n (v0,⟨c,f1,⟨l0,l1,l2,l3⟩,y,m⟩)) tl) 47 (0,0))∧Kp (fun k=>k=gb) w w':=by
 obtain ⟨b1,b2,b3,b4,b5,b6,b7,-,z2,z3,z4,z5,-,-⟩:=rc8 hB hp
 have HS:=aa.mk hS
 have HB:=aa.mk hB
 have HP:=aa.mk hp
 have hlt:=ax hB
 have hlts:=ax hS
 clear hS hB hp
 go_enter Try.func129,Try.ntmps129
 have HJ:=aa.mk hj
 have HD:=aa.mk hd
 clear hj hd
 go_upto_region 10 with (fail)
 refine forget (fun W=>W.heap[gs]?=some (.cells (aC s) 151 (0,0))∧∃ bs',bs'[n]?=some (v0,⟨c,f1,⟨l0,l1,l2,l3⟩,y,m⟩)∧(∀ q,bs'.set n q=bs.set n q)∧W.heap[gb]?=some (.cells (bA bs' tl) 47 (0,0))∧Kp (fun k=>k=gb) w W) ⟨HS.out,bs,HP.out,fun q=>rfl,HB.out,Kp.refl _ _⟩ ?_
 clear HS HB HP b1 b2  z2 z3 z4 z5 b3 b4 b5 hlt hlts
 rintro W ⟨hS,bs',hp,hset,hB,hk⟩
 obtain ⟨-,b2,b3,b4,b5,-,-,-,-,-,-,-,-,-⟩:=rc8 hB hp
 have HS:=aa.mk hS
 have HP:=aa.mk hp
 have HB:=aa.mk hB
 have HK:=aa.mk hk
 have HT:=aa.mk hset
 clear hS hp hset hB hk
 go_wp2_with (go_at_call 161;refine (jd W gs s ⟨l0,l1,l2,l3⟩ HS.out hl HJ.out).mono ?_;rintro e w2 ⟨rfl,hb⟩;rw [HD.out];have HB2:=aa.mk (aj HB.out hb);have HK2:=aa.mk (HK.out.below hb);clear hb)
 go_ret
 exact ⟨rfl,by rw [←HT.out,set_self HP.out];exact HB2.out,HK2.out⟩
theorem end_kt (w:World) (gs gb n:Nat) (s:St) (bs:List (Value × S47)) (tl:List Value) (v0:Value) (c:List S45) (f1 l0 l1 l2 l3 y m:Int) (hS:w.heap[gs]?=some (.cells (aC s) 151 (0,0))) (hB:w.heap[gb]?=some (.cells (bA bs tl) 47 (0,0))) (hl:s.length=18) (hp:bs[n]?=some (v0,⟨c,f1,⟨l0,l1,l2,l3⟩,y,m⟩))
 (h1:(f1==1)=false) (h3:(f1 != 3)=false) (h8:(Go.bits .and .u16 l0 8 != 0)=false) (hj:jmB l0=true) (hd:jI s ⟨l0,l1,l2,l3⟩=some true) :
 Calls Try.prog 129 #[.pointer (some ⟨gs,0,none⟩),.pointer (some ⟨gb,n*8,none⟩)] w fun e w'=>e = .returned (.bool true)∧w'.heap[gb]?=some (.cells (bA (bs.set n (v0,⟨c,2,⟨0,0,0,0⟩,y,0⟩)) tl) 47 (0,0))∧Kp (fun k=>k=gb) w w':=by
 obtain ⟨b1,b2,b3,b4,b5,b6,b7,-,z2,z3,z4,z5,-,-⟩:=rc8 hB hp
 have HS:=aa.mk hS
 have HB:=aa.mk hB
 have HP:=aa.mk hp
 have hlt:=ax hB
 have hlts:=ax hS
 clear hS hB hp
 go_enter Try.func129,Try.ntmps129
 have HJ:=aa.mk hj
 have HD:=aa.mk hd
 clear hj hd
 go_upto_region 10 with (fail)
 refine forget (fun W=>W.heap[gs]?=some (.cells (aC s) 151 (0,0))∧∃ bs',bs'[n]?=some (v0,⟨c,f1,⟨l0,l1,l2,l3⟩,y,m⟩)∧(∀ q,bs'.set n q=bs.set n q)∧W.heap[gb]?=some (.cells (bA bs' tl) 47 (0,0))∧Kp (fun k=>k=gb) w W) ⟨HS.out,bs,HP.out,fun q=>rfl,HB.out,Kp.refl _ _⟩ ?_
 clear HS HB HP b1 b2  z2 z3 z4 z5 b3 b4 b5 hlt hlts
 rintro W ⟨hS,bs',hp,hset,hB,hk⟩
 obtain ⟨-,b2,b3,b4,b5,-,-,-,-,-,-,-,-,-⟩:=rc8 hB hp
 have HS:=aa.mk hS
 have HP:=aa.mk hp
 have HB:=aa.mk hB
 have HK:=aa.mk hk
 have HT:=aa.mk hset
 clear hS hp hset hB hk
 go_upto_region 15 with (go_at_call 161;refine (jd W gs s ⟨l0,l1,l2,l3⟩ HS.out hl HJ.out).mono ?_;rintro e w2 ⟨rfl,hb⟩;rw [HD.out];have HB2:=aa.mk (aj HB.out hb);have HK2:=aa.mk (HK.out.below hb);clear hb)
 clear HS HB HK b2 b3 b4 b5
 refine forget (fun V=>∃ bs2,bs2[n]?=some (v0,⟨c,f1,⟨l0,l1,l2,l3⟩,y,m⟩)∧(∀ q,bs2.set n q=bs.set n q)∧V.heap[gb]?=some (.cells (bA bs2 tl) 47 (0,0))∧Kp (fun k=>k=gb) w V) ⟨_,HP.out,HT.out,HB2.out,HK2.out⟩ ?_
 clear HP HT HB2 HK2
 rintro V ⟨bs2,hp,hset,hB,hk⟩
 obtain ⟨b1,b2,b3,b4,b5,-,b7,z1,z2,z3,z4,z5,-,z7⟩:=rc8 hB hp
 have HP:=aa.mk hp
 have HB:=aa.mk hB
 have HK:=aa.mk hk
 have HT:=aa.mk hset
 clear hp hset hB hk
 go_wp2
 go_ret
 have h:=bJ (j:=7) (bJ (j:=5) (bJ (j:=4) (bJ (j:=3) (bJ (j:=2) (bJ (j:=1) HB.out HP.out (v0,⟨c,2,⟨l0,l1,l2,l3⟩,y,m⟩) (by omega) _ rfl) (aN HP.out) (v0,⟨c,2,⟨0,l1,l2,l3⟩,y,m⟩) (by omega) _ rfl) (aN (aN HP.out)) (v0,⟨c,2,⟨0,0,l2,l3⟩,y,m⟩) (by omega) _ rfl) (aN (aN (aN HP.out))) (v0,⟨c,2,⟨0,0,0,l3⟩,y,m⟩) (by omega) _ rfl) (aN (aN (aN (aN HP.out)))) (v0,⟨c,2,⟨0,0,0,0⟩,y,m⟩) (by omega) _ rfl) (aN (aN (aN (aN (aN HP.out))))) (v0,⟨c,2,⟨0,0,0,0⟩,y,0⟩) (by omega) _ rfl
 rw [set_set,set_set,set_set,set_set,set_set,HT.out] at h
 exact ⟨rfl,h,(((((HK.out.set (.inl rfl) _ _).set (.inl rfl) _ _).set (.inl rfl) _ _).set (.inl rfl) _ _).set (.inl rfl) _ _).set (.inl rfl) _ _⟩
theorem end_kf (w:World) (gs gb n:Nat) (s:St) (bs:List (Value × S47)) (tl:List Value) (v0:Value) (c:List S45) (f1 l0 l1 l2 l3 y m:Int) (hS:w.heap[gs]?=some (.cells (aC s) 151 (0,0))) (hB:w.heap[gb]?=some (.cells (bA bs tl) 47 (0,0))) (hl:s.length=18) (hp:bs[n]?=some (v0,⟨c,f1,⟨l0,l1,l2,l3⟩,y,m⟩))
 (h1:(f1==1)=false) (h3:(f1 != 3)=false) (h8:(Go.bits .and .u16 l0 8 != 0)=false) (hj:jmB l0=true) (hd:jI s ⟨l0,l1,l2,l3⟩=some false) :
 Calls Try.prog 129 #[.pointer (some ⟨gs,0,none⟩),.pointer (some ⟨gb,n*8,none⟩)] w fun e w'=>e = .returned (.bool true)∧w'.heap[gb]?=some (.cells (bA (bs.set n (v0,⟨c,2,⟨0,0,0,0⟩,m,0⟩)) tl) 47 (0,0))∧Kp (fun k=>k=gb) w w':=by
 obtain ⟨b1,b2,b3,b4,b5,b6,b7,-,z2,z3,z4,z5,-,-⟩:=rc8 hB hp
 have HS:=aa.mk hS
 have HB:=aa.mk hB
 have HP:=aa.mk hp
 have hlt:=ax hB
 have hlts:=ax hS
 clear hS hB hp
 go_enter Try.func129,Try.ntmps129
 have HJ:=aa.mk hj
 have HD:=aa.mk hd
 clear hj hd
 go_upto_region 10 with (fail)
 refine forget (fun W=>W.heap[gs]?=some (.cells (aC s) 151 (0,0))∧∃ bs',bs'[n]?=some (v0,⟨c,f1,⟨l0,l1,l2,l3⟩,y,m⟩)∧(∀ q,bs'.set n q=bs.set n q)∧W.heap[gb]?=some (.cells (bA bs' tl) 47 (0,0))∧Kp (fun k=>k=gb) w W) ⟨HS.out,bs,HP.out,fun q=>rfl,HB.out,Kp.refl _ _⟩ ?_
 clear HS HB HP b1 b2  z2 z3 z4 z5 b3 b4 b5 hlt hlts
 rintro W ⟨hS,bs',hp,hset,hB,hk⟩
 obtain ⟨-,b2,b3,b4,b5,-,-,-,-,-,-,-,-,-⟩:=rc8 hB hp
 have HS:=aa.mk hS
 have HP:=aa.mk hp
 have HB:=aa.mk hB
 have HK:=aa.mk hk
 have HT:=aa.mk hset
 clear hS hp hset hB hk
 go_upto_region 14 with (go_at_call 161;refine (jd W gs s ⟨l0,l1,l2,l3⟩ HS.out hl HJ.out).mono ?_;rintro e w2 ⟨rfl,hb⟩;rw [HD.out];have HB2:=aa.mk (aj HB.out hb);have HK2:=aa.mk (HK.out.below hb);clear hb)
 clear HS HB HK b2 b3 b4 b5
 have g6:=(ae HB2.out (n*8+6)).trans (di HP.out (by omega))
 have g7:w2.cell? ⟨gb,n*8+7,none⟩=some (.int .i64 m):=(ae HB2.out (n*8+7)).trans (di HP.out (by omega))
 have y6:=af HB2.out (n*8+6)
 go_upto_region 15 with (fail)
 refine forget (fun V=>∃ bs2,bs2[n]?=some (v0,⟨c,f1,⟨l0,l1,l2,l3⟩,m,m⟩)∧(∀ q,bs2.set n q=bs.set n q)∧V.heap[gb]?=some (.cells (bA bs2 tl) 47 (0,0))∧Kp (fun k=>k=gb) w V) ⟨_,aN HP.out,fun q=>set_set.trans (HT.out q),bJ (j:=6) HB2.out HP.out (v0,⟨c,f1,⟨l0,l1,l2,l3⟩,m,m⟩) (by omega) _ rfl,HK2.out.set (.inl rfl) _ _⟩ ?_
 clear g6 g7 y6
 clear HP HT HB2 HK2
 rintro V ⟨bs2,hp,hset,hB,hk⟩
 obtain ⟨b1,b2,b3,b4,b5,-,b7,z1,z2,z3,z4,z5,-,z7⟩:=rc8 hB hp
 have HP:=aa.mk hp
 have HB:=aa.mk hB
 have HK:=aa.mk hk
 have HT:=aa.mk hset
 clear hp hset hB hk
 go_wp2
 go_ret
 have h:=bJ (j:=7) (bJ (j:=5) (bJ (j:=4) (bJ (j:=3) (bJ (j:=2) (bJ (j:=1) HB.out HP.out (v0,⟨c,2,⟨l0,l1,l2,l3⟩,m,m⟩) (by omega) _ rfl) (aN HP.out) (v0,⟨c,2,⟨0,l1,l2,l3⟩,m,m⟩) (by omega) _ rfl) (aN (aN HP.out)) (v0,⟨c,2,⟨0,0,l2,l3⟩,m,m⟩) (by omega) _ rfl) (aN (aN (aN HP.out))) (v0,⟨c,2,⟨0,0,0,l3⟩,m,m⟩) (by omega) _ rfl) (aN (aN (aN (aN HP.out)))) (v0,⟨c,2,⟨0,0,0,0⟩,m,m⟩) (by omega) _ rfl) (aN (aN (aN (aN (aN HP.out))))) (v0,⟨c,2,⟨0,0,0,0⟩,m,0⟩) (by omega) _ rfl
 rw [set_set,set_set,set_set,set_set,set_set,HT.out] at h
 exact ⟨rfl,h,(((((HK.out.set (.inl rfl) _ _).set (.inl rfl) _ _).set (.inl rfl) _ _).set (.inl rfl) _ _).set (.inl rfl) _ _).set (.inl rfl) _ _⟩
theorem pE {w w':World} {gb n:Nat} {bs:List (Value × S47)} {tl:List Value} {p:Value × S47} {e:Ending} {r:Bool} (hB:w.heap[gb]?=some (.cells (bA bs tl) 47 (0,0))) (hp:bs[n]?=some p) (h:e = .returned (.bool r)∧w'=w) :
 e = .returned (.bool r)∧w'.heap[gb]?=some (.cells (bA (bs.set n p) tl) 47 (0,0))∧Kp (fun k=>k=gb) w w':=by
 obtain ⟨h1,rfl⟩:=h
 exact ⟨h1,by rw [set_self hp];exact hB,Kp.refl _ _⟩
theorem xm (w:World) (gs gb n:Nat) (s:St) (bs:List (Value × S47)) (tl:List Value) (v0:Value) (b:S47) (hS:w.heap[gs]?=some (.cells (aC s) 151 (0,0))) (hB:w.heap[gb]?=some (.cells (bA bs tl) 47 (0,0))) (hw:Wst s) (hp:bs[n]?=some (v0,b)) (he:jB b=true) (hr:Rg b.f2.f3) :
 Calls Try.prog 129 #[.pointer (some ⟨gs,0,none⟩),.pointer (some ⟨gb,n*8,none⟩)] w fun e w'=>e = .returned (.bool (enF s b).2)∧w'.heap[gb]?=some (.cells (bA (bs.set n (v0,(enF s b).1)) tl) 47 (0,0))∧Kp (fun k=>k=gb) w w':=by
 have hl:=hw.len
 obtain ⟨c,f1,⟨l0,l1,l2,l3⟩,y,m⟩:=b
 unfold enF
 dsimp only
 have hc:=eO he
 dsimp only at hc hr
 by_cases h1:f1=1
 · have h3:(f1 != 3)=true:=bne_iff_ne.mpr (by omega)
   by_cases h22:l0=22
   · rw [if_pos ⟨h1,h22⟩]
     cases e0:gS s 0 with
     | some v=>exact end_a w gs gb n s bs tl v0 c f1 l0 l1 l2 l3 y m hS hB hl hp (iH h1) (iH h22) v e0
     | none=>exact (end_b w gs gb n s bs tl v0 c f1 l0 l1 l2 l3 y m hS hB hl hp (iH h1) (iH h22) h3 e0).mono fun e w' h=>pE hB hp h
   rw [if_neg (fun h=>h22 h.2),if_pos (by omega)]
   exact (end_c w gs gb n s bs tl v0 c f1 l0 l1 l2 l3 y m hS hB hl hp (iH h1) (bn h22) h3).mono fun e w' h=>pE hB hp h
 rw [if_neg (fun h=>h1 h.1)]
 by_cases h3:f1=3
 · rw [if_neg (by omega)]
   have h3':(f1 != 3)=false:=bne_eq_false_iff_eq.mpr h3
   have hj:jmB l0=true:=by rcases hc with h | h | h;omega;omega;exact h.2.1
   have hm:l0∈([21,29,37,45,53,61,69,77]:List Int):=of_decide_eq_true hj
   unfold gN
   dsimp only
   by_cases hx:l0∈tX
   · have H8:∀ c∈tX,(Go.bits .and .u16 c 8 != 0)=true∧Go.bits .andNot .u16 c 8=c - 8∧jmB (c - 8)=true:=by decide +kernel
     obtain ⟨q1,q2,q3⟩:=H8 l0 hx
     rw [if_pos hx]
     cases e1:gS s 1 with
     | some x=>
      dsimp only
      rw [←q2]
      have q3':jmB (Go.bits .andNot .u16 l0 8)=true:=by rw [q2];exact q3
      cases e:jI s ⟨Go.bits .andNot .u16 l0 8,0,0,x⟩ with
      | none=>exact end_xn w gs gb n s bs tl v0 c f1 l0 l1 l2 l3 y m hS hB hl hp (bn h1) h3' q1 x e1 q3' e
      | some yy=>
       cases yy with
       | true=>exact end_xt w gs gb n s bs tl v0 c f1 l0 l1 l2 l3 y m hS hB hl hp (bn h1) h3' q1 x e1 q3' e
       | false=>exact end_xf w gs gb n s bs tl v0 c f1 l0 l1 l2 l3 y m hS hB hl hp (bn h1) h3' q1 x e1 q3' e
     | none=>
      dsimp only
      have e:jI s ⟨l0,l1,l2,l3⟩=none:=by unfold jI;rw [if_pos hx]
      rw [e]
      exact end_un w gs gb n s bs tl v0 c f1 l0 l1 l2 l3 y m hS hB hl hp (bn h1) h3' q1 e1 hj e
   rw [if_neg hx]
   have q1:(Go.bits .and .u16 l0 8 != 0)=false:=by
    simp only [tX,List.mem_cons,List.not_mem_nil,or_false] at hm hx
    have:l0=21∨l0=37∨l0=53∨l0=69:=by omega
    rcases this with rfl | rfl | rfl | rfl<;>decide +kernel
   dsimp only
   cases e:jI s ⟨l0,l1,l2,l3⟩ with
   | none=>exact end_kn w gs gb n s bs tl v0 c f1 l0 l1 l2 l3 y m hS hB hl hp (bn h1) h3' q1 hj e
   | some yy=>
    cases yy with
    | true=>exact end_kt w gs gb n s bs tl v0 c f1 l0 l1 l2 l3 y m hS hB hl hp (bn h1) h3' q1 hj e
    | false=>exact end_kf w gs gb n s bs tl v0 c f1 l0 l1 l2 l3 y m hS hB hl hp (bn h1) h3' q1 hj e
 rw [if_pos h3]
 exact (end_d w gs gb n s bs tl v0 c f1 l0 l1 l2 l3 y m hS hB hl hp (bn h1) (bne_iff_ne.mpr h3)).mono fun e w' h=>pE hB hp h
section
variable {α:Type} {f:α→List Value} {K:Nat}
theorem qc (hf:∀ a,(f a).length=K) (L:List α):(L.flatMap f).length=L.length*K:=by
 induction L with
 | nil=>simp
 | cons a r ih=>rw [List.flatMap_cons,List.length_append,ih,hf,List.length_cons,Nat.add_mul,Nat.one_mul,Nat.add_comm]
theorem wM (hf:∀ a,(f a).length=K):∀ (L:List α) (n:Nat),(L.flatMap f).drop (n*K)=(L.drop n).flatMap f:=by
 intro L
 induction L with
 | nil=>intro n;simp
 | cons a r ih=>
  intro n
  cases n with
  | zero=>simp
  | succ n=>
   rw [List.flatMap_cons,List.drop_succ_cons,←ih n,Nat.add_mul,Nat.one_mul,Nat.add_comm,List.drop_append,hf,List.drop_eq_nil_of_le (by rw [hf];omega),List.nil_append,Nat.add_sub_cancel_left]
theorem sg_take (hf:∀ a,(f a).length=K):∀ (L:List α) (n:Nat),(L.flatMap f).take (n*K)=(L.take n).flatMap f:=by
 intro L
 induction L with
 | nil=>intro n;simp
 | cons a r ih=>
  intro n
  cases n with
  | zero=>simp
  | succ n=>
   rw [List.flatMap_cons,List.take_succ_cons,List.flatMap_cons,←ih n,Nat.add_mul,Nat.one_mul,Nat.add_comm,List.take_append,hf,List.take_of_length_le (by rw [hf];omega),Nat.add_sub_cancel_left]
theorem qd (hf:∀ a,(f a).length=K) {w:World} {b:Nat} {L:List α} {T:TypeId} (hb:w.heap[b]?=some (.cells (L.flatMap f).toArray T (0,0))) {n:Nat} {x:α} (hx:L[n]?=some x):w.rangeAt b (n*K) (f x):=by
 intro j v hv
 have hj:j<K:=by have:=(List.getElem?_eq_some_iff.1 hv).1;rw [hf] at this;exact this
 rw [ae hb,List.getElem?_toArray]
 have h1:=wM hf L n
 rw [←List.getElem?_drop,h1]
 have h2:=(List.getElem?_eq_some_iff.1 hx).1
 rw [List.drop_eq_getElem_cons h2,List.flatMap_cons,List.getElem?_append_left (by rw [hf];exact hj)]
 rw [show L[n]=x from (List.getElem?_eq_some_iff.1 hx).2]
 exact hv
theorem qK {w:World} {b:Nat} {cs:Array Value} {T:TypeId} (hb:w.heap[b]?=some (.cells cs T (0,0))) {o n:Nat} (h:o+n≤cs.size):w.there b o n:=by
 intro j hj
 refine ⟨?_,af hb _⟩
 rw [ae hb,Array.getElem?_eq_getElem (by omega)];rfl
theorem mY (hf:∀ a,(f a).length=K) {w:World} {b:Nat} {L:List α} {T:TypeId} (hb:w.heap[b]?=some (.cells (L.flatMap f).toArray T (0,0))) {n:Nat} (hn:n<L.length):w.there b (n*K) K:=by
 refine qK hb ?_
 rw [List.size_toArray,qc hf]
 have:=Nat.mul_le_mul_right K (show n+1≤L.length by omega)
 rw [Nat.add_mul,Nat.one_mul] at this
 exact this
theorem vE (hf:∀ a,(f a).length=K) {w:World} {b:Nat} {L:List α} {T:TypeId} (hb:w.heap[b]?=some (.cells (L.flatMap f).toArray T (0,0))) {n:Nat} (hn:n<L.length) (v:α) :
 (w.setCells b (n*K) (f v)).heap[b]?=some (.cells ((L.set n v).flatMap f).toArray T (0,0))∧Kp (fun k=>k=b) w (w.setCells b (n*K) (f v)):=by
 have hle:n*K+K≤L.length*K:=by
  have:=Nat.mul_le_mul_right K (show n+1≤L.length by omega)
  rw [Nat.add_mul,Nat.one_mul] at this
  exact this
 obtain ⟨cur',h3,h4,h5⟩:=kJ (f v) (n*K) w (L.flatMap f).toArray hb (by rw [hf,List.size_toArray,qc hf];exact hle)
 have he:cur'=((L.set n v).flatMap f).toArray:=by
  apply Array.ext'
  rw [h5,hf]
  show (L.flatMap f).take (n*K)++f v++(L.flatMap f).drop (n*K+K)=(L.set n v).flatMap f
  rw [sg_take hf,show n*K+K=(n+1)*K by rw [Nat.add_mul,Nat.one_mul],wM hf,List.set_eq_take_append_cons_drop,if_pos hn,List.flatMap_append,List.flatMap_cons,List.append_assoc]
 rw [he] at h3
 have s:=jl b (f v) (n*K) w
 exact ⟨h3,s.1,s.2.1,s.2.2.1,Nat.le_of_eq s.2.2.2.symm,fun i _ hi=>iX (f v) (n*K) i hi⟩
theorem fJ {P:Program} {ops:Array Oper} {rest:List Oper} {op:Oper} {a:Act} {w:World} {Q:Exit→Act→World→Prop} (hgd:op.guard=none) (hd:op.dst=none) (ty:TypeId) (x y:Operand) (ho:op.op = .store ty x y)
 (hf:∀ a,(f a).length=K) (hone:∀ a,∀ u∈f a,u.oneCell'=true) (b n:Nat) (L:List α) (v:α) (T:TypeId) (hx:a.eval x = .pointer (some ⟨b,n*K,none⟩)) (hy:a.eval y = .agg (f v).toArray)
 (hb:w.heap[b]?=some (.cells (L.flatMap f).toArray T (0,0))) (hn:n<L.length) (hi:(P.info? ty).map (·.size)=some K)
 (h:∀ w',w'.heap[b]?=some (.cells ((L.set n v).flatMap f).toArray T (0,0))→Kp (fun k=>k=b) w w'→wpList P ops Q rest a w'):wpList P ops Q (op :: rest) a w:=by
 have hs:(f v).toArray.size=K:=by rw [List.size_toArray,hf]
 refine wpList_store_mid hgd ty x y ho b (n*K) (f v).toArray hx hy (by rw [hs];exact mY hf hb hn) (by rw [hs];exact hi) (all_oneCell_toArray (hone v)) ?_
 have hp:=vE hf hb hn v
 have:=h _ hp.1 hp.2
 rw [hd]
 exact this
theorem jE {P:Program} {ops:Array Oper} {rest:List Oper} {op:Oper} {a:Act} {w:World} {Q:Exit→Act→World→Prop} (hgd:op.guard=none) (ty:TypeId) (x:Operand) (ho:op.op = .load ty x)
 (hf:∀ a,(f a).length=K) (b n:Nat) (L:List α) (v:α) (T:TypeId) (hx:a.eval x = .pointer (some ⟨b,n*K,none⟩))
 (hb:w.heap[b]?=some (.cells (L.flatMap f).toArray T (0,0))) (hn:L[n]?=some v) (d:TypeDesc) (hu:P.underlying ty=some d) (hd:d.isRow=true) (hi:(P.info? ty).map (·.size)=some K)
 (h:wpList P ops Q rest (a.put op.dst (.agg (f v).toArray)) w):wpList P ops Q (op :: rest) a w:=
 wpList_load_mid hgd ty x ho b (n*K) hx (f v) d (qd hf hb hn) hu hd (by rw [hf];exact hi) h
end
def Fil (w:World) (gc cap k:Nat) (o r:List S45):Prop:=
 ∃ mid tl:List Value,w.heap[gc]?=some (.cells (o.flatMap i4++mid++r.flatMap i4++tl).toArray 45 (0,0))∧o.length*4+mid.length=k*4∧(o.flatMap i4++mid++r.flatMap i4++tl).length=cap*4
section
variable {w w':World} {gc cap k:Nat} {o r c:List S45} {i j:S45}
theorem Fil.of {tl:List Value} (h:CdA w gc cap c tl):Fil w gc cap 0 [] c:=⟨[],tl,by simpa using h.blk,rfl,by simpa using h.size⟩
theorem Fil.lt (h:Fil w gc cap k o r):gc<w.heap.size:=by obtain ⟨_,_,h1,_⟩:=h;exact ax h1
theorem Fil.le (h:Fil w gc cap k o r):o.length≤k∧k+r.length≤cap:=by
 obtain ⟨mid,tl,_,h2,h3⟩:=h
 rw [List.length_append,List.length_append,List.length_append,kD,kD] at h3
 omega
theorem Fil.move (h:Fil w gc cap k o r) (hm:w'.heap[gc]?=w.heap[gc]?):Fil w' gc cap k o r:=by
 obtain ⟨mid,tl,h1,h2⟩:=h
 exact ⟨mid,tl,hm.trans h1,h2⟩
theorem Fil.below (h:Fil w gc cap k o r) (hb:Below w.heap.size w w'):Fil w' gc cap k o r:=h.move (hb.block _ h.lt)
theorem Fil.kp {S:Nat→Prop} (h:Fil w gc cap k o r) (hk:Kp S w w') (hS:¬S gc):Fil w' gc cap k o r:=h.move (hk.block _ h.lt hS)
theorem Fil.get (h:Fil w gc cap k o (i :: r)) {q:Nat} (hq:q<4):w.cell? ⟨gc,k*4+q,none⟩=(i4 i)[q]?:=by
 obtain ⟨mid,tl,h1,h2,_⟩:=h
 rw [ae h1,List.getElem?_toArray]
 have hp:(o.flatMap i4++mid).length=k*4:=by rw [List.length_append,kD];exact h2
 rw [List.append_assoc (o.flatMap i4++mid),List.getElem?_append_right (by omega),hp,Nat.add_sub_cancel_left,List.flatMap_cons,List.append_assoc,List.getElem?_append_left (by exact hq)]
theorem Fil.skip (h:Fil w gc cap k o (i :: r)):Fil w gc cap (k+1) o r:=by
 obtain ⟨mid,tl,h1,h2,h3⟩:=h
 have e:o.flatMap i4++mid++(i :: r).flatMap i4++tl=o.flatMap i4++(mid++i4 i)++r.flatMap i4++tl:=by
  rw [List.flatMap_cons];simp only [List.append_assoc]
 rw [e] at h1 h3
 exact ⟨mid++i4 i,tl,h1,by rw [List.length_append];show _+(_+4)=_;omega,h3⟩
theorem Fil.write (h:Fil w gc cap k o (i :: r)):∃ cur:Array Value,w.heap[gc]?=some (.cells cur 45 (0,0))∧o.length*4+(i4 j).length≤cur.size ∧
 ∀ w':World,w'.heap[gc]?=some (.cells (cur.toList.take (o.length*4)++i4 j++cur.toList.drop (o.length*4+(i4 j).length)).toArray 45 (0,0))→Fil w' gc cap (k+1) (o++[j]) r:=by
 have hle:=h.le
 obtain ⟨mid,tl,h1,h2,h3⟩:=h
 have h4:(i4 j).length=4:=rfl
 have h5:(i4 i).length=4:=rfl
 refine ⟨_,h1,?_,fun w' hw=>?_⟩
 · rw [List.size_toArray,h3,h4];simp at hle;omega
 refine ⟨(mid++i4 i).drop 4,tl,?_,?_,?_⟩
 · rw [hw]
   congr 3
   have e:o.flatMap i4++mid++(i :: r).flatMap i4++tl=o.flatMap i4++((mid++i4 i)++(r.flatMap i4++tl)):=by rw [List.flatMap_cons];simp only [List.append_assoc]
   show ((o.flatMap i4++mid++(i :: r).flatMap i4++tl).take (o.length*4)++i4 j++(o.flatMap i4++mid++(i :: r).flatMap i4++tl).drop (o.length*4+(i4 j).length))=_
   rw [e,←kD o,List.take_left,List.drop_append,List.drop_eq_nil_of_le (Nat.le_add_right _ _),List.nil_append,Nat.add_sub_cancel_left,h4,List.drop_append_of_le_length (by rw [List.length_append,h5];omega),List.flatMap_append,List.flatMap_cons,List.flatMap_nil,List.append_nil]
   simp only [List.append_assoc]
 · rw [List.length_append,List.length_drop,List.length_append,h5];simp;omega
 rw [List.flatMap_cons] at h3
 simp only [List.length_append,List.flatMap_append,List.flatMap_cons,List.flatMap_nil,List.append_nil,List.length_drop,h4,h5] at h3 ⊢
 omega
theorem Fil.done (h:Fil w gc cap k o r) (hm:cap≤maxLen):Cd w (.slice (some ⟨gc,0,none⟩) o.length cap) o:=by
 have hle:=h.le
 obtain ⟨mid,tl,h1,h2,h3⟩:=h
 refine .inr ⟨gc,cap,mid++r.flatMap i4++tl,rfl,?_,by omega,hm,?_⟩
 · rw [h1];congr 2;simp only [List.append_assoc]
 rw [←h3];simp only [List.append_assoc]
end
theorem wB:(Try.prog.info? 45).map (fun i=>(i.zero,i.size,i.bytes))=some (some (.agg #[.int .u16 0,.int .u8 0,.int .u8 0,.int .u32 0]),4,8):=l9
theorem iZ (w:World) {ops:Array Oper} {rest:List Oper} {op:Oper} {a:Act} {Q:Exit→Act→World→Prop} (hg:op.guard=none) (s x:Operand)
 (hop:op.op=Op.call {callee:=Callee.builtin Builtin.append,args:=#[s,x],argTypes:=#[26,26]})
 {gc cap k:Nat} {o r:List S45} {i:S45} (hF:Fil w gc cap k o (i :: r)) (hs:a.eval s = .slice (some ⟨gc,0,none⟩) o.length cap) (j:S45) (ad:Addr) (hx:a.eval x = .slice (some ad) 1 1)
 (hnews:∀ q u,(i4 j)[q]?=some u→w.cell? (ad.add q)=some u)
 (hK:∀ w',Fil w' gc cap (k+1) (o++[j]) r→Kp (fun k=>k=gc) w w'→wpList Try.prog ops Q rest (a.put op.dst (.slice (some ⟨gc,0,none⟩) (o.length+1) cap)) w'):wpList Try.prog ops Q (op :: rest) a w:=by
 obtain ⟨cur,h1,h2,h3⟩:=Fil.write (j:=j) hF
 have hle:=hF.le
 exact ni w hg s x 26 hop 45 _ 4 8 Try.underlying26 wB gc o.length cap hs cur h1 ad 1 1 (i4 j) hx rfl hnews (by intro u hu;simp only [i4,List.mem_cons,List.not_mem_nil,or_false] at hu;rcases hu with rfl | rfl | rfl | rfl<;>rfl) (by simp at hle;omega) h2 (fun w' hw hk=>hK w' (h3 w' hw) hk)
theorem new3 (w:World) (o1 o2 o3:Obj):(((w.alloc o1).alloc o2).alloc o3).heap[w.heap.size]?=some o1∧(((w.alloc o1).alloc o2).alloc o3).heap[w.heap.size+1]?=some o2∧(((w.alloc o1).alloc o2).alloc o3).heap[w.heap.size+1+1]?=some o3∧Below w.heap.size w (((w.alloc o1).alloc o2).alloc o3):=by
 have h1:=heap_alloc_new w o1
 have h2:=heap_alloc_new (w.alloc o1) o2
 have h3:=heap_alloc_new ((w.alloc o1).alloc o2) o3
 rw [World.size_alloc] at h2
 rw [World.size_alloc,World.size_alloc] at h3
 refine ⟨?_,?_,h3,ai (ai (ai (Below.refl _ w) _) _) _⟩
 · rw [heap_alloc_old _ _ (by rw [World.size_alloc,World.size_alloc];omega),heap_alloc_old _ _ (by rw [World.size_alloc];omega)];exact h1
 rw [heap_alloc_old _ _ (by rw [World.size_alloc,World.size_alloc];omega)];exact h2
theorem BP (s:St):∀ u∈(aC s).toList,u.oneCell'=true:=by
 intro u hu
 obtain ⟨o,_,h⟩:=List.mem_flatMap.1 (show u∈s.flatMap jg from hu)
 simp only [jg,List.mem_cons,List.not_mem_nil,or_false] at h
 rcases h with rfl | rfl<;>rfl
theorem sJ {s:St} (h:s.length=18):(aC s).size=36:=by
 unfold aC
 rw [List.size_toArray,qc (K:=2) (fun _=>rfl),h]
theorem dP:(Try.prog.info? 151).map (·.size)=some 36:=by kernel_rfl
def lX (s t:St) (k:Nat):St:=(lg s t).take k++s.drop k
theorem mO {s t:St} (h1:s.length=18) (h2:t.length=18) (k:Nat):(lX s t k).length=18:=by
 unfold lX
 rw [List.length_append,List.length_take,List.length_drop,jK h1 h2,h1];omega
theorem metP_0 (s t:St):lX s t 0=s:=by unfold lX;rw [List.take_zero,List.drop_zero,List.nil_append]
theorem metP_18 {s t:St} (h1:s.length=18) (h2:t.length=18):lX s t 18=lg s t:=by
 unfold lX;rw [List.drop_eq_nil_of_le (by omega),List.append_nil,List.take_of_length_le (by rw [jK h1 h2];exact Nat.le_refl _)]
theorem rY {s t:St} {k:Nat} (h1:s.length=18) (h2:t.length=18) (hk:k<18):gS (lX s t k) k=gS s k:=by
 unfold lX gS
 rw [List.getD_eq_getElem?_getD,List.getD_eq_getElem?_getD,List.getElem?_append_right (by rw [List.length_take];omega),List.length_take,jK h1 h2,List.getElem?_drop,Nat.min_eq_left (by omega),Nat.sub_self,Nat.add_zero]
theorem met_at {s t:St} {k:Nat} (h1:s.length=18) (h2:t.length=18) (hk:k<18):(lg s t)[k]?=some (if gS s k=gS t k then gS s k else none):=by
 unfold lg gS
 rw [List.getElem?_zipWith,List.getD_eq_getElem?_getD,List.getD_eq_getElem?_getD,List.getElem?_eq_getElem (by omega),List.getElem?_eq_getElem (by omega)]
 rfl
theorem qO {s t:St} {k:Nat} (h1:s.length=18) (h2:t.length=18) (hk:k<18):lX s t (k+1)=(lX s t k).set k (if gS s k=gS t k then gS s k else none):=by
 have hm:=met_at h1 h2 hk
 have hl:k<(lg s t).length:=by rw [jK h1 h2];exact hk
 unfold lX
 rw [List.take_succ_eq_append_getElem hl,List.set_append_right _ _ (by rw [List.length_take];omega),List.length_take,Nat.min_eq_left (by omega),Nat.sub_self,List.append_assoc,List.drop_eq_getElem_cons (show k<s.length by omega),List.set_cons_zero]
 rw [List.getElem?_eq_getElem hl] at hm
 injection hm with hm
 rw [hm];rfl
theorem metP_eq {s t:St} {k:Nat} (h1:s.length=18) (h2:t.length=18) (hk:k<18) (h:gS s k=gS t k):lX s t (k+1)=lX s t k:=by
 rw [qO h1 h2 hk,if_pos h]
 apply List.ext_getElem?
 intro i
 rw [List.getElem?_set]
 split
 · rename_i e
   subst e
   have:=rY (s:=s) (t:=t) h1 h2 hk
   rw [if_pos (by rw [mO h1 h2];exact hk),←this]
   unfold gS
   rw [List.getD_eq_getElem?_getD,List.getElem?_eq_getElem (by rw [mO h1 h2];exact hk)]
   rfl
 rfl
structure MI1 (w wr:World) (g:Nat) (s t:St) (k:Nat):Prop where
 b:Below w.heap.size w wr
 eg:g=w.heap.size
 s:wr.heap[g]?=some (.cells (aC (lX s t k)) 151 (0,0))
 t:wr.heap[g+1]?=some (.cells (aC t) 151 (0,0))
 r:wr.heap[g+1+1]?=some (.cells (aC (List.replicate 18 none)) 151 (0,0))
theorem MI1.same {w wr:World} {g k:Nat} {s t:St} (h:MI1 w wr g s t k) (h1:s.length=18) (h2:t.length=18) (hk:k<18) (e:gS s k=gS t k) (n:Nat):MI1 w (wr.drewN n) g s t (k+1):=by
 have hb:=aA (Below.refl wr.heap.size wr) n
 exact ⟨av h.b hb,h.eg,by rw [metP_eq h1 h2 hk e];exact aj h.s hb,aj h.t hb,aj h.r hb⟩
theorem MI1.put {w wr:World} {g k:Nat} {s t:St} (h:MI1 w wr g s t k) (h1:s.length=18) (h2:t.length=18) (hk:k<18) (e:gS s k≠gS t k) (n:Nat) :
 MI1 w (((wr.drewN n).setCell ⟨g,k*2,none⟩ (.bool false)).setCell ⟨g,k*2+1,none⟩ (.int .u32 0)) g s t (k+1):=by
 have hb:=aA (Below.refl wr.heap.size wr) n
 have hg:=h.eg
 refine ⟨dz (dz (av h.b hb) (by omega)) (by omega),h.eg,?_,df (df (aj h.t hb) (by show g+1≠g;omega) _) (by show g+1≠g;omega) _,df (df (aj h.r hb) (by show g+1+1≠g;omega) _) (by show g+1+1≠g;omega) _⟩
 rw [qO h1 h2 hk,if_neg e]
 exact aM (aM (aj h.s hb) (k*2) _ rfl) (k*2+1) _ (ji (i:=k) none (by rw [mO h1 h2];exact hk))
theorem uP (w:World) (s t:St) (hs:s.length=18) (ht:t.length=18) :
 Calls Try.prog 127 #[.agg (aC s),.agg (aC t)] w fun e w'=>e = .returned (.agg (aC (lg s t)))∧Below w.heap.size w w':=by
 have HSL:=aa.mk (And.intro hs ht)
 clear hs ht
 go_enter Try.func127,Try.ntmps127
 go_upto_region 1 with (fail)
 refine forget (fun W=>∃ g,MI1 w W g s t 0) ⟨_,by have h:=new3 w (.cells (aC s) 151 (0,0)) (.cells (aC t) 151 (0,0)) (.cells (aC (List.replicate 18 none)) 151 (0,0));exact ⟨h.2.2.2,rfl,by rw [metP_0];exact h.1,h.2.1,h.2.2.1⟩⟩ ?_
 rintro W ⟨g,HM⟩
 rw [←HM.eg]
 have HM2:=aa.mk HM
 clear HM
 go_wp2
 go_loopw [6] (fun v6 wr=>∃ k:Nat,k≤18∧v6 = .int .i64 k∧aa (MI1 w wr g s t k)) (fun v6 _=>18 - (intOf v6).toNat)
 case atStart=>exact ⟨0,by omega,rfl,HM2⟩
 case round=>
  clear HM2
  obtain ⟨k,hk,rfl,HM⟩:=hrel
  by_cases hlt:k<18
  · have i0:(0:Int)≤(k:Int):=by omega
    have i1:(k:Int)<18:=by omega
    have hl:=mO HSL.out.1 HSL.out.2 k
    have c0:wr.cell? ⟨g,k*2,none⟩=some (.bool (gS s k).isSome):=(ae HM.out.s (k*2)).trans ((dw (s:=lX s t k) (i:=k) (by omega)).trans (by rw [rY HSL.out.1 HSL.out.2 hlt]))
    have c1:wr.cell? ⟨g,k*2+1,none⟩=some (.int .u32 ((gS s k).getD 0)):=(ae HM.out.s (k*2+1)).trans ((dO (s:=lX s t k) (i:=k) (by omega)).trans (by rw [rY HSL.out.1 HSL.out.2 hlt]))
    have d0:wr.cell? ⟨g+1,k*2,none⟩=some (.bool (gS t k).isSome):=(ae HM.out.t (k*2)).trans (dw (s:=t) (i:=k) (by rw [HSL.out.2];omega))
    have d1:wr.cell? ⟨g+1,k*2+1,none⟩=some (.int .u32 ((gS t k).getD 0)):=(ae HM.out.t (k*2+1)).trans (dO (s:=t) (i:=k) (by rw [HSL.out.2];omega))
    have f0:=af HM.out.s (k*2)
    have f1:=af HM.out.s (k*2+1)
    have hlg:=ax HM.out.s
    have HE:aa (((gS s k).isSome=(gS t k).isSome∧(gS s k).getD 0=(gS t k).getD 0)↔gS s k=gS t k):=⟨by
     cases gS s k<;>cases gS t k<;>simp⟩
    generalize (gS s k).isSome=a1 at c0 HE
    generalize (gS s k).getD 0=a2 at c1 HE
    generalize (gS t k).isSome=b1 at d0 HE
    generalize (gS t k).getD 0=b2 at d1 HE
    clear hl
    cases a1<;>cases b1<;>by_cases e2:a2=b2
    all_goals
     try subst e2
     go_wp2
     go_quiet (fail)
     go_wp2
     go_roundw
     case rel=>
      first
       | exact ⟨k+1,by omega,by go_num,⟨HM.out.same HSL.out.1 HSL.out.2 hlt (HE.out.1 ⟨by trivial,by trivial⟩) _⟩⟩
       | exact ⟨k+1,by omega,by go_num,⟨HM.out.put HSL.out.1 HSL.out.2 hlt (fun e=>by obtain ⟨q1,q2⟩:=HE.out.2 e;first | exact e2 q2 | cases q1) _⟩⟩
     case measure=>simp [intOf];omega
  have hkl:k=18:=by omega
  subst hkl
  have HM2:aa (Below w.heap.size w wr∧g=w.heap.size∧wr.heap[g]?=some (.cells (aC (lg s t)) 151 (0,0))∧wr.heap[g+1+1]?=some (.cells (aC (List.replicate 18 none)) 151 (0,0))):=⟨HM.out.b,HM.out.eg,by rw [←metP_18 HSL.out.1 HSL.out.2];exact HM.out.s,HM.out.r⟩
  have HSZ:=aa.mk (sJ (jK HSL.out.1 HSL.out.2))
  have HSR:=aa.mk (sJ (s:=List.replicate 18 none) List.length_replicate)
  clear HM hlt hk
  go_wp2_with (first
   | (refine wpList_load_row rfl 151 (.tmp 2) rfl g rfl 151 (aC (lg s t)) (0,0) _ HM2.out.2.2.1 Try.underlying151 rfl (by rw [HSZ.out];exact dP) ?_)
   | (go_loud (refine jy rfl rfl rfl rfl HM2.out.2.2.2 rfl rfl (HSZ.out.trans HSR.out.symm) (by rw [HSR.out];exact dP) (BP _) ?_);intro w5 hr5 hk5 hb5;have HR5:=aa.mk hr5;have HB5:=aa.mk hb5;clear hr5 hk5 hb5))
  refine bodyPost_ret (results_cell_row rfl _ _ (g+1+1) 151 (aC (lg s t)) (0,0) _ rfl HR5.out Try.underlying151 rfl (by rw [HSZ.out];exact dP)) rfl ?_
  refine ⟨rfl,?_⟩
  have hg:=HM2.out.2.1
  exact rD HM2.out.1 (by omega) HB5.out
theorem Kp.mono {S S':Nat→Prop} {w w1:World} (h:Kp S w w1) (hs:∀ x,S x→S' x):Kp S' w w1:=⟨h.os,h.tape,h.output,h.size,fun k hk hn=>h.block k hk (fun e=>hn (hs k e))⟩
structure StI (w wr:World) (gs gb gc cap:Nat) (s0:St) (rb:Array Value) (c:List S45) (k:Nat) (sk:St) (o:List S45) (fnd:Bool):Prop where
 kp:Kp (fun x=>x=gs∨x=gc) w wr
 st:wr.heap[gs]?=some (.cells (aC sk) 151 (0,0))
 wst:Wst sk
 row:wr.heap[gb]?=some (.cells rb 47 (0,0))
 fil:Fil wr gc cap k o (c.drop k)
 res:cu s0 c=(o++(cu sk (c.drop k)).1,(cu sk (c.drop k)).2.1,fnd||(cu sk (c.drop k)).2.2)
theorem StI.below {w wr W:World} {gs gb gc cap:Nat} {s0:St} {rb:Array Value} {c:List S45} {k:Nat} {sk:St} {o:List S45} {fnd:Bool} (h:StI w wr gs gb gc cap s0 rb c k sk o fnd) (hb:Below wr.heap.size wr W):StI w W gs gb gc cap s0 rb c k sk o fnd:=
 ⟨h.kp.below hb,aj h.st hb,h.wst,aj h.row hb,h.fil.below hb,h.res⟩
theorem StI.skip {w wr:World} {gs gb gc cap:Nat} {s0:St} {rb:Array Value} {c:List S45} {k:Nat} {sk:St} {o:List S45} {fnd:Bool} {i:S45} (h:StI w wr gs gb gc cap s0 rb c k sk o fnd) (hd:c.drop k=i :: c.drop (k+1)) (hi:iq sk (dn sk i)=true) :
 StI w wr gs gb gc cap s0 rb c (k+1) sk o true:=by
 have hf:=h.fil
 have hr:=h.res
 rw [hd] at hf hr
 refine ⟨h.kp,h.st,h.wst,h.row,hf.skip,?_⟩
 rw [hr,cu,if_pos hi,Bool.or_true,Bool.true_or]
theorem str_go {w wr w':World} {gs gb gc cap:Nat} {s0:St} {rb:Array Value} {c:List S45} {k:Nat} {sk:St} {o:List S45} {fnd f2:Bool} {i:S45} (h:StI w wr gs gb gc cap s0 rb c k sk o fnd) (hd:c.drop k=i :: c.drop (k+1)) (hi:iq sk (dn sk i)=false)
 (hf2:f2=(fnd||neI (dn sk i) i)) (hw2:Wst (dK sk (dn sk i))) (hk:Kp (fun x=>x=gs∨x=gc) wr w') (hF:Fil w' gc cap (k+1) (o++[dn sk i]) (c.drop (k+1))) (hS:w'.heap[gs]?=some (.cells (aC (dK sk (dn sk i))) 151 (0,0))) (hgb:gb≠gs∧gb≠gc) :
 StI w w' gs gb gc cap s0 rb c (k+1) (dK sk (dn sk i)) (o++[dn sk i]) f2:=by
 have hr:=h.res
 rw [hd] at hr
 refine ⟨h.kp.trans hk,hS,hw2,(hk.block gb (ax h.row) (by rintro (e | e);exact hgb.1 e;exact hgb.2 e)).trans h.row,hF,?_⟩
 rw [hr,cu,if_neg (by rw [hi];decide),hf2,List.append_assoc,List.singleton_append,Bool.or_assoc]
theorem wG {j i:S45} (h:j.f0≠i.f0∨j.f1≠i.f1∨j.f2≠i.f2∨j.f3≠i.f3):neI j i=true:=by
 unfold neI
 by_cases a:j.f0=i.f0
 · by_cases b:j.f1=i.f1
   · by_cases c:j.f2=i.f2
     · have d:j.f3≠i.f3:=by omega
       simp [d]
     simp [c]
   simp [b]
 simp [a]
theorem qE (w:World) (gs gb gc cap n:Nat) (s:St) (bs:List (Value × S47)) (tl:List Value) (c:List S45) (tlc:List Value) (bb:S47) (hS:w.heap[gs]?=some (.cells (aC s) 151 (0,0))) (hB:w.heap[gb]?=some (.cells (bA bs tl) 47 (0,0)))
 (hp:bs[n]?=some (.slice (some ⟨gc,0,none⟩) c.length cap,bb)) (hC:CdA w gc cap c tlc) (hw:Wst s) (hcode:fE c=true) (hk:∀ x∈c,Rg x.f3) :
 Calls Try.prog 128 #[.pointer (some ⟨gs,0,none⟩),.pointer (some ⟨gb,n*8,none⟩)] w fun e w'=>e = .returned (.bool (cu s c).2.2)∧w'.heap[gs]?=some (.cells (aC (cu s c).2.1) 151 (0,0)) ∧
  w'.heap[gb]?=some (.cells (bA (bs.set n (.slice (some ⟨gc,0,none⟩) (cu s c).1.length cap,bb)) tl) 47 (0,0))∧Cd w' (.slice (some ⟨gc,0,none⟩) (cu s c).1.length cap) (cu s c).1∧Kp (fun x=>x=gs∨x=gb∨x=gc) w w':=by
 have b0:w.cell? ⟨gb,n*8,none⟩=some (.slice (some ⟨gc,0,none⟩) c.length cap):=(ae hB (n*8+0)).trans (di hp (by omega))
 have hmax:c.length≤9223372036854775807:=by have:=hC.len;have:=hC.max;unfold maxLen at *;omega
 have hcap:cap≤9223372036854775807:=by have:=hC.max;unfold maxLen at *;omega
 have hne:gb≠gs∧gb≠gc∧gc≠gs:=⟨bT hB hS (by decide),bT hB hC.blk (by decide),bT hC.blk hS (by decide)⟩
 have HI:aa (StI w w gs gb gc cap s (bA bs tl) c 0 s [] false):=⟨⟨Kp.refl _ _,hS,hw,hB,by simpa using Fil.of hC,by simp⟩⟩
 have HN:=aa.mk hne
 have HP:=aa.mk hp
 have HK:=aa.mk (And.intro hcode hk)
 have HM:=aa.mk hC.max
 have HHL:=aa.mk (And.intro (ax hS) (And.intro (ax hB) (ax hC.blk)))
 clear hS hB hp hC hw hcode hk hne
 go_enter Try.func128,Try.ntmps128
 go_wp2
 go_loopw [5,6,21] (fun v5 v6 v21 wr=>∃ (k:Nat) (sk:St) (o:List S45) (fnd:Bool),k≤c.length∧v21 = .int .i64 k∧v5 = .bool fnd∧v6 = .slice (some ⟨gc,0,none⟩) o.length cap∧aa (StI w wr gs gb gc cap s (bA bs tl) c k sk o fnd)) (fun _ _ v21 _=>c.length - (intOf v21).toNat)
 case atStart=>exact ⟨0,s,[],false,Nat.zero_le _,rfl,rfl,rfl,HI⟩
 case round=>
  clear HI b0
  obtain ⟨k,sk,o,fnd,hk,rfl,rfl,rfl,HI⟩:=hrel
  by_cases hlt:k<c.length
  · have hd:c.drop k=c[k] :: c.drop (k+1):=List.drop_eq_getElem_cons hlt
    have hmem:c[k]∈c:=List.getElem_mem hlt
    have hst:=List.all_eq_true.1 HK.out.1 _ hmem
    have hrg:=HK.out.2 _ hmem
    generalize c[k]=i at hd hmem hst hrg
    have hF:=HI.out.fil
    rw [hd] at hF
    have x0:wr.cell? ⟨gc,k*4,none⟩=some (.int .u16 i.f0):=(hF.get (q:=0) (by omega)).trans rfl
    have x1:wr.cell? ⟨gc,k*4+1,none⟩=some (.int .u8 i.f1):=(hF.get (q:=1) (by omega)).trans rfl
    have x2:wr.cell? ⟨gc,k*4+2,none⟩=some (.int .u8 i.f2):=(hF.get (q:=2) (by omega)).trans rfl
    have x3:wr.cell? ⟨gc,k*4+3,none⟩=some (.int .u32 i.f3):=(hF.get (q:=3) (by omega)).trans rfl
    have hsz:=ax HI.out.st
    have i0:(0:Int)≤(k:Int):=by omega
    have i1:(k:Int)<(c.length:Int):=by omega
    have HD:=aa.mk hd
    have HST:=aa.mk (And.intro hst hrg)
    have hjk:=oW HI.out.wst hst hrg
    have HJK:=aa.mk hjk
    clear hd hmem hst hrg hF hjk
    go_upto_region 6 with (fail)
    refine forget (fun W=>∃ gi,gi=wr.heap.size∧Below wr.heap.size wr W∧W.heap[gi]?=some (.cells #[.int .u16 i.f0,.int .u8 i.f1,.int .u8 i.f2,.int .u32 i.f3] 45 (0,0))) ⟨_,rfl,ai (Below.refl _ _) _,heap_alloc_new _ _⟩ ?_
    clear x0 x1 x2 x3
    rintro W ⟨gi,egi,hb,hi⟩
    rw [←egi]
    obtain ⟨y0,y1,y2,y3,-,-,-,-⟩:=cz4 ⟨hi⟩
    have HB:=aa.mk hb
    have HIN:=aa.mk hi
    have EG:=aa.mk egi
    clear hb hi egi
    obtain ⟨ob,eob⟩:∃ ob:Bool,ob=iq sk (dn sk i):=⟨_,rfl⟩
    obtain ⟨j,ej⟩:∃ j:S45,j=dn sk i:=⟨_,rfl⟩
    have HSC:=aa.mk (qC W gs sk i (aj HI.out.st HB.out) HI.out.wst HST.out.1 HST.out.2)
    rw [←ej] at HSC HJK eob
    rw [←eob] at HSC
    unfold fD at HSC
    have EJ:=aa.mk ej
    have EO:=aa.mk eob
    clear ej eob
    obtain ⟨j0,j1,j2,j3⟩:=j
    obtain ⟨i0',i1',i2',i3'⟩:=i
    dsimp only at *
    go_upto_region 7 with (go_at_call 159;refine HSC.out.mono ?_;rintro e w5 ⟨rfl,hb5⟩;have HB5:=aa.mk hb5;clear hb5)
    refine forget (fun V=>∃ gj,Below wr.heap.size wr V∧V.heap[gi]?=some (.cells #[.int .u16 i0',.int .u8 i1',.int .u8 i2',.int .u32 i3'] 45 (0,0))∧gj=w5.heap.size∧V.heap[gj]?=some (.cells #[.int .u16 j0,.int .u8 j1,.int .u8 j2,.int .u32 j3] 45 (0,0))) ⟨_,av (av HB.out HB5.out) (ai (Below.refl _ _) _),aT (aj HIN.out HB5.out) _,rfl,heap_alloc_new _ _⟩ ?_
    clear HIN HSC y0 y1 y2 y3
    rintro V ⟨gj,hb,hi,egj,hj⟩
    rw [←egj]
    obtain ⟨y0,y1,y2,y3,-,-,-,-⟩:=cz4 ⟨hi⟩
    obtain ⟨z0,z1,z2,z3,-,-,-,-⟩:=cz4 ⟨hj⟩
    have HIV:=aa.mk (HI.out.below hb)
    have HF:=aa.mk (by have h:=(HI.out.below (av hb (ai (Below.refl _ _) (.cells #[.int .u16 j0,.int .u8 j1,.int .u8 j2,.int .u32 j3] 45)))).fil;rw [HD.out] at h;exact h)
    have HKV:=aa.mk ((Kp.refl (fun x=>x=gs∨x=gc) wr).below (av hb (ai (Below.refl _ _) (.cells #[.int .u16 j0,.int .u8 j1,.int .u8 j2,.int .u32 j3] 45))))
    have HNW:aa (∀ q u,(i4 ⟨j0,j1,j2,j3⟩)[q]?=some u→(V.alloc (.cells #[.int .u16 j0,.int .u8 j1,.int .u8 j2,.int .u32 j3] 45)).cell? ((⟨V.heap.size,0,none⟩:Addr).add q)=some u):=⟨by
     intro q u hu
     rw [Go.WideShapes.add_plain,Nat.zero_add]
     have:=ae (iM V (.cells #[.int .u16 j0,.int .u8 j1,.int .u8 j2,.int .u32 j3] 45)) q
     rw [this,List.getElem?_toArray];exact hu⟩
    have HSV:=aa.mk (aj HI.out.st (av hb (ai (Below.refl _ _) (.cells #[.int .u16 j0,.int .u8 j1,.int .u8 j2,.int .u32 j3] 45))))
    have HAF:aa (∀ w7:World,w7.heap[gs]?=some (.cells (aC sk) 151 (0,0))→Calls Try.prog 160 #[.pointer (some ⟨gs,0,none⟩),.agg #[.int .u16 j0,.int .u8 j1,.int .u8 j2,.int .u32 j3]] w7 fun e w'=>e = .returned (.tuple #[])∧w'.heap[gs]?=some (.cells (aC (dK sk ⟨j0,j1,j2,j3⟩)) 151 (0,0))∧Kp (fun k=>k=gs) w7 w'):=
     ⟨fun w7 h=>sW w7 gs sk ⟨j0,j1,j2,j3⟩ h HI.out.wst.len HJK.out.1 HJK.out.2⟩
    have HGO:aa (ob=false→∀ w7 w8:World,Fil w7 gc cap (k+1) (o++[⟨j0,j1,j2,j3⟩]) (c.drop (k+1))→Kp (fun x=>x=gc) (V.alloc (.cells #[.int .u16 j0,.int .u8 j1,.int .u8 j2,.int .u32 j3] 45)) w7→w8.heap[gs]?=some (.cells (aC (dK sk ⟨j0,j1,j2,j3⟩)) 151 (0,0))→Kp (fun x=>x=gs) w7 w8 →
     ∀ f2:Bool,f2=(fnd||neI ⟨j0,j1,j2,j3⟩ ⟨i0',i1',i2',i3'⟩)→StI w w8 gs gb gc cap s (bA bs tl) c (k+1) (dK sk ⟨j0,j1,j2,j3⟩) (o++[⟨j0,j1,j2,j3⟩]) f2):=⟨by
     intro hob w7 w8 hF7 hk7 hs8 hk8 f2 hf2
     have e1:=EJ.out
     have e2:=EO.out
     rw [hob,e1] at e2
     rw [e1] at hF7 hs8 hf2 ⊢
     have hw2:Wst (dK sk (dn sk ⟨i0',i1',i2',i3'⟩)):=ny HI.out.wst (by rw [←e1];exact HJK.out.2)
     exact str_go HI.out HD.out e2.symm hf2 hw2 ((HKV.out.trans (Kp.mono hk7 (fun x h => .inr h))).trans (Kp.mono hk8 (fun x h => .inl h))) (hF7.kp hk8 (by exact fun e=>HN.out.2.2 e)) hs8 ⟨HN.out.1,HN.out.2.1⟩⟩
    have HGJ:aa (∀ w7:World,Kp (fun x=>x=gc) (V.alloc (.cells #[.int .u16 j0,.int .u8 j1,.int .u8 j2,.int .u32 j3] 45)) w7→w7.cell? ⟨gj,0,none⟩=some (.int .u16 j0)∧w7.cell? ⟨gj,1,none⟩=some (.int .u8 j1)∧w7.cell? ⟨gj,2,none⟩=some (.int .u8 j2)∧w7.cell? ⟨gj,3,none⟩=some (.int .u32 j3)):=⟨by
     intro w7 hk7
     have hq:=(hk7.block gj (by have:=ax hj;rw [World.size_alloc];omega) (by have:=HB5.out.size;have:=HB.out.size;have:=HI.out.fil.lt;omega)).trans (aT hj _)
     exact ⟨(ae hq 0).trans rfl,(ae hq 1).trans rfl,(ae hq 2).trans rfl,(ae hq 3).trans rfl⟩⟩
    have HSK:aa (ob=true→StI w V gs gb gc cap s (bA bs tl) c (k+1) sk o true):=⟨by
     intro hob
     refine HIV.out.skip HD.out ?_
     rw [←EJ.out,←EO.out,hob]⟩
    clear hb hi egj hj HKV HB HB5
    cases ob
    · have HR:fnd=true∨(fnd=false∧(⟨j0,j1,j2,j3⟩:S45)=⟨i0',i1',i2',i3'⟩)∨(fnd=false∧j0≠i0')∨(fnd=false∧j0=i0'∧j1≠i1')∨(fnd=false∧j0=i0'∧j1=i1'∧j2≠i2')∨(fnd=false∧j0=i0'∧j1=i1'∧j2=i2'∧j3≠i3'):=by
       cases fnd
       · by_cases e0:j0=i0'
         · by_cases e1:j1=i1'
           · by_cases e2:j2=i2'
             · by_cases e3:j3=i3'
               · exact .inr (.inl ⟨rfl,by rw [e0,e1,e2,e3]⟩)
               exact .inr (.inr (.inr (.inr (.inr ⟨rfl,e0,e1,e2,e3⟩))))
             exact .inr (.inr (.inr (.inr (.inl ⟨rfl,e0,e1,e2⟩))))
           exact .inr (.inr (.inr (.inl ⟨rfl,e0,e1⟩)))
         exact .inr (.inr (.inl ⟨rfl,e0⟩))
       exact .inl rfl
      have HFN:aa (∃ f2:Bool,f2=(fnd||neI ⟨j0,j1,j2,j3⟩ ⟨i0',i1',i2',i3'⟩)):=⟨_,rfl⟩
      rcases HR with rfl | ⟨rfl,e⟩ | ⟨rfl,e0⟩ | ⟨rfl,rfl,e0⟩ | ⟨rfl,rfl,rfl,e0⟩ | ⟨rfl,rfl,rfl,rfl,e0⟩
      all_goals
       try cases e
       go_wp2_with (first
        | (at_builtin;refine iZ _ rfl (.tmp 42) (.tmp 44) rfl HF.out rfl _ ⟨V.heap.size,0,none⟩ rfl HNW.out ?_;intro w7 hF7 hk7;have HF7:=aa.mk hF7;have HK7:=aa.mk hk7;have HS7:=aa.mk ((hk7.block gs (ax HSV.out) (fun e=>HN.out.2.2 e.symm)).trans HSV.out);obtain ⟨q0,q1,q2,q3⟩:=HGJ.out w7 hk7;clear hF7 hk7)
        | (go_at_call 160;refine (HAF.out w7 HS7.out).mono ?_;rintro e w8 ⟨rfl,hs8,hk8⟩;have HS8:=aa.mk hs8;have HK8:=aa.mk hk8;clear hs8 hk8))
       go_roundw
       case rel=>exact ⟨k+1,_,_,_,by omega,by go_num,rfl,by rw [List.length_append];rfl,⟨HGO.out (by trivial) w7 w8 HF7.out HK7.out HS8.out HK8.out _ (by first | rfl | exact (tV _).symm | exact (wG (.inl e0)).symm | exact (wG (.inr (.inl e0))).symm | exact (wG (.inr (.inr (.inl e0)))).symm | exact (wG (.inr (.inr (.inr e0)))).symm)⟩⟩
       case measure=>simp [intOf];omega
    cases fnd
    all_goals
     go_wp2
     go_roundw
     case rel=>exact ⟨k+1,sk,o,true,by omega,by go_num,rfl,rfl,⟨HSK.out (by trivial)⟩⟩
     case measure=>simp [intOf];omega
  have hkl:k=c.length:=by omega
  subst hkl
  have hf:=HI.out.fil
  have hr:=HI.out.res
  have hrow:=HI.out.row
  rw [List.drop_length] at hr
  have e1:(cu s c).1=o:=by rw [hr];show o++[]=o;simp
  have e2:(cu s c).2.1=sk:=by rw [hr];rfl
  have e3:(cu s c).2.2=fnd:=by rw [hr];show (fnd||false)=fnd;simp
  have HE:=aa.mk (And.intro e1 (And.intro e2 e3))
  have b0:wr.cell? ⟨gb,n*8,none⟩=some (.slice (some ⟨gc,0,none⟩) c.length cap):=(ae hrow (n*8+0)).trans (di HP.out (by omega))
  have z0:wr.frozen? ⟨gb,n*8,none⟩=false:=af hrow (n*8+0)
  have HROW:=aa.mk (bJ (j:=0) hrow HP.out (.slice (some ⟨gc,0,none⟩) o.length cap,bb) (by omega) (.slice (some ⟨gc,0,none⟩) o.length cap) rfl)
  have HKR:aa (Kp (fun x=>x=gs∨x=gb∨x=gc) w (wr.setCell ⟨gb,n*8,none⟩ (.slice (some ⟨gc,0,none⟩) o.length cap))):=⟨(Kp.mono HI.out.kp (fun x h=>by rcases h with h | h;exact .inl h;exact .inr (.inr h))).set (.inl (.inr (.inl rfl))) _ _⟩
  have HDN:=aa.mk (hf.done HM.out)
  have HST:=aa.mk HI.out.st
  clear hf hr hrow e1 e2 e3 HI
  go_wp2
  go_ret
  rw [HE.out.1,HE.out.2.1,HE.out.2.2]
  exact ⟨rfl,df HST.out (fun e=>HN.out.1 e.symm) _,HROW.out,HDN.out.kp ((Kp.refl (fun x=>x=gb) wr).set (.inl rfl) _ _) (by intro g hg e;injection hg with hg;exact HN.out.2.1 (e.symm.trans hg.symm)),HKR.out⟩
theorem sN (w:World) (gs gb n:Nat) (bs:List (Value × S47)) (tl:List Value) (bb:S47) (hB:w.heap[gb]?=some (.cells (bA bs tl) 47 (0,0))) (hp:bs[n]?=some (.slice none 0 0,bb)) :
 Calls Try.prog 128 #[.pointer (some ⟨gs,0,none⟩),.pointer (some ⟨gb,n*8,none⟩)] w fun e w'=>e = .returned (.bool false)∧w'.heap[gb]?=some (.cells (bA bs tl) 47 (0,0))∧Kp (fun x=>x=gb) w w':=by
 have b0:w.cell? ⟨gb,n*8,none⟩=some (.slice none 0 0):=(ae hB (n*8+0)).trans (di hp (by omega))
 have z0:w.frozen? ⟨gb,n*8,none⟩=false:=af hB (n*8+0)
 have HROW:=aa.mk (by have h:=bJ (j:=0) hB hp (.slice none 0 0,bb) (by omega) (.slice none 0 0) rfl;rw [set_self hp] at h;exact h)
 have HKR:=aa.mk ((Kp.refl (fun x=>x=gb) w).set (.inl rfl) (n*8) (.slice none 0 0))
 clear hB hp
 go_enter Try.func128,Try.ntmps128
 go_wp2
 go_loop [5,6,21] (fun v5 v6 v21=>v5 = .bool false∧v6 = .slice none 0 0∧v21 = .int .i64 0) (fun _ _ _=>0)
 case atStart=>exact ⟨rfl,rfl,rfl⟩
 case round=>
  obtain ⟨rfl,rfl,rfl⟩:=hrel
  go_wp2
  go_ret
  exact ⟨rfl,HROW.out,HKR.out⟩
theorem qh (w:World) (gs gb n:Nat) (s:St) (bs:List (Value × S47)) (tl:List Value) (v:Value) (c:List S45) (bb:S47) (hS:w.heap[gs]?=some (.cells (aC s) 151 (0,0))) (hB:w.heap[gb]?=some (.cells (bA bs tl) 47 (0,0)))
 (hp:bs[n]?=some (v,bb)) (hC:Cd w v c) (hw:Wst s) (hcode:fE c=true) (hk:∀ x∈c,Rg x.f3) :
 Calls Try.prog 128 #[.pointer (some ⟨gs,0,none⟩),.pointer (some ⟨gb,n*8,none⟩)] w fun e w'=>e = .returned (.bool (cu s c).2.2)∧w'.heap[gs]?=some (.cells (aC (cu s c).2.1) 151 (0,0)) ∧
  (∃ v',v'.ownBlock=v.ownBlock∧w'.heap[gb]?=some (.cells (bA (bs.set n (v',bb)) tl) 47 (0,0))∧Cd w' v' (cu s c).1)∧Kp (fun x=>x=gs∨x=gb∨some x=v.ownBlock) w w':=by
 rcases hC with ⟨rfl,rfl⟩ | ⟨g,cap,tlc,rfl,hC⟩
 · refine (sN w gs gb n bs tl bb hB hp).mono ?_
   rintro e w' ⟨he,hb,hk⟩
   refine ⟨he,(hk.block gs (ax hS) (fun e=>bT hB hS (by decide) e.symm)).trans hS,⟨_,rfl,by rw [set_self hp];exact hb,.inl ⟨rfl,rfl⟩⟩,Kp.mono hk (fun x h => .inr (.inl h))⟩
 refine (qE w gs gb g cap n s bs tl c tlc bb hS hB hp hC hw hcode hk).mono ?_
 rintro e w' ⟨he,hs,hb,hc,hk⟩
 exact ⟨he,hs,⟨.slice (some ⟨g,0,none⟩) (cu s c).1.length cap,rfl,hb,hc⟩,Kp.mono hk (fun x h=>by rcases h with h | h | h;exact .inl h;exact .inr (.inl h);exact .inr (.inr (by rw [h];rfl)))⟩
def f36 (s:St):List Value:=(List.range 18).flatMap fun i=>jg (gS s i)
theorem gB (s:St):(f36 s).length=36:=by
 unfold f36;rw [qc (K:=2) (fun _=>rfl),List.length_range]
theorem oM (s:St):∀ u∈f36 s,u.oneCell'=true:=by
 intro u hu
 obtain ⟨o,_,h⟩:=List.mem_flatMap.1 hu
 simp only [jg,List.mem_cons,List.not_mem_nil,or_false] at h
 rcases h with rfl | rfl<;>rfl
theorem jN {s:St} (h:s.length=18):aC s=(f36 s).toArray:=by
 unfold aC f36
 congr 1
 have:s=(List.range 18).map (fun i=>gS s i):=by
  apply List.ext_getElem?
  intro i
  rw [List.getElem?_map]
  by_cases hi:i<18
  · rw [List.getElem?_range hi,List.getElem?_eq_getElem (by omega)]
    unfold gS
    rw [Option.map_some,List.getD_eq_getElem?_getD,List.getElem?_eq_getElem (by omega)];rfl
  rw [List.getElem?_eq_none (by omega),List.getElem?_eq_none (by rw [List.length_range];omega)];rfl
 rw [this,List.flatMap_map,←this]
theorem sK {B g:Nat} {W:World} (h:B≤g) (o:Nat) (vs:List Value) (hh:True):Below B W (W.setCells g o vs):=
 let s:=jl g vs o W
 ⟨s.1,s.2.1,s.2.2.1,Nat.le_of_eq s.2.2.2.symm,fun i hi=>iX vs o i (by omega)⟩
theorem tQ {P:Program} {op:Oper} {a:Act} (ty:TypeId) (x:Operand) (ho:op.op = .load ty x) (b o:Nat) (hx:a.eval x = .pointer (some ⟨b,o,none⟩)) (cs:List Value) (d:TypeDesc) {w:World} (hc:w.rangeAt b o cs)
 (hu:P.underlying ty=some d) (hd:d.isRow=true) (hi:(P.info? ty).map (·.size)=some cs.length):(execOp a.eval op).run P w = .ok (.value (.agg cs.toArray)) w:=by
 unfold execOp
 simp only [ho,hx,Instr.loadAt,Instr.sureAddr,Sem.run_bind,Sem.run_pure,Result.andThen_ok,run_loadVar_mid w b o ty cs d hc hu hd hi]
theorem uM {P:Program} {op:Oper} {a:Act} (ty:TypeId) (x y:Operand) (ho:op.op = .store ty x y) (b o:Nat) (cs:List Value) (hx:a.eval x = .pointer (some ⟨b,o,none⟩)) (hy:a.eval y = .agg cs.toArray) {w:World}
 (ht:w.there b o cs.length) (hi:(P.info? ty).map (·.size)=some cs.length) (h1:∀ v∈cs,v.oneCell'=true):(execOp a.eval op).run P w = .ok .skip (w.setCells b o cs):=by
 unfold execOp
 simp only [ho,hx,hy,Instr.storeAt,Instr.sureAddr,Sem.run_bind,Sem.run_pure,Result.andThen_ok,run_storeVar_mid w b o ty cs.toArray (by rw [List.size_toArray];exact ht) (by rw [List.size_toArray];exact hi) (all_oneCell_toArray h1)]
structure Gv (w:World) (gcv gav gcm gat L:Nat) (A:AC):Prop where
 v1:w.heap[gcv]?=some (.cells #[.slice (some ⟨gcm,0,none⟩) L L] 73 (0,0))
 v2:w.heap[gav]?=some (.cells #[.slice (some ⟨gat,0,none⟩) L L] 147 (0,0))
 at_:w.heap[gat]?=some (.cells (A.1.flatMap f36).toArray 151 (0,0))
 come:w.heap[gcm]?=some (.cells (A.2.map Value.bool).toArray 4 (0,0))
 l1:A.1.length=L
 l2:A.2.length=L
theorem Gv.below {w w1:World} {gcv gav gcm gat L:Nat} {A:AC} (h:Gv w gcv gav gcm gat L A) (hb:Below w.heap.size w w1):Gv w1 gcv gav gcm gat L A:=
 ⟨aj h.v1 hb,aj h.v2 hb,aj h.at_ hb,aj h.come hb,h.l1,h.l2⟩
def cellV (w:World) (a:Addr):Value:=(w.cell? a).getD undef
theorem kS {w:World} {a:Addr} {v:Value} (h:w.cell? a=some v):w.cell? a=some (cellV w a):=by unfold cellV;rw [h];rfl
theorem Gv.lt {w:World} {gcv gav gcm gat L:Nat} {A:AC} (h:Gv w gcv gav gcm gat L A):gcv<w.heap.size∧gav<w.heap.size∧gcm<w.heap.size∧gat<w.heap.size:=⟨ax h.v1,ax h.v2,ax h.come,ax h.at_⟩
theorem Gv.ne {w:World} {gcv gav gcm gat L:Nat} {A:AC} (h:Gv w gcv gav gcm gat L A):gat≠gcm∧gat≠gcv∧gat≠gav∧gcm≠gcv∧gcm≠gav:=
 ⟨bT h.at_ h.come (by decide),bT h.at_ h.v1 (by decide),bT h.at_ h.v2 (by decide),bT h.come h.v1 (by decide),bT h.come h.v2 (by decide)⟩
structure Gk (w w1:World) (gcv gav gcm gat L:Nat) (A:AC):Prop where
 g:Gv w1 gcv gav gcm gat L A
 k:Kp (fun x=>x=gat∨x=gcm) w w1
theorem Gk.below {w w1 w2:World} {gcv gav gcm gat L:Nat} {A:AC} (h:Gk w w1 gcv gav gcm gat L A) (hb:Below w1.heap.size w1 w2):Gk w w2 gcv gav gcm gat L A:=⟨h.g.below hb,h.k.below hb⟩
theorem Gk.Bn {w w1:World} {gcv gav gcm gat L k:Nat} {A:AC} (h:Gk w w1 gcv gav gcm gat L A) (hk:k<L) (s:St):Gk w (w1.setCells gat (k*36) (f36 s)) gcv gav gcm gat L (A.1.set k s,A.2):=by
 have hp:=vE gB h.g.at_ (show k<A.1.length by rw [h.g.l1];exact hk) s
 have hn:=h.g.ne
 have hl:=h.g.lt
 exact ⟨⟨(hp.2.block gcv hl.1 (fun e=>hn.2.1 e.symm)).trans h.g.v1,(hp.2.block gav hl.2.1 (fun e=>hn.2.2.1 e.symm)).trans h.g.v2,hp.1,(hp.2.block gcm hl.2.2.1 (fun e=>hn.1 e.symm)).trans h.g.come,by rw [List.length_set];exact h.g.l1,h.g.l2⟩,
  h.k.trans (Kp.mono hp.2 (fun x e => .inl e))⟩
theorem Gk.uW {w w1:World} {gcv gav gcm gat L k:Nat} {A:AC} (h:Gk w w1 gcv gav gcm gat L A) (hk:k<L) (b:Bool):Gk w (w1.setCell ⟨gcm,k,none⟩ (.bool b)) gcv gav gcm gat L (A.1,A.2.set k b):=by
 have hn:=h.g.ne
 exact ⟨⟨df h.g.v1 (fun e=>hn.2.2.2.1 e.symm) _,df h.g.v2 (fun e=>hn.2.2.2.2 e.symm) _,df h.g.at_ hn.1 _,aM h.g.come k _ (by rw [List.setIfInBounds_toArray,←List.map_set]),h.g.l1,by rw [List.length_set];exact h.g.l2⟩,
  h.k.set (.inl (.inr rfl)) _ _⟩
theorem Gv.cm {w:World} {gcv gav gcm gat L:Nat} {A:AC} (h:Gv w gcv gav gcm gat L A) {k:Nat} (hk:k<L):w.cell? ⟨gcm,k,none⟩=some (.bool (A.2.getD k false)):=by
 rw [ae h.come,List.getElem?_toArray,List.getElem?_map,List.getD_eq_getElem?_getD,List.getElem?_eq_getElem (by rw [h.l2];exact hk)];rfl
theorem goes_no (w:World) (gcv gav gcm gat L k:Nat) (A:AC) (s:St) (cs:List Value) (hcs:f36 s=cs) (hl:cs.length=36) (h1:∀ v∈cs,v.oneCell'=true) (hG:Gv w gcv gav gcm gat L A) (hk:k<L) (hc:A.2.getD k false=false) (hL:L≤9223372036854775807) :
 Calls Try.prog 126 #[.int .i64 k,.agg cs.toArray,.pointer (some ⟨gcv,0,none⟩),.pointer (some ⟨gav,0,none⟩)] w fun e w'=>e = .returned (.tuple #[])∧Gv w' gcv gav gcm gat L (A.1.set k s,A.2.set k true)∧Kp (fun x=>x=gat∨x=gcm) w w':=by
 have v1:=dA hG.v1 0
 have ck:=hG.cm hk
 rw [hc] at ck
 have i0:(0:Int)≤(k:Int):=by omega
 have i1:(k:Int)<(L:Int):=by omega
 have hz:=ax hG.v1
 have hz2:=ax hG.come
 have HG:=aa.mk hG
 have HCS:=aa.mk hcs
 clear hG hc hcs
 go_enter Try.func126,Try.ntmps126
 go_upto_region 3 with (fail)
 refine forget (fun W=>∃ g5,g5=w.heap.size∧Below w.heap.size w W∧W.heap[g5]?=some (.cells cs.toArray 151 (0,0))) ⟨_,rfl,ai (Below.refl _ _) _,heap_alloc_new _ _⟩ ?_
 clear v1 ck hz hz2
 rintro W ⟨g5,eg5,hb,h5⟩
 rw [←eg5]
 have HGW:=aa.mk (HG.out.below hb)
 have HG5:=aa.mk h5
 have HNE:aa (g5≠gat∧g5≠gcm):=⟨by have:=HG.out.lt;omega⟩
 have HB:=aa.mk hb
 clear hb h5 eg5
 have HS3:aa (∀ w' A',Gk W w' gcv gav gcm gat L A'→w'.cell? ⟨gav,0,none⟩=some (.slice (some ⟨gat,0,none⟩) L L)∧w'.cell? ⟨gcv,0,none⟩=some (.slice (some ⟨gcm,0,none⟩) L L)∧w'.rangeAt g5 0 cs∧w'.there gat (k*36) 36∧w'.cell? ⟨gcm,k,none⟩=some (cellV w' ⟨gcm,k,none⟩)∧w'.frozen? ⟨gcm,k,none⟩=false):=⟨by
  intro w' A' h
  refine ⟨(ae h.g.v2 0).trans rfl,(ae h.g.v1 0).trans rfl,?_,mY gB h.g.at_ (by rw [h.g.l1];exact hk),kS (h.g.cm hk),af h.g.come k⟩
  have h5:=(h.k.block g5 (ax HG5.out) (by rintro (e | e);exact HNE.out.1 e;exact HNE.out.2 e)).trans HG5.out
  have h6:=World.rangeAt_of_block h5 0 36
  rw [Array.toList_extract,List.extract_eq_take_drop,List.drop_zero,List.take_of_length_le (by show cs.length≤_;rw [hl];exact Nat.le_refl _)] at h6
  exact h6⟩
 have HK0:=aa.mk (Gk.below (Gk.mk HGW.out (Kp.refl _ W)) (ak (Below.refl _ _)))
 have HK1:=aa.mk (by have h:=HK0.out.Bn hk (s);rw [HCS.out] at h;exact h)
 have HK2:=aa.mk (HK1.out.uW hk true)
 obtain ⟨e1,e2,e3,e4,e5,e6⟩:=HS3.out W _ ⟨HGW.out,Kp.refl _ W⟩
 have hu:=Try.underlying151
 have hi:(Try.prog.info? 151).map (·.size)=some cs.length:=by rw [hl];exact dP
 go_region_held3 (fun w'=>w'.cell? ⟨gav,0,none⟩=some (.slice (some ⟨gat,0,none⟩) L L)∧w'.cell? ⟨gcv,0,none⟩=some (.slice (some ⟨gcm,0,none⟩) L L)∧w'.rangeAt g5 0 cs∧w'.there gat (k*36) 36∧w'.cell? ⟨gcm,k,none⟩=some (cellV w' ⟨gcm,k,none⟩)∧w'.frozen? ⟨gcm,k,none⟩=false)
  (first
    | exact HS3.out _ _ HK0.out
    | exact HS3.out _ _ HK1.out
    | exact HS3.out _ _ HK2.out)
  (fail)
 go_end0
 exact ⟨rfl,HK2.out.g,((Kp.refl _ w).below HB.out).trans HK2.out.k⟩
theorem zA (w:World) (gcv gav gcm gat L k:Nat) (A:AC) (s t:St) (cs ct cm:List Value) (hcs:f36 s=cs) (hct:f36 t=ct) (hcm:f36 (lg s t)=cm) (hs:s.length=18) (ht:t.length=18) (hA:A.1[k]?=some t) (hl:cs.length=36) (hlt:ct.length=36) (hlm:cm.length=36) (h1:∀ v∈cs,v.oneCell'=true) (h1m:∀ v∈cm,v.oneCell'=true)
 (hG:Gv w gcv gav gcm gat L A) (hk:k<L) (hc:A.2.getD k false=true) (hL:L≤9223372036854775807) :
 Calls Try.prog 126 #[.int .i64 k,.agg cs.toArray,.pointer (some ⟨gcv,0,none⟩),.pointer (some ⟨gav,0,none⟩)] w fun e w'=>e = .returned (.tuple #[])∧Gv w' gcv gav gcm gat L (A.1.set k (lg s t),A.2.set k true)∧Kp (fun x=>x=gat∨x=gcm) w w':=by
 have v1:=dA hG.v1 0
 have ck:=hG.cm hk
 rw [hc] at ck
 have i0:(0:Int)≤(k:Int):=by omega
 have i1:(k:Int)<(L:Int):=by omega
 have hz:=ax hG.v1
 have hz2:=ax hG.come
 have HG:=aa.mk hG
 have HMT:aa (∀ W:World,Calls Try.prog 127 #[.agg cs.toArray,.agg ct.toArray] W fun e w'=>e = .returned (.agg cm.toArray)∧Below W.heap.size W w'):=⟨fun W=>by
  have h:=uP W s t hs ht
  rw [jN hs,jN ht,jN (jK hs ht),hcs,hct,hcm] at h
  exact h⟩
 have HAT:aa (A.1[k]?=some t∧f36 t=ct):=⟨hA,hct⟩
 have HCS:=aa.mk hcm
 clear hG hc hcs hct hcm hs ht hA
 go_enter Try.func126,Try.ntmps126
 go_upto_region 2 with (fail)
 refine forget (fun W=>∃ g5,g5=w.heap.size∧Below w.heap.size w W∧W.heap[g5]?=some (.cells cs.toArray 151 (0,0))) ⟨_,rfl,ai (Below.refl _ _) _,heap_alloc_new _ _⟩ ?_
 clear v1 ck hz hz2
 rintro W0 ⟨g5,eg5,hb,h5⟩
 rw [←eg5]
 have HG0:=aa.mk (HG.out.below hb)
 have HG5:=aa.mk h5
 have HNE:aa (g5≠gat∧g5≠gcm):=⟨by have:=HG.out.lt;omega⟩
 have HB:=aa.mk hb
 have EG:=aa.mk eg5
 clear hb h5 eg5
 have hu:=Try.underlying151
 have hi:(Try.prog.info? 151).map (·.size)=some cs.length:=by rw [hl];exact dP
 have hit:(Try.prog.info? 151).map (·.size)=some ct.length:=by rw [hlt];exact dP
 have HQ:aa (∀ w3,Below W0.drew.heap.size W0.drew w3→w3.rangeAt g5 0 cs∧w3.cell? ⟨gav,0,none⟩=some (.slice (some ⟨gat,0,none⟩) L L)∧w3.rangeAt gat (k*36) ct∧w3.there g5 0 36):=⟨by
  intro w3 h3
  have hb3:Below W0.heap.size W0 w3:=av (ak (Below.refl _ _)) h3
  have h5:=aj HG5.out hb3
  have hg:=HG0.out.below hb3
  refine ⟨?_,(ae hg.v2 0).trans rfl,?_,qK h5 (by rw [List.size_toArray,hl];omega)⟩
  · have h6:=World.rangeAt_of_block h5 0 36
    rw [Array.toList_extract,List.extract_eq_take_drop,List.drop_zero,List.take_of_length_le (by show cs.length≤_;rw [hl];exact Nat.le_refl _)] at h6
    exact h6
  have h:=qd gB hg.at_ HAT.out.1
  rw [HAT.out.2] at h
  exact h⟩
 obtain ⟨q1,q2,q3,q4⟩:=HQ.out W0.drew (Below.refl _ _)
 refine eD 7 (fun w'=>w'.rangeAt g5 0 cs∧w'.cell? ⟨gav,0,none⟩=some (.slice (some ⟨gat,0,none⟩) L L)∧w'.rangeAt gat (k*36) ct∧w'.there g5 0 36) [6] ⟨q1,q2,q3,q4⟩ (fun hHeld=>?_)
 refine aH 2 12 ?_
 refine Cn (i:=0) (N:=some 10) (v:=?_) (a':=?_) #[true,false,true,false,false,false,false] rfl rfl (by kernel_rfl) (fun _ _ _ h=>h) (Or.inl ⟨by rfl,?_⟩) hHeld ?_ ?_
 rotate_left
 · rintro w' ⟨s0,s1,s2,s3⟩
   exact (by refine tQ _ ?_ ?_ g5 0 ?_ cs _ s0 hu rfl hi;rotate_left;rfl;rfl)
 rotate_left
 · simp only [Act.put,List.setIfInBounds_toArray,List.set_cons_zero,List.set_cons_succ,dD,dE]
   rfl
 refine dC 1 11 hHeld ?_
 refine aH 3 13 ?_
 refine Cn (i:=4) (N:=some 14) (v:=?_) (a':=?_) #[true,true,true,true,true,false,false] rfl rfl (by kernel_rfl) (fun _ _ _ h=>h) (Or.inl ⟨by rfl,?_⟩) hHeld ?_ ?_
 rotate_left
 · rintro w' ⟨s0,s1,s2,s3⟩
   exact (by refine tQ _ ?_ ?_ gat (k*36) ?_ ct _ s2 hu rfl hit;rotate_left;rfl;rfl)
 rotate_left
 · simp only [Act.put,List.setIfInBounds_toArray,List.set_cons_zero,List.set_cons_succ,dD,dE]
   rfl
 refine iG 5 (some 15) (fun K hK=>?_)
 refine gX Try.func127 #[.agg cs.toArray,.agg ct.toArray] ?_
 with_reducible refine (HMT.out _).mono ?_
 rintro e w3 ⟨rfl,hk3⟩
 refine ⟨_,rfl,?_⟩
 refine hK.out _ _ (HQ.out _ hk3) (fun hHeld=>?_)
 clear hK K
 refine eZ 15 ?_
 refine fM 6 none (fun K hK=>?_)
 refine skip_ (w1:=World.setCells w3 g5 0 cm) (by rfl) rfl ?_ ?_
 · (refine uM _ ?_ ?_ ?_ g5 0 cm ?_ ?_ (by rw [hlm];exact (HQ.out _ hk3).2.2.2) (by rw [hlm];exact dP) h1m;rotate_left 2;rfl;rfl;rfl)
 refine hK.out _ _ ?_
 clear hK K
 refine iA (by kernel_rfl) ?_
 go_upto_region 3 with (fail)
 refine forget (fun W=>Below w.heap.size w W∧W.heap[g5]?=some (.cells cm.toArray 151 (0,0))) ⟨(av HB.out (av (ak (Below.refl _ _)) hk3)).trans (sK (g:=g5) (by have:=EG.out;omega) _ _ trivial),?_⟩ ?_
 · have h5:=aj (aj HG5.out (ak (Below.refl _ _))) hk3
   have hp:=vE (f:=fun l:List Value=>if l.length=36 then l else List.replicate 36 undef) (K:=36) (fun l=>by split;assumption;exact List.length_replicate) (L:=[cs]) (n:=0) (b:=g5) (w:=w3) (T:=151) (by simp only [List.flatMap_cons,List.flatMap_nil,List.append_nil,hl,if_true];exact h5) (Nat.zero_lt_one) cm
   simp only [hlm,if_true,Nat.zero_mul,List.set_cons_zero,List.flatMap_cons,List.flatMap_nil,List.append_nil] at hp
   exact hp.1
 clear q1 q2 q3 q4 HQ hu hi hit hk3 hl h1 hlt HG5 HB HG0
 rintro W ⟨hb,h5⟩
 have HGW:=aa.mk (HG.out.below hb)
 have HG5:=aa.mk h5
 have HB:=aa.mk hb
 clear hb h5
 have HS3:aa (∀ w' A',Gk W w' gcv gav gcm gat L A'→w'.cell? ⟨gav,0,none⟩=some (.slice (some ⟨gat,0,none⟩) L L)∧w'.cell? ⟨gcv,0,none⟩=some (.slice (some ⟨gcm,0,none⟩) L L)∧w'.rangeAt g5 0 cm∧w'.there gat (k*36) 36∧w'.cell? ⟨gcm,k,none⟩=some (cellV w' ⟨gcm,k,none⟩)∧w'.frozen? ⟨gcm,k,none⟩=false):=⟨by
  intro w' A' h
  refine ⟨(ae h.g.v2 0).trans rfl,(ae h.g.v1 0).trans rfl,?_,mY gB h.g.at_ (by rw [h.g.l1];exact hk),kS (h.g.cm hk),af h.g.come k⟩
  have h5:=(h.k.block g5 (ax HG5.out) (by rintro (e | e);exact HNE.out.1 e;exact HNE.out.2 e)).trans HG5.out
  have h6:=World.rangeAt_of_block h5 0 36
  rw [Array.toList_extract,List.extract_eq_take_drop,List.drop_zero,List.take_of_length_le (by show cm.length≤_;rw [hlm];exact Nat.le_refl _)] at h6
  exact h6⟩
 have HK0:=aa.mk (Gk.below (Gk.mk HGW.out (Kp.refl _ W)) (ak (Below.refl _ _)))
 have HK1:=aa.mk (by have h:=HK0.out.Bn hk (lg s t);rw [HCS.out] at h;exact h)
 have HK2:=aa.mk (HK1.out.uW hk true)
 obtain ⟨e1,e2,e3,e4,e5,e6⟩:=HS3.out W _ ⟨HGW.out,Kp.refl _ W⟩
 have hu:=Try.underlying151
 have hi:(Try.prog.info? 151).map (·.size)=some cm.length:=by rw [hlm];exact dP
 go_region_held3 (fun w'=>w'.cell? ⟨gav,0,none⟩=some (.slice (some ⟨gat,0,none⟩) L L)∧w'.cell? ⟨gcv,0,none⟩=some (.slice (some ⟨gcm,0,none⟩) L L)∧w'.rangeAt g5 0 cm∧w'.there gat (k*36) 36∧w'.cell? ⟨gcm,k,none⟩=some (cellV w' ⟨gcm,k,none⟩)∧w'.frozen? ⟨gcm,k,none⟩=false)
  (first
    | exact HS3.out _ _ HK0.out
    | exact HS3.out _ _ HK1.out
    | exact HS3.out _ _ HK2.out)
  (fail)
 go_end0
 exact ⟨rfl,HK2.out.g,((Kp.refl _ w).below HB.out).trans HK2.out.k⟩
theorem uA (w:World) (gcv gav gcm gat L k:Nat) (A:AC) (s:St) (hs:s.length=18) (hA:AOk A L) (hG:Gv w gcv gav gcm gat L A) (hk:k<L) (hL:L≤9223372036854775807) :
 Calls Try.prog 126 #[.int .i64 k,.agg (aC s),.pointer (some ⟨gcv,0,none⟩),.pointer (some ⟨gav,0,none⟩)] w fun e w'=>e = .returned (.tuple #[])∧Gv w' gcv gav gcm gat L (kU A k s)∧Kp (fun x=>x=gat∨x=gcm) w w':=by
 rw [jN hs]
 unfold kU
 cases hc:A.2.getD k false with
 | false=>
  rw [if_neg (by decide)]
  exact goes_no w gcv gav gcm gat L k A s _ rfl (gB _) (oM _) hG hk hc hL
 | true=>
  rw [if_pos rfl]
  have hl:=(hA.wst k hc).len
  have hAk:A.1[k]?=some (A.1.getD k []):=by rw [List.getD_eq_getElem?_getD,List.getElem?_eq_getElem (by rw [hA.at_];exact hk)];rfl
  exact zA w gcv gav gcm gat L k A s (A.1.getD k []) _ _ _ rfl rfl rfl hs hl hAk (gB _) (gB _) (gB _) (oM _) (oM _) hG hk hc hL
structure Wr8 (w:World) (B gb cap:Nat) (bs:List (Value × S47)) (tl:List Value):Prop where
 row:w.heap[gb]?=some (.cells (bA bs tl) 47 (0,0))
 size:(bs.flatMap b8++tl).length=cap*8
 le:bs.length≤cap
 max:cap≤maxLen
 code:∀ (n:Nat) (p:Value × S47),bs[n]?=some p→Cd w p.1 p.2.f0
 sep:∀ (n m:Nat) (p q:Value × S47),n≠m→bs[n]?=some p→bs[m]?=some q→∀ g,p.1.ownBlock=some g→q.1.ownBlock≠some g
 lo:B≤gb∧∀ p:Value × S47,p∈bs→∀ g,p.1.ownBlock=some g→B≤g
def psC:Array Value:=#[.func (.func 83) #[] #[],.func (.func 84) #[] #[],.func (.func 85) #[] #[],.func (.func 86) #[] #[],.func (.func 87) #[] #[],.func (.func 88) #[] #[]]
structure Bs where
 n:Nat
 p:Nat
structure Wk (w:World) (B:Bs) (gw gb cap:Nat) (bs:List (Value × S47)) (tl:List Value):Prop where
 me:w.heap[gw]?=some (.cells #[.slice (some ⟨gb,0,none⟩) bs.length cap] 83 (0,0))
 row:Wr8 w B.n gb cap bs tl
 lo:B.n≤gw
 ps:w.heap[B.p]?=some (.cells psC 86 (0,0))
section
variable {w w1:World} {B:Bs} {gw gb cap:Nat} {bs:List (Value × S47)} {tl:List Value}
theorem Wr8.below {B:Nat} (h:Wr8 w B gb cap bs tl) (hb:Below w.heap.size w w1):Wr8 w1 B gb cap bs tl:=
 ⟨aj h.row hb,h.size,h.le,h.max,fun n p hp=>(h.code n p hp).below hb,h.sep,h.lo⟩
theorem Wk.below (h:Wk w B gw gb cap bs tl) (hb:Below w.heap.size w w1):Wk w1 B gw gb cap bs tl:=⟨aj h.me hb,h.row.below hb,h.lo,aj h.ps hb⟩
theorem Wk.kp {S:Nat→Prop} (h:Wk w B gw gb cap bs tl) (k:Kp S w w1) (hS:∀ x,S x→∃ cs T fr,w.heap[x]?=some (.cells cs T fr)∧T≠83∧T≠47∧T≠45∧T≠86):Wk w1 B gw gb cap bs tl:=by
 have hn:∀ (x:Nat) (cs:Array Value) (T:TypeId),w.heap[x]?=some (.cells cs T (0,0))→(T=83∨T=47∨T=45∨T=86)→¬S x:=by
  intro x cs T hx hT hs
  obtain ⟨cs',T',fr,h1,h2,h3,h4,h5⟩:=hS x hs
  rw [hx] at h1
  injection h1 with h1
  injection h1 with _ h1
  subst h1
  rcases hT with e | e | e | e
  · exact h2 e
  · exact h3 e
  · exact h4 e
  exact h5 e
 refine ⟨(k.block gw (ax h.me) (hn _ _ _ h.me (.inl rfl))).trans h.me,⟨(k.block gb (ax h.row.row) (hn _ _ _ h.row.row (.inr (.inl rfl)))).trans h.row.row,h.row.size,h.row.le,h.row.max,?_,h.row.sep,h.row.lo⟩,h.lo,(k.block B.p (ax h.ps) (hn _ _ _ h.ps (.inr (.inr (.inr rfl))))).trans h.ps⟩
 intro n p hp
 refine (h.row.code n p hp).kp k (fun g hg=>?_)
 obtain ⟨cs,hc⟩:=(h.row.code n p hp).lt hg
 exact hn g cs _ hc (.inr (.inr (.inl rfl)))
theorem Wk.step {S:Nat→Prop} {n:Nat} {p q:Value × S47} (h:Wk w B gw gb cap bs tl) (hp:bs[n]?=some p) (k:Kp S w w1)
 (hS:∀ x,S x→x=gb∨some x=p.1.ownBlock∨∃ cs T fr,w.heap[x]?=some (.cells cs T fr)∧T≠83∧T≠47∧T≠45∧T≠86)
 (hr:w1.heap[gb]?=some (.cells (bA (bs.set n q) tl) 47 (0,0))) (hc:Cd w1 q.1 q.2.f0) (hq:∀ g,q.1.ownBlock=some g→p.1.ownBlock=some g∨w.heap.size≤g):Wk w1 B gw gb cap (bs.set n q) tl:=by
 have hne:gw≠gb:=bT h.me h.row.row (by decide)
 have hgw:¬S gw:=by
  intro hs
  rcases hS gw hs with e | e | ⟨cs,T,fr,h1,h2,_⟩
  · exact hne e
  · obtain ⟨cs,hc⟩:=(h.row.code n p hp).lt e.symm
    exact bT h.me hc (by decide) rfl
  rw [h.me] at h1;injection h1 with h1;injection h1 with _ h1;exact h2 h1.symm
 have hps:¬S B.p:=by
  intro hs
  rcases hS _ hs with e | e | ⟨cs,T,fr,h1,_,_,_,h5⟩
  · exact bT h.ps h.row.row (by decide) e
  · obtain ⟨cs,hc⟩:=(h.row.code n p hp).lt e.symm
    exact bT h.ps hc (by decide) rfl
  rw [h.ps] at h1;injection h1 with h1;injection h1 with _ h1;exact h5 h1.symm
 have hlo:=h.row.lo.1
 have hlt:=ax h.row.row
 refine ⟨by rw [List.length_set];exact (k.block gw (ax h.me) hgw).trans h.me,⟨hr,?_,by rw [List.length_set];exact h.row.le,h.row.max,?_,?_,h.row.lo.1,?_⟩,h.lo,(k.block B.p (ax h.ps) hps).trans h.ps⟩
 · have:=h.row.size
   rw [List.length_append,sG] at this ⊢
   rw [List.length_set];exact this
 · intro m r hm
   by_cases e:n=m
   · subst e
     rw [aN hp] at hm
     cases hm
     exact hc
   rw [List.getElem?_set_ne e] at hm
   refine (h.row.code m r hm).kp k (fun g hg hs=>?_)
   obtain ⟨cs',hc'⟩:=(h.row.code m r hm).lt hg
   rcases hS g hs with e2 | e2 | ⟨cs,T,fr,h1,_,_,h4,_⟩
   · subst e2;exact bT h.row.row hc' (by decide) rfl
   · exact h.row.sep n m p r e hp hm g e2.symm hg
   rw [hc'] at h1;injection h1 with h1;injection h1 with _ h1;exact h4 h1.symm
 · intro i j a b hij ha hb g hg hg2
   by_cases e:n=i
   · subst e
     rw [aN hp] at ha
     cases ha
     rw [List.getElem?_set_ne hij] at hb
     obtain ⟨cs',hc'⟩:=(h.row.code j b hb).lt hg2
     rcases hq g hg with h1 | h1
     · exact h.row.sep n j p b hij hp hb g h1 hg2
     have:=ax hc';omega
   rw [List.getElem?_set_ne e] at ha
   obtain ⟨cs',hc'⟩:=(h.row.code i a ha).lt hg
   by_cases e2:n=j
   · subst e2
     rw [aN hp] at hb
     cases hb
     rcases hq g hg2 with h1 | h1
     · exact h.row.sep n i p a e hp ha g h1 hg
     have:=ax hc';omega
   rw [List.getElem?_set_ne e2] at hb
   exact h.row.sep i j a b hij ha hb g hg hg2
 intro r hm g hg
 rcases List.mem_or_eq_of_mem_set hm with h1 | h1
 · exact h.row.lo.2 r h1 g hg
 subst h1
 rcases hq g hg with h1 | h1
 · exact h.row.lo.2 p (List.mem_of_getElem? hp) g h1
 omega
end
end Go.Proofs.Ytdkalnkplgfgoaa.Ln
