/- Lemmas and walks for the statements of the texts ZEZ..: the declarations that they need, taken together by a program of this session. Conditions: as each says. -/
import Derived.Test.YtdkalnkplgfgoaaZEa
import Derived.Test.YtdkalnkplgfgoaaZEb
import Derived.Test.YtdkalnkplgfgoaaZEc
set_option maxHeartbeats 8000000
set_option maxRecDepth 100000
set_option linter.unusedVariables false
set_option linter.unusedSimpArgs false
namespace Go.Proofs.Ytdkalnkplgfgoaa.Ln
open Go.RowKit Go.Maps Go.Proofs.YtdkalnkplgfgoaaW.PrintWords Go.Proofs.YtdkalnkplgfgoaaW.PrintLast Go.Proofs.YtdkalnkplgfgoaaW.PrintMore Go.Proofs.Ytdkalnkplgfgoaa.PA
structure bH where
 a:Int
 x:Int
 m:List Int
def dh (M:bH):Array Value:=(.int .u32 M.a :: .int .u32 M.x :: M.m.map (fun v=>Value.int .u32 v)).toArray
theorem kX (M:bH):(dh M)[0]?=some (.int .u32 M.a):=rfl
theorem kY (M:bH):(dh M)[1]?=some (.int .u32 M.x):=rfl
theorem mc_m (M:bH) (j:Nat) (h:j<M.m.length):(dh M)[2+j]?=some (.int .u32 (M.m.getD j 0)):=by
 unfold dh
 rw [List.getElem?_toArray,Nat.add_comm 2 j,List.getElem?_cons_succ,List.getElem?_cons_succ,List.getElem?_map,List.getD_eq_getElem?_getD,List.getElem?_eq_getElem h]
 rfl
theorem jJ (M:bH) (v:Int):(dh M).setIfInBounds 0 (.int .u32 v)=dh {M with a:=v}:=by
 unfold dh;rw [List.setIfInBounds_toArray];rfl
theorem lQ (M:bH) (v:Int):(dh M).setIfInBounds 1 (.int .u32 v)=dh {M with x:=v}:=by
 unfold dh;rw [List.setIfInBounds_toArray];rfl
theorem wF (M:bH) (j:Nat) (v:Int):(dh M).setIfInBounds (2+j) (.int .u32 v)=dh {M with m:=M.m.set j v}:=by
 unfold dh;rw [List.setIfInBounds_toArray,Nat.add_comm 2 j,List.set_cons_succ,List.set_cons_succ,←List.map_set]
def rdP (p:List Int) (at_ size:Int):Int × Int:=(cZ.f 10 p at_ size).getD (0,0)
def szP (c:Int):Int:=(bU.f 10 c).getD 0
def opP (c a b:Int):Int × Int:=(bX.f c a b).getD (0,0)
def byX (c:Int):Bool:=(bI.f 10 c).getD false
def ix (k:Int):Nat:=(Go.bits .and .u32 k 15).toNat
def bY (i:S45) (p:List Int) (M:bH):bH × Int:=
 let c:=i.f0
 if c=0 then ({M with a:=i.f3},0)
 else if c=32∨c=40∨c=48 then ({M with a:=(rdP p (IntKind.u64.wrap i.f3) (szP c)).1},(rdP p (IntKind.u64.wrap i.f3) (szP c)).2)
 else if c=64∨c=72∨c=80 then ({M with a:=(rdP p (IntKind.u64.wrap (IntKind.u64.wrap i.f3+IntKind.u64.wrap M.x)) (szP c)).1},(rdP p (IntKind.u64.wrap (IntKind.u64.wrap i.f3+IntKind.u64.wrap M.x)) (szP c)).2)
 else if c=96 then ({M with a:=M.m.getD (ix i.f3) 0},0)
 else if c=128 then ({M with a:=IntKind.u32.wrap (p.length:Int)},0)
 else if c=1 then ({M with x:=i.f3},0)
 else if c=97 then ({M with x:=M.m.getD (ix i.f3) 0},0)
 else if c=129 then ({M with x:=IntKind.u32.wrap (p.length:Int)},0)
 else if c=177 then ({M with x:=IntKind.u32.wrap (4*Go.bits .and .u32 (rdP p (IntKind.u64.wrap i.f3) 1).1 15)},(rdP p (IntKind.u64.wrap i.f3) 1).2)
 else if c=2 then ({M with m:=M.m.set (ix i.f3) M.a},0)
 else if c=3 then ({M with m:=M.m.set (ix i.f3) M.x},0)
 else if c=132 then ({M with a:=IntKind.u32.wrap (-M.a)},0)
 else if c=7 then ({M with x:=M.a},0)
 else if c=135 then ({M with a:=M.x},0)
 else ({M with a:=(opP c M.a (if byX c then M.x else i.f3)).1},(opP c M.a (if byX c then M.x else i.f3)).2)
theorem step_0 (w:World) (gm:Nat) (M:bH) (i1 i2 k:Int) (p:List Int) (A:Option Addr) (c:Nat) (hM:w.heap[gm]?=some (.cells (dh M) 97 (0,0))) (hl:M.m.length=16) :
 Calls Try.prog 63 #[.pointer (some ⟨gm,0,none⟩),.agg #[.int .u16 0,.int .u8 i1,.int .u8 i2,.int .u32 k],.slice A p.length c] w fun e w'=>e = .returned (.int .i64 0)∧w'.heap[gm]?=some (.cells (dh {M with a:=k}) 97 (0,0))∧Kp (fun k=>k=gm) w w':=by
 have ca:=(ae hM 0).trans (kX M)
 have fa:=af hM 0
 have cx:=(ae hM 1).trans (kY M)
 have fx:=af hM 1
 have hlt:=ax hM
 have HM:=aa.mk hM
 clear hM
 go_enter Try.func63,Try.ntmps63
 go_wp2
 go_ret
 exact ⟨rfl,aj (aM HM.out 0 _ (jJ M _)) (ai (Below.refl _ _) _),(Kp.set (S:=fun k=>k=gm) (g:=gm) (Kp.refl _ w) (.inl rfl) _ _).below (ai (Below.refl _ _) _)⟩
theorem step_1 (w:World) (gm:Nat) (M:bH) (i1 i2 k:Int) (p:List Int) (A:Option Addr) (c:Nat) (hM:w.heap[gm]?=some (.cells (dh M) 97 (0,0))) (hl:M.m.length=16) :
 Calls Try.prog 63 #[.pointer (some ⟨gm,0,none⟩),.agg #[.int .u16 1,.int .u8 i1,.int .u8 i2,.int .u32 k],.slice A p.length c] w fun e w'=>e = .returned (.int .i64 0)∧w'.heap[gm]?=some (.cells (dh {M with x:=k}) 97 (0,0))∧Kp (fun k=>k=gm) w w':=by
 have ca:=(ae hM 0).trans (kX M)
 have fa:=af hM 0
 have cx:=(ae hM 1).trans (kY M)
 have fx:=af hM 1
 have hlt:=ax hM
 have HM:=aa.mk hM
 clear hM
 go_enter Try.func63,Try.ntmps63
 go_wp2
 go_ret
 exact ⟨rfl,aj (aM HM.out 1 _ (lQ M _)) (ai (Below.refl _ _) _),(Kp.set (S:=fun k=>k=gm) (g:=gm) (Kp.refl _ w) (.inl rfl) _ _).below (ai (Below.refl _ _) _)⟩
theorem step_7 (w:World) (gm:Nat) (M:bH) (i1 i2 k:Int) (p:List Int) (A:Option Addr) (c:Nat) (hM:w.heap[gm]?=some (.cells (dh M) 97 (0,0))) (hl:M.m.length=16) :
 Calls Try.prog 63 #[.pointer (some ⟨gm,0,none⟩),.agg #[.int .u16 7,.int .u8 i1,.int .u8 i2,.int .u32 k],.slice A p.length c] w fun e w'=>e = .returned (.int .i64 0)∧w'.heap[gm]?=some (.cells (dh {M with x:=M.a}) 97 (0,0))∧Kp (fun k=>k=gm) w w':=by
 have ca:=(ae hM 0).trans (kX M)
 have fa:=af hM 0
 have cx:=(ae hM 1).trans (kY M)
 have fx:=af hM 1
 have hlt:=ax hM
 have HM:=aa.mk hM
 clear hM
 go_enter Try.func63,Try.ntmps63
 go_wp2
 go_ret
 exact ⟨rfl,aj (aM HM.out 1 _ (lQ M _)) (ai (Below.refl _ _) _),(Kp.set (S:=fun k=>k=gm) (g:=gm) (Kp.refl _ w) (.inl rfl) _ _).below (ai (Below.refl _ _) _)⟩
theorem Cb (w:World) (gm:Nat) (M:bH) (i1 i2 k:Int) (p:List Int) (A:Option Addr) (c:Nat) (hM:w.heap[gm]?=some (.cells (dh M) 97 (0,0))) (hl:M.m.length=16) :
 Calls Try.prog 63 #[.pointer (some ⟨gm,0,none⟩),.agg #[.int .u16 135,.int .u8 i1,.int .u8 i2,.int .u32 k],.slice A p.length c] w fun e w'=>e = .returned (.int .i64 0)∧w'.heap[gm]?=some (.cells (dh {M with a:=M.x}) 97 (0,0))∧Kp (fun k=>k=gm) w w':=by
 have ca:=(ae hM 0).trans (kX M)
 have fa:=af hM 0
 have cx:=(ae hM 1).trans (kY M)
 have fx:=af hM 1
 have hlt:=ax hM
 have HM:=aa.mk hM
 clear hM
 go_enter Try.func63,Try.ntmps63
 go_wp2
 go_ret
 exact ⟨rfl,aj (aM HM.out 0 _ (jJ M _)) (ai (Below.refl _ _) _),(Kp.set (S:=fun k=>k=gm) (g:=gm) (Kp.refl _ w) (.inl rfl) _ _).below (ai (Below.refl _ _) _)⟩
theorem Ca (w:World) (gm:Nat) (M:bH) (i1 i2 k:Int) (p:List Int) (A:Option Addr) (c:Nat) (hM:w.heap[gm]?=some (.cells (dh M) 97 (0,0))) (hl:M.m.length=16) :
 Calls Try.prog 63 #[.pointer (some ⟨gm,0,none⟩),.agg #[.int .u16 132,.int .u8 i1,.int .u8 i2,.int .u32 k],.slice A p.length c] w fun e w'=>e = .returned (.int .i64 0)∧w'.heap[gm]?=some (.cells (dh {M with a:=IntKind.u32.wrap (-M.a)}) 97 (0,0))∧Kp (fun k=>k=gm) w w':=by
 have ca:=(ae hM 0).trans (kX M)
 have fa:=af hM 0
 have cx:=(ae hM 1).trans (kY M)
 have fx:=af hM 1
 have hlt:=ax hM
 have HM:=aa.mk hM
 clear hM
 go_enter Try.func63,Try.ntmps63
 go_wp2
 go_ret
 exact ⟨rfl,aj (aM HM.out 0 _ (jJ M _)) (ai (Below.refl _ _) _),(Kp.set (S:=fun k=>k=gm) (g:=gm) (Kp.refl _ w) (.inl rfl) _ _).below (ai (Below.refl _ _) _)⟩
theorem BX (w:World) (gm:Nat) (M:bH) (i1 i2 k:Int) (p:List Int) (A:Option Addr) (c:Nat) (hM:w.heap[gm]?=some (.cells (dh M) 97 (0,0))) (hl:M.m.length=16) :
 Calls Try.prog 63 #[.pointer (some ⟨gm,0,none⟩),.agg #[.int .u16 128,.int .u8 i1,.int .u8 i2,.int .u32 k],.slice A p.length c] w fun e w'=>e = .returned (.int .i64 0)∧w'.heap[gm]?=some (.cells (dh {M with a:=IntKind.u32.wrap (p.length:Int)}) 97 (0,0))∧Kp (fun k=>k=gm) w w':=by
 have ca:=(ae hM 0).trans (kX M)
 have fa:=af hM 0
 have cx:=(ae hM 1).trans (kY M)
 have fx:=af hM 1
 have hlt:=ax hM
 have HM:=aa.mk hM
 clear hM
 go_enter Try.func63,Try.ntmps63
 go_wp2
 go_ret
 exact ⟨rfl,aj (aM HM.out 0 _ (jJ M _)) (ai (Below.refl _ _) _),(Kp.set (S:=fun k=>k=gm) (g:=gm) (Kp.refl _ w) (.inl rfl) _ _).below (ai (Below.refl _ _) _)⟩
theorem BZ (w:World) (gm:Nat) (M:bH) (i1 i2 k:Int) (p:List Int) (A:Option Addr) (c:Nat) (hM:w.heap[gm]?=some (.cells (dh M) 97 (0,0))) (hl:M.m.length=16) :
 Calls Try.prog 63 #[.pointer (some ⟨gm,0,none⟩),.agg #[.int .u16 129,.int .u8 i1,.int .u8 i2,.int .u32 k],.slice A p.length c] w fun e w'=>e = .returned (.int .i64 0)∧w'.heap[gm]?=some (.cells (dh {M with x:=IntKind.u32.wrap (p.length:Int)}) 97 (0,0))∧Kp (fun k=>k=gm) w w':=by
 have ca:=(ae hM 0).trans (kX M)
 have fa:=af hM 0
 have cx:=(ae hM 1).trans (kY M)
 have fx:=af hM 1
 have hlt:=ax hM
 have HM:=aa.mk hM
 clear hM
 go_enter Try.func63,Try.ntmps63
 go_wp2
 go_ret
 exact ⟨rfl,aj (aM HM.out 1 _ (lQ M _)) (ai (Below.refl _ _) _),(Kp.set (S:=fun k=>k=gm) (g:=gm) (Kp.refl _ w) (.inl rfl) _ _).below (ai (Below.refl _ _) _)⟩
theorem step_96 (w:World) (gm:Nat) (M:bH) (i1 i2 k:Int) (p:List Int) (A:Option Addr) (c:Nat) (hM:w.heap[gm]?=some (.cells (dh M) 97 (0,0))) (hl:M.m.length=16) (v:Int) (hv:M.m.getD (ix k) 0=v) (hk0:0≤bits BinOp.and IntKind.u32 k 15) (hk1:bits BinOp.and IntKind.u32 k 15<16) :
 Calls Try.prog 63 #[.pointer (some ⟨gm,0,none⟩),.agg #[.int .u16 96,.int .u8 i1,.int .u8 i2,.int .u32 k],.slice A p.length c] w fun e w'=>e = .returned (.int .i64 0)∧w'.heap[gm]?=some (.cells (dh {M with a:=v}) 97 (0,0))∧Kp (fun k=>k=gm) w w':=by
 have ca:=(ae hM 0).trans (kX M)
 have fa:=af hM 0
 have cx:=(ae hM 1).trans (kY M)
 have fx:=af hM 1
 have b0:0≤bits BinOp.and IntKind.u32 k 15:=hk0
 have b1:bits BinOp.and IntKind.u32 k 15<16:=hk1
 have cm:=(ae hM (2+(bits BinOp.and IntKind.u32 k 15).toNat)).trans ((mc_m M (bits BinOp.and IntKind.u32 k 15).toNat (by rw [hl];omega)).trans (congrArg (fun z=>some (Value.int .u32 z)) hv))
 have fm:=af hM (2+(bits BinOp.and IntKind.u32 k 15).toNat)
 have hlt:=ax hM
 have HM:=aa.mk hM
 clear hM
 go_enter Try.func63,Try.ntmps63
 go_wp2
 go_region
 go_wp2
 go_ret
 exact ⟨rfl,aj (aM HM.out 0 _ (jJ M _)) (ak (ai (Below.refl _ _) _)),(Kp.set (S:=fun k=>k=gm) (g:=gm) (Kp.refl _ w) (.inl rfl) _ _).below (ak (ai (Below.refl _ _) _))⟩
theorem step_97 (w:World) (gm:Nat) (M:bH) (i1 i2 k:Int) (p:List Int) (A:Option Addr) (c:Nat) (hM:w.heap[gm]?=some (.cells (dh M) 97 (0,0))) (hl:M.m.length=16) (v:Int) (hv:M.m.getD (ix k) 0=v) (hk0:0≤bits BinOp.and IntKind.u32 k 15) (hk1:bits BinOp.and IntKind.u32 k 15<16) :
 Calls Try.prog 63 #[.pointer (some ⟨gm,0,none⟩),.agg #[.int .u16 97,.int .u8 i1,.int .u8 i2,.int .u32 k],.slice A p.length c] w fun e w'=>e = .returned (.int .i64 0)∧w'.heap[gm]?=some (.cells (dh {M with x:=v}) 97 (0,0))∧Kp (fun k=>k=gm) w w':=by
 have ca:=(ae hM 0).trans (kX M)
 have fa:=af hM 0
 have cx:=(ae hM 1).trans (kY M)
 have fx:=af hM 1
 have b0:0≤bits BinOp.and IntKind.u32 k 15:=hk0
 have b1:bits BinOp.and IntKind.u32 k 15<16:=hk1
 have cm:=(ae hM (2+(bits BinOp.and IntKind.u32 k 15).toNat)).trans ((mc_m M (bits BinOp.and IntKind.u32 k 15).toNat (by rw [hl];omega)).trans (congrArg (fun z=>some (Value.int .u32 z)) hv))
 have fm:=af hM (2+(bits BinOp.and IntKind.u32 k 15).toNat)
 have hlt:=ax hM
 have HM:=aa.mk hM
 clear hM
 go_enter Try.func63,Try.ntmps63
 go_wp2
 go_region
 go_wp2
 go_ret
 exact ⟨rfl,aj (aM HM.out 1 _ (lQ M _)) (ak (ai (Below.refl _ _) _)),(Kp.set (S:=fun k=>k=gm) (g:=gm) (Kp.refl _ w) (.inl rfl) _ _).below (ak (ai (Below.refl _ _) _))⟩
theorem step_2 (w:World) (gm:Nat) (M:bH) (i1 i2 k:Int) (p:List Int) (A:Option Addr) (c:Nat) (hM:w.heap[gm]?=some (.cells (dh M) 97 (0,0))) (hl:M.m.length=16) (v:Int) (hv:M.m.getD (ix k) 0=v) (hk0:0≤bits BinOp.and IntKind.u32 k 15) (hk1:bits BinOp.and IntKind.u32 k 15<16) :
 Calls Try.prog 63 #[.pointer (some ⟨gm,0,none⟩),.agg #[.int .u16 2,.int .u8 i1,.int .u8 i2,.int .u32 k],.slice A p.length c] w fun e w'=>e = .returned (.int .i64 0)∧w'.heap[gm]?=some (.cells (dh {M with m:=M.m.set (ix k) M.a}) 97 (0,0))∧Kp (fun k=>k=gm) w w':=by
 have ca:=(ae hM 0).trans (kX M)
 have fa:=af hM 0
 have cx:=(ae hM 1).trans (kY M)
 have fx:=af hM 1
 have b0:0≤bits BinOp.and IntKind.u32 k 15:=hk0
 have b1:bits BinOp.and IntKind.u32 k 15<16:=hk1
 have cm:=(ae hM (2+(bits BinOp.and IntKind.u32 k 15).toNat)).trans ((mc_m M (bits BinOp.and IntKind.u32 k 15).toNat (by rw [hl];omega)).trans (congrArg (fun z=>some (Value.int .u32 z)) hv))
 have fm:=af hM (2+(bits BinOp.and IntKind.u32 k 15).toNat)
 have hlt:=ax hM
 have HM:=aa.mk hM
 clear hM
 go_enter Try.func63,Try.ntmps63
 go_wp2
 go_region
 go_wp2
 go_ret
 exact ⟨rfl,aj (aM HM.out (2+(bits BinOp.and IntKind.u32 k 15).toNat) _ (wF M _ _)) (ak (ai (Below.refl _ _) _)),(Kp.set (S:=fun k=>k=gm) (g:=gm) (Kp.refl _ w) (.inl rfl) _ _).below (ak (ai (Below.refl _ _) _))⟩
theorem step_3 (w:World) (gm:Nat) (M:bH) (i1 i2 k:Int) (p:List Int) (A:Option Addr) (c:Nat) (hM:w.heap[gm]?=some (.cells (dh M) 97 (0,0))) (hl:M.m.length=16) (v:Int) (hv:M.m.getD (ix k) 0=v) (hk0:0≤bits BinOp.and IntKind.u32 k 15) (hk1:bits BinOp.and IntKind.u32 k 15<16) :
 Calls Try.prog 63 #[.pointer (some ⟨gm,0,none⟩),.agg #[.int .u16 3,.int .u8 i1,.int .u8 i2,.int .u32 k],.slice A p.length c] w fun e w'=>e = .returned (.int .i64 0)∧w'.heap[gm]?=some (.cells (dh {M with m:=M.m.set (ix k) M.x}) 97 (0,0))∧Kp (fun k=>k=gm) w w':=by
 have ca:=(ae hM 0).trans (kX M)
 have fa:=af hM 0
 have cx:=(ae hM 1).trans (kY M)
 have fx:=af hM 1
 have b0:0≤bits BinOp.and IntKind.u32 k 15:=hk0
 have b1:bits BinOp.and IntKind.u32 k 15<16:=hk1
 have cm:=(ae hM (2+(bits BinOp.and IntKind.u32 k 15).toNat)).trans ((mc_m M (bits BinOp.and IntKind.u32 k 15).toNat (by rw [hl];omega)).trans (congrArg (fun z=>some (Value.int .u32 z)) hv))
 have fm:=af hM (2+(bits BinOp.and IntKind.u32 k 15).toNat)
 have hlt:=ax hM
 have HM:=aa.mk hM
 clear hM
 go_enter Try.func63,Try.ntmps63
 go_wp2
 go_region
 go_wp2
 go_ret
 exact ⟨rfl,aj (aM HM.out (2+(bits BinOp.and IntKind.u32 k 15).toNat) _ (wF M _ _)) (ak (ai (Below.refl _ _) _)),(Kp.set (S:=fun k=>k=gm) (g:=gm) (Kp.refl _ w) (.inl rfl) _ _).below (ak (ai (Below.refl _ _) _))⟩
abbrev KS (gi gm:Nat) (q k:Int) (M:bH) (W:World):Prop:=W.cell? ⟨gi,0,none⟩=some (.int .u16 q)∧W.cell? ⟨gi,3,none⟩=some (.int .u32 k)∧W.cell? ⟨gm,0,none⟩=some (.int .u32 M.a)∧W.cell? ⟨gm,1,none⟩=some (.int .u32 M.x)∧W.frozen? ⟨gm,0,none⟩=false∧W.frozen? ⟨gm,1,none⟩=false
theorem vF (q:Int) (hq:q=32∨q=40∨q=48) (w:World) (gm:Nat) (M:bH) (v f s i1 i2 k:Int) (p:List Int) (A:Option Addr) (c:Nat) (hM:w.heap[gm]?=some (.cells (dh M) 97 (0,0))) (hl:M.m.length=16) (hp:Kd.C (Kd.int .u8) w A p.length p) (hc:p.length≤c) (hs:bU.f 10 q=some s) (hr:cZ.f 10 p (IntKind.u64.wrap k) s=some (v,f)) :
 Calls Try.prog 63 #[.pointer (some ⟨gm,0,none⟩),.agg #[.int .u16 q,.int .u8 i1,.int .u8 i2,.int .u32 k],.slice A p.length c] w fun e w'=>e = .returned (.int .i64 f)∧w'.heap[gm]?=some (.cells (dh {M with a:=v}) 97 (0,0))∧Kp (fun k=>k=gm) w w':=by
 have ca:=(ae hM 0).trans (kX M)
 have fa:=af hM 0
 have cx:=(ae hM 1).trans (kY M)
 have fx:=af hM 1
 have hlt:=ax hM
 have HM:=aa.mk hM
 clear hM
 have HC:=aa.mk hc
 have KK:∀ W,Below (w.alloc (.cells #[.int .u16 q,.int .u8 i1,.int .u8 i2,.int .u32 k] 45)).heap.size (w.alloc (.cells #[.int .u16 q,.int .u8 i1,.int .u8 i2,.int .u32 k] 45)) W→KS w.heap.size gm q k M W:=by
  intro W hb
  have b0:=aj (iM w (.cells #[.int .u16 q,.int .u8 i1,.int .u8 i2,.int .u32 k] 45)) hb
  have bm:=aj (aj HM.out (ai (Below.refl _ _) _)) hb
  exact ⟨(ae b0 0).trans rfl,(ae b0 3).trans rfl,(ae bm 0).trans rfl,(ae bm 1).trans rfl,af bm 0,af bm 1⟩
 have KC:∀ W,Below (w.alloc (.cells #[.int .u16 q,.int .u8 i1,.int .u8 i2,.int .u32 k] 45)).heap.size (w.alloc (.cells #[.int .u16 q,.int .u8 i1,.int .u8 i2,.int .u32 k] 45)) W→Kd.C (Kd.int .u8) W A p.length p:=by
  intro W hb
  exact Kd.dI (Kd.iT hp _) hb
 have KK:=aa.mk KK
 have KC:=aa.mk KC
 have HS:=aa.mk hs
 have HR:=aa.mk hr
 clear hs hr hp hc
 rcases hq with rfl | rfl | rfl
 all_goals
  go_enter Try.func63,Try.ntmps63
  go_wp2
  refine eD 16 (KS w.heap.size gm _ k M) [14] (KK.out _ iy) (fun hHeld=>?_)
  refine aH 0 46 ?_
  refine aH 1 47 ?_
  refine aH 2 48 ?_
  refine aH 5 51 ?_
  refine dC 3 49 hHeld ?_
  refine aH 4 50 ?_
  refine dC 6 52 hHeld ?_
  refine iG 7 (some 53) (fun K hK=>?_)
  refine gX Try.func96 #[.int .u16 _] ?_
  with_reducible refine (bU.calls 10 _ _ _ HS.out).mono ?_
  rintro e w3 ⟨rfl,⟨nd,rfl⟩⟩
  refine ⟨_,rfl,?_⟩
  refine hK.out _ _ (KK.out _ iy) (fun hHeld=>?_)
  clear hK K
  refine eZ 53 ?_
  refine iG 8 (some 54) (fun K hK=>?_)
  refine gX Try.func95 #[.slice A p.length c,.int .u64 (IntKind.u64.wrap k),.int .i64 s] ?_
  with_reducible refine (cZ.calls 10 A c p _ _ _ _ _ (KC.out _ iy) HC.out HR.out).mono ?_
  rintro e w3 ⟨rfl,⟨nd2,rfl⟩⟩
  refine ⟨_,rfl,?_⟩
  refine hK.out _ _ (KK.out _ iy) (fun hHeld=>?_)
  clear hK K
  refine eZ 54 ?_
  refine aH 9 45 ?_
  refine aH 10 55 ?_
  refine aH 11 56 ?_
  refine aH 12 57 ?_
  refine aH 13 58 ?_
  refine fM 14 none (fun K hK=>?_)
  refine ik ?_
  refine hK.out _ _ ?_
  clear hK K
  refine aH 15 7 ?_
  refine iA (by kernel_rfl) ?_
  go_wp2
  go_ret
  exact ⟨rfl,aM (aj HM.out mr) 0 _ (jJ M _),Kp.set (S:=fun k=>k=gm) (g:=gm) ((Kp.refl _ w).below mr) (.inl rfl) _ _⟩
theorem vH (q:Int) (hq:q=64∨q=72∨q=80) (w:World) (gm:Nat) (M:bH) (v f s i1 i2 k:Int) (p:List Int) (A:Option Addr) (c:Nat) (hM:w.heap[gm]?=some (.cells (dh M) 97 (0,0))) (hl:M.m.length=16) (hp:Kd.C (Kd.int .u8) w A p.length p) (hc:p.length≤c) (hs:bU.f 10 q=some s) (hr:cZ.f 10 p (IntKind.u64.wrap (IntKind.u64.wrap k+IntKind.u64.wrap M.x)) s=some (v,f)) :
 Calls Try.prog 63 #[.pointer (some ⟨gm,0,none⟩),.agg #[.int .u16 q,.int .u8 i1,.int .u8 i2,.int .u32 k],.slice A p.length c] w fun e w'=>e = .returned (.int .i64 f)∧w'.heap[gm]?=some (.cells (dh {M with a:=v}) 97 (0,0))∧Kp (fun k=>k=gm) w w':=by
 have ca:=(ae hM 0).trans (kX M)
 have fa:=af hM 0
 have cx:=(ae hM 1).trans (kY M)
 have fx:=af hM 1
 have hlt:=ax hM
 have HM:=aa.mk hM
 clear hM
 have HC:=aa.mk hc
 have KK:∀ W,Below (w.alloc (.cells #[.int .u16 q,.int .u8 i1,.int .u8 i2,.int .u32 k] 45)).heap.size (w.alloc (.cells #[.int .u16 q,.int .u8 i1,.int .u8 i2,.int .u32 k] 45)) W→KS w.heap.size gm q k M W:=by
  intro W hb
  have b0:=aj (iM w (.cells #[.int .u16 q,.int .u8 i1,.int .u8 i2,.int .u32 k] 45)) hb
  have bm:=aj (aj HM.out (ai (Below.refl _ _) _)) hb
  exact ⟨(ae b0 0).trans rfl,(ae b0 3).trans rfl,(ae bm 0).trans rfl,(ae bm 1).trans rfl,af bm 0,af bm 1⟩
 have KC:∀ W,Below (w.alloc (.cells #[.int .u16 q,.int .u8 i1,.int .u8 i2,.int .u32 k] 45)).heap.size (w.alloc (.cells #[.int .u16 q,.int .u8 i1,.int .u8 i2,.int .u32 k] 45)) W→Kd.C (Kd.int .u8) W A p.length p:=by
  intro W hb
  exact Kd.dI (Kd.iT hp _) hb
 have KK:=aa.mk KK
 have KC:=aa.mk KC
 have HS:=aa.mk hs
 have HR:=aa.mk hr
 clear hs hr hp hc
 rcases hq with rfl | rfl | rfl
 all_goals
  go_enter Try.func63,Try.ntmps63
  go_wp2
  refine eD 22 (KS w.heap.size gm _ k M) [20] (KK.out _ iy) (fun hHeld=>?_)
  refine aH 0 64 ?_
  refine aH 1 65 ?_
  refine aH 2 66 ?_
  refine aH 5 69 ?_
  refine aH 6 70 ?_
  refine aH 7 71 ?_
  refine aH 11 75 ?_
  refine dC 3 67 hHeld ?_
  refine aH 4 68 ?_
  refine dC 8 72 hHeld ?_
  refine aH 9 73 ?_
  refine aH 10 74 ?_
  refine dC 12 76 hHeld ?_
  refine iG 13 (some 77) (fun K hK=>?_)
  refine gX Try.func96 #[.int .u16 _] ?_
  with_reducible refine (bU.calls 10 _ _ _ HS.out).mono ?_
  rintro e w3 ⟨rfl,⟨nd,rfl⟩⟩
  refine ⟨_,rfl,?_⟩
  refine hK.out _ _ (KK.out _ iy) (fun hHeld=>?_)
  clear hK K
  refine eZ 77 ?_
  refine iG 14 (some 78) (fun K hK=>?_)
  refine gX Try.func95 #[.slice A p.length c,.int .u64 (IntKind.u64.wrap (IntKind.u64.wrap k+IntKind.u64.wrap M.x)),.int .i64 s] ?_
  with_reducible refine (cZ.calls 10 A c p _ _ _ _ _ (KC.out _ iy) HC.out HR.out).mono ?_
  rintro e w3 ⟨rfl,⟨nd2,rfl⟩⟩
  refine ⟨_,rfl,?_⟩
  refine hK.out _ _ (KK.out _ iy) (fun hHeld=>?_)
  clear hK K
  refine eZ 78 ?_
  refine aH 15 63 ?_
  refine aH 16 79 ?_
  refine aH 17 80 ?_
  refine aH 18 81 ?_
  refine aH 19 82 ?_
  refine fM 20 none (fun K hK=>?_)
  refine ik ?_
  refine hK.out _ _ ?_
  clear hK K
  refine aH 21 7 ?_
  refine iA (by kernel_rfl) ?_
  go_wp2
  go_ret
  exact ⟨rfl,aM (aj HM.out mr) 0 _ (jJ M _),Kp.set (S:=fun k=>k=gm) (g:=gm) ((Kp.refl _ w).below mr) (.inl rfl) _ _⟩
theorem Cc (w:World) (gm:Nat) (M:bH) (v f i1 i2 k:Int) (p:List Int) (A:Option Addr) (c:Nat) (hM:w.heap[gm]?=some (.cells (dh M) 97 (0,0))) (hl:M.m.length=16) (hp:Kd.C (Kd.int .u8) w A p.length p) (hc:p.length≤c) (hr:cZ.f 10 p (IntKind.u64.wrap k) 1=some (v,f)) :
 Calls Try.prog 63 #[.pointer (some ⟨gm,0,none⟩),.agg #[.int .u16 177,.int .u8 i1,.int .u8 i2,.int .u32 k],.slice A p.length c] w fun e w'=>e = .returned (.int .i64 f)∧w'.heap[gm]?=some (.cells (dh {M with x:=IntKind.u32.wrap (4*bits BinOp.and IntKind.u32 v 15)}) 97 (0,0))∧Kp (fun k=>k=gm) w w':=by
 have ca:=(ae hM 0).trans (kX M)
 have fa:=af hM 0
 have cx:=(ae hM 1).trans (kY M)
 have fx:=af hM 1
 have hlt:=ax hM
 have HM:=aa.mk hM
 clear hM
 go_enter Try.func63,Try.ntmps63
 have HC:=aa.mk hc
 have KK:∀ W,Below (w.alloc (.cells #[.int .u16 177,.int .u8 i1,.int .u8 i2,.int .u32 k] 45)).heap.size (w.alloc (.cells #[.int .u16 177,.int .u8 i1,.int .u8 i2,.int .u32 k] 45)) W→W.cell? ⟨w.heap.size,0,none⟩=some (.int .u16 177)∧W.cell? ⟨w.heap.size,3,none⟩=some (.int .u32 k)∧W.cell? ⟨gm,0,none⟩=some (.int .u32 M.a)∧W.cell? ⟨gm,1,none⟩=some (.int .u32 M.x)∧W.frozen? ⟨gm,0,none⟩=false∧W.frozen? ⟨gm,1,none⟩=false:=by
  intro W hb
  have b0:=aj (iM w (.cells #[.int .u16 177,.int .u8 i1,.int .u8 i2,.int .u32 k] 45)) hb
  have bm:=aj (aj HM.out (ai (Below.refl _ _) _)) hb
  exact ⟨(ae b0 0).trans rfl,(ae b0 3).trans rfl,(ae bm 0).trans rfl,(ae bm 1).trans rfl,af bm 0,af bm 1⟩
 have KC:∀ W,Below (w.alloc (.cells #[.int .u16 177,.int .u8 i1,.int .u8 i2,.int .u32 k] 45)).heap.size (w.alloc (.cells #[.int .u16 177,.int .u8 i1,.int .u8 i2,.int .u32 k] 45)) W→Kd.C (Kd.int .u8) W A p.length p:=by
  intro W hb
  exact Kd.dI (Kd.iT hp _) hb
 have KK:=aa.mk KK
 have KC:=aa.mk KC
 have HR:=aa.mk hr
 clear hr hp hc
 go_wp2_with (go_at_call 95;refine (cZ.calls 10 A c p _ _ _ _ _ (KC.out _ iy) HC.out HR.out).mono ?_;rintro e w' ⟨rfl,⟨nd2,rfl⟩⟩)
 go_ret
 exact ⟨rfl,aM (aM (aj HM.out mr) 1 _ (lQ M _)) 1 _ (lQ _ _),Kp.set (S:=fun k=>k=gm) (g:=gm) (Kp.set (S:=fun k=>k=gm) (g:=gm) ((Kp.refl _ w).below mr) (.inl rfl) _ _) (.inl rfl) _ _⟩
theorem Ce (w:World) (gm:Nat) (M:bH) (cc v f i1 i2 k:Int) (p:List Int) (A:Option Addr) (c:Nat) (hM:w.heap[gm]?=some (.cells (dh M) 97 (0,0))) (hl:M.m.length=16) (hp:Kd.C (Kd.int .u8) w A p.length p) (hc:p.length≤c) (n0:(cc==0)=false) (n32:(cc==32)=false) (n40:(cc==40)=false) (n48:(cc==48)=false) (n64:(cc==64)=false) (n72:(cc==72)=false) (n80:(cc==80)=false) (n96:(cc==96)=false) (n128:(cc==128)=false) (n1:(cc==1)=false) (n97:(cc==97)=false) (n129:(cc==129)=false) (n177:(cc==177)=false) (n2:(cc==2)=false) (n3:(cc==3)=false) (n132:(cc==132)=false) (n7:(cc==7)=false) (n135:(cc==135)=false) (hbx:bI.f 10 cc=some false) (hr:bX.f cc M.a k=some (v,f)) :
 Calls Try.prog 63 #[.pointer (some ⟨gm,0,none⟩),.agg #[.int .u16 cc,.int .u8 i1,.int .u8 i2,.int .u32 k],.slice A p.length c] w fun e w'=>e = .returned (.int .i64 f)∧w'.heap[gm]?=some (.cells (dh {M with a:=v}) 97 (0,0))∧Kp (fun k=>k=gm) w w':=by
 have ca:=(ae hM 0).trans (kX M)
 have fa:=af hM 0
 have cx:=(ae hM 1).trans (kY M)
 have fx:=af hM 1
 have hlt:=ax hM
 have HM:=aa.mk hM
 clear hM
 go_enter Try.func63,Try.ntmps63
 have HC:=aa.mk hc
 have KK:∀ W,Below (w.alloc (.cells #[.int .u16 cc,.int .u8 i1,.int .u8 i2,.int .u32 k] 45)).heap.size (w.alloc (.cells #[.int .u16 cc,.int .u8 i1,.int .u8 i2,.int .u32 k] 45)) W→W.cell? ⟨w.heap.size,0,none⟩=some (.int .u16 cc)∧W.cell? ⟨w.heap.size,3,none⟩=some (.int .u32 k)∧W.cell? ⟨gm,0,none⟩=some (.int .u32 M.a)∧W.cell? ⟨gm,1,none⟩=some (.int .u32 M.x)∧W.frozen? ⟨gm,0,none⟩=false∧W.frozen? ⟨gm,1,none⟩=false:=by
  intro W hb
  have b0:=aj (iM w (.cells #[.int .u16 cc,.int .u8 i1,.int .u8 i2,.int .u32 k] 45)) hb
  have bm:=aj (aj HM.out (ai (Below.refl _ _) _)) hb
  exact ⟨(ae b0 0).trans rfl,(ae b0 3).trans rfl,(ae bm 0).trans rfl,(ae bm 1).trans rfl,af bm 0,af bm 1⟩
 have KC:∀ W,Below (w.alloc (.cells #[.int .u16 cc,.int .u8 i1,.int .u8 i2,.int .u32 k] 45)).heap.size (w.alloc (.cells #[.int .u16 cc,.int .u8 i1,.int .u8 i2,.int .u32 k] 45)) W→Kd.C (Kd.int .u8) W A p.length p:=by
  intro W hb
  exact Kd.dI (Kd.iT hp _) hb
 have KK:=aa.mk KK
 have KC:=aa.mk KC
 have HBX:=aa.mk hbx
 have HR:=aa.mk hr
 clear hbx hr hp hc
 go_wp2_with (go_at_call 58;refine (bI.calls 10 _ _ _ HBX.out).mono ?_;rintro e w' ⟨rfl,⟨nd,rfl⟩⟩)
 refine eD 16 (fun w'=>w'.cell? ⟨w.heap.size,0,none⟩=some (.int .u16 cc)∧w'.cell? ⟨w.heap.size,3,none⟩=some (.int .u32 k)∧w'.cell? ⟨gm,0,none⟩=some (.int .u32 M.a)∧w'.cell? ⟨gm,1,none⟩=some (.int .u32 M.x)∧w'.frozen? ⟨gm,0,none⟩=false∧w'.frozen? ⟨gm,1,none⟩=false) [14] (KK.out _ iy) (fun hHeld=>?_)
 refine aH 0 21 ?_
 refine aH 1 22 ?_
 refine aH 3 24 ?_
 refine aH 4 25 ?_
 refine aH 5 26 ?_
 refine aH 7 28 ?_
 refine dC 2 23 hHeld ?_
 refine dC 6 27 hHeld ?_
 refine iG 8 (some 29) (fun K hK=>?_)
 refine gX Try.func97 #[.int .u16 cc,.int .u32 M.a,.int .u32 k] ?_
 with_reducible refine (bX.calls _ _ _ _ _ _ HR.out).mono ?_
 rintro e w3 ⟨rfl,⟨nd2,rfl⟩⟩
 refine ⟨_,rfl,?_⟩
 refine hK.out _ _ (KK.out _ iy) (fun hHeld=>?_)
 clear hK K
 refine eZ 29 ?_
 refine aH 9 20 ?_
 refine aH 10 30 ?_
 refine aH 11 31 ?_
 refine aH 12 32 ?_
 refine aH 13 33 ?_
 refine fM 14 none (fun K hK=>?_)
 refine ik ?_
 refine hK.out _ _ ?_
 clear hK K
 refine aH 15 7 ?_
 refine iA (by kernel_rfl) ?_
 go_wp2
 go_ret
 exact ⟨rfl,aM (aj HM.out mr) 0 _ (jJ M _),Kp.set (S:=fun k=>k=gm) (g:=gm) ((Kp.refl _ w).below mr) (.inl rfl) _ _⟩
theorem Cf (w:World) (gm:Nat) (M:bH) (cc v f i1 i2 k:Int) (p:List Int) (A:Option Addr) (c:Nat) (hM:w.heap[gm]?=some (.cells (dh M) 97 (0,0))) (hl:M.m.length=16) (hp:Kd.C (Kd.int .u8) w A p.length p) (hc:p.length≤c) (n0:(cc==0)=false) (n32:(cc==32)=false) (n40:(cc==40)=false) (n48:(cc==48)=false) (n64:(cc==64)=false) (n72:(cc==72)=false) (n80:(cc==80)=false) (n96:(cc==96)=false) (n128:(cc==128)=false) (n1:(cc==1)=false) (n97:(cc==97)=false) (n129:(cc==129)=false) (n177:(cc==177)=false) (n2:(cc==2)=false) (n3:(cc==3)=false) (n132:(cc==132)=false) (n7:(cc==7)=false) (n135:(cc==135)=false) (hbx:bI.f 10 cc=some true) (hr:bX.f cc M.a M.x=some (v,f)) :
 Calls Try.prog 63 #[.pointer (some ⟨gm,0,none⟩),.agg #[.int .u16 cc,.int .u8 i1,.int .u8 i2,.int .u32 k],.slice A p.length c] w fun e w'=>e = .returned (.int .i64 f)∧w'.heap[gm]?=some (.cells (dh {M with a:=v}) 97 (0,0))∧Kp (fun k=>k=gm) w w':=by
 have ca:=(ae hM 0).trans (kX M)
 have fa:=af hM 0
 have cx:=(ae hM 1).trans (kY M)
 have fx:=af hM 1
 have hlt:=ax hM
 have HM:=aa.mk hM
 clear hM
 go_enter Try.func63,Try.ntmps63
 have HC:=aa.mk hc
 have KK:∀ W,Below (w.alloc (.cells #[.int .u16 cc,.int .u8 i1,.int .u8 i2,.int .u32 k] 45)).heap.size (w.alloc (.cells #[.int .u16 cc,.int .u8 i1,.int .u8 i2,.int .u32 k] 45)) W→W.cell? ⟨w.heap.size,0,none⟩=some (.int .u16 cc)∧W.cell? ⟨w.heap.size,3,none⟩=some (.int .u32 k)∧W.cell? ⟨gm,0,none⟩=some (.int .u32 M.a)∧W.cell? ⟨gm,1,none⟩=some (.int .u32 M.x)∧W.frozen? ⟨gm,0,none⟩=false∧W.frozen? ⟨gm,1,none⟩=false:=by
  intro W hb
  have b0:=aj (iM w (.cells #[.int .u16 cc,.int .u8 i1,.int .u8 i2,.int .u32 k] 45)) hb
  have bm:=aj (aj HM.out (ai (Below.refl _ _) _)) hb
  exact ⟨(ae b0 0).trans rfl,(ae b0 3).trans rfl,(ae bm 0).trans rfl,(ae bm 1).trans rfl,af bm 0,af bm 1⟩
 have KC:∀ W,Below (w.alloc (.cells #[.int .u16 cc,.int .u8 i1,.int .u8 i2,.int .u32 k] 45)).heap.size (w.alloc (.cells #[.int .u16 cc,.int .u8 i1,.int .u8 i2,.int .u32 k] 45)) W→Kd.C (Kd.int .u8) W A p.length p:=by
  intro W hb
  exact Kd.dI (Kd.iT hp _) hb
 have KK:=aa.mk KK
 have KC:=aa.mk KC
 have HBX:=aa.mk hbx
 have HR:=aa.mk hr
 clear hbx hr hp hc
 go_wp2_with (go_at_call 58;refine (bI.calls 10 _ _ _ HBX.out).mono ?_;rintro e w' ⟨rfl,⟨nd,rfl⟩⟩)
 refine eD 16 (fun w'=>w'.cell? ⟨w.heap.size,0,none⟩=some (.int .u16 cc)∧w'.cell? ⟨w.heap.size,3,none⟩=some (.int .u32 k)∧w'.cell? ⟨gm,0,none⟩=some (.int .u32 M.a)∧w'.cell? ⟨gm,1,none⟩=some (.int .u32 M.x)∧w'.frozen? ⟨gm,0,none⟩=false∧w'.frozen? ⟨gm,1,none⟩=false) [14] (KK.out _ iy) (fun hHeld=>?_)
 refine aH 0 21 ?_
 refine aH 1 22 ?_
 refine aH 3 24 ?_
 refine aH 4 25 ?_
 refine aH 5 26 ?_
 refine aH 7 28 ?_
 refine dC 2 23 hHeld ?_
 refine dC 6 27 hHeld ?_
 refine iG 8 (some 29) (fun K hK=>?_)
 refine gX Try.func97 #[.int .u16 cc,.int .u32 M.a,.int .u32 M.x] ?_
 with_reducible refine (bX.calls _ _ _ _ _ _ HR.out).mono ?_
 rintro e w3 ⟨rfl,⟨nd2,rfl⟩⟩
 refine ⟨_,rfl,?_⟩
 refine hK.out _ _ (KK.out _ iy) (fun hHeld=>?_)
 clear hK K
 refine eZ 29 ?_
 refine aH 9 20 ?_
 refine aH 10 30 ?_
 refine aH 11 31 ?_
 refine aH 12 32 ?_
 refine aH 13 33 ?_
 refine fM 14 none (fun K hK=>?_)
 refine ik ?_
 refine hK.out _ _ ?_
 clear hK K
 refine aH 15 7 ?_
 refine iA (by kernel_rfl) ?_
 go_wp2
 go_ret
 exact ⟨rfl,aM (aj HM.out mr) 0 _ (jJ M _),Kp.set (S:=fun k=>k=gm) (g:=gm) ((Kp.refl _ w).below mr) (.inl rfl) _ _⟩
theorem and15 (k:Int):0≤bits BinOp.and IntKind.u32 k 15∧bits BinOp.and IntKind.u32 k 15<16:=by
 have h:bits BinOp.and IntKind.u32 k 15=IntKind.u32.wrap ((BitVec.ofInt 32 k &&& BitVec.ofInt 32 15).toNat:Int):=rfl
 have h1:(BitVec.ofInt 32 k &&& BitVec.ofInt 32 15).toNat≤15:=by
  rw [BitVec.toNat_and]
  exact Nat.le_trans Nat.and_le_right (by decide)
 rw [h,IntKind.wrap_u32]
 omega
theorem qW (q:Int):∃ s,bU.f 10 q=some s∧(s=1∨s=2∨s=4):=by
 have h:∀ x b,∃ s,bU.j0 (9+1) x b=some s∧(s=1∨s=2∨s=4):=by
  intro x b
  simp only [bU.j0]
  split
  · exact ⟨4,rfl,.inr (.inr rfl)⟩
  split
  · exact ⟨2,rfl,.inr (.inl rfl)⟩
  split
  · exact ⟨2,rfl,.inr (.inl rfl)⟩
  exact ⟨1,rfl,.inl rfl⟩
 unfold bU.f
 split
 · exact h _ _
 exact h _ _
theorem xz (q:Int):∃ b,aK.f q=some b:=by
 unfold aK.f
 repeat' split
 all_goals exact ⟨_,rfl⟩
theorem opn_j (x:Int) (b:Bool):∃ r,az.j0 10 x b=some r:=by
 show ∃ r,az.j0 (9+1) x b=some r
 simp only [az.j0]
 repeat' split
 all_goals exact ⟨_,rfl⟩
theorem Bf (q:Int):∃ b,az.f 10 q=some b:=by
 unfold az.f
 repeat' split
 all_goals exact opn_j _ _
theorem tC (q:Int):∃ b,bI.f 10 q=some b:=by
 unfold bI.f
 obtain ⟨b,e⟩:=xz q
 obtain ⟨b1,e1⟩:=Bf q
 rw [e,e1]
 simp only [Option.bind_some]
 repeat' split
 all_goals exact ⟨_,rfl⟩
theorem qf (a b:Int) (l:Bool) (h:0≤b):∃ r,bQ.f a b l=some r:=by
 unfold bQ.f
 rw [if_pos h,if_pos h]
 repeat' split
 all_goals exact ⟨_,rfl⟩
theorem xG (q a b:Int) (h:0≤b):∃ v f,bX.f q a b=some (v,f):=by
 obtain ⟨s1,e1⟩:=qf a b true h
 obtain ⟨s2,e2⟩:=qf a b false h
 unfold bX.f
 rw [e1,e2]
 simp only [Option.bind_some]
 repeat' split
 all_goals exact ⟨_,_,rfl⟩
theorem wy (n a s:Int):∃ b,dJ.f n a s=some b∧(b=true→0≤a∧0≤s∧s≤n∧a≤wrap64 (n - s)):=by
 unfold dJ.f
 split
 · split
   · split
     · exact ⟨_,rfl,fun h=>⟨by omega,by omega,by omega,of_decide_eq_true h⟩⟩
     exact ⟨_,rfl,fun h=>by cases h⟩
   exact ⟨_,rfl,fun h=>by cases h⟩
 exact ⟨_,rfl,fun h=>by cases h⟩
theorem nT {n:Int} (h0 : -9223372036854775808≤n) (h1:n<9223372036854775808):wrap64 n=n:=by
 unfold wrap64;omega
theorem get_l (p:List Int) (a s:Int) (h0:0≤a) (hs:s≤4) (h1:a+s≤p.length) (hl:p.length<2 ^ 62):∀ (n k:Nat) (x i:Int),0≤i→s≤i+n→n<k→∃ r,aI.l0 k p a s x i=some r:=by
 intro n
 induction n with
 | zero=>
  intro k x i hi hn hk
  cases k with
  | zero=>omega
  | succ k=>
   unfold aI.l0
   rw [if_neg (by omega)]
   exact ⟨_,rfl⟩
 | succ n ih=>
  intro k x i hi hn hk
  cases k with
  | zero=>omega
  | succ k=>
   unfold aI.l0
   by_cases hlt:i<s
   · rw [if_pos hlt]
     have e1:wrap64 (a+i)=a+i:=nT (by omega) (by omega)
     have e2:wrap64 (i+1)=i+1:=nT (by omega) (by omega)
     rw [e1,e2,if_pos (by omega),if_pos (by omega)]
     exact ih k _ (i+1) (by omega) (by omega) (by omega)
   rw [if_neg hlt];exact ⟨_,rfl⟩
theorem nN (p:List Int) (a s:Int) (hs:s=1∨s=2∨s=4) (hl:p.length<2 ^ 62):∃ v f,cZ.f 10 p a s=some (v,f):=by
 have hj:∀ t,dJ.f (p.length:Int) (wrap64 a) s=some t→∃ r,aI.j0 10 p (wrap64 a) s (!t)=some r:=by
  intro t ht
  obtain ⟨b,e,h⟩:=wy (p.length:Int) (wrap64 a) s
  rw [ht] at e
  obtain rfl:=Option.some.inj e
  show ∃ r,aI.j0 (9+1) p (wrap64 a) s (!t)=some r
  simp only [aI.j0]
  cases t with
  | false=>exact ⟨_,rfl⟩
  | true=>
   obtain ⟨h1,h2,h3,h4⟩:=h rfl
   have h5:=nT (n:=(p.length:Int) - s) (by omega) (by omega)
   rw [h5] at h4
   exact get_l p (wrap64 a) s h1 (by omega) (by omega) hl 4 9 0 0 (by omega) (by omega) (by omega)
 have hg:∃ r,aI.f 10 p (wrap64 a) s=some r:=by
  unfold aI.f
  obtain ⟨t,e,_⟩:=wy (p.length:Int) (wrap64 a) s
  rcases hs with rfl | rfl | rfl
  · rw [if_pos rfl,e];exact hj t e
  · rw [if_neg (by decide),if_pos rfl,e];exact hj t e
  rw [if_neg (by decide),if_neg (by decide),if_pos rfl,e];exact hj t e
 obtain ⟨⟨r1,r2⟩,e⟩:=hg
 unfold cZ.f
 rw [e]
 simp only [Option.bind_some]
 repeat' split
 all_goals exact ⟨_,_,rfl⟩
theorem vG (w:World) (gm:Nat) (M:bH) (i:S45) (p:List Int) (A:Option Addr) (c:Nat) (hM:w.heap[gm]?=some (.cells (dh M) 97 (0,0))) (hl:M.m.length=16)
 (hp:Kd.C (Kd.int .u8) w A p.length p) (hc:p.length≤c) (hpl:p.length<2 ^ 62) (hx:0≤M.x) (hk:0≤i.f3) :
 Calls Try.prog 63 #[.pointer (some ⟨gm,0,none⟩),.agg #[.int .u16 i.f0,.int .u8 i.f1,.int .u8 i.f2,.int .u32 i.f3],.slice A p.length c] w fun e w'=>e = .returned (.int .i64 (bY i p M).2)∧w'.heap[gm]?=some (.cells (dh (bY i p M).1) 97 (0,0))∧Kp (fun k=>k=gm) w w':=by
 obtain ⟨cc,i1,i2,k⟩:=i
 have hk0:=(and15 k).1
 have hk1:=(and15 k).2
 simp only at hk
 simp only
 unfold bY
 simp only
 by_cases n0:cc=0
 · subst n0;exact step_0 w gm M i1 i2 k p A c hM hl
 rw [if_neg n0]
 by_cases n1:cc=32∨cc=40∨cc=48
 · rw [if_pos n1]
   obtain ⟨s,es,hs3⟩:=qW cc
   obtain ⟨v,f,er⟩:=nN p (IntKind.u64.wrap k) s hs3 hpl
   have e1:szP cc=s:=by unfold szP;rw [es];rfl
   have e2:rdP p (IntKind.u64.wrap k) s=(v,f):=by unfold rdP;rw [er];rfl
   rw [e1,e2]
   rcases n1 with rfl | rfl | rfl
   · exact vF 32 (by decide) w gm M v f s i1 i2 k p A c hM hl hp hc es er
   · exact vF 40 (by decide) w gm M v f s i1 i2 k p A c hM hl hp hc es er
   exact vF 48 (by decide) w gm M v f s i1 i2 k p A c hM hl hp hc es er
 rw [if_neg n1]
 by_cases n2:cc=64∨cc=72∨cc=80
 · rw [if_pos n2]
   obtain ⟨s,es,hs3⟩:=qW cc
   obtain ⟨v,f,er⟩:=nN p (IntKind.u64.wrap (IntKind.u64.wrap k+IntKind.u64.wrap M.x)) s hs3 hpl
   have e1:szP cc=s:=by unfold szP;rw [es];rfl
   have e2:rdP p (IntKind.u64.wrap (IntKind.u64.wrap k+IntKind.u64.wrap M.x)) s=(v,f):=by unfold rdP;rw [er];rfl
   rw [e1,e2]
   rcases n2 with rfl | rfl | rfl
   · exact vH 64 (by decide) w gm M v f s i1 i2 k p A c hM hl hp hc es er
   · exact vH 72 (by decide) w gm M v f s i1 i2 k p A c hM hl hp hc es er
   exact vH 80 (by decide) w gm M v f s i1 i2 k p A c hM hl hp hc es er
 rw [if_neg n2]
 by_cases n3:cc=96
 · subst n3;exact step_96 w gm M i1 i2 k p A c hM hl _ rfl hk0 hk1
 rw [if_neg n3]
 by_cases n4:cc=128
 · subst n4;exact BX w gm M i1 i2 k p A c hM hl
 rw [if_neg n4]
 by_cases n5:cc=1
 · subst n5;exact step_1 w gm M i1 i2 k p A c hM hl
 rw [if_neg n5]
 by_cases n6:cc=97
 · subst n6;exact step_97 w gm M i1 i2 k p A c hM hl _ rfl hk0 hk1
 rw [if_neg n6]
 by_cases n7:cc=129
 · subst n7;exact BZ w gm M i1 i2 k p A c hM hl
 rw [if_neg n7]
 by_cases n8:cc=177
 · subst n8
   obtain ⟨v,f,er⟩:=nN p (IntKind.u64.wrap k) 1 (.inl rfl) hpl
   have e2:rdP p (IntKind.u64.wrap k) 1=(v,f):=by unfold rdP;rw [er];rfl
   rw [if_pos rfl,e2]
   exact Cc w gm M v f i1 i2 k p A c hM hl hp hc er
 rw [if_neg n8]
 by_cases n9:cc=2
 · subst n9;exact step_2 w gm M i1 i2 k p A c hM hl _ rfl hk0 hk1
 rw [if_neg n9]
 by_cases n10:cc=3
 · subst n10;exact step_3 w gm M i1 i2 k p A c hM hl _ rfl hk0 hk1
 rw [if_neg n10]
 by_cases n11:cc=132
 · subst n11;exact Ca w gm M i1 i2 k p A c hM hl
 rw [if_neg n11]
 by_cases n12:cc=7
 · subst n12;exact step_7 w gm M i1 i2 k p A c hM hl
 rw [if_neg n12]
 by_cases n13:cc=135
 · subst n13;exact Cb w gm M i1 i2 k p A c hM hl
 rw [if_neg n13]
 simp only [not_or] at n1 n2
 obtain ⟨b,eb⟩:=tC cc
 have e3:byX cc=b:=by unfold byX;rw [eb];rfl
 have N:∀ z:Int,¬cc=z→(cc==z)=false:=fun z h=>beq_eq_false_iff_ne.mpr h
 obtain ⟨v,f,er⟩:=xG cc M.a (if b=true then M.x else k) (by cases b;exact hk;exact hx)
 have e4:opP cc M.a (if b=true then M.x else k)=(v,f):=by unfold opP;rw [er];rfl
 rw [e3,e4]
 cases b
 · exact Ce w gm M cc v f i1 i2 k p A c hM hl hp hc (N _ n0) (N _ n1.1) (N _ n1.2.1) (N _ n1.2.2) (N _ n2.1) (N _ n2.2.1) (N _ n2.2.2) (N _ n3) (N _ n4) (N _ n5) (N _ n6) (N _ n7) (N _ n8) (N _ n9) (N _ n10) (N _ n11) (N _ n12) (N _ n13) eb er
 exact Cf w gm M cc v f i1 i2 k p A c hM hl hp hc (N _ n0) (N _ n1.1) (N _ n1.2.1) (N _ n1.2.2) (N _ n2.1) (N _ n2.2.1) (N _ n2.2.2) (N _ n3) (N _ n4) (N _ n5) (N _ n6) (N _ n7) (N _ n8) (N _ n9) (N _ n10) (N _ n11) (N _ n12) (N _ n13) eb er
def MW (M:bH):Prop:=0≤M.a∧0≤M.x∧∀ j,0≤M.m.getD j 0
theorem eF {α:Type} {P:α→Prop} {c:Prop} [Decidable c] {a b:α} (h1:c→P a) (h2:¬c→P b):P (if c then a else b):=by
 by_cases h:c
 · rw [if_pos h];exact h1 h
 rw [if_neg h];exact h2 h
theorem qY (i:S45) (pk:List Int) (M:bH):(bY i pk M).1.m.length=M.m.length:=by
 show (fun s:bH × Int=>s.1.m.length=M.m.length) (bY i pk M)
 unfold bY
 dsimp only
 repeat (refine eF (P:=fun s:bH × Int=>s.1.m.length=M.m.length) (fun _=>by first | rfl | exact List.length_set) (fun _=>?_))
 rfl
theorem lV (n:Int):0≤IntKind.u32.wrap n:=by rw [IntKind.wrap_u32];omega
theorem oK (op:BinOp) (x y:Int):0≤bits op .u32 x y:=lV _
theorem get_nn (p:List Int) (a s:Int):∀ (k:Nat) (x i:Int) (r:Int × Bool),0≤x→aI.l0 k p a s x i=some r→0≤r.1:=by
 intro k
 induction k with
 | zero=>intro x i r _ h;simp [aI.l0] at h
 | succ k ih=>
  intro x i r hx h
  unfold aI.l0 at h
  split at h
  · split at h
    · split at h
      · exact ih _ _ r (oK _ _ _) h
      cases h
    cases h
  obtain rfl:=Option.some.inj h;exact hx
theorem getf_nn (p:List Int) (a s:Int) (r:Int × Bool) (h:aI.f 10 p a s=some r):0≤r.1:=by
 have hj:∀ b r,aI.j0 (9+1) p a s b=some r→0≤r.1:=by
  intro b r h
  simp only [aI.j0] at h
  split at h
  · obtain rfl:=Option.some.inj h;exact Int.le_refl 0
  exact get_nn p a s 9 0 0 r (Int.le_refl 0) h
 have hb:∀ (q:Option Bool) r,(q.bind fun t=>aI.j0 10 p a s (!t))=some r→0≤r.1:=by
  intro q r h
  obtain ⟨t,_,h⟩:=Option.bind_eq_some_iff.1 h
  exact hj _ _ h
 unfold aI.f at h
 split at h
 · exact hb _ _ h
 split at h
 · exact hb _ _ h
 split at h
 · exact hb _ _ h
 exact hj _ _ h
theorem Bq (p:List Int) (a s:Int):0≤(rdP p a s).1:=by
 unfold rdP
 cases h:cZ.f 10 p a s with
 | none=>exact Int.le_refl 0
 | some r=>
  unfold cZ.f at h
  split at h
  · obtain rfl:=Option.some.inj h;exact Int.le_refl 0
  obtain ⟨t,ht,h⟩:=Option.bind_eq_some_iff.1 h
  split at h
  · obtain rfl:=Option.some.inj h;exact getf_nn _ _ _ _ ht
  obtain rfl:=Option.some.inj h;exact Int.le_refl 0
theorem BS (a b:Int) (l:Bool) (r:Int) (ha:0≤a) (h:bQ.f a b l=some r):0≤r:=by
 unfold bQ.f at h
 split at h
 · obtain rfl:=Option.some.inj h;exact Int.le_refl 0
 split at h
 · split at h
   · obtain rfl:=Option.some.inj h;exact lV _
   cases h
 split at h
 · obtain rfl:=Option.some.inj h
   exact Int.ediv_nonneg ha (by have:(0:Int)<2 ^ min b.toNat (IntKind.u32.bits):=Int.pow_pos (by decide);omega)
 cases h
theorem opP_nn (c a b:Int) (ha:0≤a):0≤(opP c a b).1:=by
 unfold opP
 cases h:bX.f c a b with
 | none=>exact Int.le_refl 0
 | some r=>
  show 0≤r.1
  unfold bX.f at h
  have one:∀ x:Int × Int,some x=some r→0≤x.1→0≤r.1:=fun x e hx=>by rw [←Option.some.inj e];exact hx
  have sh:∀ l,(bQ.f a b l).bind (fun t=>some (t,(0:Int)))=some r→0≤r.1:=by
   intro l h
   obtain ⟨t,ht,h⟩:=Option.bind_eq_some_iff.1 h
   exact one _ h (BS a b l t ha ht)
  split at h
  · exact one _ h (by show 0≤(a+b) % 4294967296;omega)
  split at h
  · exact one _ h (by show 0≤(a - b) % 4294967296;omega)
  split at h
  · exact one _ h (Int.emod_nonneg _ (by decide))
  split at h
  · exact one _ h (show 0≤(bits .or .u32 a b) from oK .or a b)
  split at h
  · exact one _ h (show 0≤(bits .and .u32 a b) from oK .and a b)
  split at h
  · exact one _ h (show 0≤(bits .xor .u32 a b) from oK .xor a b)
  split at h
  · exact sh _ h
  split at h
  · exact sh _ h
  split at h
  · exact one _ h (Int.le_refl 0)
  split at h
  · exact one _ h (Int.emod_nonneg _ (by decide))
  exact one _ h (Int.tmod_nonneg _ ha)
theorem BQ (l:List Int) (h:∀ j,0≤l.getD j 0) (n:Nat) (v:Int) (hv:0≤v):∀ j,0≤(l.set n v).getD j 0:=by
 intro j
 have:=h j
 rw [List.getD_eq_getElem?_getD] at this ⊢
 rw [List.getElem?_set]
 split
 · split
   · exact hv
   exact Int.le_refl 0
 exact this
theorem BV (i:S45) (pk:List Int) (M:bH) (h:MW M) (hk:0≤i.f3):MW (bY i pk M).1:=by
 obtain ⟨ha,hx,hm⟩:=h
 show (fun s:bH × Int=>MW s.1) (bY i pk M)
 unfold bY
 dsimp only
 refine eF (P:=fun s:bH × Int=>MW s.1) (fun _=>⟨hk,hx,hm⟩) (fun _=>?_)
 refine eF (P:=fun s:bH × Int=>MW s.1) (fun _=>⟨Bq _ _ _,hx,hm⟩) (fun _=>?_)
 refine eF (P:=fun s:bH × Int=>MW s.1) (fun _=>⟨Bq _ _ _,hx,hm⟩) (fun _=>?_)
 refine eF (P:=fun s:bH × Int=>MW s.1) (fun _=>⟨hm _,hx,hm⟩) (fun _=>?_)
 refine eF (P:=fun s:bH × Int=>MW s.1) (fun _=>⟨lV _,hx,hm⟩) (fun _=>?_)
 refine eF (P:=fun s:bH × Int=>MW s.1) (fun _=>⟨ha,hk,hm⟩) (fun _=>?_)
 refine eF (P:=fun s:bH × Int=>MW s.1) (fun _=>⟨ha,hm _,hm⟩) (fun _=>?_)
 refine eF (P:=fun s:bH × Int=>MW s.1) (fun _=>⟨ha,lV _,hm⟩) (fun _=>?_)
 refine eF (P:=fun s:bH × Int=>MW s.1) (fun _=>⟨ha,lV _,hm⟩) (fun _=>?_)
 refine eF (P:=fun s:bH × Int=>MW s.1) (fun _=>⟨ha,hx,BQ _ hm _ _ ha⟩) (fun _=>?_)
 refine eF (P:=fun s:bH × Int=>MW s.1) (fun _=>⟨ha,hx,BQ _ hm _ _ hx⟩) (fun _=>?_)
 refine eF (P:=fun s:bH × Int=>MW s.1) (fun _=>⟨lV _,hx,hm⟩) (fun _=>?_)
 refine eF (P:=fun s:bH × Int=>MW s.1) (fun _=>⟨ha,ha,hm⟩) (fun _=>?_)
 refine eF (P:=fun s:bH × Int=>MW s.1) (fun _=>⟨hx,hx,hm⟩) (fun _=>?_)
 exact ⟨opP_nn _ _ _ ha,hx,hm⟩
end Go.Proofs.Ytdkalnkplgfgoaa.Ln
namespace Go.Proofs.Ytdkalnkplgfgoaa.PA
open Go.RowKit Go.Proofs.YtdkalnkplgfgoaaW.PrintWords Go.Proofs.YtdkalnkplgfgoaaW.PrintLast Go.Proofs.YtdkalnkplgfgoaaW.PrintMore
attribute [local go_sem] dZ ek fF fG dQ dR d9 eu
def bD.l0:Nat→List (S45)→Int→Int→Option (Int × Int)
 | 0,_,_,_=>none
 | k+1,x0,x4,x5=>if x5<x4 then (if 0≤x5 then (if x5<(x0.length:Int) then ((aD.f k ((aV x0 x5).f0) ((aV x0 x5).f1) ((aV x0 x5).f2) ((aV x0 x5).f3)).bind fun t288=>(if t288=0 then (if ((aV x0 x5).f0)=5 then (if ((aV x0 x5).f3)≥((wrap64 ((wrap64 (x4 - 1)) - x5)) % 4294967296) then (some (x5,46)) else ((aK.f ((aV x0 x5).f0)).bind fun t292=>(if t292=true then (if (wrap64 ((aV x0 x5).f1))≥(wrap64 ((wrap64 (x4 - 1)) - x5)) then (some (x5,46)) else (if (wrap64 ((aV x0 x5).f2))≥(wrap64 ((wrap64 (x4 - 1)) - x5)) then (some (x5,46)) else (bD.l0 k x0 x4 (wrap64 (x5+1))))) else (bD.l0 k x0 x4 (wrap64 (x5+1)))))) else ((aK.f ((aV x0 x5).f0)).bind fun t296=>(if t296=true then (if (wrap64 ((aV x0 x5).f1))≥(wrap64 ((wrap64 (x4 - 1)) - x5)) then (some (x5,46)) else (if (wrap64 ((aV x0 x5).f2))≥(wrap64 ((wrap64 (x4 - 1)) - x5)) then (some (x5,46)) else (bD.l0 k x0 x4 (wrap64 (x5+1))))) else (bD.l0 k x0 x4 (wrap64 (x5+1)))))) else (some (x5,t288)))) else (none)) else (none)) else (if 0≤(wrap64 (x4 - 1)) then (if (wrap64 (x4 - 1))<(x0.length:Int) then ((bP.f ((aV x0 (wrap64 (x4 - 1))).f0)).bind fun t286=>(if t286=true then (some (0,0)) else (some (wrap64 (x4 - 1),47)))) else (none)) else (none))
def bD.f (k:Nat) (l0:List (S45)):Option (Int × Int):=if (l0.length:Int)=0 then (some (0,40)) else (if (l0.length:Int)>4096 then (some (4096,41)) else (bD.l0 k l0 (l0.length:Int) 0))
theorem bD.calls (k:Nat) (A0:Option Addr) (c0:Nat) (l0:List (S45)) (r1:Int) (r2:Int) (w:World) (hr0:Kd.C k45 w A0 l0.length l0) (hc0:l0.length≤c0) (h:bD.f k l0=some (r1,r2)) :
 Calls Try.prog 21 #[.slice A0 l0.length c0] w fun e w'=>e = .returned (.tuple #[.int .i64 r1,.int .i64 r2])∧Below w.heap.size w w':=by
 have hu45:=Try.underlying45
 have HR0:=aa.mk hr0
 have HC0:=aa.mk hc0
 clear hr0 hc0
 have HB:=aa.mk (Below.refl w.heap.size w)
 have H:(if (l0.length:Int)=0 then (some (0,40)) else (if (l0.length:Int)>4096 then (some (4096,41)) else (bD.l0 k l0 (l0.length:Int) 0)))=some (r1,r2):=h
 clear h
 replace H:=bN H
 obtain ⟨H,-,_,_⟩ | ⟨H,c2,_,_⟩:=H
 · obtain ⟨rfl,rfl⟩:=so2 H
   go_enter Try.func21,Try.ntmps21
   go_wp2
   go_ret2
   exact ⟨dm,bv⟩
 have c2b2:¬(l0=[]):=fun h_=>c2 (by rw [h_];rfl)
 replace H:=qD H
 obtain ⟨H,c3,_⟩ | ⟨H,c3,_⟩:=H
 · have c3b1:decide (4096<l0.length)=true:=decide_eq_true (by omega)
   clear c3
   obtain ⟨rfl,rfl⟩:=so2 H
   go_enter Try.func21,Try.ntmps21
   go_wp2
   go_ret2
   exact ⟨dm,bv⟩
 have c3b1:decide (4096<l0.length)=false:=decide_eq_false (by omega)
 clear c3
 replace H:=aa.mk H
 go_enter Try.func21,Try.ntmps21
 go_wp2
 go_loopg [5] k (fun kq v5 w'=>∃ (x5_1:Int),v5 = .int .i64 x5_1∧aa (bD.l0 kq l0 (l0.length:Int) x5_1=some (r1,r2))∧aa (kq≤k)∧aa (Below w.heap.size w w'))
 case atStart=>exact ⟨_,aY,H,⟨Nat.le_refl _⟩,⟨bv⟩⟩
 case round=>
  clear H
  obtain ⟨x5_1,rfl,HA,HK1,HB⟩:=hrel
  cases gk with
  | zero=>exact absurd HA.out (by simp [bD.l0])
  | succ k1=>
   have H:=HA.out
   clear HA
   simp only [bD.l0] at H
   replace H:=fo H
   obtain ⟨H,-,_⟩ | ⟨H,-,_⟩:=H
   · replace H:=fo H
     obtain ⟨H,-,_⟩ | ⟨H,c5,-⟩:=H
     · replace H:=fo H
       obtain ⟨H,-,_⟩ | ⟨H,c6,-⟩:=H
       · replace H:=bnd H
         obtain ⟨t288,A7,H⟩:=H
         replace H:=bN H
         obtain ⟨H,-,_,_⟩ | ⟨H,c8,_,_⟩:=H
         · replace H:=bN H
           obtain ⟨H,-,_,_⟩ | ⟨H,c9,_,_⟩:=H
           · replace H:=sM H
             obtain ⟨H,-,_⟩ | ⟨H,-,_⟩:=H
             · obtain ⟨rfl,rfl⟩:=so2 H
               obtain ⟨ad287,rfl,_,_,_,_,_,_⟩:=gV HR0 HB x5_1 (by assumption) (by assumption)
               go_wp2_with (go_at_call 49;(with_reducible refine (aD.calls _ _ _ _ _ _ _ A7.out).mono ?_);rintro e w11 ⟨rfl,hb⟩;replace HB:=cK HB hb;obtain ⟨_,_,_,_,_,_⟩:=gP HR0 HB x5_1 (by assumption) (by assumption);obtain ⟨_,_,_,_,_,_⟩:=gP HR0 HB x5_1 (by assumption) (by assumption))
               go_ret2
               exact ⟨dm,bv⟩
             replace H:=bnd H
             obtain ⟨t292,A12,H⟩:=H
             replace H:=iY H
             obtain ⟨rfl,H⟩ | ⟨rfl,H⟩:=H
             · replace H:=sM H
               obtain ⟨H,-,_⟩ | ⟨H,-,_⟩:=H
               · obtain ⟨rfl,rfl⟩:=so2 H
                 obtain ⟨ad287,rfl,_,_,_,_,_,_⟩:=gV HR0 HB x5_1 (by assumption) (by assumption)
                 go_wp2_with (first | (go_at_call 49;(with_reducible refine (aD.calls _ _ _ _ _ _ _ A7.out).mono ?_);rintro e w15 ⟨rfl,hb⟩;replace HB:=cK HB hb;obtain ⟨_,_,_,_,_,_⟩:=gP HR0 HB x5_1 (by assumption) (by assumption);obtain ⟨_,_,_,_,_,_⟩:=gP HR0 HB x5_1 (by assumption) (by assumption);obtain ⟨_,_,_,_,_,_⟩:=gP HR0 HB x5_1 (by assumption) (by assumption)) | (go_at_call 50;(with_reducible refine (aK.calls _ _ _ A12.out).mono ?_);rintro e w' ⟨rfl,⟨nd,rfl⟩⟩;obtain ⟨_,_,_,_,_,_⟩:=gP HR0 HB x5_1 (by assumption) (by assumption)))
                 go_ret2
                 exact ⟨dm,bv⟩
               replace H:=sM H
               obtain ⟨H,-,_⟩ | ⟨H,-,_⟩:=H
               · obtain ⟨rfl,rfl⟩:=so2 H
                 obtain ⟨ad287,rfl,_,_,_,_,_,_⟩:=gV HR0 HB x5_1 (by assumption) (by assumption)
                 go_wp2_with (first | (go_at_call 49;(with_reducible refine (aD.calls _ _ _ _ _ _ _ A7.out).mono ?_);rintro e w17 ⟨rfl,hb⟩;replace HB:=cK HB hb;obtain ⟨_,_,_,_,_,_⟩:=gP HR0 HB x5_1 (by assumption) (by assumption);obtain ⟨_,_,_,_,_,_⟩:=gP HR0 HB x5_1 (by assumption) (by assumption);obtain ⟨_,_,_,_,_,_⟩:=gP HR0 HB x5_1 (by assumption) (by assumption)) | (go_at_call 50;(with_reducible refine (aK.calls _ _ _ A12.out).mono ?_);rintro e w' ⟨rfl,⟨nd,rfl⟩⟩;obtain ⟨_,_,_,_,_,_⟩:=gP HR0 HB x5_1 (by assumption) (by assumption);obtain ⟨_,_,_,_,_,_⟩:=gP HR0 HB x5_1 (by assumption) (by assumption)))
                 go_ret2
                 exact ⟨dm,bv⟩
               replace H:=aa.mk H
               obtain ⟨ad287,rfl,_,_,_,_,_,_⟩:=gV HR0 HB x5_1 (by assumption) (by assumption)
               go_wp2_with (first | (go_at_call 49;(with_reducible refine (aD.calls _ _ _ _ _ _ _ A7.out).mono ?_);rintro e w18 ⟨rfl,hb⟩;replace HB:=cK HB hb;obtain ⟨_,_,_,_,_,_⟩:=gP HR0 HB x5_1 (by assumption) (by assumption);obtain ⟨_,_,_,_,_,_⟩:=gP HR0 HB x5_1 (by assumption) (by assumption);obtain ⟨_,_,_,_,_,_⟩:=gP HR0 HB x5_1 (by assumption) (by assumption)) | (go_at_call 50;(with_reducible refine (aK.calls _ _ _ A12.out).mono ?_);rintro e w' ⟨rfl,⟨nd,rfl⟩⟩;obtain ⟨_,_,_,_,_,_⟩:=gP HR0 HB x5_1 (by assumption) (by assumption);obtain ⟨_,_,_,_,_,_⟩:=gP HR0 HB x5_1 (by assumption) (by assumption)))
               go_roundg k1
               case measure=>have:=HK1.out;omega
               case rel=>exact ⟨_,aY,H,⟨by have:=HK1.out;omega⟩,⟨bv⟩⟩
             replace H:=aa.mk H
             obtain ⟨ad287,rfl,_,_,_,_,_,_⟩:=gV HR0 HB x5_1 (by assumption) (by assumption)
             go_wp2_with (first | (go_at_call 49;(with_reducible refine (aD.calls _ _ _ _ _ _ _ A7.out).mono ?_);rintro e w19 ⟨rfl,hb⟩;replace HB:=cK HB hb;obtain ⟨_,_,_,_,_,_⟩:=gP HR0 HB x5_1 (by assumption) (by assumption);obtain ⟨_,_,_,_,_,_⟩:=gP HR0 HB x5_1 (by assumption) (by assumption);obtain ⟨_,_,_,_,_,_⟩:=gP HR0 HB x5_1 (by assumption) (by assumption)) | (go_at_call 50;(with_reducible refine (aK.calls _ _ _ A12.out).mono ?_);rintro e w' ⟨rfl,⟨nd,rfl⟩⟩))
             go_roundg k1
             case measure=>have:=HK1.out;omega
             case rel=>exact ⟨_,aY,H,⟨by have:=HK1.out;omega⟩,⟨bv⟩⟩
           replace H:=bnd H
           obtain ⟨t296,A20,H⟩:=H
           replace H:=iY H
           obtain ⟨rfl,H⟩ | ⟨rfl,H⟩:=H
           · replace H:=sM H
             obtain ⟨H,-,_⟩ | ⟨H,-,_⟩:=H
             · obtain ⟨rfl,rfl⟩:=so2 H
               obtain ⟨ad287,rfl,_,_,_,_,_,_⟩:=gV HR0 HB x5_1 (by assumption) (by assumption)
               go_wp2_with (first | (go_at_call 49;(with_reducible refine (aD.calls _ _ _ _ _ _ _ A7.out).mono ?_);rintro e w23 ⟨rfl,hb⟩;replace HB:=cK HB hb;obtain ⟨_,_,_,_,_,_⟩:=gP HR0 HB x5_1 (by assumption) (by assumption);obtain ⟨_,_,_,_,_,_⟩:=gP HR0 HB x5_1 (by assumption) (by assumption)) | (go_at_call 50;(with_reducible refine (aK.calls _ _ _ A20.out).mono ?_);rintro e w' ⟨rfl,⟨nd,rfl⟩⟩;obtain ⟨_,_,_,_,_,_⟩:=gP HR0 HB x5_1 (by assumption) (by assumption)))
               go_ret2
               exact ⟨dm,bv⟩
             replace H:=sM H
             obtain ⟨H,-,_⟩ | ⟨H,-,_⟩:=H
             · obtain ⟨rfl,rfl⟩:=so2 H
               obtain ⟨ad287,rfl,_,_,_,_,_,_⟩:=gV HR0 HB x5_1 (by assumption) (by assumption)
               go_wp2_with (first | (go_at_call 49;(with_reducible refine (aD.calls _ _ _ _ _ _ _ A7.out).mono ?_);rintro e w25 ⟨rfl,hb⟩;replace HB:=cK HB hb;obtain ⟨_,_,_,_,_,_⟩:=gP HR0 HB x5_1 (by assumption) (by assumption);obtain ⟨_,_,_,_,_,_⟩:=gP HR0 HB x5_1 (by assumption) (by assumption)) | (go_at_call 50;(with_reducible refine (aK.calls _ _ _ A20.out).mono ?_);rintro e w' ⟨rfl,⟨nd,rfl⟩⟩;obtain ⟨_,_,_,_,_,_⟩:=gP HR0 HB x5_1 (by assumption) (by assumption);obtain ⟨_,_,_,_,_,_⟩:=gP HR0 HB x5_1 (by assumption) (by assumption)))
               go_ret2
               exact ⟨dm,bv⟩
             replace H:=aa.mk H
             obtain ⟨ad287,rfl,_,_,_,_,_,_⟩:=gV HR0 HB x5_1 (by assumption) (by assumption)
             go_wp2_with (first | (go_at_call 49;(with_reducible refine (aD.calls _ _ _ _ _ _ _ A7.out).mono ?_);rintro e w26 ⟨rfl,hb⟩;replace HB:=cK HB hb;obtain ⟨_,_,_,_,_,_⟩:=gP HR0 HB x5_1 (by assumption) (by assumption);obtain ⟨_,_,_,_,_,_⟩:=gP HR0 HB x5_1 (by assumption) (by assumption)) | (go_at_call 50;(with_reducible refine (aK.calls _ _ _ A20.out).mono ?_);rintro e w' ⟨rfl,⟨nd,rfl⟩⟩;obtain ⟨_,_,_,_,_,_⟩:=gP HR0 HB x5_1 (by assumption) (by assumption);obtain ⟨_,_,_,_,_,_⟩:=gP HR0 HB x5_1 (by assumption) (by assumption)))
             go_roundg k1
             case measure=>have:=HK1.out;omega
             case rel=>exact ⟨_,aY,H,⟨by have:=HK1.out;omega⟩,⟨bv⟩⟩
           replace H:=aa.mk H
           obtain ⟨ad287,rfl,_,_,_,_,_,_⟩:=gV HR0 HB x5_1 (by assumption) (by assumption)
           go_wp2_with (first | (go_at_call 49;(with_reducible refine (aD.calls _ _ _ _ _ _ _ A7.out).mono ?_);rintro e w27 ⟨rfl,hb⟩;replace HB:=cK HB hb;obtain ⟨_,_,_,_,_,_⟩:=gP HR0 HB x5_1 (by assumption) (by assumption);obtain ⟨_,_,_,_,_,_⟩:=gP HR0 HB x5_1 (by assumption) (by assumption)) | (go_at_call 50;(with_reducible refine (aK.calls _ _ _ A20.out).mono ?_);rintro e w' ⟨rfl,⟨nd,rfl⟩⟩))
           go_roundg k1
           case measure=>have:=HK1.out;omega
           case rel=>exact ⟨_,aY,H,⟨by have:=HK1.out;omega⟩,⟨bv⟩⟩
         obtain ⟨rfl,rfl⟩:=so2 H
         obtain ⟨ad287,rfl,_,_,_,_,_,_⟩:=gV HR0 HB x5_1 (by assumption) (by assumption)
         go_wp2_with (go_at_call 49;(with_reducible refine (aD.calls _ _ _ _ _ _ _ A7.out).mono ?_);rintro e w28 ⟨rfl,hb⟩;replace HB:=cK HB hb)
         go_ret2
         exact ⟨dm,bv⟩
       exact absurd H (by simp)
     exact absurd H (by simp)
   obtain ⟨ji29,hji29⟩:∃ j_:Int,(wrap64 ((l0.length:Int) - 1))=j_:=⟨_,rfl⟩
   replace H:(if 0≤(ji29) then (if (ji29)<(l0.length:Int) then ((bP.f ((aV l0 (ji29)).f0)).bind fun t286=>(if t286=true then (some (0,0)) else (some (ji29,47)))) else (none)) else (none))=some (r1,r2):=by first | (rw [hji29] at H;exact H) | (simp only [hji29] at H ⊢;exact H)
   have hji29w:(IntKind.i64.wrap ((l0.length:Int) - 1))=ji29:=(dD _).trans hji29
   replace H:=fo H
   obtain ⟨H,-,_⟩ | ⟨H,c30,-⟩:=H
   · replace H:=fo H
     obtain ⟨H,-,_⟩ | ⟨H,c31,-⟩:=H
     · replace H:=bnd H
       obtain ⟨t286,A32,H⟩:=H
       replace H:=iY H
       obtain ⟨rfl,H⟩ | ⟨rfl,H⟩:=H
       · obtain ⟨rfl,rfl⟩:=so2 H
         obtain ⟨ad285,rfl,_,_,_,_,_,_⟩:=gV HR0 HB (ji29) (by assumption) (by assumption)
         go_wp2_with (go_at_call 51;(with_reducible refine (bP.calls _ _ _ A32.out).mono ?_);rintro e w' ⟨rfl,⟨nd,rfl⟩⟩)
         go_ret2
         exact ⟨by first | rfl | (simp [iQ,iR]<;>rfl) | (simp only [←hji29];first | rfl | (simp [iQ,iR]<;>rfl)) | (simp [*,iQ,iR]<;>rfl),bv⟩
       obtain ⟨rfl,rfl⟩:=so2 H
       obtain ⟨ad285,rfl,_,_,_,_,_,_⟩:=gV HR0 HB (ji29) (by assumption) (by assumption)
       go_wp2_with (go_at_call 51;(with_reducible refine (bP.calls _ _ _ A32.out).mono ?_);rintro e w' ⟨rfl,⟨nd,rfl⟩⟩)
       go_ret2
       exact ⟨by first | rfl | (simp [iQ,iR]<;>rfl) | (simp only [←hji29];first | rfl | (simp [iQ,iR]<;>rfl)) | (simp [*,iQ,iR]<;>rfl),bv⟩
     exact absurd H (by simp)
   exact absurd H (by simp)
end Go.Proofs.Ytdkalnkplgfgoaa.PA
namespace Go.Proofs.Ytdkalnkplgfgoaa.Ln
open Go.RowKit Go.Proofs.YtdkalnkplgfgoaaW.PrintWords Go.Proofs.YtdkalnkplgfgoaaW.PrintLast Go.Proofs.YtdkalnkplgfgoaaW.PrintMore
section
variable {P:Program} {ops:Array Oper} {o:Oper} {a:Act} {Q:Exit→Act→World→Prop} {Kc:Act→World→Prop} {α:Type}
theorem lY (d:Kd α) {w0 W:World} (base:Nat) (s x:Operand) (t e:TypeId) (z:Value) (bytes:Nat) (hg:o.guard=none)
 (ho:o.op = .call {callee := .builtin .append,args:=#[s,x],argTypes:=#[t,t]})
 (ht:P.underlying t=some (.slice e)) (hinfo:(P.info? e).map (fun i=>(i.zero,i.size,i.bytes))=some (some z,d.sz,bytes)) (hz:z.cells.size=d.sz) (hs0:0<d.sz) (hb0:0<bytes)
 (v:Value) (xs:List α) (p:α) (cs:List Value) (hs:a.eval s=v) (hx:a.eval x = .slice (some ⟨W.heap.size,0,none⟩) 1 1) (hp:d.M W base (fun _=>False) p cs)
 (HO:d.R e W base (fun _=>True) v xs) (HB:Below base w0 W) (hbase:base≤W.heap.size) (hl:(xs.length+1)*bytes≤140737488355328)
 (h:∀ v1 w1,d.R e w1 base (fun _=>True) v1 (xs++[p])→Below base w0 w1→W.drew.grownBy w1 v.ownBlock→Kc (a.put o.dst v1) w1) :
 if Region.wanted o (yielded ops a.tmps)=true then Oper.wp P o a ((W.alloc (.cells cs.toArray e)).drew) Kc Q else Kc (a.put o.dst undef) ((W.alloc (.cells cs.toArray e)).drew):=
 Kd.qp (w0:=w0) (W:=W.drew) d base (by simp [Region.wanted,hg]) s x t e z bytes ho ht hinfo hz hs0 hb0 v xs p cs (fun _=>True) (fun _=>False) hs hx (d.M_move (w:=W) (w1:=W.drew) (fun _ _=>rfl) hp) (fun _ h=>h.elim) (fun _ _=>trivial) (Kd.gD HO) (ak HB) hbase hl (fun v1 w1 r b g _=>h v1 w1 r b g)
end
open Go.Maps Go.Proofs.Ytdkalnkplgfgoaa.PA
def hoP (i:S45) (a x:Int):Bool:=(bM.f 10 i.f0 i.f1 i.f2 i.f3 a x).getD false
theorem uC (a0 a1 a2 a3 a x:Int):∃ b,bM.f 10 a0 a1 a2 a3 a x=some b:=by
 have h:∀ b c,∃ r,bM.j0 (9+1) a b a0 a1 a2 c=some r:=by
  intro b c
  simp only [bM.j0]
  repeat' split
  all_goals exact ⟨_,rfl⟩
 unfold bM.f
 obtain ⟨b,e⟩:=tC a0
 rw [e]
 simp only [Option.bind_some]
 split
 · exact h _ _
 exact h _ _
def z16:bH:=⟨0,0,List.replicate 16 0⟩
theorem uY {p:List S45} {i:Int} (h0:0≤i) (h1:i<p.length):aV p i∈p:=by
 unfold aV
 rw [List.getD_eq_getElem?_getD,List.getElem?_eq_getElem (by omega)]
 exact List.getElem_mem _
theorem MW_z:MW z16:=⟨by decide,by decide,fun j=>by
 show 0≤(List.replicate 16 (0:Int)).getD j 0
 rw [List.getD_eq_getElem?_getD,List.getElem?_replicate]
 split<;>decide⟩
def Rg (v:Int):Prop:=0≤v∧v<4294967296
structure MB (M:bH):Prop where
 a:Rg M.a
 x:Rg M.x
 m:∀ j,Rg (M.m.getD j 0)
 len:M.m.length=16
theorem Rg.z:Rg 0:=⟨Int.le_refl 0,by decide⟩
theorem kH (n:Int):Rg (IntKind.u32.wrap n):=by rw [IntKind.wrap_u32];unfold Rg;omega
theorem oV (op:BinOp) (x y:Int):Rg (bits op .u32 x y):=kH _
theorem uh {v:Int} (h:Rg v):IntKind.u32.wrap v=v:=by rw [IntKind.wrap_u32];unfold Rg at h;omega
theorem get_rg (p:List Int) (a s:Int):∀ (k:Nat) (x i:Int) (r:Int × Bool),Rg x→aI.l0 k p a s x i=some r→Rg r.1:=by
 intro k
 induction k with
 | zero=>intro x i r _ h;simp [aI.l0] at h
 | succ k ih=>
  intro x i r hx h
  unfold aI.l0 at h
  split at h
  · split at h
    · split at h
      · exact ih _ _ r (oV _ _ _) h
      cases h
    cases h
  obtain rfl:=Option.some.inj h;exact hx
theorem getf_rg (p:List Int) (a s:Int) (r:Int × Bool) (h:aI.f 10 p a s=some r):Rg r.1:=by
 have hj:∀ b r,aI.j0 (9+1) p a s b=some r→Rg r.1:=by
  intro b r h
  simp only [aI.j0] at h
  split at h
  · obtain rfl:=Option.some.inj h;exact Rg.z
  exact get_rg p a s 9 0 0 r Rg.z h
 have hb:∀ (q:Option Bool) r,(q.bind fun t=>aI.j0 10 p a s (!t))=some r→Rg r.1:=by
  intro q r h
  obtain ⟨t,_,h⟩:=Option.bind_eq_some_iff.1 h
  exact hj _ _ h
 unfold aI.f at h
 split at h
 · exact hb _ _ h
 split at h
 · exact hb _ _ h
 split at h
 · exact hb _ _ h
 exact hj _ _ h
theorem Br (p:List Int) (a s:Int):Rg (rdP p a s).1:=by
 unfold rdP
 cases h:cZ.f 10 p a s with
 | none=>exact Rg.z
 | some r=>
  unfold cZ.f at h
  split at h
  · obtain rfl:=Option.some.inj h;exact Rg.z
  obtain ⟨t,ht,h⟩:=Option.bind_eq_some_iff.1 h
  split at h
  · obtain rfl:=Option.some.inj h;exact getf_rg _ _ _ _ ht
  obtain rfl:=Option.some.inj h;exact Rg.z
theorem BU (a b:Int) (l:Bool) (r:Int) (ha:Rg a) (h:bQ.f a b l=some r):Rg r:=by
 unfold bQ.f at h
 split at h
 · obtain rfl:=Option.some.inj h;exact Rg.z
 split at h
 · split at h
   · obtain rfl:=Option.some.inj h;exact kH _
   cases h
 split at h
 · obtain rfl:=Option.some.inj h
   have h2:(0:Int)<2 ^ min b.toNat (IntKind.u32.bits):=Int.pow_pos (by decide)
   refine ⟨Int.ediv_nonneg ha.1 (by omega),?_⟩
   show a / _<_
   have:a / 2 ^ min b.toNat (IntKind.u32.bits)≤a:=Int.ediv_le_self _ ha.1
   have:=ha.2
   omega
 cases h
theorem sH (n:Int):Rg (n % 4294967296):=by unfold Rg;omega
theorem Bb (c a b:Int) (ha:Rg a) (hb:Rg b):Rg (opP c a b).1:=by
 unfold opP
 cases h:bX.f c a b with
 | none=>exact Rg.z
 | some r=>
  show Rg r.1
  unfold bX.f at h
  have one:∀ x:Int × Int,some x=some r→Rg x.1→Rg r.1:=fun x e hx=>by rw [←Option.some.inj e];exact hx
  have sh:∀ l,(bQ.f a b l).bind (fun t=>some (t,(0:Int)))=some r→Rg r.1:=by
   intro l h
   obtain ⟨t,ht,h⟩:=Option.bind_eq_some_iff.1 h
   exact one _ h (BU a b l t ha ht)
  split at h
  · exact one _ h (sH _)
  split at h
  · exact one _ h (sH _)
  split at h
  · exact one _ h (sH _)
  split at h
  · exact one _ h (show Rg (bits .or .u32 a b) from oV .or a b)
  split at h
  · exact one _ h (show Rg (bits .and .u32 a b) from oV .and a b)
  split at h
  · exact one _ h (show Rg (bits .xor .u32 a b) from oV .xor a b)
  split at h
  · exact sh _ h
  split at h
  · exact sh _ h
  split at h
  · exact one _ h Rg.z
  split at h
  · exact one _ h (sH _)
  refine one _ h ⟨Int.tmod_nonneg _ ha.1,?_⟩
  have h1:=ha.1
  have h2:=ha.2
  show Int.tmod a b<_
  rw [Int.tmod_eq_emod_of_nonneg h1]
  rcases Int.lt_or_eq_of_le hb.1 with hp | hp
  · have:=Int.emod_lt_of_pos a hp
    have:=hb.2
    omega
  rw [←hp,Int.emod_zero];exact h2
theorem BR (l:List Int) (h:∀ j,Rg (l.getD j 0)) (n:Nat) (v:Int) (hv:Rg v):∀ j,Rg ((l.set n v).getD j 0):=by
 intro j
 have:=h j
 rw [List.getD_eq_getElem?_getD] at this ⊢
 rw [List.getElem?_set]
 split
 · split
   · exact hv
   exact Rg.z
 exact this
theorem lq (i:S45) (pk:List Int) (M:bH) (h:MB M) (hk:Rg i.f3):MB (bY i pk M).1:=by
 have hl:=qY i pk M
 have H:(fun s:bH × Int=>Rg s.1.a∧Rg s.1.x∧∀ j,Rg (s.1.m.getD j 0)) (bY i pk M):=by
  obtain ⟨ha,hx,hm,_⟩:=h
  unfold bY
  dsimp only
  refine eF (P:=fun s:bH × Int=>Rg s.1.a∧Rg s.1.x∧∀ j,Rg (s.1.m.getD j 0)) (fun _=>⟨hk,hx,hm⟩) (fun _=>?_)
  refine eF (P:=fun s:bH × Int=>Rg s.1.a∧Rg s.1.x∧∀ j,Rg (s.1.m.getD j 0)) (fun _=>⟨Br _ _ _,hx,hm⟩) (fun _=>?_)
  refine eF (P:=fun s:bH × Int=>Rg s.1.a∧Rg s.1.x∧∀ j,Rg (s.1.m.getD j 0)) (fun _=>⟨Br _ _ _,hx,hm⟩) (fun _=>?_)
  refine eF (P:=fun s:bH × Int=>Rg s.1.a∧Rg s.1.x∧∀ j,Rg (s.1.m.getD j 0)) (fun _=>⟨hm _,hx,hm⟩) (fun _=>?_)
  refine eF (P:=fun s:bH × Int=>Rg s.1.a∧Rg s.1.x∧∀ j,Rg (s.1.m.getD j 0)) (fun _=>⟨kH _,hx,hm⟩) (fun _=>?_)
  refine eF (P:=fun s:bH × Int=>Rg s.1.a∧Rg s.1.x∧∀ j,Rg (s.1.m.getD j 0)) (fun _=>⟨ha,hk,hm⟩) (fun _=>?_)
  refine eF (P:=fun s:bH × Int=>Rg s.1.a∧Rg s.1.x∧∀ j,Rg (s.1.m.getD j 0)) (fun _=>⟨ha,hm _,hm⟩) (fun _=>?_)
  refine eF (P:=fun s:bH × Int=>Rg s.1.a∧Rg s.1.x∧∀ j,Rg (s.1.m.getD j 0)) (fun _=>⟨ha,kH _,hm⟩) (fun _=>?_)
  refine eF (P:=fun s:bH × Int=>Rg s.1.a∧Rg s.1.x∧∀ j,Rg (s.1.m.getD j 0)) (fun _=>⟨ha,kH _,hm⟩) (fun _=>?_)
  refine eF (P:=fun s:bH × Int=>Rg s.1.a∧Rg s.1.x∧∀ j,Rg (s.1.m.getD j 0)) (fun _=>⟨ha,hx,BR _ hm _ _ ha⟩) (fun _=>?_)
  refine eF (P:=fun s:bH × Int=>Rg s.1.a∧Rg s.1.x∧∀ j,Rg (s.1.m.getD j 0)) (fun _=>⟨ha,hx,BR _ hm _ _ hx⟩) (fun _=>?_)
  refine eF (P:=fun s:bH × Int=>Rg s.1.a∧Rg s.1.x∧∀ j,Rg (s.1.m.getD j 0)) (fun _=>⟨kH _,hx,hm⟩) (fun _=>?_)
  refine eF (P:=fun s:bH × Int=>Rg s.1.a∧Rg s.1.x∧∀ j,Rg (s.1.m.getD j 0)) (fun _=>⟨ha,ha,hm⟩) (fun _=>?_)
  refine eF (P:=fun s:bH × Int=>Rg s.1.a∧Rg s.1.x∧∀ j,Rg (s.1.m.getD j 0)) (fun _=>⟨hx,hx,hm⟩) (fun _=>?_)
  exact ⟨Bb _ _ _ ha (by split<;>assumption),hx,hm⟩
 exact ⟨H.1,H.2.1,H.2.2,hl.trans h.len⟩
theorem MB_z:MB z16:=⟨Rg.z,Rg.z,fun j=>by
 have:∀ n:Nat,(List.replicate n (0:Int)).getD j 0=0:=fun n=>by
  rw [List.getD_eq_getElem?_getD,List.getElem?_replicate];split<;>rfl
 show Rg ((List.replicate 16 (0:Int)).getD j 0)
 rw [this];exact Rg.z,rfl⟩
def knL:List Int:=[0,32,40,48,64,72,80,96,128,1,97,129,177,2,3,132,6,22,7,135,5,21,29,37,45,53,61,69,77,4,12,20,28,36,44,52,60,68,76,84,92,100,108,116,124,148,156,164,172]
def kn (c:Int):Bool:=decide (c∈knL)
def jmB (c:Int):Bool:=decide (c∈([21,29,37,45,53,61,69,77]:List Int))
def reB (c:Int):Bool:=decide (c=6∨c=22)
def usK (c:Int):Bool:=kn c&&!decide (c∈([128,129,132,22,7,135,12,28,44,60,76,92,108,124,156,172,29,45,61,77]:List Int))
def aU (c:Int):Int:=if kn c then wrap64 (Go.bits .and .u16 c 7) else -1
def stB (c K:Int):Bool:=kn c&&!jmB c&&!reB c&&!decide (c=5)&&(!decide (c=2∨c=3∨c=96∨c=97)||decide (K<16))&&(!decide (c=52∨c=148)||decide (K≠0))&&(!decide (c=100∨c=116)||decide (K≤31))
theorem Ae {c:Int} {P:Int→Prop} (h:kn c=true) (H:∀ x∈knL,P x):P c:=H c (of_decide_eq_true h)
theorem kn_no {c:Int} (h:kn c=false):∀ x∈knL,c≠x:=fun x hx e=>by
 have:=of_decide_eq_false h
 exact this (e ▸ hx)
theorem mM {c:Int} (h:kn c=false) (k:Nat):aJ.f (k+8) c=some false∧ay.f (k+8) c=some false∧cz.f (k+8) c=some false∧bf.f (k+8) c=some false∧aK.f c=some false∧az.f (k+8) c=some false∧bP.f c=some false:=by
 have H:=kn_no h
 simp only [knL,List.forall_mem_cons] at H
 obtain ⟨h0,h1,h2,h3,h4,h5,h6,h7,h8,h9,h10,h11,h12,h13,h14,h15,h16,h17,h18,h19,h20,h21,h22,h23,h24,h25,h26,h27,h28,h29,h30,h31,h32,h33,h34,h35,h36,h37,h38,h39,h40,h41,h42,h43,h44,h45,h46,h47,h48,-⟩:=H
 refine ⟨?_,?_,?_,?_,?_,?_,?_⟩
 · simp [aJ.f,aJ.j0,aJ.j1,aJ.j2,bf.f,bf.j0,bf.j1,cz.f,cz.j0, *]
 · simp [ay.f,ay.j0,ay.j1,aK.f,az.f,az.j0, *]
 · simp [cz.f,cz.j0, *]
 · simp [bf.f,bf.j0,bf.j1, *]
 · simp [aK.f, *]
 · simp [az.f,az.j0, *]
 simp [bP.f, *]
theorem lM (k:Nat):∀ c∈knL,aJ.f (k+8) c=some true∧ay.f (k+8) c=some true∧cz.f (k+8) c=some (jmB c)∧aK.f c=some (jmB c)∧bP.f c=some (reB c)∧(∃ u2 u3,fA.f (k+8) c=some (usK c,u2,u3))∧(∃ u2 u3,bu.f (k+8) c=some (usK c,u2,u3)):=by
 simp only [knL,List.forall_mem_cons]
 refine ⟨?_,?_,?_,?_,?_,?_,?_,?_,?_,?_,?_,?_,?_,?_,?_,?_,?_,?_,?_,?_,?_,?_,?_,?_,?_,?_,?_,?_,?_,?_,?_,?_,?_,?_,?_,?_,?_,?_,?_,?_,?_,?_,?_,?_,?_,?_,?_,?_,?_,by simp⟩
 all_goals exact ⟨rfl,rfl,rfl,rfl,rfl,⟨_,_,rfl⟩,⟨_,_,rfl⟩⟩
theorem lL (c:Int) (k:Nat):aJ.f (k+8) c=some (kn c)∧ay.f (k+8) c=some (kn c):=by
 cases h:kn c
 · exact ⟨(mM h k).1,(mM h k).2.1⟩
 have:=lM k c (of_decide_eq_true h)
 exact ⟨this.1,this.2.1⟩
theorem tO {c:Int} (h:kn c=false):jmB c=false∧reB c=false∧usK c=false:=by
 refine ⟨?_,?_,by unfold usK;rw [h];rfl⟩
 · unfold jmB
   refine decide_eq_false fun hc=>?_
   simp only [List.mem_cons,List.not_mem_nil,or_false] at hc
   rcases hc with rfl | rfl | rfl | rfl | rfl | rfl | rfl | rfl<;>exact absurd h (by decide)
 unfold reB
 refine decide_eq_false fun hc=>?_
 rcases hc with rfl | rfl<;>exact absurd h (by decide)
theorem uJ (c:Int):aK.f c=some (jmB c):=by
 cases h:kn c
 · rw [(tO h).1];exact (mM h 0).2.2.2.2.1
 exact (lM 0 c (of_decide_eq_true h)).2.2.2.1
theorem ll (c:Int):bP.f c=some (reB c):=by
 cases h:kn c
 · rw [(tO h).2.1];exact (mM h 0).2.2.2.2.2.2
 exact (lM 0 c (of_decide_eq_true h)).2.2.2.2.1
theorem gu (c:Int) (k:Nat):aG.f (k+8) c=some (aU c)∧bL.f (k+8) c=some (aU c):=by
 unfold aG.f bL.f
 rw [(lL c k).1,(lL c k).2]
 unfold aU
 rw [Option.bind_some]
 constructor<;>split<;>rfl
theorem sP (c:Int) (k:Nat):(∃ u2 u3,fA.f (k+8) c=some (usK c,u2,u3))∧(∃ u2 u3,bu.f (k+8) c=some (usK c,u2,u3)):=by
 cases h:kn c
 · rw [(tO h).2.2]
   unfold fA.f bu.f
   rw [(lL c k).1,(lL c k).2,h]
   exact ⟨⟨_,_,rfl⟩,⟨_,_,rfl⟩⟩
 exact (lM k c (of_decide_eq_true h)).2.2.2.2.2
theorem lJ:∀ c∈knL,aU c ≠ -1∧¬aU c<0∧(aU c=5↔c=5∨jmB c=true)∧(aU c=6↔reB c=true):=by
 decide +kernel
theorem rO {c:Int} (h:kn c=false):aU c = -1:=by unfold aU;rw [h];rfl
theorem mD (c:Int):aU c=6↔reB c=true:=by
 cases h:kn c
 · rw [rO h,(tO h).2.1];decide
 exact (lJ c (of_decide_eq_true h)).2.2.2
theorem lI (c:Int):aU c=5↔c=5∨jmB c=true:=by
 cases h:kn c
 · rw [rO h,(tO h).1]
   have:=kn_no h 5 (by decide)
   constructor
   · intro h;exact absurd h (by decide)
   rintro (h | h)
   · exact absurd h this
   exact absurd h (by decide)
 exact (lJ c (of_decide_eq_true h)).2.2.1
theorem zY {c:Int} (h:jmB c=true):c≠5:=by rintro rfl;exact absurd h (by decide)
def flF (c K:Int):Int:=if kn c then (if (c=2∨c=3∨c=96∨c=97)∧K≥16 then 43 else if (c=52∨c=148)∧K=0 then 44 else if (c=100∨c=116)∧K>31 then 45 else 0) else 42
theorem wm (c jt jf K:Int) (k:Nat):aD.f (k+8) c jt jf K=some (flF c K):=by
 unfold aD.f
 rw [(lL c k).2]
 unfold flF
 cases h:kn c
 · rfl
 simp only [Option.bind_some,if_true]
 by_cases a:c=2∨c=3∨c=96∨c=97
 · rcases a with rfl | rfl | rfl | rfl<;>by_cases b:K≥16<;>simp [aD.j0,aD.j1,b]<;>omega
 have a1:c≠2:=fun e=>a (.inl e)
 have a2:c≠3:=fun e=>a (.inr (.inl e))
 have a3:c≠96:=fun e=>a (.inr (.inr (.inl e)))
 have a4:c≠97:=fun e=>a (.inr (.inr (.inr e)))
 by_cases b:c=52∨c=148
 · rcases b with rfl | rfl<;>by_cases d:K=0<;>simp [aD.j0,aD.j1,d]
 have b1:c≠52:=fun e=>b (.inl e)
 have b2:c≠148:=fun e=>b (.inr e)
 by_cases d:c=100∨c=116
 · rcases d with rfl | rfl<;>by_cases e:K>31<;>simp [aD.j0,aD.j1,e]<;>omega
 have d1:c≠100:=fun e=>d (.inl e)
 have d2:c≠116:=fun e=>d (.inr e)
 simp [aD.j0,aD.j1,a1,a2,a3,a4,b1,b2,d1,d2]
theorem lT (c K:Int):stB c K=(!decide (aU c<0)&&!decide (aU c=5)&&!decide (aU c=6)&&decide (flF c K=0)):=by
 cases h:kn c
 · rw [rO h];unfold stB;rw [h];rfl
 have h1:=(lJ c (of_decide_eq_true h)).2.1
 have e5:decide (aU c=5)=(decide (c=5)||jmB c):=by
  rw [Bool.eq_iff_iff];simp only [decide_eq_true_eq,Bool.or_eq_true];exact lI c
 have e6:decide (aU c=6)=reB c:=by
  rw [Bool.eq_iff_iff];simp only [decide_eq_true_eq];exact mD c
 rw [e5,e6,decide_eq_false h1]
 unfold stB flF
 rw [h]
 by_cases a:c=2∨c=3∨c=96∨c=97<;>by_cases a1:c=52∨c=148<;>by_cases a2:c=100∨c=116<;>by_cases b1:K≥16<;>by_cases b2:K=0<;>by_cases b3:K>31<;>simp [a,a1,a2,b1,b2,b3]<;>first | omega | (cases jmB c<;>cases reB c<;>cases decide (c=5)<;>simp<;>omega)
theorem vI (c jt jf K:Int) (k:Nat):aX.f (k+8) c jt jf K=some (stB c K):=by
 unfold aX.f
 rw [(gu c k).1]
 simp only [Option.bind_some]
 cases h:kn c
 · rw [rO h,if_pos rfl];unfold stB;rw [h];rfl
 have h1:=(lJ c (of_decide_eq_true h)).1
 rw [if_neg h1]
 by_cases h5:aU c=5
 · rw [if_pos h5,lT,h5];simp
 rw [if_neg h5]
 by_cases h6:aU c=6
 · rw [if_pos h6,lT,h6];simp
 rw [if_neg h6]
 have h0:=(lJ c (of_decide_eq_true h)).2.1
 have es:stB c K=decide (flF c K=0):=by rw [lT];simp [h0,h5,h6]
 rw [es]
 unfold flF
 rw [h]
 by_cases a:c=2∨c=3∨c=96∨c=97
 · rcases a with rfl | rfl | rfl | rfl<;>by_cases b:K≥16<;>simp [aX.j0,aX.j1,b]<;>omega
 have a1:c≠2:=fun e=>a (.inl e)
 have a2:c≠3:=fun e=>a (.inr (.inl e))
 have a3:c≠96:=fun e=>a (.inr (.inr (.inl e)))
 have a4:c≠97:=fun e=>a (.inr (.inr (.inr e)))
 by_cases b:c=52∨c=148
 · rcases b with rfl | rfl<;>by_cases d:K=0<;>simp [aX.j0,aX.j1,d]
 have b1:c≠52:=fun e=>b (.inl e)
 have b2:c≠148:=fun e=>b (.inr e)
 by_cases d:c=100∨c=116
 · rcases d with rfl | rfl<;>by_cases e:K>31<;>simp [aX.j0,aX.j1,e]<;>omega
 have d1:c≠100:=fun e=>d (.inl e)
 have d2:c≠116:=fun e=>d (.inr e)
 simp [aX.j0,aX.j1,a1,a2,a3,a4,b1,b2,d1,d2]
theorem stB_not {c K:Int} (h:stB c K=true):c≠6∧c≠22∧c≠5∧jmB c=false∧flF c K=0:=by
 have h2:=h
 rw [lT] at h2
 simp only [Bool.and_eq_true,Bool.not_eq_true',decide_eq_false_iff_not,decide_eq_true_eq] at h2
 have e6:=mt (mD c).2 h2.1.2
 have e5:=mt (lI c).2 h2.1.1.2
 unfold reB at e6
 simp only [decide_eq_true_eq,not_or] at e6 e5
 refine ⟨e6.1,e6.2,e5.1,by simpa using e5.2,h2.2⟩
theorem w64 {n:Int} (h0 : -9223372036854775808≤n) (h1:n<9223372036854775808):wrap64 n=n:=by
 unfold wrap64;omega
def fE (c:List S45):Bool:=c.all (fun i=>stB i.f0 i.f3)
def jW (i:S45):Bool:=decide (i.f1=0)&&decide (i.f2=0)&&(usK i.f0||decide (i.f3=0))
def jB (b:S47):Bool:=
 if b.f1=1 then reB b.f2.f0&&jW b.f2&&decide (b.f3=0)&&decide (b.f4=0)
 else if b.f1=2 then decide (b.f2.f0=0∧b.f2.f1=0∧b.f2.f2=0∧b.f2.f3=0)&&decide (b.f4=0)
 else if b.f1=3 then jmB b.f2.f0&&jW b.f2 else false
def gT (b:S47) (at_ n:Int):Bool:=(decide (b.f1=1)||decide (at_<b.f3∧b.f3<n))&&(!decide (b.f1=3)||decide (at_<b.f4∧b.f4<n))
def tkL (n:Int):List S47→Int→Int→Bool
 | [],_,_=>true
 | b :: r,i,left=>decide ((b.f0.length:Int)≤left)&&fE b.f0&&jB b&&gT b i n&&tkL n r (i+1) (left - b.f0.length)
def TkB (g:List S47):Bool:=decide (0<g.length)&&decide (g.length≤4096)&&tkL g.length g 0 4096
def Fit (g:List S47):Prop:=∀ b∈g,(b.f0.length:Int)≤140737488351232
theorem kw {c:List S45} {j:Nat} (h:j<c.length):aV c (j:Int)=c[j]:=by
 unfold aV
 rw [Int.toNat_natCast,List.getD_eq_getElem?_getD,List.getElem?_eq_getElem h]
 rfl
theorem jC {g:List S47} {j:Nat} (h:j<g.length):ah g (j:Int)=g[j]:=by
 unfold ah
 rw [Int.toNat_natCast,List.getD_eq_getElem?_getD,List.getElem?_eq_getElem h]
 rfl
theorem code_l (c:List S45) (hl:(c.length:Int)≤140737488351232):∀ (d j:Nat),c.length - j=d→j≤c.length→∀ k,d+9≤k→bK.l0 k c (j:Int)=some ((c.drop j).all (fun i=>stB i.f0 i.f3)):=by
 intro d
 induction d with
 | zero=>
  intro j hd hj k hk
  obtain ⟨k,rfl⟩:∃ m,k=m+1:=⟨k - 1,by omega⟩
  have:j=c.length:=by omega
  subst this
  rw [bK.l0]
  rw [if_neg (by omega),List.drop_length]
  rfl
 | succ d ih=>
  intro j hd hj k hk
  obtain ⟨k,rfl⟩:∃ m,k=m+9:=⟨k - 9,by omega⟩
  have hlt:j<c.length:=by omega
  show bK.l0 (k+8+1) _ _=_
  rw [bK.l0]
  rw [if_pos (by omega),if_pos (by omega),kw hlt,(gu _ k).2,wm,List.drop_eq_getElem_cons hlt,List.all_cons,lT,w64 (n:=(j:Int)+1) (by omega) (by omega)]
  have:=ih (j+1) (by omega) (by omega) (k+8) (by omega)
  rw [show ((j+1:Nat):Int)=(j:Int)+1 by omega] at this
  rw [this]
  simp only [Option.bind_some]
  by_cases a:aU (c[j]).f0<0
  · rw [if_pos a];simp [a]
  rw [if_neg a]
  by_cases a5:aU (c[j]).f0=5
  · rw [if_pos a5];simp [a5]
  rw [if_neg a5]
  by_cases a6:aU (c[j]).f0=6
  · rw [if_pos a6];simp [a6]
  rw [if_neg a6]
  by_cases f:flF (c[j]).f0 (c[j]).f3=0
  · rw [if_pos f];simp [a,a5,a6,f]
  rw [if_neg f];simp [f]
theorem code_f (c:List S45) (hl:(c.length:Int)≤140737488351232) (k:Nat) (hk:c.length+9≤k):bK.f k c=some (fE c):=by
 have:=code_l c hl c.length 0 rfl (by omega) k hk
 unfold bK.f
 rw [show ((0:Nat):Int)=0 from rfl] at this
 rw [this]
 rfl
theorem end_f (b:S47) (k:Nat):bq.f (k+8) b.f0 b.f1 b.f2.f0 b.f2.f1 b.f2.f2 b.f2.f3 b.f3 b.f4=some (jB b):=by
 have hu:jW b.f2=(decide (b.f2.f1=0)&&decide (b.f2.f2=0)&&(usK b.f2.f0||decide (b.f2.f3=0))):=rfl
 obtain ⟨u2,u3,e⟩:=(sP b.f2.f0 k).2
 have hj:∀ x,bq.j0 (k+8) x b.f0 b.f1 b.f2.f0 b.f2.f1 b.f2.f2 b.f2.f3 b.f3 b.f4=some (!x&&(if b.f1=1 then reB b.f2.f0&&decide (b.f3=0)&&decide (b.f4=0)
  else if b.f1=2 then decide (b.f2.f0=0∧b.f2.f1=0∧b.f2.f2=0∧b.f2.f3=0)&&decide (b.f4=0) else if b.f1=3 then jmB b.f2.f0 else false)):=by
  intro x
  show bq.j0 (k+7+1) x _ _ _ _ _ _ _ _=_
  rw [bq.j0];simp only [ll,uJ,Option.bind_some]
  cases x
  · rw [if_neg (by decide)]
    by_cases e1:b.f1=1
    · rw [if_pos e1,if_pos e1]
      cases reB b.f2.f0<;>simp
      by_cases e3:b.f3=0<;>simp [e3]
      exact rfl
    rw [if_neg e1,if_neg e1]
    by_cases e2:b.f1=2
    · rw [if_pos e2,if_pos e2]
      by_cases q:b.f2.f0=0∧b.f2.f1=0∧b.f2.f2=0∧b.f2.f3=0
      · rw [if_pos (by simp [q])];simp [q];exact rfl
      rw [if_neg (by simpa using q)];rw [decide_eq_false q];rfl
    rw [if_neg e2,if_neg e2]
    by_cases e3:b.f1=3
    · rw [if_pos e3,if_pos e3];rfl
    rw [if_neg e3,if_neg e3];rfl
  rw [if_pos rfl];rfl
 unfold bq.f
 rw [e]
 simp only [Option.bind_some,hj]
 have hz:usK 0=true:=rfl
 unfold jB
 rw [hu]
 by_cases q1:b.f2.f1=0<;>by_cases q2:b.f2.f2=0<;>by_cases q3:b.f2.f3=0<;>cases u:usK b.f2.f0<;>by_cases e1:b.f1=1<;>by_cases e2:b.f1=2<;>by_cases e3:b.f1=3<;>simp [q1,q2,q3,e1,e2,e3]<;>(try (intro h0;rw [h0] at u;exact absurd u (by decide)))
theorem goals_f (b:S47) (i n:Int):eB.f b.f0 b.f1 b.f2.f0 b.f2.f1 b.f2.f2 b.f2.f3 b.f3 b.f4 i n=some (gT b i n):=by
 unfold eB.f gT
 by_cases e1:b.f1=1
 · rw [if_pos e1,if_neg (by omega)];simp [e1]
 rw [if_neg e1]
 by_cases a:b.f3≤i
 · rw [if_pos a,decide_eq_false (by omega:¬(i<b.f3∧b.f3<n))];simp [e1]
 rw [if_neg a]
 by_cases a2:b.f3≥n
 · rw [if_pos a2,decide_eq_false (by omega:¬(i<b.f3∧b.f3<n))];simp [e1]
 rw [if_neg a2,decide_eq_true (by omega:i<b.f3∧b.f3<n)]
 by_cases e3:b.f1=3
 · rw [if_pos e3]
   by_cases c:b.f4>i
   · rw [if_pos c];simp [e3,c]
   rw [if_neg c,decide_eq_false (by omega:¬(i<b.f4∧b.f4<n))];simp [e3]
 rw [if_neg e3];simp [e3]
theorem rck_l (g:List S47) (hg:g.length≤4096) (hF:Fit g):∀ (d j:Nat),g.length - j=d→j≤g.length→∀ left:Int,0≤left→left≤4096→∀ k,d+5000≤k →
 ∃ r:Int × Int,bV.l0 k g left (j:Int)=some r∧(r.2=0↔tkL g.length (g.drop j) (j:Int) left=true):=by
 intro d
 induction d with
 | zero=>
  intro j hd hj left h0 h1 k hk
  obtain ⟨k,rfl⟩:∃ m,k=m+1:=⟨k - 1,by omega⟩
  rw [bV.l0,if_neg (by omega),List.drop_of_length_le (by omega)]
  exact ⟨_,rfl,by simp [tkL]⟩
 | succ d ih=>
  intro j hd hj left h0 h1 k hk
  obtain ⟨k,rfl⟩:∃ m,k=m+9:=⟨k - 9,by omega⟩
  have hlt:j<g.length:=by omega
  have hf:=hF (g[j]) (List.getElem_mem hlt)
  rw [bV.l0,if_pos (by omega),if_pos (by omega),jC hlt,List.drop_eq_getElem_cons hlt,tkL]
  by_cases a:((g[j]).f0.length:Int)>left
  · rw [if_pos a,decide_eq_false (by omega:¬((g[j]).f0.length:Int)≤left)]
    exact ⟨_,rfl,by simp⟩
  rw [if_neg a,decide_eq_true (by omega:((g[j]).f0.length:Int)≤left),code_f _ hf (k+8) (by omega),Option.bind_some]
  cases hc:fE (g[j]).f0
  · rw [if_neg (by decide)];exact ⟨_,rfl,by simp⟩
  rw [if_pos rfl,end_f,Option.bind_some]
  cases he:jB (g[j])
  · rw [if_neg (by decide)];exact ⟨_,rfl,by simp⟩
  rw [if_pos rfl,goals_f,Option.bind_some]
  cases hgo:gT (g[j]) (j:Int) (g.length:Int)
  · rw [if_neg (by decide)];exact ⟨_,rfl,by simp⟩
  rw [if_pos rfl,w64 (n:=(j:Int)+1) (by omega) (by omega),w64 (n:=left - ((g[j]).f0.length:Int)) (by omega) (by omega)]
  obtain ⟨r,e,h⟩:=ih (j+1) (by omega) (by omega) (left - ((g[j]).f0.length:Int)) (by omega) (by omega) (k+8) (by omega)
  rw [show ((j+1:Nat):Int)=(j:Int)+1 by omega] at e h
  exact ⟨r,e,by simpa using h⟩
theorem BN (g:List S47) (hF:Fit g) (k:Nat) (hk:10000≤k):dV.f k g=some (TkB g):=by
 unfold dV.f bV.f TkB
 by_cases a:(g.length:Int)=0
 · rw [if_pos a,decide_eq_false (by omega:¬0<g.length)];rfl
 rw [if_neg a,decide_eq_true (by omega:0<g.length)]
 by_cases b:(g.length:Int)>4096
 · rw [if_pos b,decide_eq_false (by omega:¬g.length≤4096)];rfl
 rw [if_neg b,decide_eq_true (by omega:g.length≤4096)]
 obtain ⟨r,e,h⟩:=rck_l g (by omega) hF g.length 0 rfl (by omega) 4096 (by omega) (by omega) k (by omega)
 rw [show ((0:Nat):Int)=0 from rfl] at e h
 rw [e,Option.bind_some]
 congr 1
 rw [Bool.eq_iff_iff,beq_iff_eq,h]
 simp
theorem bare_f (i:S45) (k:Nat):fC.f (k+8) i.f0 i.f1 i.f2 i.f3=some (jW i):=by
 obtain ⟨u2,u3,e⟩:=(sP i.f0 k).1
 unfold fC.f jW
 rw [e,Option.bind_some]
 by_cases q1:i.f1=0<;>by_cases q2:i.f2=0<;>cases u:usK i.f0<;>by_cases q3:i.f3=0<;>simp [q1,q2,q3]
theorem ended_f (b:S47) (k:Nat):iB.f (k+8) b.f0 b.f1 b.f2.f0 b.f2.f1 b.f2.f2 b.f2.f3 b.f3 b.f4=some (jB b):=by
 unfold iB.f jB
 rw [(gu _ k).1,bare_f]
 simp only [Option.bind_some]
 by_cases e1:b.f1=1
 · rw [if_pos e1,if_pos e1]
   cases r:reB b.f2.f0
   · rw [if_neg (fun h=>by have:=(mD _).1 h;rw [r] at this;cases this)];rfl
   rw [if_pos ((mD _).2 r)]
   cases jW b.f2
   · rfl
   rw [if_pos rfl]
   by_cases e3:b.f3=0
   · rw [if_pos e3];simp [e3];exact rfl
   rw [if_neg e3];simp [e3]
 rw [if_neg e1,if_neg e1]
 by_cases e2:b.f1=2
 · rw [if_pos e2,if_pos e2]
   by_cases q:b.f2.f0=0∧b.f2.f1=0∧b.f2.f2=0∧b.f2.f3=0
   · rw [if_pos (by simp [q]),decide_eq_true q];simp;exact rfl
   rw [if_neg (by simpa using q),decide_eq_false q];rfl
 rw [if_neg e2,if_neg e2]
 by_cases e3:b.f1=3
 · rw [if_pos e3,if_pos e3]
   by_cases c5:b.f2.f0=5
   · rw [if_pos ((lI _).2 (.inl c5)),if_pos c5,c5];rfl
   cases j:jmB b.f2.f0
   · rw [if_neg (fun h=>by rcases (lI _).1 h with h | h;exact c5 h;rw [j] at h;cases h)];rfl
   rw [if_pos ((lI _).2 (.inr j)),if_neg c5];rfl
 rw [if_neg e3,if_neg e3]
theorem zB (i n:Int) (gs:List Int) (hl:gs.length≤4):∀ (d j:Nat),gs.length - j=d→j≤gs.length→∀ k,d+1≤k→dx.l1 k i n gs (gs.length:Int) (j:Int)=some (if (gs.drop j).all (fun x=>decide (i<x∧x<n)) then 0 else 154):=by
 intro d
 induction d with
 | zero=>
  intro j hd hj k hk
  obtain ⟨k,rfl⟩:∃ m,k=m+1:=⟨k - 1,by omega⟩
  rw [dx.l1,if_neg (by omega),List.drop_of_length_le (by omega)]
  rfl
 | succ d ih=>
  intro j hd hj k hk
  obtain ⟨k,rfl⟩:∃ m,k=m+1:=⟨k - 1,by omega⟩
  have hlt:j<gs.length:=by omega
  have hrd:rd gs (j:Int)=gs[j]:=by
   unfold rd
   rw [Int.toNat_natCast,List.getD_eq_getElem?_getD,List.getElem?_eq_getElem hlt]
   rfl
  rw [dx.l1,if_pos (by omega),if_pos (by omega),if_pos (by omega),hrd,w64 (n:=(j:Int)+1) (by omega) (by omega),List.drop_eq_getElem_cons hlt,List.all_cons]
  by_cases a:gs[j]≤i
  · rw [if_pos a,decide_eq_false (by omega:¬(i<gs[j]∧gs[j]<n))];rfl
  rw [if_neg a]
  by_cases c:gs[j]≥n
  · rw [if_pos c,decide_eq_false (by omega:¬(i<gs[j]∧gs[j]<n))];rfl
  rw [if_neg c,decide_eq_true (by omega:i<gs[j]∧gs[j]<n),Bool.true_and]
  have:=ih (j+1) (by omega) (by omega) k (by omega)
  rw [show ((j+1:Nat):Int)=(j:Int)+1 by omega] at this
  exact this
theorem gone_l1 (b:S47) (i n:Int) (h:jB b=true) (k:Nat) (gs:List Int) (hgs:gU.f b.f0 b.f1 b.f2.f0 b.f2.f1 b.f2.f2 b.f2.f3 b.f3 b.f4=some gs):dx.l1 (k+4) i n gs (gs.length:Int) 0=some (if gT b i n then 0 else 154):=by
 have H:gs.length≤2∧(gs.all (fun x=>decide (i<x∧x<n)))=gT b i n:=by
  unfold gU.f at hgs
  unfold gT
  by_cases e1:b.f1=1
  · rw [if_neg (by omega),if_neg (by omega)] at hgs
    obtain rfl:[]=gs:=by simpa using hgs
    simp [e1]
  by_cases e2:b.f1=2
  · rw [if_pos e2] at hgs
    obtain rfl:[b.f3]=gs:=by simpa using hgs
    simp [e1,e2]
  by_cases e3:b.f1=3
  · rw [if_neg e2,if_pos e3] at hgs
    obtain rfl:[b.f3,b.f4]=gs:=by simpa using hgs
    simp [e1,e3]
  unfold jB at h
  rw [if_neg e1,if_neg e2,if_neg e3] at h
  cases h
 have:=zB i n gs (by omega) gs.length 0 rfl (by omega) (k+4) (by omega)
 rw [List.drop_zero,H.2] at this
 exact this
theorem gone_l (b:S47) (hl:(b.f0.length:Int)≤140737488351232) (i n:Int):∀ (d j:Nat),b.f0.length - j=d→j≤b.f0.length→∀ k,d+9≤k →
 ∃ e:Int,dx.l0 k i n b.f0 (b.f0.length:Int) (j:Int) b.f0 b.f1 b.f2.f0 b.f2.f1 b.f2.f2 b.f2.f3 b.f3 b.f4=some e∧(e=0↔((b.f0.drop j).all (fun i=>stB i.f0 i.f3)&&jB b&&gT b i n)=true):=by
 intro d
 induction d with
 | zero=>
  intro j hd hj k hk
  obtain ⟨k,rfl⟩:∃ m,k=m+9:=⟨k - 9,by omega⟩
  rw [dx.l0,if_neg (by omega),ended_f,Option.bind_some,List.drop_of_length_le (by omega)]
  cases he:jB b
  · rw [if_neg (by decide)];exact ⟨_,rfl,by simp⟩
  rw [if_pos rfl]
  obtain ⟨gs,hgs⟩:∃ gs,gU.f b.f0 b.f1 b.f2.f0 b.f2.f1 b.f2.f2 b.f2.f3 b.f3 b.f4=some gs:=by
   unfold gU.f
   split
   · exact ⟨_,rfl⟩
   split<;>exact ⟨_,rfl⟩
  rw [hgs,Option.bind_some,gone_l1 b i n he (k+4) gs hgs]
  refine ⟨_,rfl,?_⟩
  cases gT b i n<;>simp
 | succ d ih=>
  intro j hd hj k hk
  obtain ⟨k,rfl⟩:∃ m,k=m+9:=⟨k - 9,by omega⟩
  have hlt:j<b.f0.length:=by omega
  rw [dx.l0,if_pos (by omega),if_pos (by omega),if_pos (by omega),kw hlt,vI,Option.bind_some,List.drop_eq_getElem_cons hlt,List.all_cons]
  cases hs:stB (b.f0[j]).f0 (b.f0[j]).f3
  · rw [if_neg (by decide)];exact ⟨_,rfl,by simp⟩
  rw [if_pos rfl,w64 (n:=(j:Int)+1) (by omega) (by omega)]
  obtain ⟨e,h1,h2⟩:=ih (j+1) (by omega) (by omega) (k+8) (by omega)
  rw [show ((j+1:Nat):Int)=(j:Int)+1 by omega] at h1
  exact ⟨e,h1,by simpa using h2⟩
theorem gck_l (g:List S47) (hg:g.length≤4096) (hF:Fit g):∀ (d j:Nat),g.length - j=d→j≤g.length→∀ left:Int,0≤left→left≤4096→∀ k,d+5000≤k →
 ∃ r:Int × Int,dB.l0 k g (4096 - left) g (g.length:Int) (j:Int)=some r∧(r.2=0↔tkL g.length (g.drop j) (j:Int) left=true):=by
 intro d
 induction d with
 | zero=>
  intro j hd hj left h0 h1 k hk
  obtain ⟨k,rfl⟩:∃ m,k=m+1:=⟨k - 1,by omega⟩
  rw [dB.l0,if_neg (by omega),List.drop_of_length_le (by omega)]
  exact ⟨_,rfl,by simp [tkL]⟩
 | succ d ih=>
  intro j hd hj left h0 h1 k hk
  obtain ⟨k,rfl⟩:∃ m,k=m+9:=⟨k - 9,by omega⟩
  have hlt:j<g.length:=by omega
  have hf:=hF (g[j]) (List.getElem_mem hlt)
  rw [dB.l0,if_pos (by omega),if_pos (by omega),if_pos (by omega),jC hlt,List.drop_eq_getElem_cons hlt,tkL,w64 (n:=4096 - left+((g[j]).f0.length:Int)) (by omega) (by omega)]
  unfold dx.f
  by_cases a:((g[j]).f0.length:Int)>left
  · rw [if_pos (by omega),decide_eq_false (by omega:¬((g[j]).f0.length:Int)≤left),Option.bind_some,if_neg (by decide)]
    exact ⟨_,rfl,by simp⟩
  obtain ⟨e,h2,h3⟩:=gone_l (g[j]) hf (j:Int) (g.length:Int) _ 0 rfl (by omega) (k+8) (by omega)
  rw [show ((0:Nat):Int)=0 from rfl] at h2
  rw [if_neg (by omega),decide_eq_true (by omega:((g[j]).f0.length:Int)≤left),h2,Option.bind_some]
  rw [List.drop_zero] at h3
  by_cases e0:e=0
  · rw [if_pos e0]
    have h4:=h3.1 e0
    simp only [Bool.and_eq_true] at h4
    obtain ⟨r,e1,h5⟩:=ih (j+1) (by omega) (by omega) (left - ((g[j]).f0.length:Int)) (by omega) (by omega) (k+8) (by omega)
    rw [show ((j+1:Nat):Int)=(j:Int)+1 by omega] at e1 h5
    rw [w64 (n:=(j:Int)+1) (by omega) (by omega),show 4096 - left+((g[j]).f0.length:Int)=4096 - (left - ((g[j]).f0.length:Int)) by omega]
    refine ⟨r,e1,h5.trans ?_⟩
    rw [show fE (g[j]).f0=true from h4.1.1,h4.1.2,h4.2]
    simp
  rw [if_neg e0]
  refine ⟨_,rfl,?_⟩
  constructor
  · intro h;exact absurd h e0
  intro h
  simp only [Bool.and_eq_true] at h
  exact absurd (h3.2 (by rw [show (g[j]).f0.all (fun i=>stB i.f0 i.f3)=true from h.1.1.1.2,h.1.1.2,h.1.2];rfl)) e0
def nZ (pk:List Int):List S45→bH→Int→bH × Int × Int
 | [],M,s=>(M,s,0)
 | i :: r,M,s=>if (bY i pk M).2=0 then nZ pk r (bY i pk M).1 (wrap64 (s+1)) else ((bY i pk M).1,wrap64 (s+1),(bY i pk M).2)
def nG (g:List S47) (pk:List Int):Nat→Int→bH→Int→Option (Int × Int × Int)
 | 0,_,_,_=>none
 | n+1,at_,M,s=>
  if 0≤at_∧at_<(g.length:Int) then
   let b:=ah g at_
   let q:=nZ pk b.f0 M s
   if q.2.2=0 then
    (if b.f1=1 then (if b.f2.f0=6 then some (b.f2.f3,0,wrap64 (q.2.1+1)) else some (q.1.a,0,wrap64 (q.2.1+1)))
    else if b.f1=2 then nG g pk n b.f3 q.1 q.2.1
    else if hoP b.f2 q.1.a q.1.x=true then nG g pk n b.f3 q.1 (wrap64 (q.2.1+1))
    else nG g pk n b.f4 q.1 (wrap64 (q.2.1+1)))
   else some (0,q.2.2,q.2.1)
  else none
theorem pW {p:List S47} {i:Int} (h0:0≤i) (h1:i<p.length):ah p i∈p:=by
 unfold ah
 rw [List.getD_eq_getElem?_getD,List.getElem?_eq_getElem (by omega)]
 exact List.getElem_mem _
structure GS (w wr:World) (gv gm:Nat) (M:bH):Prop where
 below:Below w.heap.size w wr
 res:wr.heap[gv]?=some (.cells #[.int .u32 0,.int .i64 0,.int .i64 0] 59 (0,0))
 mach:wr.heap[gm]?=some (.cells (dh M) 97 (0,0))
 len:M.m.length=16
 hv:w.heap.size≤gv
 hm:w.heap.size≤gm
theorem GS.fin {w wr:World} {gv gm:Nat} {M:bH} (h:GS w wr gv gm M) (a b c:Value) :
 (((wr.setCell ⟨gv,0,none⟩ a).setCell ⟨gv,1,none⟩ b).setCell ⟨gv,2,none⟩ c).heap[gv]?=some (.cells #[a,b,c] 59 (0,0))∧Below w.heap.size w (((wr.setCell ⟨gv,0,none⟩ a).setCell ⟨gv,1,none⟩ b).setCell ⟨gv,2,none⟩ c):=
 ⟨aM (aM (aM h.res 0 _ rfl) 1 _ rfl) 2 _ rfl,dz (dz (dz h.below h.hv) h.hv) h.hv⟩
theorem GS.quiet {w wr w1:World} {gv gm:Nat} {M:bH} (h:GS w wr gv gm M) (hb:Below wr.heap.size wr w1):GS w w1 gv gm M:=
 ⟨av h.below hb,aj h.res hb,aj h.mach hb,h.len,h.hv,h.hm⟩
theorem GS.step {w wr w1:World} {gv gm:Nat} {M M1:bH} (h:GS w wr gv gm M) (kp:Kp (fun k=>k=gm) wr w1) (hM:w1.heap[gm]?=some (.cells (dh M1) 97 (0,0))) (hl:M1.m.length=16):GS w w1 gv gm M1:=
 ⟨kp.iO h.below h.below.size (fun k e=>e ▸ h.hm),(kp.block gv (ax h.res) (bT h.res h.mach (by decide))).trans h.res,hM,hl,h.hv,h.hm⟩
theorem tK (k n:Nat) (w:World) (g:List S47) (A:Option Addr) (c:Nat) (pk:List Int) (Ap:Option Addr) (cp:Nat) (HG:Kd.C k47 w A g.length g) (hc:g.length≤c)
 (HP:Kd.C (Kd.int .u8) w Ap pk.length pk) (hcp:pk.length≤cp) (hpl:pk.length≤65536) (hco:dV.f k g=some true) (hk:∀ b∈g,∀ i∈b.f0,0≤i.f3) (hbl:∀ b∈g,b.f0.length≤100000)
 (v f s:Int) (hr:nG g pk n 0 z16 0=some (v,f,s)) :
 Calls Try.prog 37 #[.slice A g.length c,.slice Ap pk.length cp] w fun e w'=>e = .returned (.tuple #[.agg #[.int .u32 v,.int .i64 f,.int .i64 s],.int .i64 0])∧Below w.heap.size w w':=by
 have hpb:decide (65536<pk.length)=false:=decide_eq_false (by omega)
 have HGA:=aa.mk HG
 have HCA:=aa.mk hc
 have HPA:=aa.mk HP
 have HPC:=aa.mk hcp
 have HCo:=aa.mk hco
 have HK:=aa.mk hk
 have HBL:=aa.mk hbl
 clear hbl
 have HR:=aa.mk hr
 clear HG hc HP hcp hco hk hr
 go_enter Try.func37,Try.ntmps37
 go_wp2_with (go_at_call 28;refine (dV.calls k _ _ _ _ _ (Kd.iT HGA.out _) HCA.out HCo.out).mono ?_;rintro e w1 ⟨rfl,hb⟩;have HB1:=aa.mk hb;clear hb)
 have hg0:=aj (iM w (.cells #[.int .u32 0,.int .i64 0,.int .i64 0] 59)) HB1.out
 have hb2:=av (ai (Below.refl _ w) (.cells #[.int .u32 0,.int .i64 0,.int .i64 0] 59)) HB1.out
 have HS0:=aa.mk (GS.mk (w:=w) (wr:=w1.alloc (.cells (dh z16) 97)) (gv:=w.heap.size) (gm:=w1.heap.size) (M:=z16) (ai hb2 _) (aj hg0 (ai (Below.refl _ _) _)) (iM _ _) rfl (Nat.le_refl _) hb2.size)
 clear hg0 hb2 HB1
 generalize w1.heap.size=gm at *
 go_loopg [7,8] n (fun kq v7 v8 wr=>∃ (M:bH) (s0 at_:Int),v7 = .int .i64 s0∧v8 = .int .i64 at_∧aa (GS w wr w.heap.size gm M)∧aa (nG g pk kq at_ M s0=some (v,f,s))∧aa (MW M))
 case atStart=>exact ⟨z16,0,0,rfl,rfl,HS0,HR,⟨MW_z⟩⟩
 case round=>
  clear HS0 HR
  obtain ⟨M,s0,at_,rfl,rfl,HS,HR,HM⟩:=hrel
  cases gk with
  | zero=>exact absurd HR.out (by simp [nG])
  | succ kq=>
   have hR:=HR.out
   unfold nG at hR
   by_cases hin:0≤at_∧at_<(g.length:Int)
   · rw [if_pos hin] at hR
     dsimp only at hR
     obtain ⟨ad,A0,c0,rfl,y0,y1,y2,y3,y4,y5,y6,y7,hl,hic⟩:=o8 HGA.out at_ hin.1 hin.2
     have x0:=au HS.out.below y0
     have x1:=au HS.out.below y1
     have x2:=au HS.out.below y2
     have x3:=au HS.out.below y3
     have x4:=au HS.out.below y4
     have x5:=au HS.out.below y5
     have x6:=au HS.out.below y6
     have x7:=au HS.out.below y7
     clear y0 y1 y2 y3 y4 y5 y6 y7
     have hkk:=HK.out (ah g at_) (pW hin.1 hin.2)
     have hbl1:=HBL.out (ah g at_) (pW hin.1 hin.2)
     generalize ah g at_=blk at *
     have HRr:=aa.mk hR
     have HKK:=aa.mk hkk
     have HLC:=aa.mk hl
     have hnew:=iM wr (.cells #[.slice A0 blk.f0.length c0,.int .i64 blk.f1,.int .u16 blk.f2.f0,.int .u8 blk.f2.f1,.int .u8 blk.f2.f2,.int .u32 blk.f2.f3,.int .i64 blk.f3,.int .i64 blk.f4] 47)
     have hba:=ai (Below.refl wr.heap.size wr) (.cells #[.slice A0 blk.f0.length c0,.int .i64 blk.f1,.int .u16 blk.f2.f0,.int .u8 blk.f2.f1,.int .u8 blk.f2.f2,.int .u32 blk.f2.f3,.int .i64 blk.f3,.int .i64 blk.f4] 47)
     have HS1:=aa.mk (HS.out.quiet hba)
     have HIC:=aa.mk hic
     have HN:=aa.mk hnew
     have h0:=hin.1
     have h1:=hin.2
     clear hR HR hkk hl hic hnew hba hin
     go_wp2
     generalize wr.heap.size=lb at *
     obtain ⟨⟨Mf,sf,ff⟩,hq⟩:∃ q,nZ pk blk.f0 M s0=q:=⟨_,rfl⟩
     rw [hq] at HRr
     dsimp only at HRr
     have HQ:=aa.mk hq
     clear hq x0 x1 x2 x3 x4 x5 x6 x7 h0 h1
     go_loopw [7,10] (fun v7 v10 wq=>∃ (j:Nat) (M2:bH) (s2:Int),j≤blk.f0.length∧v7 = .int .i64 s2∧v10 = .int .i64 j∧aa (GS w wq w.heap.size gm M2)∧aa (wq.heap[lb]?=some (.cells #[.slice A0 blk.f0.length c0,.int .i64 blk.f1,.int .u16 blk.f2.f0,.int .u8 blk.f2.f1,.int .u8 blk.f2.f2,.int .u32 blk.f2.f3,.int .i64 blk.f3,.int .i64 blk.f4] 47 (0,0)))∧aa (nZ pk (blk.f0.drop j) M2 s2=(Mf,sf,ff))∧aa (MW M2)) (fun _ v10 _=>blk.f0.length - (intOf v10).toNat)
     case atStart=>exact ⟨0,M,s0,Nat.zero_le _,rfl,rfl,HS1,HN,HQ,HM⟩
     case round=>
      clear HS1 HN HQ HM HS
      obtain ⟨j,M2,s2,hj,rfl,rfl,HT,HB,HQ,HM⟩:=hrel
      have z0:=dA HB.out 0
      by_cases hlt:j<blk.f0.length
      · have hltb:decide (j<blk.f0.length)=true:=decide_eq_true hlt
        obtain ⟨aq,rfl,q0,q1,q2,q3⟩:=ul (Kd.dI HIC.out HT.out.below) (j:Int) (by omega) (by omega)
        rw [Int.toNat_natCast] at q0 q1 q2 q3
        have hkk:=HKK.out (aV blk.f0 (j:Int)) (uY (by omega) (by omega))
        have hdr:blk.f0.drop j=aV blk.f0 (j:Int) :: blk.f0.drop (j+1):=by
         rw [List.drop_eq_getElem_cons hlt]
         unfold aV
         rw [Int.toNat_natCast,List.getD_eq_getElem?_getD,List.getElem?_eq_getElem hlt]
         rfl
        have hQ:=HQ.out
        rw [hdr] at hQ
        unfold nZ at hQ
        clear hdr HQ
        generalize aV blk.f0 (j:Int)=ins at *
        obtain ⟨i0,i1,i2,i3⟩:=ins
        dsimp only at q0 q1 q2 q3 hkk
        obtain ⟨⟨M1,fv⟩,hst⟩:∃ s,bY ⟨i0,i1,i2,i3⟩ pk M2=s:=⟨_,rfl⟩
        have hsc:=fun W hb=>vG W gm M2 ⟨i0,i1,i2,i3⟩ pk Ap cp (HT.out.quiet hb).mach HT.out.len (Kd.dI HPA.out (HT.out.quiet hb).below) HPC.out (by omega) HM.out.2.1 hkk
        have hM1:=BV ⟨i0,i1,i2,i3⟩ pk M2 HM.out hkk
        have hl1:=qY ⟨i0,i1,i2,i3⟩ pk M2
        rw [hst] at hQ hsc hM1 hl1
        dsimp only at hQ hsc hM1 hl1
        rw [HT.out.len] at hl1
        have HQ:=aa.mk hQ
        have HSC:=aa.mk hsc
        have HM1:=aa.mk hM1
        have HL1:=aa.mk hl1
        clear hQ hsc hM1 hl1 hst hkk
        by_cases cf:fv=0
        · have cfb:(fv != 0)=false:=bne_eq_false_iff_eq.mpr cf
          have hQ1:=HQ.out
          rw [if_pos cf] at hQ1
          have HQ1:=aa.mk hQ1
          clear hQ1 HQ
          go_wp2_with (first | (go_at_call 63;go_loud (refine (HSC.out _ iy).mono ?_);rintro e w6 ⟨rfl,hM6,hk6⟩;have HB6:=aa.mk ((hk6.block lb (ax HB.out) (bT HB.out HT.out.mach (by decide))).trans HB.out);have HS6:=aa.mk (HT.out.step hk6 hM6 HL1.out);clear hM6 hk6))
          go_roundw
          case rel=>exact ⟨j+1,M1,_,by omega,rfl,by go_num,HS6,HB6,HQ1,HM1⟩
          case measure=>simp [intOf];omega
        have cfb:(fv != 0)=true:=bne_iff_ne.mpr cf
        have hQ1:=HQ.out
        rw [if_neg cf] at hQ1
        obtain ⟨rfl,rfl,rfl⟩:M1=Mf∧wrap64 (s2+1)=sf∧fv=ff:=by simpa using hQ1
        have hfin:=HRr.out
        rw [if_neg cf] at hfin
        obtain ⟨rfl,rfl,rfl⟩:(0:Int)=v∧fv=f∧wrap64 (s2+1)=s:=by simpa using hfin
        clear hQ1 HQ hfin HRr
        go_wp2_with (first | (go_at_call 63;go_loud (refine (HSC.out _ iy).mono ?_);rintro e w6 ⟨rfl,hM6,hk6⟩;have HB6:=aa.mk ((hk6.block lb (ax HB.out) (bT HB.out HT.out.mach (by decide))).trans HB.out);have HS6:=aa.mk (HT.out.step hk6 hM6 HL1.out);clear hM6 hk6;have y0:w6.cell? ⟨w.heap.size,0,none⟩=some (.int .u32 0):=(ae HS6.out.res 0).trans rfl;have y1:w6.cell? ⟨w.heap.size,1,none⟩=some (.int .i64 0):=(ae HS6.out.res 1).trans rfl;have y2:w6.cell? ⟨w.heap.size,2,none⟩=some (.int .i64 0):=(ae HS6.out.res 2).trans rfl;have t0:=af HS6.out.res 0;have t1:=af HS6.out.res 1;have t2:=af HS6.out.res 2))
        refine bodyPost_ret (fP rfl _ _ w.heap.size 59 #[.int .u32 0,.int .i64 fv,.int .i64 (wrap64 (s2+1))] (0,0) _ rfl (HS6.out.fin _ _ _).1 Try.underlying59 rfl (by kernel_rfl)) rfl ?_
        first
        | exact ⟨rfl,(HS6.out.fin _ _ _).2⟩
        | (go_goals;done)
      have hltb:decide (j<blk.f0.length)=false:=decide_eq_false hlt
      have hjl:j=blk.f0.length:=by omega
      have hQ1:=HQ.out
      rw [hjl,List.drop_length] at hQ1
      obtain ⟨rfl,rfl,rfl⟩:M2=Mf∧s2=sf∧(0:Int)=ff:=by simpa [nZ] using hQ1
      have hR:=HRr.out
      rw [if_pos rfl] at hR
      clear hQ1 HQ HRr
      have z1:=dA HB.out 1
      have z2:=dA HB.out 2
      have z3:=dA HB.out 3
      have z4:=dA HB.out 4
      have z5:=dA HB.out 5
      have z6:=dA HB.out 6
      have z7:=dA HB.out 7
      have ma:_=some (Value.int .u32 M2.a):=(ae HT.out.mach 0).trans (kX M2)
      have mx:_=some (Value.int .u32 M2.x):=(ae HT.out.mach 1).trans (kY M2)
      have y0:=dA HT.out.res 0
      have y1:=dA HT.out.res 1
      have y2:=dA HT.out.res 2
      have t0:=af HT.out.res 0
      have t1:=af HT.out.res 1
      have t2:=af HT.out.res 2
      by_cases e1:blk.f1=1
      · have e1b:(blk.f1==1)=true:=beq_iff_eq.mpr e1
        have e2b:(blk.f1 != 2)=true:=by rw [e1];rfl
        rw [if_pos e1] at hR
        by_cases c6:blk.f2.f0=6
        · have c6b:(blk.f2.f0==6)=true:=beq_iff_eq.mpr c6
          rw [if_pos c6] at hR
          obtain ⟨rfl,rfl,rfl⟩:blk.f2.f3=v∧(0:Int)=f∧wrap64 (s2+1)=s:=by simpa using hR
          go_wp2
          refine bodyPost_ret (fP rfl _ _ w.heap.size 59 #[.int .u32 blk.f2.f3,.int .i64 0,.int .i64 (wrap64 (s2+1))] (0,0) _ rfl (HT.out.fin _ _ _).1 Try.underlying59 rfl (by kernel_rfl)) rfl ?_
          exact ⟨rfl,(HT.out.fin _ _ _).2⟩
        have c6b:(blk.f2.f0==6)=false:=beq_eq_false_iff_ne.mpr c6
        rw [if_neg c6] at hR
        obtain ⟨rfl,rfl,rfl⟩:M2.a=v∧(0:Int)=f∧wrap64 (s2+1)=s:=by simpa using hR
        go_wp2
        refine bodyPost_ret (fP rfl _ _ w.heap.size 59 #[.int .u32 M2.a,.int .i64 0,.int .i64 (wrap64 (s2+1))] (0,0) _ rfl (HT.out.fin _ _ _).1 Try.underlying59 rfl (by kernel_rfl)) rfl ?_
        exact ⟨rfl,(HT.out.fin _ _ _).2⟩
      have e1b:(blk.f1==1)=false:=beq_eq_false_iff_ne.mpr e1
      rw [if_neg e1] at hR
      by_cases e2:blk.f1=2
      · have e2b:(blk.f1==2)=true:=beq_iff_eq.mpr e2
        have e2c:(blk.f1 != 2)=false:=bne_eq_false_iff_eq.mpr e2
        rw [if_pos e2] at hR
        have HR:=aa.mk hR
        clear hR
        go_wp2
        go_roundg kq
        case measure=>omega
        case rel=>exact ⟨M2,_,_,rfl,rfl,HT,HR,HM⟩
      have e2b:(blk.f1==2)=false:=beq_eq_false_iff_ne.mpr e2
      have e2c:(blk.f1 != 2)=true:=bne_iff_ne.mpr e2
      rw [if_neg e2] at hR
      obtain ⟨bh,eh⟩:=uC blk.f2.f0 blk.f2.f1 blk.f2.f2 blk.f2.f3 M2.a M2.x
      rw [show hoP blk.f2 M2.a M2.x=bh by unfold hoP;rw [eh];rfl] at hR
      have HEH:=aa.mk eh
      clear eh
      cases bh with
      | true=>
       rw [if_pos rfl] at hR
       have HR:=aa.mk hR
       clear hR
       go_wp2_with (first | (go_at_call 64;refine (bM.calls 10 _ _ _ _ _ _ _ _ HEH.out).mono ?_;rintro e w5 ⟨rfl,hb5⟩;have HB5:=aa.mk (av iy hb5);clear hb5;have HB7:=aa.mk (aj HB.out HB5.out);have u6:w5.cell? ⟨lb,6,none⟩=some (Value.int .i64 blk.f3):=(ae HB7.out 6).trans rfl;have u7:w5.cell? ⟨lb,7,none⟩=some (Value.int .i64 blk.f4):=(ae HB7.out 7).trans rfl))
       go_roundg kq
       case measure=>omega
       case rel=>exact ⟨M2,_,_,rfl,rfl,⟨HT.out.quiet HB5.out⟩,HR,HM⟩
      | false=>
       rw [if_neg (by decide)] at hR
       have HR:=aa.mk hR
       clear hR
       go_wp2_with (first | (go_at_call 64;refine (bM.calls 10 _ _ _ _ _ _ _ _ HEH.out).mono ?_;rintro e w5 ⟨rfl,hb5⟩;have HB5:=aa.mk (av iy hb5);clear hb5;have HB7:=aa.mk (aj HB.out HB5.out);have u6:w5.cell? ⟨lb,6,none⟩=some (Value.int .i64 blk.f3):=(ae HB7.out 6).trans rfl;have u7:w5.cell? ⟨lb,7,none⟩=some (Value.int .i64 blk.f4):=(ae HB7.out 7).trans rfl))
       go_roundg kq
       case measure=>omega
       case rel=>exact ⟨M2,_,_,rfl,rfl,⟨HT.out.quiet HB5.out⟩,HR,HM⟩
   rw [if_neg hin] at hR;cases hR
def bF (pk:List Int):List S45→bH→bH × Int × Nat
 | [],M=>(M,0,0)
 | i :: r,M=>if (bY i pk M).2=0 then ((bF pk r (bY i pk M).1).1,(bF pk r (bY i pk M).1).2.1,(bF pk r (bY i pk M).1).2.2+1)
  else ((bY i pk M).1,(bY i pk M).2,1)
inductive Out where
 | fin (v f:Int) (s:Nat)
 | go (j:Nat) (M:bH) (s:Nat)
def fT (b:S47) (M:bH) (s:Nat):Out:=
 if b.f1=1 then .fin (if b.f2.f0=6 then b.f2.f3 else M.a) 0 (s+1)
 else if b.f1=2 then .go b.f3.toNat M s
 else .go (if hoP b.f2 M.a M.x=true then b.f3.toNat else b.f4.toNat) M (s+1)
def fO (pk:List Int) (b:S47) (M:bH):Out:=
 if (bF pk b.f0 M).2.1=0 then fT b (bF pk b.f0 M).1 (bF pk b.f0 M).2.2
 else .fin 0 (bF pk b.f0 M).2.1 (bF pk b.f0 M).2.2
inductive Rn (g:List S47) (pk:List Int):Nat→bH→Int→Int→Nat→Prop
 | fin {j:Nat} {M:bH} {b:S47} {v f:Int} {s:Nat}:g[j]?=some b→fO pk b M = .fin v f s→Rn g pk j M v f s
 | go {j:Nat} {M:bH} {b:S47} {j1:Nat} {M1:bH} {s:Nat} {v f:Int} {t:Nat}:g[j]?=some b→fO pk b M = .go j1 M1 s→Rn g pk j1 M1 v f t→Rn g pk j M v f (s+t)
structure BOk (b:S47) (i n:Int):Prop where
 code:fE b.f0=true
 ends:jB b=true
 goal:gT b i n=true
 rg:∀ x∈b.f0,Rg x.f3
 rl:Rg b.f2.f3
structure GOk (g:List S47):Prop where
 some_:0<g.length
 few:g.length≤4096
 all:∀ (j:Nat) (b:S47),g[j]?=some b→BOk b j g.length
 sum:(g.map (fun b=>b.f0.length)).sum≤4096
theorem eO {b:S47} (h:jB b=true):(b.f1=1∧reB b.f2.f0=true∧jW b.f2=true∧b.f3=0∧b.f4=0)∨(b.f1=2∧b.f2=⟨0,0,0,0⟩∧b.f4=0)∨(b.f1=3∧jmB b.f2.f0=true∧jW b.f2=true):=by
 unfold jB at h
 by_cases e1:b.f1=1
 · rw [if_pos e1] at h
   simp only [Bool.and_eq_true,decide_eq_true_eq] at h
   exact .inl ⟨e1,h.1.1.1,h.1.1.2,h.1.2,h.2⟩
 rw [if_neg e1] at h
 by_cases e2:b.f1=2
 · rw [if_pos e2] at h
   simp only [Bool.and_eq_true,decide_eq_true_eq] at h
   refine .inr (.inl ⟨e2,?_,h.2⟩)
   obtain ⟨⟨a,b,c,d⟩,_⟩:=h
   cases hq:(‹S47›:S47).f2
   simp_all
 rw [if_neg e2] at h
 by_cases e3:b.f1=3
 · rw [if_pos e3] at h
   simp only [Bool.and_eq_true] at h
   exact .inr (.inr ⟨e3,h.1,h.2⟩)
 rw [if_neg e3] at h;cases h
theorem bB {b:S47} {i n:Int} (h:gT b i n=true) (h1:b.f1≠1):i<b.f3∧b.f3<n:=by
 unfold gT at h
 simp only [Bool.and_eq_true,Bool.or_eq_true,decide_eq_true_eq] at h
 rcases h.1 with h | h
 · exact absurd h h1
 exact h
theorem dM {b:S47} {i n:Int} (h:gT b i n=true) (h1:b.f1=3):i<b.f4∧b.f4<n:=by
 unfold gT at h
 simp only [Bool.and_eq_true,Bool.or_eq_true,decide_eq_true_eq,Bool.not_eq_true',decide_eq_false_iff_not] at h
 rcases h.2 with h | h
 · exact absurd h1 h
 exact h
theorem kF (pk:List Int):∀ (c:List S45) (M:bH),(bF pk c M).2.2≤c.length:=by
 intro c
 induction c with
 | nil=>intro M;exact Nat.le_refl 0
 | cons i r ih=>
  intro M
  unfold bF
  split
  · exact Nat.succ_le_succ (ih _)
  exact Nat.succ_le_succ (Nat.zero_le _)
theorem mI (pk:List Int):∀ (c:List S45) (M:bH),MB M→(∀ x∈c,Rg x.f3)→MB (bF pk c M).1:=by
 intro c
 induction c with
 | nil=>intro M h _;exact h
 | cons i r ih=>
  intro M h hc
  have h1:=lq i pk M h (hc i (List.mem_cons_self ..))
  unfold bF
  split
  · exact ih _ h1 (fun x hx=>hc x (List.mem_cons_of_mem _ hx))
  exact h1
theorem tN (pk:List Int):∀ (c:List S45) (M:bH) (s:Nat),(s:Int)+c.length<9223372036854775808→nZ pk c M s=((bF pk c M).1,((s+(bF pk c M).2.2:Nat):Int),(bF pk c M).2.1):=by
 intro c
 induction c with
 | nil=>intro M s _;rfl
 | cons i r ih=>
  intro M s hs
  rw [List.length_cons] at hs
  have e:wrap64 ((s:Int)+1)=((s+1:Nat):Int):=by rw [w64 (by omega) (by omega)];omega
  unfold nZ bF
  by_cases h:(bY i pk M).2=0
  · rw [if_pos h,if_pos h,e,ih _ _ (by omega)]
    simp only [Prod.mk.injEq,true_and,and_true]
    omega
  rw [if_neg h,if_neg h,e]
theorem GOk.at_ {g:List S47} (h:GOk g) {j:Nat} (hj:j<g.length):∃ b,g[j]?=some b∧BOk b j g.length:=
 ⟨g[j],List.getElem?_eq_getElem hj,h.all j _ (List.getElem?_eq_getElem hj)⟩
theorem wO {l:List Nat} {x:Nat} (h:x∈l):x≤l.sum:=by
 induction l with
 | nil=>cases h
 | cons a r ih=>
  rw [List.sum_cons]
  rcases List.mem_cons.1 h with rfl | h
  · omega
  have:=ih h;omega
theorem GOk.len {g:List S47} (h:GOk g) {j:Nat} {b:S47} (hb:g[j]?=some b):b.f0.length≤4096:=by
 have h1:=h.sum
 have:=wO (List.mem_map_of_mem (f:=fun b:S47=>b.f0.length) (List.mem_of_getElem? hb))
 omega
theorem kg {pk:List Int} {b:S47} {M M1:bH} {i n:Int} {j s:Nat} (h:BOk b i n) (hi:0≤i) (e:fO pk b M = .go j M1 s) :
 (bF pk b.f0 M).2.1=0∧M1=(bF pk b.f0 M).1∧i<j∧(j:Int)<n∧((b.f1=2∧(j:Int)=b.f3∧s=(bF pk b.f0 M).2.2)∨(b.f1=3∧(j:Int)=(if hoP b.f2 M1.a M1.x=true then b.f3 else b.f4)∧s=(bF pk b.f0 M).2.2+1)):=by
 unfold fO at e
 by_cases h0:(bF pk b.f0 M).2.1=0
 · rw [if_pos h0] at e
   unfold fT at e
   rcases eO h.ends with ⟨e1,_⟩ | ⟨e2,_⟩ | ⟨e3,_⟩
   · rw [if_pos e1] at e;cases e
   · have hy:=bB h.goal (by omega)
     rw [if_neg (by omega),if_pos e2] at e
     injection e with a1 a2 a3
     refine ⟨h0,a2.symm,by omega,by omega,.inl ⟨e2,by omega,a3.symm⟩⟩
   have hy:=bB h.goal (by omega)
   have hn:=dM h.goal e3
   rw [if_neg (by omega),if_neg (by omega)] at e
   injection e with a1 a2 a3
   subst a2
   by_cases ho:hoP b.f2 (bF pk b.f0 M).1.a (bF pk b.f0 M).1.x=true
   · rw [if_pos ho] at a1
     refine ⟨h0,rfl,by omega,by omega,.inr ⟨e3,by rw [if_pos ho];omega,a3.symm⟩⟩
   rw [if_neg ho] at a1
   refine ⟨h0,rfl,by omega,by omega,.inr ⟨e3,by rw [if_neg ho];omega,a3.symm⟩⟩
 rw [if_neg h0] at e;cases e
theorem Bh {pk:List Int} {b:S47} {M:bH} {v f:Int} {s:Nat} (e:fO pk b M = .fin v f s):s≤b.f0.length+1:=by
 have hs:=kF pk b.f0 M
 unfold fO at e
 split at e
 · unfold fT at e
   split at e
   · injection e with a1 a2 a3;omega
   split at e<;>cases e
 injection e with a1 a2 a3;omega
theorem xV:∀ (m:List Nat) (d:Nat),(m.drop d).sum≤m.sum:=by
 intro m
 induction m with
 | nil=>intro d;simp
 | cons a r ih=>
  intro d
  cases d with
  | zero=>exact Nat.le_refl _
  | succ d=>rw [List.drop_succ_cons,List.sum_cons];exact Nat.le_trans (ih d) (Nat.le_add_left _ _)
theorem Ck (l:List Nat) (i j:Nat) (hij:i≤j):(l.drop j).sum≤(l.drop i).sum:=by
 obtain ⟨d,rfl⟩:∃ d,j=i+d:=⟨j - i,by omega⟩
 rw [←List.drop_drop]
 exact xV _ d
def lm (g:List S47):List Nat:=g.map (fun b=>b.f0.length+1)
theorem rn_all {g:List S47} (h:GOk g) (pk:List Int):∀ (d j:Nat) (M:bH),g.length - j≤d→j<g.length→∃ v f t,Rn g pk j M v f t∧t≤((lm g).drop j).sum:=by
 intro d
 induction d with
 | zero=>intro j M hd hj;omega
 | succ d ih=>
  intro j M hd hj
  obtain ⟨b,hb,hok⟩:=h.at_ hj
  have hr:((lm g).drop j).sum=b.f0.length+1+((lm g).drop (j+1)).sum:=by
   have hl:j<(lm g).length:=by unfold lm;rw [List.length_map];exact hj
   rw [List.drop_eq_getElem_cons hl,List.sum_cons]
   have:(lm g)[j]=b.f0.length+1:=by
    have e2:(lm g)[j]?=some (b.f0.length+1):=by unfold lm;rw [List.getElem?_map,hb];rfl
    rw [List.getElem?_eq_getElem hl] at e2
    exact Option.some.inj e2
   rw [this]
  cases e:fO pk b M with
  | fin v f s=>exact ⟨v,f,s,.fin hb e,by have:=Bh e;omega⟩
  | go j1 M1 s=>
   obtain ⟨h0,rfl,a1,a2,a3⟩:=kg hok (by omega) e
   obtain ⟨v,f,t,hr1,ht⟩:=ih j1 (bF pk b.f0 M).1 (by omega) (by omega)
   refine ⟨v,f,s+t,.go hb e hr1,?_⟩
   have hs:=kF pk b.f0 M
   have:=Ck (lm g) (j+1) j1 (by omega)
   rcases a3 with ⟨_,_,rfl⟩ | ⟨_,_,rfl⟩<;>omega
theorem wK {g:List S47} (h:GOk g) {pk:List Int} {j:Nat} {M:bH} {v f:Int} {t:Nat} (hr:Rn g pk j M v f t) :
 ∃ n,∀ s:Nat,(s:Int)+t+8192<9223372036854775808→nG g pk n j M s=some (v,f,((s+t:Nat):Int)):=by
 induction hr with
 | @fin j M b v f t hb e=>
  refine ⟨1,fun s hs=>?_⟩
  have hj:j<g.length:=(List.getElem?_eq_some_iff.1 hb).1
  have hgb:g[j]=b:=(List.getElem?_eq_some_iff.1 hb).2
  have hlen:=h.len hb
  unfold nG
  rw [if_pos ⟨by omega,by omega⟩,jC hj,hgb]
  dsimp only
  rw [tN pk b.f0 M s (by omega)]
  have hst:=kF pk b.f0 M
  unfold fO at e
  by_cases h0:(bF pk b.f0 M).2.1=0
  · rw [if_pos h0] at e ⊢
    unfold fT at e
    by_cases e1:b.f1=1
    · rw [if_pos e1] at e ⊢
      injection e with a1 a2 a3
      subst a1 a2 a3
      dsimp only
      rw [w64 (by omega) (by omega)]
      by_cases e6:b.f2.f0=6
      · rw [if_pos e6,if_pos e6];congr 3
      rw [if_neg e6,if_neg e6];congr 3
    rw [if_neg e1] at e;split at e<;>cases e
  rw [if_neg h0] at e ⊢
  injection e with a1 a2 a3
  subst a1 a2 a3
  rfl
 | @go j M b j1 M1 s1 v f t hb e _ ih=>
  obtain ⟨n,ih⟩:=ih
  refine ⟨n+1,fun s hs=>?_⟩
  have hj:j<g.length:=(List.getElem?_eq_some_iff.1 hb).1
  have hgb:g[j]=b:=(List.getElem?_eq_some_iff.1 hb).2
  have hlen:=h.len hb
  have hok:=h.all j b hb
  obtain ⟨h0,rfl,a1,a2,a3⟩:=kg hok (by omega) e
  unfold nG
  rw [if_pos ⟨by omega,by omega⟩,jC hj,hgb]
  dsimp only
  rw [tN pk b.f0 M s (by omega)]
  dsimp only
  rw [if_pos h0]
  have hst:=kF pk b.f0 M
  rcases a3 with ⟨e2,ej,rfl⟩ | ⟨e3,ej,rfl⟩
  · rw [if_neg (by omega),if_pos e2,←ej,ih _ (by omega),Nat.add_assoc]
  rw [if_neg (by omega),if_neg (by omega),w64 (by omega) (by omega)]
  have:=ih (s+(bF pk b.f0 M).2.2+1) (by omega)
  rw [show ((s+(bF pk b.f0 M).2.2+1:Nat):Int)=((s+(bF pk b.f0 M).2.2:Nat):Int)+1 by omega,ej] at this
  rw [show s+((bF pk b.f0 M).2.2+1+t)=s+(bF pk b.f0 M).2.2+1+t by omega]
  split
  · rename_i ho;rw [if_pos ho] at this;exact this
  rename_i ho;rw [if_neg ho] at this;exact this
theorem wQ (n:Int):∀ (l:List S47) (i left:Int),tkL n l i left=true ↔
 ((∀ (j:Nat) (b:S47),l[j]?=some b→fE b.f0=true∧jB b=true∧gT b (i+j) n=true)∧(l=[]∨(((l.map (fun b=>b.f0.length)).sum:Nat):Int)≤left)):=by
 intro l
 induction l with
 | nil=>intro i left;exact ⟨fun _=>⟨fun j b h=>by simp at h,.inl rfl⟩,fun _=>rfl⟩
 | cons a r ih=>
  intro i left
  unfold tkL
  simp only [Bool.and_eq_true,decide_eq_true_eq]
  rw [ih]
  constructor
  · rintro ⟨⟨⟨⟨h1,h2⟩,h3⟩,h4⟩,h5,h6⟩
    refine ⟨?_,.inr ?_⟩
    · intro j b hb
      cases j with
      | zero=>cases hb;exact ⟨h2,h3,by simpa using h4⟩
      | succ j=>
       have:=h5 j b hb
       rw [show i+((j+1:Nat):Int)=i+1+(j:Int) by omega]
       exact this
    rw [List.map_cons,List.sum_cons]
    rcases h6 with rfl | h6
    · simpa using h1
    omega
  rintro ⟨h1,h2⟩
  have h0:=h1 0 a rfl
  rcases h2 with h2 | h2
  · cases h2
  rw [List.map_cons,List.sum_cons] at h2
  refine ⟨⟨⟨⟨by omega,h0.1⟩,h0.2.1⟩,by simpa using h0.2.2⟩,?_,.inr (by omega)⟩
  intro j b hb
  have:=h1 (j+1) b hb
  rw [show i+((j+1:Nat):Int)=i+1+(j:Int) by omega] at this
  exact this
def KR (g:List S47):Prop:=∀ b∈g,(∀ x∈b.f0,Rg x.f3)∧Rg b.f2.f3
theorem gok_of {g:List S47} (h:TkB g=true) (hk:KR g):GOk g:=by
 unfold TkB at h
 simp only [Bool.and_eq_true,decide_eq_true_eq] at h
 obtain ⟨⟨h1,h2⟩,h3⟩:=h
 obtain ⟨h4,h5⟩:=(wQ _ _ _ _).1 h3
 refine ⟨h1,h2,?_,?_⟩
 · intro j b hb
   obtain ⟨a1,a2,a3⟩:=h4 j b hb
   have:=hk b (List.mem_of_getElem? hb)
   exact ⟨a1,a2,by simpa using a3,this.1,this.2⟩
 rcases h5 with rfl | h5
 · exact absurd h1 (by simp)
 omega
theorem GOk.tk {g:List S47} (h:GOk g):TkB g=true:=by
 unfold TkB
 simp only [Bool.and_eq_true,decide_eq_true_eq]
 refine ⟨⟨h.some_,h.few⟩,(wQ _ _ _ _).2 ⟨?_,.inr (by have:=h.sum;omega)⟩⟩
 intro j b hb
 have:=h.all j b hb
 exact ⟨this.code,this.ends,by simpa using this.goal⟩
def msB (b:S47):Nat:=b.f0.length+1+(if b.f1=3 then 2 else 0)
theorem gok_run {g:List S47} (h:GOk g) (pk:List Int):∃ v f t n,Rn g pk 0 z16 v f t∧t≤8192∧nG g pk n 0 z16 0=some (v,f,(t:Int)):=by
 obtain ⟨v,f,t,hr,ht⟩:=rn_all h pk g.length 0 z16 (by omega) h.some_
 obtain ⟨n,hn⟩:=wK h hr
 have hs:(lm g).sum=(g.map (fun b=>b.f0.length)).sum+g.length:=by
  unfold lm
  clear hr ht hn h
  induction g with
  | nil=>rfl
  | cons b r ih=>rw [List.map_cons,List.sum_cons,List.map_cons,List.sum_cons,List.length_cons,ih];omega
 have h1:=h.sum
 have h2:=h.few
 rw [List.drop_zero] at ht
 have:=hn 0 (by omega)
 rw [Nat.zero_add] at this
 exact ⟨v,f,t,n,hr,by omega,this⟩
end Go.Proofs.Ytdkalnkplgfgoaa.Ln
