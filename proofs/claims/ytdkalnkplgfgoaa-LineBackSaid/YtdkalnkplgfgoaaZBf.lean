/- Lemmas and walks for the statements of the texts ZBZ..: the declarations that they need, taken together by a program of this session. Conditions: as each says. -/
import Derived.Test.YtdkalnkplgfgoaaZBb
import Derived.Test.YtdkalnkplgfgoaaZBc
import Derived.Test.YtdkalnkplgfgoaaZBd
import Derived.Test.YtdkalnkplgfgoaaZBe
set_option maxHeartbeats 8000000
set_option maxRecDepth 100000
set_option linter.unusedVariables false
set_option linter.unusedSimpArgs false
namespace Go.Proofs.Ytdkalnkplgfgoaa.Ln
open Go.RowKit Go.Maps Go.Proofs.YtdkalnkplgfgoaaW.PrintWords Go.Proofs.YtdkalnkplgfgoaaW.PrintLast Go.Proofs.YtdkalnkplgfgoaaW.PrintMore Go.Proofs.Ytdkalnkplgfgoaa.PA
structure bn where
 a:Int
 x:Int
 m:List Int
def bS (M:bn):Array Value:=(.int .u32 M.a :: .int .u32 M.x :: M.m.map (fun v=>Value.int .u32 v)).toArray
theorem iW (M:bn):(bS M)[0]?=some (.int .u32 M.a):=rfl
theorem iX (M:bn):(bS M)[1]?=some (.int .u32 M.x):=rfl
theorem mc_m (M:bn) (j:Nat) (h:j<M.m.length):(bS M)[2+j]?=some (.int .u32 (M.m.getD j 0)):=by
 unfold bS
 rw [List.getElem?_toArray,Nat.add_comm 2 j,List.getElem?_cons_succ,List.getElem?_cons_succ,List.getElem?_map,List.getD_eq_getElem?_getD,List.getElem?_eq_getElem h]
 rfl
theorem gP (M:bn) (v:Int):(bS M).setIfInBounds 0 (.int .u32 v)=bS {M with a:=v}:=by
 unfold bS;rw [List.setIfInBounds_toArray];rfl
theorem jo (M:bn) (v:Int):(bS M).setIfInBounds 1 (.int .u32 v)=bS {M with x:=v}:=by
 unfold bS;rw [List.setIfInBounds_toArray];rfl
theorem q8 (M:bn) (j:Nat) (v:Int):(bS M).setIfInBounds (2+j) (.int .u32 v)=bS {M with m:=M.m.set j v}:=by
 unfold bS;rw [List.setIfInBounds_toArray,Nat.add_comm 2 j,List.set_cons_succ,List.set_cons_succ,←List.map_set]
def rdP (p:List Int) (at_ size:Int):Int × Int:=(bM.f 10 p at_ size).getD (0,0)
def szP (c:Int):Int:=(bD.f 10 c).getD 0
def opP (c a b:Int):Int × Int:=(bG.f c a b).getD (0,0)
def byX (c:Int):Bool:=(bT.f 10 c).getD false
def ix (k:Int):Nat:=(Go.bits .and .u32 k 15).toNat
def cK (i:S45) (p:List Int) (M:bn):bn × Int:=
 let c:=i.f0
 if c=0 then ({M with a:=i.f3},0)
 else if c=32∨c=40∨c=48 then ({M with a:=(rdP p (IntKind.u64.wrap i.f3) (szP c)).1},(rdP p (IntKind.u64.wrap i.f3) (szP c)).2)
 else if c=64∨c=72∨c=80 then ({M with a:=(rdP p (IntKind.u64.wrap (IntKind.u64.wrap i.f3+IntKind.u64.wrap M.x)) (szP c)).1},(rdP p (IntKind.u64.wrap (IntKind.u64.wrap i.f3+IntKind.u64.wrap M.x)) (szP c)).2)
 else if c=96 then ({M with a:=M.m.getD (ix i.f3) 0},0)
 else if c=128 then ({M with a:=IntKind.u32.wrap (p.length:Int)},0)
 else if c=1 then ({M with x:=i.f3},0)
 else if c=97 then ({M with x:=M.m.getD (ix i.f3) 0},0)
 else if c=129 then ({M with x:=IntKind.u32.wrap (p.length:Int)},0)
 else if c=177 then ({M with x:=IntKind.u32.wrap (4*Go.bits .and .u32 (rdP p (IntKind.u64.wrap i.f3) 1).1 15)},(rdP p (IntKind.u64.wrap i.f3) 1).2)
 else if c=2 then ({M with m:=M.m.set (ix i.f3) M.a},0)
 else if c=3 then ({M with m:=M.m.set (ix i.f3) M.x},0)
 else if c=132 then ({M with a:=IntKind.u32.wrap (-M.a)},0)
 else if c=7 then ({M with x:=M.a},0)
 else if c=135 then ({M with a:=M.x},0)
 else ({M with a:=(opP c M.a (if byX c then M.x else i.f3)).1},(opP c M.a (if byX c then M.x else i.f3)).2)
theorem step_0 (w:World) (gm:Nat) (M:bn) (i1 i2 k:Int) (p:List Int) (A:Option Addr) (c:Nat) (hM:w.heap[gm]?=some (.cells (bS M) 97 (0,0))) (hl:M.m.length=16) :
 Calls Try.prog 63 #[.pointer (some ⟨gm,0,none⟩),.agg #[.int .u16 0,.int .u8 i1,.int .u8 i2,.int .u32 k],.slice A p.length c] w fun e w'=>e = .returned (.int .i64 0)∧w'.heap[gm]?=some (.cells (bS {M with a:=k}) 97 (0,0))∧Kp (fun k=>k=gm) w w':=by
 have ca:=(ag hM 0).trans (iW M)
 have fa:=aj hM 0
 have cx:=(ag hM 1).trans (iX M)
 have fx:=aj hM 1
 have hlt:=aZ hM
 have HM:=aa.mk hM
 clear hM
 go_enter Try.func63,Try.ntmps63
 go_wp2
 go_ret
 exact ⟨rfl,au (aJ HM.out 0 _ (gP M _)) (ai (Below.refl _ _) _),(Kp.set (S:=fun k=>k=gm) (g:=gm) (Kp.refl _ w) (.inl rfl) _ _).below (ai (Below.refl _ _) _)⟩
theorem step_1 (w:World) (gm:Nat) (M:bn) (i1 i2 k:Int) (p:List Int) (A:Option Addr) (c:Nat) (hM:w.heap[gm]?=some (.cells (bS M) 97 (0,0))) (hl:M.m.length=16) :
 Calls Try.prog 63 #[.pointer (some ⟨gm,0,none⟩),.agg #[.int .u16 1,.int .u8 i1,.int .u8 i2,.int .u32 k],.slice A p.length c] w fun e w'=>e = .returned (.int .i64 0)∧w'.heap[gm]?=some (.cells (bS {M with x:=k}) 97 (0,0))∧Kp (fun k=>k=gm) w w':=by
 have ca:=(ag hM 0).trans (iW M)
 have fa:=aj hM 0
 have cx:=(ag hM 1).trans (iX M)
 have fx:=aj hM 1
 have hlt:=aZ hM
 have HM:=aa.mk hM
 clear hM
 go_enter Try.func63,Try.ntmps63
 go_wp2
 go_ret
 exact ⟨rfl,au (aJ HM.out 1 _ (jo M _)) (ai (Below.refl _ _) _),(Kp.set (S:=fun k=>k=gm) (g:=gm) (Kp.refl _ w) (.inl rfl) _ _).below (ai (Below.refl _ _) _)⟩
theorem step_7 (w:World) (gm:Nat) (M:bn) (i1 i2 k:Int) (p:List Int) (A:Option Addr) (c:Nat) (hM:w.heap[gm]?=some (.cells (bS M) 97 (0,0))) (hl:M.m.length=16) :
 Calls Try.prog 63 #[.pointer (some ⟨gm,0,none⟩),.agg #[.int .u16 7,.int .u8 i1,.int .u8 i2,.int .u32 k],.slice A p.length c] w fun e w'=>e = .returned (.int .i64 0)∧w'.heap[gm]?=some (.cells (bS {M with x:=M.a}) 97 (0,0))∧Kp (fun k=>k=gm) w w':=by
 have ca:=(ag hM 0).trans (iW M)
 have fa:=aj hM 0
 have cx:=(ag hM 1).trans (iX M)
 have fx:=aj hM 1
 have hlt:=aZ hM
 have HM:=aa.mk hM
 clear hM
 go_enter Try.func63,Try.ntmps63
 go_wp2
 go_ret
 exact ⟨rfl,au (aJ HM.out 1 _ (jo M _)) (ai (Below.refl _ _) _),(Kp.set (S:=fun k=>k=gm) (g:=gm) (Kp.refl _ w) (.inl rfl) _ _).below (ai (Below.refl _ _) _)⟩
theorem vF (w:World) (gm:Nat) (M:bn) (i1 i2 k:Int) (p:List Int) (A:Option Addr) (c:Nat) (hM:w.heap[gm]?=some (.cells (bS M) 97 (0,0))) (hl:M.m.length=16) :
 Calls Try.prog 63 #[.pointer (some ⟨gm,0,none⟩),.agg #[.int .u16 135,.int .u8 i1,.int .u8 i2,.int .u32 k],.slice A p.length c] w fun e w'=>e = .returned (.int .i64 0)∧w'.heap[gm]?=some (.cells (bS {M with a:=M.x}) 97 (0,0))∧Kp (fun k=>k=gm) w w':=by
 have ca:=(ag hM 0).trans (iW M)
 have fa:=aj hM 0
 have cx:=(ag hM 1).trans (iX M)
 have fx:=aj hM 1
 have hlt:=aZ hM
 have HM:=aa.mk hM
 clear hM
 go_enter Try.func63,Try.ntmps63
 go_wp2
 go_ret
 exact ⟨rfl,au (aJ HM.out 0 _ (gP M _)) (ai (Below.refl _ _) _),(Kp.set (S:=fun k=>k=gm) (g:=gm) (Kp.refl _ w) (.inl rfl) _ _).below (ai (Below.refl _ _) _)⟩
theorem vE (w:World) (gm:Nat) (M:bn) (i1 i2 k:Int) (p:List Int) (A:Option Addr) (c:Nat) (hM:w.heap[gm]?=some (.cells (bS M) 97 (0,0))) (hl:M.m.length=16) :
 Calls Try.prog 63 #[.pointer (some ⟨gm,0,none⟩),.agg #[.int .u16 132,.int .u8 i1,.int .u8 i2,.int .u32 k],.slice A p.length c] w fun e w'=>e = .returned (.int .i64 0)∧w'.heap[gm]?=some (.cells (bS {M with a:=IntKind.u32.wrap (-M.a)}) 97 (0,0))∧Kp (fun k=>k=gm) w w':=by
 have ca:=(ag hM 0).trans (iW M)
 have fa:=aj hM 0
 have cx:=(ag hM 1).trans (iX M)
 have fx:=aj hM 1
 have hlt:=aZ hM
 have HM:=aa.mk hM
 clear hM
 go_enter Try.func63,Try.ntmps63
 go_wp2
 go_ret
 exact ⟨rfl,au (aJ HM.out 0 _ (gP M _)) (ai (Below.refl _ _) _),(Kp.set (S:=fun k=>k=gm) (g:=gm) (Kp.refl _ w) (.inl rfl) _ _).below (ai (Below.refl _ _) _)⟩
theorem vC (w:World) (gm:Nat) (M:bn) (i1 i2 k:Int) (p:List Int) (A:Option Addr) (c:Nat) (hM:w.heap[gm]?=some (.cells (bS M) 97 (0,0))) (hl:M.m.length=16) :
 Calls Try.prog 63 #[.pointer (some ⟨gm,0,none⟩),.agg #[.int .u16 128,.int .u8 i1,.int .u8 i2,.int .u32 k],.slice A p.length c] w fun e w'=>e = .returned (.int .i64 0)∧w'.heap[gm]?=some (.cells (bS {M with a:=IntKind.u32.wrap (p.length:Int)}) 97 (0,0))∧Kp (fun k=>k=gm) w w':=by
 have ca:=(ag hM 0).trans (iW M)
 have fa:=aj hM 0
 have cx:=(ag hM 1).trans (iX M)
 have fx:=aj hM 1
 have hlt:=aZ hM
 have HM:=aa.mk hM
 clear hM
 go_enter Try.func63,Try.ntmps63
 go_wp2
 go_ret
 exact ⟨rfl,au (aJ HM.out 0 _ (gP M _)) (ai (Below.refl _ _) _),(Kp.set (S:=fun k=>k=gm) (g:=gm) (Kp.refl _ w) (.inl rfl) _ _).below (ai (Below.refl _ _) _)⟩
theorem vD (w:World) (gm:Nat) (M:bn) (i1 i2 k:Int) (p:List Int) (A:Option Addr) (c:Nat) (hM:w.heap[gm]?=some (.cells (bS M) 97 (0,0))) (hl:M.m.length=16) :
 Calls Try.prog 63 #[.pointer (some ⟨gm,0,none⟩),.agg #[.int .u16 129,.int .u8 i1,.int .u8 i2,.int .u32 k],.slice A p.length c] w fun e w'=>e = .returned (.int .i64 0)∧w'.heap[gm]?=some (.cells (bS {M with x:=IntKind.u32.wrap (p.length:Int)}) 97 (0,0))∧Kp (fun k=>k=gm) w w':=by
 have ca:=(ag hM 0).trans (iW M)
 have fa:=aj hM 0
 have cx:=(ag hM 1).trans (iX M)
 have fx:=aj hM 1
 have hlt:=aZ hM
 have HM:=aa.mk hM
 clear hM
 go_enter Try.func63,Try.ntmps63
 go_wp2
 go_ret
 exact ⟨rfl,au (aJ HM.out 1 _ (jo M _)) (ai (Below.refl _ _) _),(Kp.set (S:=fun k=>k=gm) (g:=gm) (Kp.refl _ w) (.inl rfl) _ _).below (ai (Below.refl _ _) _)⟩
theorem step_96 (w:World) (gm:Nat) (M:bn) (i1 i2 k:Int) (p:List Int) (A:Option Addr) (c:Nat) (hM:w.heap[gm]?=some (.cells (bS M) 97 (0,0))) (hl:M.m.length=16) (v:Int) (hv:M.m.getD (ix k) 0=v) (hk0:0≤bits BinOp.and IntKind.u32 k 15) (hk1:bits BinOp.and IntKind.u32 k 15<16) :
 Calls Try.prog 63 #[.pointer (some ⟨gm,0,none⟩),.agg #[.int .u16 96,.int .u8 i1,.int .u8 i2,.int .u32 k],.slice A p.length c] w fun e w'=>e = .returned (.int .i64 0)∧w'.heap[gm]?=some (.cells (bS {M with a:=v}) 97 (0,0))∧Kp (fun k=>k=gm) w w':=by
 have ca:=(ag hM 0).trans (iW M)
 have fa:=aj hM 0
 have cx:=(ag hM 1).trans (iX M)
 have fx:=aj hM 1
 have b0:0≤bits BinOp.and IntKind.u32 k 15:=hk0
 have b1:bits BinOp.and IntKind.u32 k 15<16:=hk1
 have cm:=(ag hM (2+(bits BinOp.and IntKind.u32 k 15).toNat)).trans ((mc_m M (bits BinOp.and IntKind.u32 k 15).toNat (by rw [hl];omega)).trans (congrArg (fun z=>some (Value.int .u32 z)) hv))
 have fm:=aj hM (2+(bits BinOp.and IntKind.u32 k 15).toNat)
 have hlt:=aZ hM
 have HM:=aa.mk hM
 clear hM
 go_enter Try.func63,Try.ntmps63
 go_wp2
 go_region
 go_wp2
 go_ret
 exact ⟨rfl,au (aJ HM.out 0 _ (gP M _)) (ae (ai (Below.refl _ _) _)),(Kp.set (S:=fun k=>k=gm) (g:=gm) (Kp.refl _ w) (.inl rfl) _ _).below (ae (ai (Below.refl _ _) _))⟩
theorem step_97 (w:World) (gm:Nat) (M:bn) (i1 i2 k:Int) (p:List Int) (A:Option Addr) (c:Nat) (hM:w.heap[gm]?=some (.cells (bS M) 97 (0,0))) (hl:M.m.length=16) (v:Int) (hv:M.m.getD (ix k) 0=v) (hk0:0≤bits BinOp.and IntKind.u32 k 15) (hk1:bits BinOp.and IntKind.u32 k 15<16) :
 Calls Try.prog 63 #[.pointer (some ⟨gm,0,none⟩),.agg #[.int .u16 97,.int .u8 i1,.int .u8 i2,.int .u32 k],.slice A p.length c] w fun e w'=>e = .returned (.int .i64 0)∧w'.heap[gm]?=some (.cells (bS {M with x:=v}) 97 (0,0))∧Kp (fun k=>k=gm) w w':=by
 have ca:=(ag hM 0).trans (iW M)
 have fa:=aj hM 0
 have cx:=(ag hM 1).trans (iX M)
 have fx:=aj hM 1
 have b0:0≤bits BinOp.and IntKind.u32 k 15:=hk0
 have b1:bits BinOp.and IntKind.u32 k 15<16:=hk1
 have cm:=(ag hM (2+(bits BinOp.and IntKind.u32 k 15).toNat)).trans ((mc_m M (bits BinOp.and IntKind.u32 k 15).toNat (by rw [hl];omega)).trans (congrArg (fun z=>some (Value.int .u32 z)) hv))
 have fm:=aj hM (2+(bits BinOp.and IntKind.u32 k 15).toNat)
 have hlt:=aZ hM
 have HM:=aa.mk hM
 clear hM
 go_enter Try.func63,Try.ntmps63
 go_wp2
 go_region
 go_wp2
 go_ret
 exact ⟨rfl,au (aJ HM.out 1 _ (jo M _)) (ae (ai (Below.refl _ _) _)),(Kp.set (S:=fun k=>k=gm) (g:=gm) (Kp.refl _ w) (.inl rfl) _ _).below (ae (ai (Below.refl _ _) _))⟩
theorem step_2 (w:World) (gm:Nat) (M:bn) (i1 i2 k:Int) (p:List Int) (A:Option Addr) (c:Nat) (hM:w.heap[gm]?=some (.cells (bS M) 97 (0,0))) (hl:M.m.length=16) (v:Int) (hv:M.m.getD (ix k) 0=v) (hk0:0≤bits BinOp.and IntKind.u32 k 15) (hk1:bits BinOp.and IntKind.u32 k 15<16) :
 Calls Try.prog 63 #[.pointer (some ⟨gm,0,none⟩),.agg #[.int .u16 2,.int .u8 i1,.int .u8 i2,.int .u32 k],.slice A p.length c] w fun e w'=>e = .returned (.int .i64 0)∧w'.heap[gm]?=some (.cells (bS {M with m:=M.m.set (ix k) M.a}) 97 (0,0))∧Kp (fun k=>k=gm) w w':=by
 have ca:=(ag hM 0).trans (iW M)
 have fa:=aj hM 0
 have cx:=(ag hM 1).trans (iX M)
 have fx:=aj hM 1
 have b0:0≤bits BinOp.and IntKind.u32 k 15:=hk0
 have b1:bits BinOp.and IntKind.u32 k 15<16:=hk1
 have cm:=(ag hM (2+(bits BinOp.and IntKind.u32 k 15).toNat)).trans ((mc_m M (bits BinOp.and IntKind.u32 k 15).toNat (by rw [hl];omega)).trans (congrArg (fun z=>some (Value.int .u32 z)) hv))
 have fm:=aj hM (2+(bits BinOp.and IntKind.u32 k 15).toNat)
 have hlt:=aZ hM
 have HM:=aa.mk hM
 clear hM
 go_enter Try.func63,Try.ntmps63
 go_wp2
 go_region
 go_wp2
 go_ret
 exact ⟨rfl,au (aJ HM.out (2+(bits BinOp.and IntKind.u32 k 15).toNat) _ (q8 M _ _)) (ae (ai (Below.refl _ _) _)),(Kp.set (S:=fun k=>k=gm) (g:=gm) (Kp.refl _ w) (.inl rfl) _ _).below (ae (ai (Below.refl _ _) _))⟩
theorem step_3 (w:World) (gm:Nat) (M:bn) (i1 i2 k:Int) (p:List Int) (A:Option Addr) (c:Nat) (hM:w.heap[gm]?=some (.cells (bS M) 97 (0,0))) (hl:M.m.length=16) (v:Int) (hv:M.m.getD (ix k) 0=v) (hk0:0≤bits BinOp.and IntKind.u32 k 15) (hk1:bits BinOp.and IntKind.u32 k 15<16) :
 Calls Try.prog 63 #[.pointer (some ⟨gm,0,none⟩),.agg #[.int .u16 3,.int .u8 i1,.int .u8 i2,.int .u32 k],.slice A p.length c] w fun e w'=>e = .returned (.int .i64 0)∧w'.heap[gm]?=some (.cells (bS {M with m:=M.m.set (ix k) M.x}) 97 (0,0))∧Kp (fun k=>k=gm) w w':=by
 have ca:=(ag hM 0).trans (iW M)
 have fa:=aj hM 0
 have cx:=(ag hM 1).trans (iX M)
 have fx:=aj hM 1
 have b0:0≤bits BinOp.and IntKind.u32 k 15:=hk0
 have b1:bits BinOp.and IntKind.u32 k 15<16:=hk1
 have cm:=(ag hM (2+(bits BinOp.and IntKind.u32 k 15).toNat)).trans ((mc_m M (bits BinOp.and IntKind.u32 k 15).toNat (by rw [hl];omega)).trans (congrArg (fun z=>some (Value.int .u32 z)) hv))
 have fm:=aj hM (2+(bits BinOp.and IntKind.u32 k 15).toNat)
 have hlt:=aZ hM
 have HM:=aa.mk hM
 clear hM
 go_enter Try.func63,Try.ntmps63
 go_wp2
 go_region
 go_wp2
 go_ret
 exact ⟨rfl,au (aJ HM.out (2+(bits BinOp.and IntKind.u32 k 15).toNat) _ (q8 M _ _)) (ae (ai (Below.refl _ _) _)),(Kp.set (S:=fun k=>k=gm) (g:=gm) (Kp.refl _ w) (.inl rfl) _ _).below (ae (ai (Below.refl _ _) _))⟩
abbrev KS (gi gm:Nat) (q k:Int) (M:bn) (W:World):Prop:=W.cell? ⟨gi,0,none⟩=some (.int .u16 q)∧W.cell? ⟨gi,3,none⟩=some (.int .u32 k)∧W.cell? ⟨gm,0,none⟩=some (.int .u32 M.a)∧W.cell? ⟨gm,1,none⟩=some (.int .u32 M.x)∧W.frozen? ⟨gm,0,none⟩=false∧W.frozen? ⟨gm,1,none⟩=false
theorem qp (q:Int) (hq:q=32∨q=40∨q=48) (w:World) (gm:Nat) (M:bn) (v f s i1 i2 k:Int) (p:List Int) (A:Option Addr) (c:Nat) (hM:w.heap[gm]?=some (.cells (bS M) 97 (0,0))) (hl:M.m.length=16) (hp:Kd.C (Kd.int .u8) w A p.length p) (hc:p.length≤c) (hs:bD.f 10 q=some s) (hr:bM.f 10 p (IntKind.u64.wrap k) s=some (v,f)) :
 Calls Try.prog 63 #[.pointer (some ⟨gm,0,none⟩),.agg #[.int .u16 q,.int .u8 i1,.int .u8 i2,.int .u32 k],.slice A p.length c] w fun e w'=>e = .returned (.int .i64 f)∧w'.heap[gm]?=some (.cells (bS {M with a:=v}) 97 (0,0))∧Kp (fun k=>k=gm) w w':=by
 have ca:=(ag hM 0).trans (iW M)
 have fa:=aj hM 0
 have cx:=(ag hM 1).trans (iX M)
 have fx:=aj hM 1
 have hlt:=aZ hM
 have HM:=aa.mk hM
 clear hM
 have HC:=aa.mk hc
 have KK:∀ W,Below (w.alloc (.cells #[.int .u16 q,.int .u8 i1,.int .u8 i2,.int .u32 k] 45)).heap.size (w.alloc (.cells #[.int .u16 q,.int .u8 i1,.int .u8 i2,.int .u32 k] 45)) W→KS w.heap.size gm q k M W:=by
  intro W hb
  have b0:=au (dY w (.cells #[.int .u16 q,.int .u8 i1,.int .u8 i2,.int .u32 k] 45)) hb
  have bm:=au (au HM.out (ai (Below.refl _ _) _)) hb
  exact ⟨(ag b0 0).trans rfl,(ag b0 3).trans rfl,(ag bm 0).trans rfl,(ag bm 1).trans rfl,aj bm 0,aj bm 1⟩
 have KC:∀ W,Below (w.alloc (.cells #[.int .u16 q,.int .u8 i1,.int .u8 i2,.int .u32 k] 45)).heap.size (w.alloc (.cells #[.int .u16 q,.int .u8 i1,.int .u8 i2,.int .u32 k] 45)) W→Kd.C (Kd.int .u8) W A p.length p:=by
  intro W hb
  exact Kd.bJ (Kd.dx hp _) hb
 have KK:=aa.mk KK
 have KC:=aa.mk KC
 have HS:=aa.mk hs
 have HR:=aa.mk hr
 clear hs hr hp hc
 rcases hq with rfl | rfl | rfl
 all_goals
  go_enter Try.func63,Try.ntmps63
  go_wp2
  refine gQ 16 (KS w.heap.size gm _ k M) [14] (KK.out _ jZ) (fun hHeld=>?_)
  refine aM 0 46 ?_
  refine aM 1 47 ?_
  refine aM 2 48 ?_
  refine aM 5 51 ?_
  refine dN 3 49 hHeld ?_
  refine aM 4 50 ?_
  refine dN 6 52 hHeld ?_
  refine iZ 7 (some 53) (fun K hK=>?_)
  refine j5 Try.func96 #[.int .u16 _] ?_
  with_reducible refine (bD.calls 10 _ _ _ HS.out).mono ?_
  rintro e w3 ⟨rfl,⟨nd,rfl⟩⟩
  refine ⟨_,rfl,?_⟩
  refine hK.out _ _ (KK.out _ jZ) (fun hHeld=>?_)
  clear hK K
  refine fU 53 ?_
  refine iZ 8 (some 54) (fun K hK=>?_)
  refine j5 Try.func95 #[.slice A p.length c,.int .u64 (IntKind.u64.wrap k),.int .i64 s] ?_
  with_reducible refine (bM.calls 10 A c p _ _ _ _ _ (KC.out _ jZ) HC.out HR.out).mono ?_
  rintro e w3 ⟨rfl,⟨nd2,rfl⟩⟩
  refine ⟨_,rfl,?_⟩
  refine hK.out _ _ (KK.out _ jZ) (fun hHeld=>?_)
  clear hK K
  refine fU 54 ?_
  refine aM 9 45 ?_
  refine aM 10 55 ?_
  refine aM 11 56 ?_
  refine aM 12 57 ?_
  refine aM 13 58 ?_
  refine gI 14 none (fun K hK=>?_)
  refine iy ?_
  refine hK.out _ _ ?_
  clear hK K
  refine aM 15 7 ?_
  refine dS (by kernel_rfl) ?_
  go_wp2
  go_ret
  exact ⟨rfl,aJ (au HM.out mo) 0 _ (gP M _),Kp.set (S:=fun k=>k=gm) (g:=gm) ((Kp.refl _ w).below mo) (.inl rfl) _ _⟩
theorem qz (q:Int) (hq:q=64∨q=72∨q=80) (w:World) (gm:Nat) (M:bn) (v f s i1 i2 k:Int) (p:List Int) (A:Option Addr) (c:Nat) (hM:w.heap[gm]?=some (.cells (bS M) 97 (0,0))) (hl:M.m.length=16) (hp:Kd.C (Kd.int .u8) w A p.length p) (hc:p.length≤c) (hs:bD.f 10 q=some s) (hr:bM.f 10 p (IntKind.u64.wrap (IntKind.u64.wrap k+IntKind.u64.wrap M.x)) s=some (v,f)) :
 Calls Try.prog 63 #[.pointer (some ⟨gm,0,none⟩),.agg #[.int .u16 q,.int .u8 i1,.int .u8 i2,.int .u32 k],.slice A p.length c] w fun e w'=>e = .returned (.int .i64 f)∧w'.heap[gm]?=some (.cells (bS {M with a:=v}) 97 (0,0))∧Kp (fun k=>k=gm) w w':=by
 have ca:=(ag hM 0).trans (iW M)
 have fa:=aj hM 0
 have cx:=(ag hM 1).trans (iX M)
 have fx:=aj hM 1
 have hlt:=aZ hM
 have HM:=aa.mk hM
 clear hM
 have HC:=aa.mk hc
 have KK:∀ W,Below (w.alloc (.cells #[.int .u16 q,.int .u8 i1,.int .u8 i2,.int .u32 k] 45)).heap.size (w.alloc (.cells #[.int .u16 q,.int .u8 i1,.int .u8 i2,.int .u32 k] 45)) W→KS w.heap.size gm q k M W:=by
  intro W hb
  have b0:=au (dY w (.cells #[.int .u16 q,.int .u8 i1,.int .u8 i2,.int .u32 k] 45)) hb
  have bm:=au (au HM.out (ai (Below.refl _ _) _)) hb
  exact ⟨(ag b0 0).trans rfl,(ag b0 3).trans rfl,(ag bm 0).trans rfl,(ag bm 1).trans rfl,aj bm 0,aj bm 1⟩
 have KC:∀ W,Below (w.alloc (.cells #[.int .u16 q,.int .u8 i1,.int .u8 i2,.int .u32 k] 45)).heap.size (w.alloc (.cells #[.int .u16 q,.int .u8 i1,.int .u8 i2,.int .u32 k] 45)) W→Kd.C (Kd.int .u8) W A p.length p:=by
  intro W hb
  exact Kd.bJ (Kd.dx hp _) hb
 have KK:=aa.mk KK
 have KC:=aa.mk KC
 have HS:=aa.mk hs
 have HR:=aa.mk hr
 clear hs hr hp hc
 rcases hq with rfl | rfl | rfl
 all_goals
  go_enter Try.func63,Try.ntmps63
  go_wp2
  refine gQ 22 (KS w.heap.size gm _ k M) [20] (KK.out _ jZ) (fun hHeld=>?_)
  refine aM 0 64 ?_
  refine aM 1 65 ?_
  refine aM 2 66 ?_
  refine aM 5 69 ?_
  refine aM 6 70 ?_
  refine aM 7 71 ?_
  refine aM 11 75 ?_
  refine dN 3 67 hHeld ?_
  refine aM 4 68 ?_
  refine dN 8 72 hHeld ?_
  refine aM 9 73 ?_
  refine aM 10 74 ?_
  refine dN 12 76 hHeld ?_
  refine iZ 13 (some 77) (fun K hK=>?_)
  refine j5 Try.func96 #[.int .u16 _] ?_
  with_reducible refine (bD.calls 10 _ _ _ HS.out).mono ?_
  rintro e w3 ⟨rfl,⟨nd,rfl⟩⟩
  refine ⟨_,rfl,?_⟩
  refine hK.out _ _ (KK.out _ jZ) (fun hHeld=>?_)
  clear hK K
  refine fU 77 ?_
  refine iZ 14 (some 78) (fun K hK=>?_)
  refine j5 Try.func95 #[.slice A p.length c,.int .u64 (IntKind.u64.wrap (IntKind.u64.wrap k+IntKind.u64.wrap M.x)),.int .i64 s] ?_
  with_reducible refine (bM.calls 10 A c p _ _ _ _ _ (KC.out _ jZ) HC.out HR.out).mono ?_
  rintro e w3 ⟨rfl,⟨nd2,rfl⟩⟩
  refine ⟨_,rfl,?_⟩
  refine hK.out _ _ (KK.out _ jZ) (fun hHeld=>?_)
  clear hK K
  refine fU 78 ?_
  refine aM 15 63 ?_
  refine aM 16 79 ?_
  refine aM 17 80 ?_
  refine aM 18 81 ?_
  refine aM 19 82 ?_
  refine gI 20 none (fun K hK=>?_)
  refine iy ?_
  refine hK.out _ _ ?_
  clear hK K
  refine aM 21 7 ?_
  refine dS (by kernel_rfl) ?_
  go_wp2
  go_ret
  exact ⟨rfl,aJ (au HM.out mo) 0 _ (gP M _),Kp.set (S:=fun k=>k=gm) (g:=gm) ((Kp.refl _ w).below mo) (.inl rfl) _ _⟩
theorem vG (w:World) (gm:Nat) (M:bn) (v f i1 i2 k:Int) (p:List Int) (A:Option Addr) (c:Nat) (hM:w.heap[gm]?=some (.cells (bS M) 97 (0,0))) (hl:M.m.length=16) (hp:Kd.C (Kd.int .u8) w A p.length p) (hc:p.length≤c) (hr:bM.f 10 p (IntKind.u64.wrap k) 1=some (v,f)) :
 Calls Try.prog 63 #[.pointer (some ⟨gm,0,none⟩),.agg #[.int .u16 177,.int .u8 i1,.int .u8 i2,.int .u32 k],.slice A p.length c] w fun e w'=>e = .returned (.int .i64 f)∧w'.heap[gm]?=some (.cells (bS {M with x:=IntKind.u32.wrap (4*bits BinOp.and IntKind.u32 v 15)}) 97 (0,0))∧Kp (fun k=>k=gm) w w':=by
 have ca:=(ag hM 0).trans (iW M)
 have fa:=aj hM 0
 have cx:=(ag hM 1).trans (iX M)
 have fx:=aj hM 1
 have hlt:=aZ hM
 have HM:=aa.mk hM
 clear hM
 go_enter Try.func63,Try.ntmps63
 have HC:=aa.mk hc
 have KK:∀ W,Below (w.alloc (.cells #[.int .u16 177,.int .u8 i1,.int .u8 i2,.int .u32 k] 45)).heap.size (w.alloc (.cells #[.int .u16 177,.int .u8 i1,.int .u8 i2,.int .u32 k] 45)) W→W.cell? ⟨w.heap.size,0,none⟩=some (.int .u16 177)∧W.cell? ⟨w.heap.size,3,none⟩=some (.int .u32 k)∧W.cell? ⟨gm,0,none⟩=some (.int .u32 M.a)∧W.cell? ⟨gm,1,none⟩=some (.int .u32 M.x)∧W.frozen? ⟨gm,0,none⟩=false∧W.frozen? ⟨gm,1,none⟩=false:=by
  intro W hb
  have b0:=au (dY w (.cells #[.int .u16 177,.int .u8 i1,.int .u8 i2,.int .u32 k] 45)) hb
  have bm:=au (au HM.out (ai (Below.refl _ _) _)) hb
  exact ⟨(ag b0 0).trans rfl,(ag b0 3).trans rfl,(ag bm 0).trans rfl,(ag bm 1).trans rfl,aj bm 0,aj bm 1⟩
 have KC:∀ W,Below (w.alloc (.cells #[.int .u16 177,.int .u8 i1,.int .u8 i2,.int .u32 k] 45)).heap.size (w.alloc (.cells #[.int .u16 177,.int .u8 i1,.int .u8 i2,.int .u32 k] 45)) W→Kd.C (Kd.int .u8) W A p.length p:=by
  intro W hb
  exact Kd.bJ (Kd.dx hp _) hb
 have KK:=aa.mk KK
 have KC:=aa.mk KC
 have HR:=aa.mk hr
 clear hr hp hc
 go_wp2_with (go_at_call 95;refine (bM.calls 10 A c p _ _ _ _ _ (KC.out _ jZ) HC.out HR.out).mono ?_;rintro e w' ⟨rfl,⟨nd2,rfl⟩⟩)
 go_ret
 exact ⟨rfl,aJ (aJ (au HM.out mo) 1 _ (jo M _)) 1 _ (jo _ _),Kp.set (S:=fun k=>k=gm) (g:=gm) (Kp.set (S:=fun k=>k=gm) (g:=gm) ((Kp.refl _ w).below mo) (.inl rfl) _ _) (.inl rfl) _ _⟩
theorem vI (w:World) (gm:Nat) (M:bn) (cc v f i1 i2 k:Int) (p:List Int) (A:Option Addr) (c:Nat) (hM:w.heap[gm]?=some (.cells (bS M) 97 (0,0))) (hl:M.m.length=16) (hp:Kd.C (Kd.int .u8) w A p.length p) (hc:p.length≤c) (n0:(cc==0)=false) (n32:(cc==32)=false) (n40:(cc==40)=false) (n48:(cc==48)=false) (n64:(cc==64)=false) (n72:(cc==72)=false) (n80:(cc==80)=false) (n96:(cc==96)=false) (n128:(cc==128)=false) (n1:(cc==1)=false) (n97:(cc==97)=false) (n129:(cc==129)=false) (n177:(cc==177)=false) (n2:(cc==2)=false) (n3:(cc==3)=false) (n132:(cc==132)=false) (n7:(cc==7)=false) (n135:(cc==135)=false) (hbx:bT.f 10 cc=some false) (hr:bG.f cc M.a k=some (v,f)) :
 Calls Try.prog 63 #[.pointer (some ⟨gm,0,none⟩),.agg #[.int .u16 cc,.int .u8 i1,.int .u8 i2,.int .u32 k],.slice A p.length c] w fun e w'=>e = .returned (.int .i64 f)∧w'.heap[gm]?=some (.cells (bS {M with a:=v}) 97 (0,0))∧Kp (fun k=>k=gm) w w':=by
 have ca:=(ag hM 0).trans (iW M)
 have fa:=aj hM 0
 have cx:=(ag hM 1).trans (iX M)
 have fx:=aj hM 1
 have hlt:=aZ hM
 have HM:=aa.mk hM
 clear hM
 go_enter Try.func63,Try.ntmps63
 have HC:=aa.mk hc
 have KK:∀ W,Below (w.alloc (.cells #[.int .u16 cc,.int .u8 i1,.int .u8 i2,.int .u32 k] 45)).heap.size (w.alloc (.cells #[.int .u16 cc,.int .u8 i1,.int .u8 i2,.int .u32 k] 45)) W→W.cell? ⟨w.heap.size,0,none⟩=some (.int .u16 cc)∧W.cell? ⟨w.heap.size,3,none⟩=some (.int .u32 k)∧W.cell? ⟨gm,0,none⟩=some (.int .u32 M.a)∧W.cell? ⟨gm,1,none⟩=some (.int .u32 M.x)∧W.frozen? ⟨gm,0,none⟩=false∧W.frozen? ⟨gm,1,none⟩=false:=by
  intro W hb
  have b0:=au (dY w (.cells #[.int .u16 cc,.int .u8 i1,.int .u8 i2,.int .u32 k] 45)) hb
  have bm:=au (au HM.out (ai (Below.refl _ _) _)) hb
  exact ⟨(ag b0 0).trans rfl,(ag b0 3).trans rfl,(ag bm 0).trans rfl,(ag bm 1).trans rfl,aj bm 0,aj bm 1⟩
 have KC:∀ W,Below (w.alloc (.cells #[.int .u16 cc,.int .u8 i1,.int .u8 i2,.int .u32 k] 45)).heap.size (w.alloc (.cells #[.int .u16 cc,.int .u8 i1,.int .u8 i2,.int .u32 k] 45)) W→Kd.C (Kd.int .u8) W A p.length p:=by
  intro W hb
  exact Kd.bJ (Kd.dx hp _) hb
 have KK:=aa.mk KK
 have KC:=aa.mk KC
 have HBX:=aa.mk hbx
 have HR:=aa.mk hr
 clear hbx hr hp hc
 go_wp2_with (go_at_call 58;refine (bT.calls 10 _ _ _ HBX.out).mono ?_;rintro e w' ⟨rfl,⟨nd,rfl⟩⟩)
 refine gQ 16 (fun w'=>w'.cell? ⟨w.heap.size,0,none⟩=some (.int .u16 cc)∧w'.cell? ⟨w.heap.size,3,none⟩=some (.int .u32 k)∧w'.cell? ⟨gm,0,none⟩=some (.int .u32 M.a)∧w'.cell? ⟨gm,1,none⟩=some (.int .u32 M.x)∧w'.frozen? ⟨gm,0,none⟩=false∧w'.frozen? ⟨gm,1,none⟩=false) [14] (KK.out _ jZ) (fun hHeld=>?_)
 refine aM 0 21 ?_
 refine aM 1 22 ?_
 refine aM 3 24 ?_
 refine aM 4 25 ?_
 refine aM 5 26 ?_
 refine aM 7 28 ?_
 refine dN 2 23 hHeld ?_
 refine dN 6 27 hHeld ?_
 refine iZ 8 (some 29) (fun K hK=>?_)
 refine j5 Try.func97 #[.int .u16 cc,.int .u32 M.a,.int .u32 k] ?_
 with_reducible refine (bG.calls _ _ _ _ _ _ HR.out).mono ?_
 rintro e w3 ⟨rfl,⟨nd2,rfl⟩⟩
 refine ⟨_,rfl,?_⟩
 refine hK.out _ _ (KK.out _ jZ) (fun hHeld=>?_)
 clear hK K
 refine fU 29 ?_
 refine aM 9 20 ?_
 refine aM 10 30 ?_
 refine aM 11 31 ?_
 refine aM 12 32 ?_
 refine aM 13 33 ?_
 refine gI 14 none (fun K hK=>?_)
 refine iy ?_
 refine hK.out _ _ ?_
 clear hK K
 refine aM 15 7 ?_
 refine dS (by kernel_rfl) ?_
 go_wp2
 go_ret
 exact ⟨rfl,aJ (au HM.out mo) 0 _ (gP M _),Kp.set (S:=fun k=>k=gm) (g:=gm) ((Kp.refl _ w).below mo) (.inl rfl) _ _⟩
theorem vJ (w:World) (gm:Nat) (M:bn) (cc v f i1 i2 k:Int) (p:List Int) (A:Option Addr) (c:Nat) (hM:w.heap[gm]?=some (.cells (bS M) 97 (0,0))) (hl:M.m.length=16) (hp:Kd.C (Kd.int .u8) w A p.length p) (hc:p.length≤c) (n0:(cc==0)=false) (n32:(cc==32)=false) (n40:(cc==40)=false) (n48:(cc==48)=false) (n64:(cc==64)=false) (n72:(cc==72)=false) (n80:(cc==80)=false) (n96:(cc==96)=false) (n128:(cc==128)=false) (n1:(cc==1)=false) (n97:(cc==97)=false) (n129:(cc==129)=false) (n177:(cc==177)=false) (n2:(cc==2)=false) (n3:(cc==3)=false) (n132:(cc==132)=false) (n7:(cc==7)=false) (n135:(cc==135)=false) (hbx:bT.f 10 cc=some true) (hr:bG.f cc M.a M.x=some (v,f)) :
 Calls Try.prog 63 #[.pointer (some ⟨gm,0,none⟩),.agg #[.int .u16 cc,.int .u8 i1,.int .u8 i2,.int .u32 k],.slice A p.length c] w fun e w'=>e = .returned (.int .i64 f)∧w'.heap[gm]?=some (.cells (bS {M with a:=v}) 97 (0,0))∧Kp (fun k=>k=gm) w w':=by
 have ca:=(ag hM 0).trans (iW M)
 have fa:=aj hM 0
 have cx:=(ag hM 1).trans (iX M)
 have fx:=aj hM 1
 have hlt:=aZ hM
 have HM:=aa.mk hM
 clear hM
 go_enter Try.func63,Try.ntmps63
 have HC:=aa.mk hc
 have KK:∀ W,Below (w.alloc (.cells #[.int .u16 cc,.int .u8 i1,.int .u8 i2,.int .u32 k] 45)).heap.size (w.alloc (.cells #[.int .u16 cc,.int .u8 i1,.int .u8 i2,.int .u32 k] 45)) W→W.cell? ⟨w.heap.size,0,none⟩=some (.int .u16 cc)∧W.cell? ⟨w.heap.size,3,none⟩=some (.int .u32 k)∧W.cell? ⟨gm,0,none⟩=some (.int .u32 M.a)∧W.cell? ⟨gm,1,none⟩=some (.int .u32 M.x)∧W.frozen? ⟨gm,0,none⟩=false∧W.frozen? ⟨gm,1,none⟩=false:=by
  intro W hb
  have b0:=au (dY w (.cells #[.int .u16 cc,.int .u8 i1,.int .u8 i2,.int .u32 k] 45)) hb
  have bm:=au (au HM.out (ai (Below.refl _ _) _)) hb
  exact ⟨(ag b0 0).trans rfl,(ag b0 3).trans rfl,(ag bm 0).trans rfl,(ag bm 1).trans rfl,aj bm 0,aj bm 1⟩
 have KC:∀ W,Below (w.alloc (.cells #[.int .u16 cc,.int .u8 i1,.int .u8 i2,.int .u32 k] 45)).heap.size (w.alloc (.cells #[.int .u16 cc,.int .u8 i1,.int .u8 i2,.int .u32 k] 45)) W→Kd.C (Kd.int .u8) W A p.length p:=by
  intro W hb
  exact Kd.bJ (Kd.dx hp _) hb
 have KK:=aa.mk KK
 have KC:=aa.mk KC
 have HBX:=aa.mk hbx
 have HR:=aa.mk hr
 clear hbx hr hp hc
 go_wp2_with (go_at_call 58;refine (bT.calls 10 _ _ _ HBX.out).mono ?_;rintro e w' ⟨rfl,⟨nd,rfl⟩⟩)
 refine gQ 16 (fun w'=>w'.cell? ⟨w.heap.size,0,none⟩=some (.int .u16 cc)∧w'.cell? ⟨w.heap.size,3,none⟩=some (.int .u32 k)∧w'.cell? ⟨gm,0,none⟩=some (.int .u32 M.a)∧w'.cell? ⟨gm,1,none⟩=some (.int .u32 M.x)∧w'.frozen? ⟨gm,0,none⟩=false∧w'.frozen? ⟨gm,1,none⟩=false) [14] (KK.out _ jZ) (fun hHeld=>?_)
 refine aM 0 21 ?_
 refine aM 1 22 ?_
 refine aM 3 24 ?_
 refine aM 4 25 ?_
 refine aM 5 26 ?_
 refine aM 7 28 ?_
 refine dN 2 23 hHeld ?_
 refine dN 6 27 hHeld ?_
 refine iZ 8 (some 29) (fun K hK=>?_)
 refine j5 Try.func97 #[.int .u16 cc,.int .u32 M.a,.int .u32 M.x] ?_
 with_reducible refine (bG.calls _ _ _ _ _ _ HR.out).mono ?_
 rintro e w3 ⟨rfl,⟨nd2,rfl⟩⟩
 refine ⟨_,rfl,?_⟩
 refine hK.out _ _ (KK.out _ jZ) (fun hHeld=>?_)
 clear hK K
 refine fU 29 ?_
 refine aM 9 20 ?_
 refine aM 10 30 ?_
 refine aM 11 31 ?_
 refine aM 12 32 ?_
 refine aM 13 33 ?_
 refine gI 14 none (fun K hK=>?_)
 refine iy ?_
 refine hK.out _ _ ?_
 clear hK K
 refine aM 15 7 ?_
 refine dS (by kernel_rfl) ?_
 go_wp2
 go_ret
 exact ⟨rfl,aJ (au HM.out mo) 0 _ (gP M _),Kp.set (S:=fun k=>k=gm) (g:=gm) ((Kp.refl _ w).below mo) (.inl rfl) _ _⟩
theorem and15 (k:Int):0≤bits BinOp.and IntKind.u32 k 15∧bits BinOp.and IntKind.u32 k 15<16:=by
 have h:bits BinOp.and IntKind.u32 k 15=IntKind.u32.wrap ((BitVec.ofInt 32 k &&& BitVec.ofInt 32 15).toNat:Int):=rfl
 have h1:(BitVec.ofInt 32 k &&& BitVec.ofInt 32 15).toNat≤15:=by
  rw [BitVec.toNat_and]
  exact Nat.le_trans Nat.and_le_right (by decide)
 rw [h,IntKind.wrap_u32]
 omega
theorem mX (q:Int):∃ s,bD.f 10 q=some s∧(s=1∨s=2∨s=4):=by
 have h:∀ x b,∃ s,bD.j0 (9+1) x b=some s∧(s=1∨s=2∨s=4):=by
  intro x b
  simp only [bD.j0]
  split
  · exact ⟨4,rfl,.inr (.inr rfl)⟩
  split
  · exact ⟨2,rfl,.inr (.inl rfl)⟩
  split
  · exact ⟨2,rfl,.inr (.inl rfl)⟩
  exact ⟨1,rfl,.inl rfl⟩
 unfold bD.f
 split
 · exact h _ _
 exact h _ _
theorem mM (q:Int):∃ b,aK.f q=some b:=by
 unfold aK.f
 repeat' split
 all_goals exact ⟨_,rfl⟩
theorem opn_j (x:Int) (b:Bool):∃ r,aA.j0 10 x b=some r:=by
 show ∃ r,aA.j0 (9+1) x b=some r
 simp only [aA.j0]
 repeat' split
 all_goals exact ⟨_,rfl⟩
theorem uK (q:Int):∃ b,aA.f 10 q=some b:=by
 unfold aA.f
 repeat' split
 all_goals exact opn_j _ _
theorem oz (q:Int):∃ b,bT.f 10 q=some b:=by
 unfold bT.f
 obtain ⟨b,e⟩:=mM q
 obtain ⟨b1,e1⟩:=uK q
 rw [e,e1]
 simp only [Option.bind_some]
 repeat' split
 all_goals exact ⟨_,rfl⟩
theorem lZ (a b:Int) (l:Bool) (h:0≤b):∃ r,bu.f a b l=some r:=by
 unfold bu.f
 rw [if_pos h,if_pos h]
 repeat' split
 all_goals exact ⟨_,rfl⟩
theorem rZ (q a b:Int) (h:0≤b):∃ v f,bG.f q a b=some (v,f):=by
 obtain ⟨s1,e1⟩:=lZ a b true h
 obtain ⟨s2,e2⟩:=lZ a b false h
 unfold bG.f
 rw [e1,e2]
 simp only [Option.bind_some]
 repeat' split
 all_goals exact ⟨_,_,rfl⟩
theorem qY (n a s:Int):∃ b,bX.f n a s=some b∧(b=true→0≤a∧0≤s∧s≤n∧a≤wrap64 (n - s)):=by
 unfold bX.f
 split
 · split
   · split
     · exact ⟨_,rfl,fun h=>⟨by omega,by omega,by omega,of_decide_eq_true h⟩⟩
     exact ⟨_,rfl,fun h=>by cases h⟩
   exact ⟨_,rfl,fun h=>by cases h⟩
 exact ⟨_,rfl,fun h=>by cases h⟩
theorem kG {n:Int} (h0 : -9223372036854775808≤n) (h1:n<9223372036854775808):wrap64 n=n:=by
 unfold wrap64;omega
theorem get_l (p:List Int) (a s:Int) (h0:0≤a) (hs:s≤4) (h1:a+s≤p.length) (hl:p.length<2 ^ 62):∀ (n k:Nat) (x i:Int),0≤i→s≤i+n→n<k→∃ r,aC.l0 k p a s x i=some r:=by
 intro n
 induction n with
 | zero=>
  intro k x i hi hn hk
  cases k with
  | zero=>omega
  | succ k=>
   unfold aC.l0
   rw [if_neg (by omega)]
   exact ⟨_,rfl⟩
 | succ n ih=>
  intro k x i hi hn hk
  cases k with
  | zero=>omega
  | succ k=>
   unfold aC.l0
   by_cases hlt:i<s
   · rw [if_pos hlt]
     have e1:wrap64 (a+i)=a+i:=kG (by omega) (by omega)
     have e2:wrap64 (i+1)=i+1:=kG (by omega) (by omega)
     rw [e1,e2,if_pos (by omega),if_pos (by omega)]
     exact ih k _ (i+1) (by omega) (by omega) (by omega)
   rw [if_neg hlt];exact ⟨_,rfl⟩
theorem ku (p:List Int) (a s:Int) (hs:s=1∨s=2∨s=4) (hl:p.length<2 ^ 62):∃ v f,bM.f 10 p a s=some (v,f):=by
 have hj:∀ t,bX.f (p.length:Int) (wrap64 a) s=some t→∃ r,aC.j0 10 p (wrap64 a) s (!t)=some r:=by
  intro t ht
  obtain ⟨b,e,h⟩:=qY (p.length:Int) (wrap64 a) s
  rw [ht] at e
  obtain rfl:=Option.some.inj e
  show ∃ r,aC.j0 (9+1) p (wrap64 a) s (!t)=some r
  simp only [aC.j0]
  cases t with
  | false=>exact ⟨_,rfl⟩
  | true=>
   obtain ⟨h1,h2,h3,h4⟩:=h rfl
   have h5:=kG (n:=(p.length:Int) - s) (by omega) (by omega)
   rw [h5] at h4
   exact get_l p (wrap64 a) s h1 (by omega) (by omega) hl 4 9 0 0 (by omega) (by omega) (by omega)
 have hg:∃ r,aC.f 10 p (wrap64 a) s=some r:=by
  unfold aC.f
  obtain ⟨t,e,_⟩:=qY (p.length:Int) (wrap64 a) s
  rcases hs with rfl | rfl | rfl
  · rw [if_pos rfl,e];exact hj t e
  · rw [if_neg (by decide),if_pos rfl,e];exact hj t e
  rw [if_neg (by decide),if_neg (by decide),if_pos rfl,e];exact hj t e
 obtain ⟨⟨r1,r2⟩,e⟩:=hg
 unfold bM.f
 rw [e]
 simp only [Option.bind_some]
 repeat' split
 all_goals exact ⟨_,_,rfl⟩
theorem qx (w:World) (gm:Nat) (M:bn) (i:S45) (p:List Int) (A:Option Addr) (c:Nat) (hM:w.heap[gm]?=some (.cells (bS M) 97 (0,0))) (hl:M.m.length=16)
 (hp:Kd.C (Kd.int .u8) w A p.length p) (hc:p.length≤c) (hpl:p.length<2 ^ 62) (hx:0≤M.x) (hk:0≤i.f3) :
 Calls Try.prog 63 #[.pointer (some ⟨gm,0,none⟩),.agg #[.int .u16 i.f0,.int .u8 i.f1,.int .u8 i.f2,.int .u32 i.f3],.slice A p.length c] w fun e w'=>e = .returned (.int .i64 (cK i p M).2)∧w'.heap[gm]?=some (.cells (bS (cK i p M).1) 97 (0,0))∧Kp (fun k=>k=gm) w w':=by
 obtain ⟨cc,i1,i2,k⟩:=i
 have hk0:=(and15 k).1
 have hk1:=(and15 k).2
 simp only at hk
 simp only
 unfold cK
 simp only
 by_cases n0:cc=0
 · subst n0;exact step_0 w gm M i1 i2 k p A c hM hl
 rw [if_neg n0]
 by_cases n1:cc=32∨cc=40∨cc=48
 · rw [if_pos n1]
   obtain ⟨s,es,hs3⟩:=mX cc
   obtain ⟨v,f,er⟩:=ku p (IntKind.u64.wrap k) s hs3 hpl
   have e1:szP cc=s:=by unfold szP;rw [es];rfl
   have e2:rdP p (IntKind.u64.wrap k) s=(v,f):=by unfold rdP;rw [er];rfl
   rw [e1,e2]
   rcases n1 with rfl | rfl | rfl
   · exact qp 32 (by decide) w gm M v f s i1 i2 k p A c hM hl hp hc es er
   · exact qp 40 (by decide) w gm M v f s i1 i2 k p A c hM hl hp hc es er
   exact qp 48 (by decide) w gm M v f s i1 i2 k p A c hM hl hp hc es er
 rw [if_neg n1]
 by_cases n2:cc=64∨cc=72∨cc=80
 · rw [if_pos n2]
   obtain ⟨s,es,hs3⟩:=mX cc
   obtain ⟨v,f,er⟩:=ku p (IntKind.u64.wrap (IntKind.u64.wrap k+IntKind.u64.wrap M.x)) s hs3 hpl
   have e1:szP cc=s:=by unfold szP;rw [es];rfl
   have e2:rdP p (IntKind.u64.wrap (IntKind.u64.wrap k+IntKind.u64.wrap M.x)) s=(v,f):=by unfold rdP;rw [er];rfl
   rw [e1,e2]
   rcases n2 with rfl | rfl | rfl
   · exact qz 64 (by decide) w gm M v f s i1 i2 k p A c hM hl hp hc es er
   · exact qz 72 (by decide) w gm M v f s i1 i2 k p A c hM hl hp hc es er
   exact qz 80 (by decide) w gm M v f s i1 i2 k p A c hM hl hp hc es er
 rw [if_neg n2]
 by_cases n3:cc=96
 · subst n3;exact step_96 w gm M i1 i2 k p A c hM hl _ rfl hk0 hk1
 rw [if_neg n3]
 by_cases n4:cc=128
 · subst n4;exact vC w gm M i1 i2 k p A c hM hl
 rw [if_neg n4]
 by_cases n5:cc=1
 · subst n5;exact step_1 w gm M i1 i2 k p A c hM hl
 rw [if_neg n5]
 by_cases n6:cc=97
 · subst n6;exact step_97 w gm M i1 i2 k p A c hM hl _ rfl hk0 hk1
 rw [if_neg n6]
 by_cases n7:cc=129
 · subst n7;exact vD w gm M i1 i2 k p A c hM hl
 rw [if_neg n7]
 by_cases n8:cc=177
 · subst n8
   obtain ⟨v,f,er⟩:=ku p (IntKind.u64.wrap k) 1 (.inl rfl) hpl
   have e2:rdP p (IntKind.u64.wrap k) 1=(v,f):=by unfold rdP;rw [er];rfl
   rw [if_pos rfl,e2]
   exact vG w gm M v f i1 i2 k p A c hM hl hp hc er
 rw [if_neg n8]
 by_cases n9:cc=2
 · subst n9;exact step_2 w gm M i1 i2 k p A c hM hl _ rfl hk0 hk1
 rw [if_neg n9]
 by_cases n10:cc=3
 · subst n10;exact step_3 w gm M i1 i2 k p A c hM hl _ rfl hk0 hk1
 rw [if_neg n10]
 by_cases n11:cc=132
 · subst n11;exact vE w gm M i1 i2 k p A c hM hl
 rw [if_neg n11]
 by_cases n12:cc=7
 · subst n12;exact step_7 w gm M i1 i2 k p A c hM hl
 rw [if_neg n12]
 by_cases n13:cc=135
 · subst n13;exact vF w gm M i1 i2 k p A c hM hl
 rw [if_neg n13]
 simp only [not_or] at n1 n2
 obtain ⟨b,eb⟩:=oz cc
 have e3:byX cc=b:=by unfold byX;rw [eb];rfl
 have N:∀ z:Int,¬cc=z→(cc==z)=false:=fun z h=>beq_eq_false_iff_ne.mpr h
 obtain ⟨v,f,er⟩:=rZ cc M.a (if b=true then M.x else k) (by cases b;exact hk;exact hx)
 have e4:opP cc M.a (if b=true then M.x else k)=(v,f):=by unfold opP;rw [er];rfl
 rw [e3,e4]
 cases b
 · exact vI w gm M cc v f i1 i2 k p A c hM hl hp hc (N _ n0) (N _ n1.1) (N _ n1.2.1) (N _ n1.2.2) (N _ n2.1) (N _ n2.2.1) (N _ n2.2.2) (N _ n3) (N _ n4) (N _ n5) (N _ n6) (N _ n7) (N _ n8) (N _ n9) (N _ n10) (N _ n11) (N _ n12) (N _ n13) eb er
 exact vJ w gm M cc v f i1 i2 k p A c hM hl hp hc (N _ n0) (N _ n1.1) (N _ n1.2.1) (N _ n1.2.2) (N _ n2.1) (N _ n2.2.1) (N _ n2.2.2) (N _ n3) (N _ n4) (N _ n5) (N _ n6) (N _ n7) (N _ n8) (N _ n9) (N _ n10) (N _ n11) (N _ n12) (N _ n13) eb er
def MW (M:bn):Prop:=0≤M.a∧0≤M.x∧∀ j,0≤M.m.getD j 0
theorem d9 {α:Type} {P:α→Prop} {c:Prop} [Decidable c] {a b:α} (h1:c→P a) (h2:¬c→P b):P (if c then a else b):=by
 by_cases h:c
 · rw [if_pos h];exact h1 h
 rw [if_neg h];exact h2 h
theorem mY (i:S45) (pk:List Int) (M:bn):(cK i pk M).1.m.length=M.m.length:=by
 show (fun s:bn × Int=>s.1.m.length=M.m.length) (cK i pk M)
 unfold cK
 dsimp only
 repeat (refine d9 (P:=fun s:bn × Int=>s.1.m.length=M.m.length) (fun _=>by first | rfl | exact List.length_set) (fun _=>?_))
 rfl
theorem jw (n:Int):0≤IntKind.u32.wrap n:=by rw [IntKind.wrap_u32];omega
theorem ll (op:BinOp) (x y:Int):0≤bits op .u32 x y:=jw _
theorem get_nn (p:List Int) (a s:Int):∀ (k:Nat) (x i:Int) (r:Int × Bool),0≤x→aC.l0 k p a s x i=some r→0≤r.1:=by
 intro k
 induction k with
 | zero=>intro x i r _ h;simp [aC.l0] at h
 | succ k ih=>
  intro x i r hx h
  unfold aC.l0 at h
  split at h
  · split at h
    · split at h
      · exact ih _ _ r (ll _ _ _) h
      cases h
    cases h
  obtain rfl:=Option.some.inj h;exact hx
theorem getf_nn (p:List Int) (a s:Int) (r:Int × Bool) (h:aC.f 10 p a s=some r):0≤r.1:=by
 have hj:∀ b r,aC.j0 (9+1) p a s b=some r→0≤r.1:=by
  intro b r h
  simp only [aC.j0] at h
  split at h
  · obtain rfl:=Option.some.inj h;exact Int.le_refl 0
  exact get_nn p a s 9 0 0 r (Int.le_refl 0) h
 have hb:∀ (q:Option Bool) r,(q.bind fun t=>aC.j0 10 p a s (!t))=some r→0≤r.1:=by
  intro q r h
  obtain ⟨t,_,h⟩:=Option.bind_eq_some_iff.1 h
  exact hj _ _ h
 unfold aC.f at h
 split at h
 · exact hb _ _ h
 split at h
 · exact hb _ _ h
 split at h
 · exact hb _ _ h
 exact hj _ _ h
theorem uQ (p:List Int) (a s:Int):0≤(rdP p a s).1:=by
 unfold rdP
 cases h:bM.f 10 p a s with
 | none=>exact Int.le_refl 0
 | some r=>
  unfold bM.f at h
  split at h
  · obtain rfl:=Option.some.inj h;exact Int.le_refl 0
  obtain ⟨t,ht,h⟩:=Option.bind_eq_some_iff.1 h
  split at h
  · obtain rfl:=Option.some.inj h;exact getf_nn _ _ _ _ ht
  obtain rfl:=Option.some.inj h;exact Int.le_refl 0
theorem vk (a b:Int) (l:Bool) (r:Int) (ha:0≤a) (h:bu.f a b l=some r):0≤r:=by
 unfold bu.f at h
 split at h
 · obtain rfl:=Option.some.inj h;exact Int.le_refl 0
 split at h
 · split at h
   · obtain rfl:=Option.some.inj h;exact jw _
   cases h
 split at h
 · obtain rfl:=Option.some.inj h
   exact Int.ediv_nonneg ha (by have:(0:Int)<2 ^ min b.toNat (IntKind.u32.bits):=Int.pow_pos (by decide);omega)
 cases h
theorem opP_nn (c a b:Int) (ha:0≤a):0≤(opP c a b).1:=by
 unfold opP
 cases h:bG.f c a b with
 | none=>exact Int.le_refl 0
 | some r=>
  show 0≤r.1
  unfold bG.f at h
  have one:∀ x:Int × Int,some x=some r→0≤x.1→0≤r.1:=fun x e hx=>by rw [←Option.some.inj e];exact hx
  have sh:∀ l,(bu.f a b l).bind (fun t=>some (t,(0:Int)))=some r→0≤r.1:=by
   intro l h
   obtain ⟨t,ht,h⟩:=Option.bind_eq_some_iff.1 h
   exact one _ h (vk a b l t ha ht)
  split at h
  · exact one _ h (by show 0≤(a+b) % 4294967296;omega)
  split at h
  · exact one _ h (by show 0≤(a - b) % 4294967296;omega)
  split at h
  · exact one _ h (Int.emod_nonneg _ (by decide))
  split at h
  · exact one _ h (show 0≤(bits .or .u32 a b) from ll .or a b)
  split at h
  · exact one _ h (show 0≤(bits .and .u32 a b) from ll .and a b)
  split at h
  · exact one _ h (show 0≤(bits .xor .u32 a b) from ll .xor a b)
  split at h
  · exact sh _ h
  split at h
  · exact sh _ h
  split at h
  · exact one _ h (Int.le_refl 0)
  split at h
  · exact one _ h (Int.emod_nonneg _ (by decide))
  exact one _ h (Int.tmod_nonneg _ ha)
theorem uY (l:List Int) (h:∀ j,0≤l.getD j 0) (n:Nat) (v:Int) (hv:0≤v):∀ j,0≤(l.set n v).getD j 0:=by
 intro j
 have:=h j
 rw [List.getD_eq_getElem?_getD] at this ⊢
 rw [List.getElem?_set]
 split
 · split
   · exact hv
   exact Int.le_refl 0
 exact this
theorem vB (i:S45) (pk:List Int) (M:bn) (h:MW M) (hk:0≤i.f3):MW (cK i pk M).1:=by
 obtain ⟨ha,hx,hm⟩:=h
 show (fun s:bn × Int=>MW s.1) (cK i pk M)
 unfold cK
 dsimp only
 refine d9 (P:=fun s:bn × Int=>MW s.1) (fun _=>⟨hk,hx,hm⟩) (fun _=>?_)
 refine d9 (P:=fun s:bn × Int=>MW s.1) (fun _=>⟨uQ _ _ _,hx,hm⟩) (fun _=>?_)
 refine d9 (P:=fun s:bn × Int=>MW s.1) (fun _=>⟨uQ _ _ _,hx,hm⟩) (fun _=>?_)
 refine d9 (P:=fun s:bn × Int=>MW s.1) (fun _=>⟨hm _,hx,hm⟩) (fun _=>?_)
 refine d9 (P:=fun s:bn × Int=>MW s.1) (fun _=>⟨jw _,hx,hm⟩) (fun _=>?_)
 refine d9 (P:=fun s:bn × Int=>MW s.1) (fun _=>⟨ha,hk,hm⟩) (fun _=>?_)
 refine d9 (P:=fun s:bn × Int=>MW s.1) (fun _=>⟨ha,hm _,hm⟩) (fun _=>?_)
 refine d9 (P:=fun s:bn × Int=>MW s.1) (fun _=>⟨ha,jw _,hm⟩) (fun _=>?_)
 refine d9 (P:=fun s:bn × Int=>MW s.1) (fun _=>⟨ha,jw _,hm⟩) (fun _=>?_)
 refine d9 (P:=fun s:bn × Int=>MW s.1) (fun _=>⟨ha,hx,uY _ hm _ _ ha⟩) (fun _=>?_)
 refine d9 (P:=fun s:bn × Int=>MW s.1) (fun _=>⟨ha,hx,uY _ hm _ _ hx⟩) (fun _=>?_)
 refine d9 (P:=fun s:bn × Int=>MW s.1) (fun _=>⟨jw _,hx,hm⟩) (fun _=>?_)
 refine d9 (P:=fun s:bn × Int=>MW s.1) (fun _=>⟨ha,ha,hm⟩) (fun _=>?_)
 refine d9 (P:=fun s:bn × Int=>MW s.1) (fun _=>⟨hx,hx,hm⟩) (fun _=>?_)
 exact ⟨opP_nn _ _ _ ha,hx,hm⟩
end Go.Proofs.Ytdkalnkplgfgoaa.Ln
namespace Go.Proofs.Ytdkalnkplgfgoaa.PA
open Go.RowKit Go.Proofs.YtdkalnkplgfgoaaW.PrintWords Go.Proofs.YtdkalnkplgfgoaaW.PrintLast Go.Proofs.YtdkalnkplgfgoaaW.PrintMore
attribute [local go_sem] dE dG ed ek dm dn dF dH
def eH.f (a0:Int) (a1:Int) (a2:Int):Option (Int × Bool):=if (Go.bits .andNot .u16 a0 8)=4 then (some ((a1+a2) % 4294967296,true)) else (if (Go.bits .andNot .u16 a0 8)=20 then (some ((a1 - a2) % 4294967296,true)) else (if (Go.bits .andNot .u16 a0 8)=36 then (some ((a1*a2) % 4294967296,true)) else (if (Go.bits .andNot .u16 a0 8)=68 then (some (Go.bits .or .u32 a1 a2,true)) else (if (Go.bits .andNot .u16 a0 8)=84 then (some (Go.bits .and .u32 a1 a2,true)) else (if (Go.bits .andNot .u16 a0 8)=164 then (some (Go.bits .xor .u32 a1 a2,true)) else (if (Go.bits .andNot .u16 a0 8)=100 then (if 0≤a2 then (some (shl .u32 a1 a2,true)) else (none)) else (if (Go.bits .andNot .u16 a0 8)=116 then (if 0≤a2 then (some (shr .u32 a1 a2,true)) else (none)) else (if a2=0 then (some (0,false)) else (if (Go.bits .andNot .u16 a0 8)=52 then (some ((Int.tdiv a1 a2) % 4294967296,true)) else (some (Int.tmod a1 a2,true)))))))))))
theorem eH.calls (a0:Int) (a1:Int) (a2:Int) (r1:Int) (r2:Bool) (w:World) (h:eH.f a0 a1 a2=some (r1,r2)) :
 Calls Try.prog 155 #[.int .u16 a0,.int .u32 a1,.int .u32 a2] w fun e w'=>e = .returned (.tuple #[.int .u32 r1,.bool r2])∧bR w w':=by
 have H:(if (Go.bits .andNot .u16 a0 8)=4 then (some ((a1+a2) % 4294967296,true)) else (if (Go.bits .andNot .u16 a0 8)=20 then (some ((a1 - a2) % 4294967296,true)) else (if (Go.bits .andNot .u16 a0 8)=36 then (some ((a1*a2) % 4294967296,true)) else (if (Go.bits .andNot .u16 a0 8)=68 then (some (Go.bits .or .u32 a1 a2,true)) else (if (Go.bits .andNot .u16 a0 8)=84 then (some (Go.bits .and .u32 a1 a2,true)) else (if (Go.bits .andNot .u16 a0 8)=164 then (some (Go.bits .xor .u32 a1 a2,true)) else (if (Go.bits .andNot .u16 a0 8)=100 then (if 0≤a2 then (some (shl .u32 a1 a2,true)) else (none)) else (if (Go.bits .andNot .u16 a0 8)=116 then (if 0≤a2 then (some (shr .u32 a1 a2,true)) else (none)) else (if a2=0 then (some (0,false)) else (if (Go.bits .andNot .u16 a0 8)=52 then (some ((Int.tdiv a1 a2) % 4294967296,true)) else (some (Int.tmod a1 a2,true))))))))))))=some (r1,r2):=h
 clear h
 iterate 2
  replace H:=bL H
  obtain ⟨H,-,_,_⟩ | ⟨H,c4,_,_⟩:=H
  · obtain ⟨rfl,rfl⟩:=so2 H
    go_enter Try.func155,Try.ntmps155
    go_wp2
    go_ret2
    exact ⟨aY,bB⟩
 iterate 2
  replace H:=bL H
  obtain ⟨H,-,_,_⟩ | ⟨H,c6,_,_⟩:=H
  · obtain ⟨rfl,rfl⟩:=so2 H
    go_enter Try.func155,Try.ntmps155
    go_wp2
    go_ret2
    exact ⟨aY,bB⟩
 iterate 2
  replace H:=bL H
  obtain ⟨H,-,_,_⟩ | ⟨H,c8,_,_⟩:=H
  · obtain ⟨rfl,rfl⟩:=so2 H
    go_enter Try.func155,Try.ntmps155
    go_wp2
    go_ret2
    exact ⟨aY,bB⟩
 replace H:=bL H
 obtain ⟨H,-,_,_⟩ | ⟨H,c10,_,_⟩:=H
 · replace H:=mD H
   obtain ⟨H,c11⟩ | ⟨H,c11⟩:=H
   · have c11b0:=eq_true c11
     have c11b1:decide (0≤a2)=true:=decide_eq_true c11
     clear c11
     obtain ⟨ji12,hji12⟩:∃ j_:Int,(shl .u32 a1 a2)=j_:=⟨_,rfl⟩
     replace H:(some (ji12,true))=some (r1,r2):=by first | (rw [hji12] at H;exact H) | (simp only [hji12] at H ⊢;exact H)
     have hji12_:(IntKind.u32.wrap (a1*2 ^ min a2.toNat 32))=ji12:=hji12
     have hji12z:a2≤32→(IntKind.u32.wrap (a1*2 ^ a2.toNat))=ji12:=mU hji12
     obtain ⟨rfl,rfl⟩:=so2 H
     go_enter Try.func155,Try.ntmps155
     go_wp2
     go_ret2
     exact ⟨by first | rfl | (simp;done) | (simp only [←hji12]<;>(first | rfl | simp)) | (simp [*];done),bB⟩
   exact absurd H (by simp)
 replace H:=bL H
 obtain ⟨H,-,_,_⟩ | ⟨H,c13,_,_⟩:=H
 · replace H:=mD H
   obtain ⟨H,c14⟩ | ⟨H,c14⟩:=H
   · have c14b0:=eq_true c14
     have c14b1:decide (0≤a2)=true:=decide_eq_true c14
     clear c14
     obtain ⟨ji15,hji15⟩:∃ j_:Int,(shr .u32 a1 a2)=j_:=⟨_,rfl⟩
     replace H:(some (ji15,true))=some (r1,r2):=by first | (rw [hji15] at H;exact H) | (simp only [hji15] at H ⊢;exact H)
     have hji15_:(a1 / 2 ^ min a2.toNat 32)=ji15:=hji15
     have hji15z:a2≤32→(a1 / 2 ^ a2.toNat)=ji15:=mV hji15
     obtain ⟨rfl,rfl⟩:=so2 H
     go_enter Try.func155,Try.ntmps155
     go_wp2
     go_ret2
     exact ⟨by first | rfl | (simp;done) | (simp only [←hji15]<;>(first | rfl | simp)) | (simp [*];done),bB⟩
   exact absurd H (by simp)
 iterate 2
  replace H:=bL H
  obtain ⟨H,-,_,_⟩ | ⟨H,c16,_,_⟩:=H
  · obtain ⟨rfl,rfl⟩:=so2 H
    go_enter Try.func155,Try.ntmps155
    go_wp2
    go_ret2
    exact ⟨aY,bB⟩
 obtain ⟨rfl,rfl⟩:=so2 H
 go_enter Try.func155,Try.ntmps155
 go_wp2
 go_ret2
 exact ⟨aY,bB⟩
def eZ.f (a0:Int) (a1:Int) (a2:Int):Option (Bool):=if (Go.bits .andNot .u16 a0 8)=21 then (some (a1==a2)) else (if (Go.bits .andNot .u16 a0 8)=37 then (some (decide (a1>a2))) else (if (Go.bits .andNot .u16 a0 8)=53 then (some (decide (a1≥a2))) else (some ((Go.bits .and .u32 a1 a2) != 0))))
theorem eZ.calls (a0:Int) (a1:Int) (a2:Int) (r:Bool) (w:World) (h:eZ.f a0 a1 a2=some r) :
 Calls Try.prog 157 #[.int .u16 a0,.int .u32 a1,.int .u32 a2] w fun e w'=>e = .returned (.bool r)∧bR w w':=by
 have H:(if (Go.bits .andNot .u16 a0 8)=21 then (some (a1==a2)) else (if (Go.bits .andNot .u16 a0 8)=37 then (some (decide (a1>a2))) else (if (Go.bits .andNot .u16 a0 8)=53 then (some (decide (a1≥a2))) else (some ((Go.bits .and .u32 a1 a2) != 0)))))=some r:=h
 clear h
 replace H:=bL H
 obtain ⟨H,-,_,_⟩ | ⟨H,c4,_,_⟩:=H
 · cases H
   go_enter Try.func157,Try.ntmps157
   go_wp2
   go_ret
   exact ⟨aY,bB⟩
 iterate 2
  replace H:=bL H
  obtain ⟨H,-,_,_⟩ | ⟨H,c5,_,_⟩:=H
  · cases H
    go_enter Try.func157,Try.ntmps157
    go_wp2
    go_ret
    exact ⟨aY,bB⟩
 cases H
 go_enter Try.func157,Try.ntmps157
 go_wp2
 go_ret
 exact ⟨aY,bB⟩
end Go.Proofs.Ytdkalnkplgfgoaa.PA
