/- Lemmas and walks for the statements of the texts ZEZ..: the declarations that they need, taken together by a program of this session. Conditions: as each says. -/
import Derived.Test.YtdkalnkplgfgoaaZEb
import Derived.Test.YtdkalnkplgfgoaaZEf
set_option maxHeartbeats 4000000
set_option maxRecDepth 100000
set_option linter.unusedVariables false
set_option linter.unusedSimpArgs false
namespace Go.Proofs.Ytdkalnkplgfgoaa.Ln
open Go.RowKit Go.Maps Go.Proofs.YtdkalnkplgfgoaaW.PrintWords Go.Proofs.YtdkalnkplgfgoaaW.PrintLast Go.Proofs.YtdkalnkplgfgoaaW.PrintMore Go.Proofs.Ytdkalnkplgfgoaa.PA
theorem yx (w:World) (gs:Nat) (s:St) (c v r i1 i2 k:Int) (hS:w.heap[gs]?=some (.cells (aC s) 151 (0,0))) (hl:s.length=18) (e0:gS s 0=some v) (e1:gS s 1=some 0) (hn:(c==132)=false) (h8:(Go.bits .and .u16 c 8 != 0)=true) (hs1:(c==108)=false) (hs2:(c==124)=false) (hd1:(c==60)=false) (hd2:(c==156)=false) (hr:PA.bO.f (Go.bits .andNot .u16 c 8) v 0=some (r,true)) :
 Calls Try.prog 166 #[.pointer (some ⟨gs,0,none⟩),.agg #[.int .u16 c,.int .u8 i1,.int .u8 i2,.int .u32 k]] w fun e w'=>e = .returned (.agg #[.int .u16 0,.int .u8 0,.int .u8 0,.int .u32 r])∧Below w.heap.size w w':=by
 have c0:=cY 0 hS e0
 have c1:=dY 1 hS e0
 have c2:=cY 2 hS e1
 have c3:=dY 3 hS e1
 have hlt:=ax hS
 have HS:=aa.mk hS
 have HC:=fun W=>PA.bO.calls (Go.bits .andNot .u16 c 8) v 0 r true W hr
 have HC:=aa.mk HC
 clear hS hr
 go_enter Try.func166,Try.ntmps166
 go_upto_region 16 with (fail)
 refine forget (fun W=>∃ gi,gi=w.heap.size∧Below w.heap.size w W∧W.heap[gi]?=some (.cells #[.int .u16 ((Go.bits .andNot .u16 c 8)),.int .u8 0,.int .u8 0,.int .u32 0] 45 (0,0))∧W.heap[gi+1]?=some (.cells #[.int .u16 0,.int .u8 0,.int .u8 0,.int .u32 0] 45 (0,0))) ⟨_,rfl,cB _ _ _,kP _ _ _,eY _ _ _⟩ ?_
 rintro W ⟨gi,egi,hb,hi,hr⟩
 rw [←egi]
 have x1:=au hb c1
 have y0:=dA hi 0
 have y3:=dA hi 3
 have HB:=aa.mk hb
 have HI:=aa.mk hi
 have HR:=aa.mk hr
 have EG:=aa.mk egi
 clear hb hi hr c0 c1 egi
 go_quiet ((go_at_call 155;exact Calls.quiet_of ((HC.out _).mono fun _ _ ⟨he,⟨m,hm⟩⟩=>⟨he,m,hm⟩)))
 obtain ⟨z0,z1,z2,z3,t0,t1,t2,t3⟩:=cz4 ⟨HR.out⟩
 go_wp2
 have hq:=aA (Below.refl W.heap.size W) nq
 refine bodyPost_ret (results_cell_row rfl _ _ (gi+1) 45 (#[.int .u16 0,.int .u8 0,.int .u8 0,.int .u32 r]) (0,0) _ rfl (jS (aj HR.out hq) _ _ _ _) Try.underlying45 rfl (by kernel_rfl)) rfl ?_
 exact ⟨rfl,fK (av HB.out hq) (by have:=EG.out;omega) _ _ _ _⟩
theorem yu (w:World) (gs:Nat) (s:St) (c i1 i2 k:Int) (hS:w.heap[gs]?=some (.cells (aC s) 151 (0,0))) (hl:s.length=18) (e0:gS s 0=none) (e1:gS s 1=some 0) (hn:(c==132)=false) (h8:(Go.bits .and .u16 c 8 != 0)=true) (hs1:(c==108)=false) (hs2:(c==124)=false) (hd1:(c==60)=false) (hd2:(c==156)=false) (ha:((Go.bits .andNot .u16 c 8)==84)=false) (hm:((Go.bits .andNot .u16 c 8)==36)=false) :
 Calls Try.prog 166 #[.pointer (some ⟨gs,0,none⟩),.agg #[.int .u16 c,.int .u8 i1,.int .u8 i2,.int .u32 k]] w fun e w'=>e = .returned (.agg #[.int .u16 (Go.bits .andNot .u16 c 8),.int .u8 0,.int .u8 0,.int .u32 0])∧Below w.heap.size w w':=by
 have c0:=cN 0 hS e0
 have c2:=cY 2 hS e1
 have c3:=dY 3 hS e1
 have hlt:=ax hS
 have HS:=aa.mk hS
 clear hS
 go_enter Try.func166,Try.ntmps166
 go_wp2
 refine bodyPost_ret (results_cell_row rfl _ _ (w.heap.size+1) 45 (#[.int .u16 (Go.bits .andNot .u16 c 8),.int .u8 0,.int .u8 0,.int .u32 0]) (0,0) _ rfl (eY _ _ _) Try.underlying45 rfl (by kernel_rfl)) rfl ?_
 exact ⟨rfl,cB _ _ _⟩
theorem yz (w:World) (gs:Nat) (s:St) (c v y r i1 i2 k:Int) (hS:w.heap[gs]?=some (.cells (aC s) 151 (0,0))) (hl:s.length=18) (e0:gS s 0=some v) (e1:gS s 1=some y) (hn:(c==132)=false) (h8:(Go.bits .and .u16 c 8 != 0)=true) (hs1:(c==108)=false) (hs2:(c==124)=false) (hd1:(c==60)=false) (hd2:(c==156)=false) (hz:(y==0)=false) (hr:PA.bO.f (Go.bits .andNot .u16 c 8) v y=some (r,true)) :
 Calls Try.prog 166 #[.pointer (some ⟨gs,0,none⟩),.agg #[.int .u16 c,.int .u8 i1,.int .u8 i2,.int .u32 k]] w fun e w'=>e = .returned (.agg #[.int .u16 0,.int .u8 0,.int .u8 0,.int .u32 r])∧Below w.heap.size w w':=by
 have c0:=cY 0 hS e0
 have c1:=dY 1 hS e0
 have c2:=cY 2 hS e1
 have c3:=dY 3 hS e1
 have hlt:=ax hS
 have HS:=aa.mk hS
 have HC:=fun W=>PA.bO.calls (Go.bits .andNot .u16 c 8) v y r true W hr
 have HC:=aa.mk HC
 clear hS hr
 go_enter Try.func166,Try.ntmps166
 go_upto_region 16 with (fail)
 refine forget (fun W=>∃ gi,gi=w.heap.size∧Below w.heap.size w W∧W.heap[gi]?=some (.cells #[.int .u16 ((Go.bits .andNot .u16 c 8)),.int .u8 0,.int .u8 0,.int .u32 y] 45 (0,0))∧W.heap[gi+1]?=some (.cells #[.int .u16 0,.int .u8 0,.int .u8 0,.int .u32 0] 45 (0,0))) ⟨_,rfl,cB _ _ _,kP _ _ _,eY _ _ _⟩ ?_
 rintro W ⟨gi,egi,hb,hi,hr⟩
 rw [←egi]
 have x1:=au hb c1
 have y0:=dA hi 0
 have y3:=dA hi 3
 have HB:=aa.mk hb
 have HI:=aa.mk hi
 have HR:=aa.mk hr
 have EG:=aa.mk egi
 clear hb hi hr c0 c1 egi
 go_quiet ((go_at_call 155;exact Calls.quiet_of ((HC.out _).mono fun _ _ ⟨he,⟨m,hm⟩⟩=>⟨he,m,hm⟩)))
 obtain ⟨z0,z1,z2,z3,t0,t1,t2,t3⟩:=cz4 ⟨HR.out⟩
 go_wp2
 have hq:=aA (Below.refl W.heap.size W) nq
 refine bodyPost_ret (results_cell_row rfl _ _ (gi+1) 45 (#[.int .u16 0,.int .u8 0,.int .u8 0,.int .u32 r]) (0,0) _ rfl (jS (aj HR.out hq) _ _ _ _) Try.underlying45 rfl (by kernel_rfl)) rfl ?_
 exact ⟨rfl,fK (av HB.out hq) (by have:=EG.out;omega) _ _ _ _⟩
theorem yw (w:World) (gs:Nat) (s:St) (c y i1 i2 k:Int) (hS:w.heap[gs]?=some (.cells (aC s) 151 (0,0))) (hl:s.length=18) (e0:gS s 0=none) (e1:gS s 1=some y) (hn:(c==132)=false) (h8:(Go.bits .and .u16 c 8 != 0)=true) (hs1:(c==108)=false) (hs2:(c==124)=false) (hd1:(c==60)=false) (hd2:(c==156)=false) (hz:(y==0)=false) :
 Calls Try.prog 166 #[.pointer (some ⟨gs,0,none⟩),.agg #[.int .u16 c,.int .u8 i1,.int .u8 i2,.int .u32 k]] w fun e w'=>e = .returned (.agg #[.int .u16 (Go.bits .andNot .u16 c 8),.int .u8 0,.int .u8 0,.int .u32 y])∧Below w.heap.size w w':=by
 have c0:=cN 0 hS e0
 have c2:=cY 2 hS e1
 have c3:=dY 3 hS e1
 have hlt:=ax hS
 have HS:=aa.mk hS
 clear hS
 go_enter Try.func166,Try.ntmps166
 go_wp2
 refine bodyPost_ret (results_cell_row rfl _ _ (w.heap.size+1) 45 (#[.int .u16 (Go.bits .andNot .u16 c 8),.int .u8 0,.int .u8 0,.int .u32 y]) (0,0) _ rfl (eY _ _ _) Try.underlying45 rfl (by kernel_rfl)) rfl ?_
 exact ⟨rfl,cB _ _ _⟩
theorem yE (w:World) (gs:Nat) (s:St) (v r i1 i2 k:Int) (hS:w.heap[gs]?=some (.cells (aC s) 151 (0,0))) (hl:s.length=18) (e0:gS s 0=some v) (e1:gS s 1=some 0) (hy:decide (31<0)=false) (hr:PA.bO.f (Go.bits .andNot .u16 108 8) v 0=some (r,true)) :
 Calls Try.prog 166 #[.pointer (some ⟨gs,0,none⟩),.agg #[.int .u16 108,.int .u8 i1,.int .u8 i2,.int .u32 k]] w fun e w'=>e = .returned (.agg #[.int .u16 0,.int .u8 0,.int .u8 0,.int .u32 r])∧Below w.heap.size w w':=by
 have c0:=cY 0 hS e0
 have c1:=dY 1 hS e0
 have c2:=cY 2 hS e1
 have c3:=dY 3 hS e1
 have hlt:=ax hS
 have HS:=aa.mk hS
 have HC:=fun W=>PA.bO.calls (Go.bits .andNot .u16 108 8) v 0 r true W hr
 have HC:=aa.mk HC
 clear hS hr
 go_enter Try.func166,Try.ntmps166
 go_upto_region 16 with (fail)
 refine forget (fun W=>∃ gi,gi=w.heap.size∧Below w.heap.size w W∧W.heap[gi]?=some (.cells #[.int .u16 ((Go.bits .andNot .u16 108 8)),.int .u8 0,.int .u8 0,.int .u32 0] 45 (0,0))∧W.heap[gi+1]?=some (.cells #[.int .u16 0,.int .u8 0,.int .u8 0,.int .u32 0] 45 (0,0))) ⟨_,rfl,cB _ _ _,kP _ _ _,eY _ _ _⟩ ?_
 rintro W ⟨gi,egi,hb,hi,hr⟩
 rw [←egi]
 have x1:=au hb c1
 have y0:=dA hi 0
 have y3:=dA hi 3
 have HB:=aa.mk hb
 have HI:=aa.mk hi
 have HR:=aa.mk hr
 have EG:=aa.mk egi
 clear hb hi hr c0 c1 egi
 go_quiet ((go_at_call 155;exact Calls.quiet_of ((HC.out _).mono fun _ _ ⟨he,⟨m,hm⟩⟩=>⟨he,m,hm⟩)))
 obtain ⟨z0,z1,z2,z3,t0,t1,t2,t3⟩:=cz4 ⟨HR.out⟩
 go_wp2
 have hq:=aA (Below.refl W.heap.size W) nq
 refine bodyPost_ret (results_cell_row rfl _ _ (gi+1) 45 (#[.int .u16 0,.int .u8 0,.int .u8 0,.int .u32 r]) (0,0) _ rfl (jS (aj HR.out hq) _ _ _ _) Try.underlying45 rfl (by kernel_rfl)) rfl ?_
 exact ⟨rfl,fK (av HB.out hq) (by have:=EG.out;omega) _ _ _ _⟩
theorem yC (w:World) (gs:Nat) (s:St) (i1 i2 k:Int) (hS:w.heap[gs]?=some (.cells (aC s) 151 (0,0))) (hl:s.length=18) (e0:gS s 0=none) (e1:gS s 1=some 0) (hy:decide (31<0)=false) :
 Calls Try.prog 166 #[.pointer (some ⟨gs,0,none⟩),.agg #[.int .u16 108,.int .u8 i1,.int .u8 i2,.int .u32 k]] w fun e w'=>e = .returned (.agg #[.int .u16 (Go.bits .andNot .u16 108 8),.int .u8 0,.int .u8 0,.int .u32 0])∧Below w.heap.size w w':=by
 have c0:=cN 0 hS e0
 have c2:=cY 2 hS e1
 have c3:=dY 3 hS e1
 have hlt:=ax hS
 have HS:=aa.mk hS
 clear hS
 go_enter Try.func166,Try.ntmps166
 go_wp2
 refine bodyPost_ret (results_cell_row rfl _ _ (w.heap.size+1) 45 (#[.int .u16 (Go.bits .andNot .u16 108 8),.int .u8 0,.int .u8 0,.int .u32 0]) (0,0) _ rfl (eY _ _ _) Try.underlying45 rfl (by kernel_rfl)) rfl ?_
 exact ⟨rfl,cB _ _ _⟩
theorem yF (w:World) (gs:Nat) (s:St) (v y r i1 i2 k:Int) (hS:w.heap[gs]?=some (.cells (aC s) 151 (0,0))) (hl:s.length=18) (e0:gS s 0=some v) (e1:gS s 1=some y) (hy:decide (31<y)=false) (hz:(y==0)=false) (hr:PA.bO.f (Go.bits .andNot .u16 108 8) v y=some (r,true)) :
 Calls Try.prog 166 #[.pointer (some ⟨gs,0,none⟩),.agg #[.int .u16 108,.int .u8 i1,.int .u8 i2,.int .u32 k]] w fun e w'=>e = .returned (.agg #[.int .u16 0,.int .u8 0,.int .u8 0,.int .u32 r])∧Below w.heap.size w w':=by
 have c0:=cY 0 hS e0
 have c1:=dY 1 hS e0
 have c2:=cY 2 hS e1
 have c3:=dY 3 hS e1
 have hlt:=ax hS
 have HS:=aa.mk hS
 have HC:=fun W=>PA.bO.calls (Go.bits .andNot .u16 108 8) v y r true W hr
 have HC:=aa.mk HC
 clear hS hr
 go_enter Try.func166,Try.ntmps166
 go_upto_region 16 with (fail)
 refine forget (fun W=>∃ gi,gi=w.heap.size∧Below w.heap.size w W∧W.heap[gi]?=some (.cells #[.int .u16 ((Go.bits .andNot .u16 108 8)),.int .u8 0,.int .u8 0,.int .u32 y] 45 (0,0))∧W.heap[gi+1]?=some (.cells #[.int .u16 0,.int .u8 0,.int .u8 0,.int .u32 0] 45 (0,0))) ⟨_,rfl,cB _ _ _,kP _ _ _,eY _ _ _⟩ ?_
 rintro W ⟨gi,egi,hb,hi,hr⟩
 rw [←egi]
 have x1:=au hb c1
 have y0:=dA hi 0
 have y3:=dA hi 3
 have HB:=aa.mk hb
 have HI:=aa.mk hi
 have HR:=aa.mk hr
 have EG:=aa.mk egi
 clear hb hi hr c0 c1 egi
 go_quiet ((go_at_call 155;exact Calls.quiet_of ((HC.out _).mono fun _ _ ⟨he,⟨m,hm⟩⟩=>⟨he,m,hm⟩)))
 obtain ⟨z0,z1,z2,z3,t0,t1,t2,t3⟩:=cz4 ⟨HR.out⟩
 go_wp2
 have hq:=aA (Below.refl W.heap.size W) nq
 refine bodyPost_ret (results_cell_row rfl _ _ (gi+1) 45 (#[.int .u16 0,.int .u8 0,.int .u8 0,.int .u32 r]) (0,0) _ rfl (jS (aj HR.out hq) _ _ _ _) Try.underlying45 rfl (by kernel_rfl)) rfl ?_
 exact ⟨rfl,fK (av HB.out hq) (by have:=EG.out;omega) _ _ _ _⟩
theorem yD (w:World) (gs:Nat) (s:St) (y i1 i2 k:Int) (hS:w.heap[gs]?=some (.cells (aC s) 151 (0,0))) (hl:s.length=18) (e0:gS s 0=none) (e1:gS s 1=some y) (hy:decide (31<y)=false) (hz:(y==0)=false) :
 Calls Try.prog 166 #[.pointer (some ⟨gs,0,none⟩),.agg #[.int .u16 108,.int .u8 i1,.int .u8 i2,.int .u32 k]] w fun e w'=>e = .returned (.agg #[.int .u16 (Go.bits .andNot .u16 108 8),.int .u8 0,.int .u8 0,.int .u32 y])∧Below w.heap.size w w':=by
 have c0:=cN 0 hS e0
 have c2:=cY 2 hS e1
 have c3:=dY 3 hS e1
 have hlt:=ax hS
 have HS:=aa.mk hS
 clear hS
 go_enter Try.func166,Try.ntmps166
 go_wp2
 refine bodyPost_ret (results_cell_row rfl _ _ (w.heap.size+1) 45 (#[.int .u16 (Go.bits .andNot .u16 108 8),.int .u8 0,.int .u8 0,.int .u32 y]) (0,0) _ rfl (eY _ _ _) Try.underlying45 rfl (by kernel_rfl)) rfl ?_
 exact ⟨rfl,cB _ _ _⟩
theorem yI (w:World) (gs:Nat) (s:St) (v r i1 i2 k:Int) (hS:w.heap[gs]?=some (.cells (aC s) 151 (0,0))) (hl:s.length=18) (e0:gS s 0=some v) (e1:gS s 1=some 0) (hy:decide (31<0)=false) (hr:PA.bO.f (Go.bits .andNot .u16 124 8) v 0=some (r,true)) :
 Calls Try.prog 166 #[.pointer (some ⟨gs,0,none⟩),.agg #[.int .u16 124,.int .u8 i1,.int .u8 i2,.int .u32 k]] w fun e w'=>e = .returned (.agg #[.int .u16 0,.int .u8 0,.int .u8 0,.int .u32 r])∧Below w.heap.size w w':=by
 have c0:=cY 0 hS e0
 have c1:=dY 1 hS e0
 have c2:=cY 2 hS e1
 have c3:=dY 3 hS e1
 have hlt:=ax hS
 have HS:=aa.mk hS
 have HC:=fun W=>PA.bO.calls (Go.bits .andNot .u16 124 8) v 0 r true W hr
 have HC:=aa.mk HC
 clear hS hr
 go_enter Try.func166,Try.ntmps166
 go_upto_region 16 with (fail)
 refine forget (fun W=>∃ gi,gi=w.heap.size∧Below w.heap.size w W∧W.heap[gi]?=some (.cells #[.int .u16 ((Go.bits .andNot .u16 124 8)),.int .u8 0,.int .u8 0,.int .u32 0] 45 (0,0))∧W.heap[gi+1]?=some (.cells #[.int .u16 0,.int .u8 0,.int .u8 0,.int .u32 0] 45 (0,0))) ⟨_,rfl,cB _ _ _,kP _ _ _,eY _ _ _⟩ ?_
 rintro W ⟨gi,egi,hb,hi,hr⟩
 rw [←egi]
 have x1:=au hb c1
 have y0:=dA hi 0
 have y3:=dA hi 3
 have HB:=aa.mk hb
 have HI:=aa.mk hi
 have HR:=aa.mk hr
 have EG:=aa.mk egi
 clear hb hi hr c0 c1 egi
 go_quiet ((go_at_call 155;exact Calls.quiet_of ((HC.out _).mono fun _ _ ⟨he,⟨m,hm⟩⟩=>⟨he,m,hm⟩)))
 obtain ⟨z0,z1,z2,z3,t0,t1,t2,t3⟩:=cz4 ⟨HR.out⟩
 go_wp2
 have hq:=aA (Below.refl W.heap.size W) nq
 refine bodyPost_ret (results_cell_row rfl _ _ (gi+1) 45 (#[.int .u16 0,.int .u8 0,.int .u8 0,.int .u32 r]) (0,0) _ rfl (jS (aj HR.out hq) _ _ _ _) Try.underlying45 rfl (by kernel_rfl)) rfl ?_
 exact ⟨rfl,fK (av HB.out hq) (by have:=EG.out;omega) _ _ _ _⟩
theorem yG (w:World) (gs:Nat) (s:St) (i1 i2 k:Int) (hS:w.heap[gs]?=some (.cells (aC s) 151 (0,0))) (hl:s.length=18) (e0:gS s 0=none) (e1:gS s 1=some 0) (hy:decide (31<0)=false) :
 Calls Try.prog 166 #[.pointer (some ⟨gs,0,none⟩),.agg #[.int .u16 124,.int .u8 i1,.int .u8 i2,.int .u32 k]] w fun e w'=>e = .returned (.agg #[.int .u16 (Go.bits .andNot .u16 124 8),.int .u8 0,.int .u8 0,.int .u32 0])∧Below w.heap.size w w':=by
 have c0:=cN 0 hS e0
 have c2:=cY 2 hS e1
 have c3:=dY 3 hS e1
 have hlt:=ax hS
 have HS:=aa.mk hS
 clear hS
 go_enter Try.func166,Try.ntmps166
 go_wp2
 refine bodyPost_ret (results_cell_row rfl _ _ (w.heap.size+1) 45 (#[.int .u16 (Go.bits .andNot .u16 124 8),.int .u8 0,.int .u8 0,.int .u32 0]) (0,0) _ rfl (eY _ _ _) Try.underlying45 rfl (by kernel_rfl)) rfl ?_
 exact ⟨rfl,cB _ _ _⟩
theorem yJ (w:World) (gs:Nat) (s:St) (v y r i1 i2 k:Int) (hS:w.heap[gs]?=some (.cells (aC s) 151 (0,0))) (hl:s.length=18) (e0:gS s 0=some v) (e1:gS s 1=some y) (hy:decide (31<y)=false) (hz:(y==0)=false) (hr:PA.bO.f (Go.bits .andNot .u16 124 8) v y=some (r,true)) :
 Calls Try.prog 166 #[.pointer (some ⟨gs,0,none⟩),.agg #[.int .u16 124,.int .u8 i1,.int .u8 i2,.int .u32 k]] w fun e w'=>e = .returned (.agg #[.int .u16 0,.int .u8 0,.int .u8 0,.int .u32 r])∧Below w.heap.size w w':=by
 have c0:=cY 0 hS e0
 have c1:=dY 1 hS e0
 have c2:=cY 2 hS e1
 have c3:=dY 3 hS e1
 have hlt:=ax hS
 have HS:=aa.mk hS
 have HC:=fun W=>PA.bO.calls (Go.bits .andNot .u16 124 8) v y r true W hr
 have HC:=aa.mk HC
 clear hS hr
 go_enter Try.func166,Try.ntmps166
 go_upto_region 16 with (fail)
 refine forget (fun W=>∃ gi,gi=w.heap.size∧Below w.heap.size w W∧W.heap[gi]?=some (.cells #[.int .u16 ((Go.bits .andNot .u16 124 8)),.int .u8 0,.int .u8 0,.int .u32 y] 45 (0,0))∧W.heap[gi+1]?=some (.cells #[.int .u16 0,.int .u8 0,.int .u8 0,.int .u32 0] 45 (0,0))) ⟨_,rfl,cB _ _ _,kP _ _ _,eY _ _ _⟩ ?_
 rintro W ⟨gi,egi,hb,hi,hr⟩
 rw [←egi]
 have x1:=au hb c1
 have y0:=dA hi 0
 have y3:=dA hi 3
 have HB:=aa.mk hb
 have HI:=aa.mk hi
 have HR:=aa.mk hr
 have EG:=aa.mk egi
 clear hb hi hr c0 c1 egi
 go_quiet ((go_at_call 155;exact Calls.quiet_of ((HC.out _).mono fun _ _ ⟨he,⟨m,hm⟩⟩=>⟨he,m,hm⟩)))
 obtain ⟨z0,z1,z2,z3,t0,t1,t2,t3⟩:=cz4 ⟨HR.out⟩
 go_wp2
 have hq:=aA (Below.refl W.heap.size W) nq
 refine bodyPost_ret (results_cell_row rfl _ _ (gi+1) 45 (#[.int .u16 0,.int .u8 0,.int .u8 0,.int .u32 r]) (0,0) _ rfl (jS (aj HR.out hq) _ _ _ _) Try.underlying45 rfl (by kernel_rfl)) rfl ?_
 exact ⟨rfl,fK (av HB.out hq) (by have:=EG.out;omega) _ _ _ _⟩
theorem yH (w:World) (gs:Nat) (s:St) (y i1 i2 k:Int) (hS:w.heap[gs]?=some (.cells (aC s) 151 (0,0))) (hl:s.length=18) (e0:gS s 0=none) (e1:gS s 1=some y) (hy:decide (31<y)=false) (hz:(y==0)=false) :
 Calls Try.prog 166 #[.pointer (some ⟨gs,0,none⟩),.agg #[.int .u16 124,.int .u8 i1,.int .u8 i2,.int .u32 k]] w fun e w'=>e = .returned (.agg #[.int .u16 (Go.bits .andNot .u16 124 8),.int .u8 0,.int .u8 0,.int .u32 y])∧Below w.heap.size w w':=by
 have c0:=cN 0 hS e0
 have c2:=cY 2 hS e1
 have c3:=dY 3 hS e1
 have hlt:=ax hS
 have HS:=aa.mk hS
 clear hS
 go_enter Try.func166,Try.ntmps166
 go_wp2
 refine bodyPost_ret (results_cell_row rfl _ _ (w.heap.size+1) 45 (#[.int .u16 (Go.bits .andNot .u16 124 8),.int .u8 0,.int .u8 0,.int .u32 y]) (0,0) _ rfl (eY _ _ _) Try.underlying45 rfl (by kernel_rfl)) rfl ?_
 exact ⟨rfl,cB _ _ _⟩
theorem yt (w:World) (gs:Nat) (s:St) (v y r i1 i2 k:Int) (hS:w.heap[gs]?=some (.cells (aC s) 151 (0,0))) (hl:s.length=18) (e0:gS s 0=some v) (e1:gS s 1=some y) (hz:(y==0)=false) (hr:PA.bO.f (Go.bits .andNot .u16 60 8) v y=some (r,true)) :
 Calls Try.prog 166 #[.pointer (some ⟨gs,0,none⟩),.agg #[.int .u16 60,.int .u8 i1,.int .u8 i2,.int .u32 k]] w fun e w'=>e = .returned (.agg #[.int .u16 0,.int .u8 0,.int .u8 0,.int .u32 r])∧Below w.heap.size w w':=by
 have c0:=cY 0 hS e0
 have c1:=dY 1 hS e0
 have c2:=cY 2 hS e1
 have c3:=dY 3 hS e1
 have hlt:=ax hS
 have HS:=aa.mk hS
 have HC:=fun W=>PA.bO.calls (Go.bits .andNot .u16 60 8) v y r true W hr
 have HC:=aa.mk HC
 clear hS hr
 go_enter Try.func166,Try.ntmps166
 go_upto_region 16 with (fail)
 refine forget (fun W=>∃ gi,gi=w.heap.size∧Below w.heap.size w W∧W.heap[gi]?=some (.cells #[.int .u16 ((Go.bits .andNot .u16 60 8)),.int .u8 0,.int .u8 0,.int .u32 y] 45 (0,0))∧W.heap[gi+1]?=some (.cells #[.int .u16 0,.int .u8 0,.int .u8 0,.int .u32 0] 45 (0,0))) ⟨_,rfl,cB _ _ _,kP _ _ _,eY _ _ _⟩ ?_
 rintro W ⟨gi,egi,hb,hi,hr⟩
 rw [←egi]
 have x1:=au hb c1
 have y0:=dA hi 0
 have y3:=dA hi 3
 have HB:=aa.mk hb
 have HI:=aa.mk hi
 have HR:=aa.mk hr
 have EG:=aa.mk egi
 clear hb hi hr c0 c1 egi
 go_quiet ((go_at_call 155;exact Calls.quiet_of ((HC.out _).mono fun _ _ ⟨he,⟨m,hm⟩⟩=>⟨he,m,hm⟩)))
 obtain ⟨z0,z1,z2,z3,t0,t1,t2,t3⟩:=cz4 ⟨HR.out⟩
 go_wp2
 have hq:=aA (Below.refl W.heap.size W) nq
 refine bodyPost_ret (results_cell_row rfl _ _ (gi+1) 45 (#[.int .u16 0,.int .u8 0,.int .u8 0,.int .u32 r]) (0,0) _ rfl (jS (aj HR.out hq) _ _ _ _) Try.underlying45 rfl (by kernel_rfl)) rfl ?_
 exact ⟨rfl,fK (av HB.out hq) (by have:=EG.out;omega) _ _ _ _⟩
theorem yo (w:World) (gs:Nat) (s:St) (y i1 i2 k:Int) (hS:w.heap[gs]?=some (.cells (aC s) 151 (0,0))) (hl:s.length=18) (e0:gS s 0=none) (e1:gS s 1=some y) (hz:(y==0)=false) :
 Calls Try.prog 166 #[.pointer (some ⟨gs,0,none⟩),.agg #[.int .u16 60,.int .u8 i1,.int .u8 i2,.int .u32 k]] w fun e w'=>e = .returned (.agg #[.int .u16 (Go.bits .andNot .u16 60 8),.int .u8 0,.int .u8 0,.int .u32 y])∧Below w.heap.size w w':=by
 have c0:=cN 0 hS e0
 have c2:=cY 2 hS e1
 have c3:=dY 3 hS e1
 have hlt:=ax hS
 have HS:=aa.mk hS
 clear hS
 go_enter Try.func166,Try.ntmps166
 go_wp2
 refine bodyPost_ret (results_cell_row rfl _ _ (w.heap.size+1) 45 (#[.int .u16 (Go.bits .andNot .u16 60 8),.int .u8 0,.int .u8 0,.int .u32 y]) (0,0) _ rfl (eY _ _ _) Try.underlying45 rfl (by kernel_rfl)) rfl ?_
 exact ⟨rfl,cB _ _ _⟩
theorem yB (w:World) (gs:Nat) (s:St) (v y r i1 i2 k:Int) (hS:w.heap[gs]?=some (.cells (aC s) 151 (0,0))) (hl:s.length=18) (e0:gS s 0=some v) (e1:gS s 1=some y) (hz:(y==0)=false) (hr:PA.bO.f (Go.bits .andNot .u16 156 8) v y=some (r,true)) :
 Calls Try.prog 166 #[.pointer (some ⟨gs,0,none⟩),.agg #[.int .u16 156,.int .u8 i1,.int .u8 i2,.int .u32 k]] w fun e w'=>e = .returned (.agg #[.int .u16 0,.int .u8 0,.int .u8 0,.int .u32 r])∧Below w.heap.size w w':=by
 have c0:=cY 0 hS e0
 have c1:=dY 1 hS e0
 have c2:=cY 2 hS e1
 have c3:=dY 3 hS e1
 have hlt:=ax hS
 have HS:=aa.mk hS
 have HC:=fun W=>PA.bO.calls (Go.bits .andNot .u16 156 8) v y r true W hr
 have HC:=aa.mk HC
 clear hS hr
 go_enter Try.func166,Try.ntmps166
 go_upto_region 16 with (fail)
 refine forget (fun W=>∃ gi,gi=w.heap.size∧Below w.heap.size w W∧W.heap[gi]?=some (.cells #[.int .u16 ((Go.bits .andNot .u16 156 8)),.int .u8 0,.int .u8 0,.int .u32 y] 45 (0,0))∧W.heap[gi+1]?=some (.cells #[.int .u16 0,.int .u8 0,.int .u8 0,.int .u32 0] 45 (0,0))) ⟨_,rfl,cB _ _ _,kP _ _ _,eY _ _ _⟩ ?_
 rintro W ⟨gi,egi,hb,hi,hr⟩
 rw [←egi]
 have x1:=au hb c1
 have y0:=dA hi 0
 have y3:=dA hi 3
 have HB:=aa.mk hb
 have HI:=aa.mk hi
 have HR:=aa.mk hr
 have EG:=aa.mk egi
 clear hb hi hr c0 c1 egi
 go_quiet ((go_at_call 155;exact Calls.quiet_of ((HC.out _).mono fun _ _ ⟨he,⟨m,hm⟩⟩=>⟨he,m,hm⟩)))
 obtain ⟨z0,z1,z2,z3,t0,t1,t2,t3⟩:=cz4 ⟨HR.out⟩
 go_wp2
 have hq:=aA (Below.refl W.heap.size W) nq
 refine bodyPost_ret (results_cell_row rfl _ _ (gi+1) 45 (#[.int .u16 0,.int .u8 0,.int .u8 0,.int .u32 r]) (0,0) _ rfl (jS (aj HR.out hq) _ _ _ _) Try.underlying45 rfl (by kernel_rfl)) rfl ?_
 exact ⟨rfl,fK (av HB.out hq) (by have:=EG.out;omega) _ _ _ _⟩
theorem yA (w:World) (gs:Nat) (s:St) (y i1 i2 k:Int) (hS:w.heap[gs]?=some (.cells (aC s) 151 (0,0))) (hl:s.length=18) (e0:gS s 0=none) (e1:gS s 1=some y) (hz:(y==0)=false) :
 Calls Try.prog 166 #[.pointer (some ⟨gs,0,none⟩),.agg #[.int .u16 156,.int .u8 i1,.int .u8 i2,.int .u32 k]] w fun e w'=>e = .returned (.agg #[.int .u16 (Go.bits .andNot .u16 156 8),.int .u8 0,.int .u8 0,.int .u32 y])∧Below w.heap.size w w':=by
 have c0:=cN 0 hS e0
 have c2:=cY 2 hS e1
 have c3:=dY 3 hS e1
 have hlt:=ax hS
 have HS:=aa.mk hS
 clear hS
 go_enter Try.func166,Try.ntmps166
 go_wp2
 refine bodyPost_ret (results_cell_row rfl _ _ (w.heap.size+1) 45 (#[.int .u16 (Go.bits .andNot .u16 156 8),.int .u8 0,.int .u8 0,.int .u32 y]) (0,0) _ rfl (eY _ _ _) Try.underlying45 rfl (by kernel_rfl)) rfl ?_
 exact ⟨rfl,cB _ _ _⟩
theorem alu_xdz (w:World) (gs:Nat) (s:St) (i1 i2 k:Int) (hS:w.heap[gs]?=some (.cells (aC s) 151 (0,0))) (hl:s.length=18) (e1:gS s 1=some 0) :
 Calls Try.prog 166 #[.pointer (some ⟨gs,0,none⟩),.agg #[.int .u16 60,.int .u8 i1,.int .u8 i2,.int .u32 k]] w fun e w'=>e = .returned (.agg #[.int .u16 60,.int .u8 i1,.int .u8 i2,.int .u32 k])∧Below w.heap.size w w':=by
 have c2:=cY 2 hS e1
 have c3:=dY 3 hS e1
 have hlt:=ax hS
 have HS:=aa.mk hS
 clear hS
 go_enter Try.func166,Try.ntmps166
 go_wp2
 refine bodyPost_ret (results_cell_row rfl _ _ (w.heap.size+1) 45 (#[.int .u16 60,.int .u8 i1,.int .u8 i2,.int .u32 k]) (0,0) _ rfl (eY _ _ _) Try.underlying45 rfl (by kernel_rfl)) rfl ?_
 exact ⟨rfl,cB _ _ _⟩
theorem alu_xmz (w:World) (gs:Nat) (s:St) (i1 i2 k:Int) (hS:w.heap[gs]?=some (.cells (aC s) 151 (0,0))) (hl:s.length=18) (e1:gS s 1=some 0) :
 Calls Try.prog 166 #[.pointer (some ⟨gs,0,none⟩),.agg #[.int .u16 156,.int .u8 i1,.int .u8 i2,.int .u32 k]] w fun e w'=>e = .returned (.agg #[.int .u16 156,.int .u8 i1,.int .u8 i2,.int .u32 k])∧Below w.heap.size w w':=by
 have c2:=cY 2 hS e1
 have c3:=dY 3 hS e1
 have hlt:=ax hS
 have HS:=aa.mk hS
 clear hS
 go_enter Try.func166,Try.ntmps166
 go_wp2
 refine bodyPost_ret (results_cell_row rfl _ _ (w.heap.size+1) 45 (#[.int .u16 156,.int .u8 i1,.int .u8 i2,.int .u32 k]) (0,0) _ rfl (eY _ _ _) Try.underlying45 rfl (by kernel_rfl)) rfl ?_
 exact ⟨rfl,cB _ _ _⟩
theorem alu_xa0 (w:World) (gs:Nat) (s:St) (i1 i2 k:Int) (hS:w.heap[gs]?=some (.cells (aC s) 151 (0,0))) (hl:s.length=18) (e0:gS s 0=none) (e1:gS s 1=some 0) :
 Calls Try.prog 166 #[.pointer (some ⟨gs,0,none⟩),.agg #[.int .u16 92,.int .u8 i1,.int .u8 i2,.int .u32 k]] w fun e w'=>e = .returned (.agg #[.int .u16 0,.int .u8 0,.int .u8 0,.int .u32 0])∧Below w.heap.size w w':=by
 have c0:=cN 0 hS e0
 have c2:=cY 2 hS e1
 have c3:=dY 3 hS e1
 have hlt:=ax hS
 have HS:=aa.mk hS
 clear hS
 go_enter Try.func166,Try.ntmps166
 go_wp2
 refine bodyPost_ret (results_cell_row rfl _ _ (w.heap.size+1) 45 (#[.int .u16 0,.int .u8 0,.int .u8 0,.int .u32 0]) (0,0) _ rfl (eY _ _ _) Try.underlying45 rfl (by kernel_rfl)) rfl ?_
 exact ⟨rfl,cB _ _ _⟩
theorem alu_xu0 (w:World) (gs:Nat) (s:St) (i1 i2 k:Int) (hS:w.heap[gs]?=some (.cells (aC s) 151 (0,0))) (hl:s.length=18) (e0:gS s 0=none) (e1:gS s 1=some 0) :
 Calls Try.prog 166 #[.pointer (some ⟨gs,0,none⟩),.agg #[.int .u16 44,.int .u8 i1,.int .u8 i2,.int .u32 k]] w fun e w'=>e = .returned (.agg #[.int .u16 0,.int .u8 0,.int .u8 0,.int .u32 0])∧Below w.heap.size w w':=by
 have c0:=cN 0 hS e0
 have c2:=cY 2 hS e1
 have c3:=dY 3 hS e1
 have hlt:=ax hS
 have HS:=aa.mk hS
 clear hS
 go_enter Try.func166,Try.ntmps166
 go_wp2
 refine bodyPost_ret (results_cell_row rfl _ _ (w.heap.size+1) 45 (#[.int .u16 0,.int .u8 0,.int .u8 0,.int .u32 0]) (0,0) _ rfl (eY _ _ _) Try.underlying45 rfl (by kernel_rfl)) rfl ?_
 exact ⟨rfl,cB _ _ _⟩
theorem bn {a b:Int} (h:a≠b):(a==b)=false:=beq_eq_false_iff_ne.mpr h
theorem alu_K (w:World) (gs:Nat) (s:St) (i:S45) (hS:w.heap[gs]?=some (.cells (aC s) 151 (0,0))) (hw:Wst s) (hc:i.f0∈eQ) (hk:Rg i.f3) (h52:(i.f0=52∨i.f0=148)→i.f3≠0) (h31:(i.f0=100∨i.f0=116)→i.f3≤31) :
 Calls Try.prog 166 #[.pointer (some ⟨gs,0,none⟩),fD i] w fun e w'=>e = .returned (fD (jF s i))∧Below w.heap.size w w':=by
 obtain ⟨c,i1,i2,k⟩:=i
 dsimp only at hc hk h52 h31
 have H:∀ x∈eQ,x≠132∧(Go.bits .and .u16 x 8 != 0)=false:=by decide +kernel
 obtain ⟨n1,n2⟩:=H c hc
 unfold jF
 cases e:gS s 0 with
 | some a=>exact alu_k1 w gs s c a (opP c a k).1 i1 i2 k hS hw.len e (bn n1) n2 (uf hc hk.1 h52 h31)
 | none=>
  dsimp only
  by_cases q:k=0∧(c=84∨c=36)
  · rw [if_pos q]
    obtain ⟨q0,rfl | rfl⟩:=q
    · exact alu_k84 w gs s i1 i2 k hS hw.len e q0
    exact alu_k36 w gs s i1 i2 k hS hw.len e q0
  rw [if_neg q]
  by_cases q0:k=0
  · subst q0
    exact alu_kz w gs s c i1 i2 0 hS hw.len e (bn n1) n2 rfl (bn (fun h=>q ⟨rfl,.inl h⟩)) (bn (fun h=>q ⟨rfl,.inr h⟩))
  exact alu_kn w gs s c i1 i2 k hS hw.len e (bn n1) n2 (bn q0)
theorem alu_X (w:World) (gs:Nat) (s:St) (c i1 i2 k y:Int) (hS:w.heap[gs]?=some (.cells (aC s) 151 (0,0))) (hw:Wst s) (hc:c∈gH) (e1:gS s 1=some y) (hy:Rg y) (hf:¬((c=108∨c=124)∧y>31)) (hz:¬(y=0∧(c=60∨c=156))) :
 Calls Try.prog 166 #[.pointer (some ⟨gs,0,none⟩),fD ⟨c,i1,i2,k⟩] w fun e w'=>e = .returned (fD (jF s ⟨c - 8,0,0,y⟩))∧Below w.heap.size w w':=by
 have H:∀ x∈gH,x≠132∧(Go.bits .and .u16 x 8 != 0)=true∧Go.bits .andNot .u16 x 8=x - 8∧x - 8∈eQ∧(x - 8=52∨x - 8=148→x=60∨x=156)∧(x - 8=100∨x - 8=116→x=108∨x=124)∧(x - 8=84↔x=92)∧(x - 8=36↔x=44):=by decide +kernel
 obtain ⟨n1,n2,n3,n4,n5,n6,n7,n8⟩:=H c hc
 have hR:∀ a,PA.bO.f (Go.bits .andNot .u16 c 8) a y=some ((opP (c - 8) a y).1,true):=fun a=>by
  rw [n3]
  exact uf n4 hy.1 (fun h h0=>hz ⟨h0,n5 h⟩) (fun h=>by have:=n6 h;omega)
 have hy31:(c=108∨c=124)→decide (31<y)=false:=fun h=>decide_eq_false (by omega)
 unfold jF
 dsimp only
 cases e:gS s 0 with
 | some a=>
  dsimp only
  by_cases q0:y=0
  · subst q0
    by_cases c1:c=108
    · subst c1;exact yE w gs s a _ i1 i2 k hS hw.len e e1 (hy31 (.inl rfl)) (hR a)
    by_cases c2:c=124
    · subst c2;exact yI w gs s a _ i1 i2 k hS hw.len e e1 (hy31 (.inr rfl)) (hR a)
    have c3:c≠60:=fun h=>hz ⟨rfl,.inl h⟩
    have c4:c≠156:=fun h=>hz ⟨rfl,.inr h⟩
    exact yx w gs s c a _ i1 i2 k hS hw.len e e1 (bn n1) n2 (bn c1) (bn c2) (bn c3) (bn c4) (hR a)
  by_cases c1:c=108
  · subst c1;exact yF w gs s a y _ i1 i2 k hS hw.len e e1 (hy31 (.inl rfl)) (bn q0) (hR a)
  by_cases c2:c=124
  · subst c2;exact yJ w gs s a y _ i1 i2 k hS hw.len e e1 (hy31 (.inr rfl)) (bn q0) (hR a)
  by_cases c3:c=60
  · subst c3;exact yt w gs s a y _ i1 i2 k hS hw.len e e1 (bn q0) (hR a)
  by_cases c4:c=156
  · subst c4;exact yB w gs s a y _ i1 i2 k hS hw.len e e1 (bn q0) (hR a)
  exact yz w gs s c a y _ i1 i2 k hS hw.len e e1 (bn n1) n2 (bn c1) (bn c2) (bn c3) (bn c4) (bn q0) (hR a)
 | none=>
  dsimp only
  by_cases q0:y=0
  · subst q0
    by_cases c5:c=92
    · subst c5
      rw [if_pos (by decide)]
      exact alu_xa0 w gs s i1 i2 k hS hw.len e e1
    by_cases c6:c=44
    · subst c6
      rw [if_pos (by decide)]
      exact alu_xu0 w gs s i1 i2 k hS hw.len e e1
    rw [if_neg (by rintro ⟨_,h | h⟩;exact c5 (n7.1 h);exact c6 (n8.1 h)),←n3]
    by_cases c1:c=108
    · subst c1;exact yC w gs s i1 i2 k hS hw.len e e1 (hy31 (.inl rfl))
    by_cases c2:c=124
    · subst c2;exact yG w gs s i1 i2 k hS hw.len e e1 (hy31 (.inr rfl))
    have c3:c≠60:=fun h=>hz ⟨rfl,.inl h⟩
    have c4:c≠156:=fun h=>hz ⟨rfl,.inr h⟩
    exact yu w gs s c i1 i2 k hS hw.len e e1 (bn n1) n2 (bn c1) (bn c2) (bn c3) (bn c4) (by rw [n3];exact bn (fun h=>c5 (n7.1 h))) (by rw [n3];exact bn (fun h=>c6 (n8.1 h)))
  rw [if_neg (fun h=>q0 h.1),←n3]
  by_cases c1:c=108
  · subst c1;exact yD w gs s y i1 i2 k hS hw.len e e1 (hy31 (.inl rfl)) (bn q0)
  by_cases c2:c=124
  · subst c2;exact yH w gs s y i1 i2 k hS hw.len e e1 (hy31 (.inr rfl)) (bn q0)
  by_cases c3:c=60
  · subst c3;exact yo w gs s y i1 i2 k hS hw.len e e1 (bn q0)
  by_cases c4:c=156
  · subst c4;exact yA w gs s y i1 i2 k hS hw.len e e1 (bn q0)
  exact yw w gs s c y i1 i2 k hS hw.len e e1 (bn n1) n2 (bn c1) (bn c2) (bn c3) (bn c4) (bn q0)
theorem wW (w:World) (gs:Nat) (s:St) (i:S45) (hS:w.heap[gs]?=some (.cells (aC s) 151 (0,0))) (hw:Wst s) (hc:stB i.f0 i.f3=true) (hk:Rg i.f3) (ha:i.f0=132∨i.f0∈eQ∨i.f0∈gH) :
 Calls Try.prog 166 #[.pointer (some ⟨gs,0,none⟩),fD i] w fun e w'=>e = .returned (fD (ru s i))∧Below w.heap.size w w':=by
 obtain ⟨hm,_,h52,h31⟩:=gQ hc
 unfold ru
 by_cases c1:i.f0=132
 · rw [if_pos c1]
   obtain ⟨c,i1,i2,k⟩:=i
   dsimp only at c1
   subst c1
   cases e:gS s 0 with
   | some a=>exact alu_n1 w gs s a i1 i2 k hS hw.len e
   | none=>exact alu_n0 w gs s i1 i2 k hS hw.len e
 rw [if_neg c1]
 by_cases c2:i.f0∈gH
 · rw [if_pos c2]
   obtain ⟨c,i1,i2,k⟩:=i
   dsimp only at c1 c2
   have H:∀ x∈gH,(Go.bits .and .u16 x 8 != 0)=true:=by decide +kernel
   cases e:gS s 1 with
   | none=>exact alu_x0 w gs s c i1 i2 k hS hw.len e (bn c1) (H c c2)
   | some y=>
    dsimp only
    have hy:=hw.rg 1 y e
    by_cases d1:(c=108∨c=124)∧y>31
    · rw [if_pos d1]
      obtain ⟨rfl | rfl,d⟩:=d1
      · exact alu_xf1 w gs s y i1 i2 k hS hw.len e (decide_eq_true d)
      exact alu_xf2 w gs s y i1 i2 k hS hw.len e (decide_eq_true d)
    rw [if_neg d1]
    by_cases d2:y=0∧(c=60∨c=156)
    · rw [if_pos d2]
      obtain ⟨rfl,rfl | rfl⟩:=d2
      · exact alu_xdz w gs s i1 i2 k hS hw.len e
      exact alu_xmz w gs s i1 i2 k hS hw.len e
    rw [if_neg d2]
    exact alu_X w gs s c i1 i2 k y hS hw c2 e hy d1 d2
 rw [if_neg c2]
 exact alu_K w gs s i hS hw ((ha.resolve_left c1).resolve_right c2) hk h52 h31
theorem dw {s:St} {i:Nat} (h:i<s.length):(aC s)[i*2]?=some (.bool (gS s i).isSome):=by rw [Nat.mul_comm];exact BO h
theorem dO {s:St} {i:Nat} (h:i<s.length):(aC s)[i*2+1]?=some (.int .u32 ((gS s i).getD 0)):=by rw [Nat.mul_comm];exact sc_v h
theorem AA (w:World) (gs:Nat) (s:St) (v i1 i2:Int) (k:Nat) (hS:w.heap[gs]?=some (.cells (aC s) 151 (0,0))) (hl:s.length=18) (hk:k<16) (e0:gS s (2+k)=some v) :
 Calls Try.prog 165 #[.pointer (some ⟨gs,0,none⟩),.agg #[.int .u16 96,.int .u8 i1,.int .u8 i2,.int .u32 (k:Int)]] w fun e w'=>e = .returned (.agg #[.int .u16 0,.int .u8 0,.int .u8 0,.int .u32 v])∧Below w.heap.size w w':=by
 have c0:_=some (Value.bool true):=(ae hS ((2+k)*2)).trans ((dw (s:=s) (i:=2+k) (by omega)).trans (by rw [e0];rfl))
 have c1:_=some (Value.int .u32 v):=(ae hS ((2+k)*2+1)).trans ((dO (s:=s) (i:=2+k) (by omega)).trans (by rw [e0];rfl))
 have hlt:=ax hS
 have hlt1:gs<w.heap.size+1:=by omega
 have hlt2:gs<w.heap.size+1+1:=by omega
 have HS:=aa.mk hS
 clear hS
 go_enter Try.func165,Try.ntmps165
 go_wp2
 go_region
 go_wp2
 refine bodyPost_ret (results_cell_row rfl _ _ (w.heap.size+1) 45 (#[.int .u16 0,.int .u8 0,.int .u8 0,.int .u32 v]) (0,0) _ rfl (aj (eY _ _ _) (ak (ai (Below.refl _ _) _))) Try.underlying45 rfl (by kernel_rfl)) rfl ?_
 exact ⟨rfl,ak (ai (cB _ _ _) _)⟩
theorem Az (w:World) (gs:Nat) (s:St) (i1 i2:Int) (k:Nat) (hS:w.heap[gs]?=some (.cells (aC s) 151 (0,0))) (hl:s.length=18) (hk:k<16) (e0:gS s (2+k)=none) :
 Calls Try.prog 165 #[.pointer (some ⟨gs,0,none⟩),.agg #[.int .u16 96,.int .u8 i1,.int .u8 i2,.int .u32 (k:Int)]] w fun e w'=>e = .returned (.agg #[.int .u16 96,.int .u8 i1,.int .u8 i2,.int .u32 (k:Int)])∧Below w.heap.size w w':=by
 have c0:_=some (Value.bool false):=(ae hS ((2+k)*2)).trans ((dw (s:=s) (i:=2+k) (by omega)).trans (by rw [e0];rfl))
 have c1:_=some (Value.int .u32 0):=(ae hS ((2+k)*2+1)).trans ((dO (s:=s) (i:=2+k) (by omega)).trans (by rw [e0];rfl))
 have hlt:=ax hS
 have hlt1:gs<w.heap.size+1:=by omega
 have hlt2:gs<w.heap.size+1+1:=by omega
 have HS:=aa.mk hS
 clear hS
 go_enter Try.func165,Try.ntmps165
 go_wp2
 go_region
 go_wp2
 refine bodyPost_ret (results_cell_row rfl _ _ (w.heap.size+1) 45 (#[.int .u16 96,.int .u8 i1,.int .u8 i2,.int .u32 (k:Int)]) (0,0) _ rfl (aj (eY _ _ _) (ak (ai (Below.refl _ _) _))) Try.underlying45 rfl (by kernel_rfl)) rfl ?_
 exact ⟨rfl,ak (ai (cB _ _ _) _)⟩
theorem AJ (w:World) (gs:Nat) (s:St) (v i1 i2:Int) (k:Nat) (hS:w.heap[gs]?=some (.cells (aC s) 151 (0,0))) (hl:s.length=18) (hk:k<16) (e0:gS s (2+k)=some v) :
 Calls Try.prog 165 #[.pointer (some ⟨gs,0,none⟩),.agg #[.int .u16 97,.int .u8 i1,.int .u8 i2,.int .u32 (k:Int)]] w fun e w'=>e = .returned (.agg #[.int .u16 1,.int .u8 0,.int .u8 0,.int .u32 v])∧Below w.heap.size w w':=by
 have c0:_=some (Value.bool true):=(ae hS ((2+k)*2)).trans ((dw (s:=s) (i:=2+k) (by omega)).trans (by rw [e0];rfl))
 have c1:_=some (Value.int .u32 v):=(ae hS ((2+k)*2+1)).trans ((dO (s:=s) (i:=2+k) (by omega)).trans (by rw [e0];rfl))
 have hlt:=ax hS
 have hlt1:gs<w.heap.size+1:=by omega
 have hlt2:gs<w.heap.size+1+1:=by omega
 have HS:=aa.mk hS
 clear hS
 go_enter Try.func165,Try.ntmps165
 go_wp2
 go_region
 go_wp2
 refine bodyPost_ret (results_cell_row rfl _ _ (w.heap.size+1) 45 (#[.int .u16 1,.int .u8 0,.int .u8 0,.int .u32 v]) (0,0) _ rfl (aj (eY _ _ _) (ak (ai (Below.refl _ _) _))) Try.underlying45 rfl (by kernel_rfl)) rfl ?_
 exact ⟨rfl,ak (ai (cB _ _ _) _)⟩
theorem AB (w:World) (gs:Nat) (s:St) (i1 i2:Int) (k:Nat) (hS:w.heap[gs]?=some (.cells (aC s) 151 (0,0))) (hl:s.length=18) (hk:k<16) (e0:gS s (2+k)=none) :
 Calls Try.prog 165 #[.pointer (some ⟨gs,0,none⟩),.agg #[.int .u16 97,.int .u8 i1,.int .u8 i2,.int .u32 (k:Int)]] w fun e w'=>e = .returned (.agg #[.int .u16 97,.int .u8 i1,.int .u8 i2,.int .u32 (k:Int)])∧Below w.heap.size w w':=by
 have c0:_=some (Value.bool false):=(ae hS ((2+k)*2)).trans ((dw (s:=s) (i:=2+k) (by omega)).trans (by rw [e0];rfl))
 have c1:_=some (Value.int .u32 0):=(ae hS ((2+k)*2+1)).trans ((dO (s:=s) (i:=2+k) (by omega)).trans (by rw [e0];rfl))
 have hlt:=ax hS
 have hlt1:gs<w.heap.size+1:=by omega
 have hlt2:gs<w.heap.size+1+1:=by omega
 have HS:=aa.mk hS
 clear hS
 go_enter Try.func165,Try.ntmps165
 go_wp2
 go_region
 go_wp2
 refine bodyPost_ret (results_cell_row rfl _ _ (w.heap.size+1) 45 (#[.int .u16 97,.int .u8 i1,.int .u8 i2,.int .u32 (k:Int)]) (0,0) _ rfl (aj (eY _ _ _) (ak (ai (Below.refl _ _) _))) Try.underlying45 rfl (by kernel_rfl)) rfl ?_
 exact ⟨rfl,ak (ai (cB _ _ _) _)⟩
theorem Aj (w:World) (gs:Nat) (s:St) (i1 i2:Int) (k:Int) (hS:w.heap[gs]?=some (.cells (aC s) 151 (0,0))) (hl:s.length=18) (e0:gS s 1=none) :
 Calls Try.prog 165 #[.pointer (some ⟨gs,0,none⟩),.agg #[.int .u16 64,.int .u8 i1,.int .u8 i2,.int .u32 k]] w fun e w'=>e = .returned (.agg #[.int .u16 64,.int .u8 i1,.int .u8 i2,.int .u32 k])∧Below w.heap.size w w':=by
 have c0:_=some (Value.bool false):=(ae hS (2)).trans ((dw (s:=s) (i:=1) (by omega)).trans (by rw [e0];rfl))
 have c1:_=some (Value.int .u32 0):=(ae hS (2+1)).trans ((dO (s:=s) (i:=1) (by omega)).trans (by rw [e0];rfl))
 have hlt:=ax hS
 have hlt1:gs<w.heap.size+1:=by omega
 have hlt2:gs<w.heap.size+1+1:=by omega
 have HS:=aa.mk hS
 clear hS
 go_enter Try.func165,Try.ntmps165
 go_wp2
 refine bodyPost_ret (results_cell_row rfl _ _ (w.heap.size+1) 45 (#[.int .u16 64,.int .u8 i1,.int .u8 i2,.int .u32 k]) (0,0) _ rfl (aj (eY _ _ _) (ai (Below.refl _ _) _)) Try.underlying45 rfl (by kernel_rfl)) rfl ?_
 exact ⟨rfl,ai (cB _ _ _) _⟩
theorem Ak (w:World) (gs:Nat) (s:St) (y i1 i2:Int) (k:Int) (hS:w.heap[gs]?=some (.cells (aC s) 151 (0,0))) (hl:s.length=18) (e0:gS s 1=some y) (hle:decide (IntKind.u64.wrap (IntKind.u64.wrap y+IntKind.u64.wrap k)≤4294967295)=true) :
 Calls Try.prog 165 #[.pointer (some ⟨gs,0,none⟩),.agg #[.int .u16 64,.int .u8 i1,.int .u8 i2,.int .u32 k]] w fun e w'=>e = .returned (.agg #[.int .u16 32,.int .u8 0,.int .u8 0,.int .u32 (IntKind.u32.wrap (y+k))])∧Below w.heap.size w w':=by
 have c0:_=some (Value.bool true):=(ae hS (2)).trans ((dw (s:=s) (i:=1) (by omega)).trans (by rw [e0];rfl))
 have c1:_=some (Value.int .u32 y):=(ae hS (2+1)).trans ((dO (s:=s) (i:=1) (by omega)).trans (by rw [e0];rfl))
 have hlt:=ax hS
 have hlt1:gs<w.heap.size+1:=by omega
 have hlt2:gs<w.heap.size+1+1:=by omega
 have HS:=aa.mk hS
 clear hS
 go_enter Try.func165,Try.ntmps165
 go_wp2
 refine bodyPost_ret (results_cell_row rfl _ _ (w.heap.size+1) 45 (#[.int .u16 32,.int .u8 0,.int .u8 0,.int .u32 (IntKind.u32.wrap (y+k))]) (0,0) _ rfl (aj (eY _ _ _) (ai (Below.refl _ _) _)) Try.underlying45 rfl (by kernel_rfl)) rfl ?_
 exact ⟨rfl,ai (cB _ _ _) _⟩
theorem Ai (w:World) (gs:Nat) (s:St) (y i1 i2:Int) (k:Int) (hS:w.heap[gs]?=some (.cells (aC s) 151 (0,0))) (hl:s.length=18) (e0:gS s 1=some y) (hle:decide (IntKind.u64.wrap (IntKind.u64.wrap y+IntKind.u64.wrap k)≤4294967295)=false) :
 Calls Try.prog 165 #[.pointer (some ⟨gs,0,none⟩),.agg #[.int .u16 64,.int .u8 i1,.int .u8 i2,.int .u32 k]] w fun e w'=>e = .returned (.agg #[.int .u16 64,.int .u8 i1,.int .u8 i2,.int .u32 k])∧Below w.heap.size w w':=by
 have c0:_=some (Value.bool true):=(ae hS (2)).trans ((dw (s:=s) (i:=1) (by omega)).trans (by rw [e0];rfl))
 have c1:_=some (Value.int .u32 y):=(ae hS (2+1)).trans ((dO (s:=s) (i:=1) (by omega)).trans (by rw [e0];rfl))
 have hlt:=ax hS
 have hlt1:gs<w.heap.size+1:=by omega
 have hlt2:gs<w.heap.size+1+1:=by omega
 have HS:=aa.mk hS
 clear hS
 go_enter Try.func165,Try.ntmps165
 go_wp2
 refine bodyPost_ret (results_cell_row rfl _ _ (w.heap.size+1) 45 (#[.int .u16 64,.int .u8 i1,.int .u8 i2,.int .u32 k]) (0,0) _ rfl (aj (eY _ _ _) (ai (Below.refl _ _) _)) Try.underlying45 rfl (by kernel_rfl)) rfl ?_
 exact ⟨rfl,ai (cB _ _ _) _⟩
theorem Am (w:World) (gs:Nat) (s:St) (i1 i2:Int) (k:Int) (hS:w.heap[gs]?=some (.cells (aC s) 151 (0,0))) (hl:s.length=18) (e0:gS s 1=none) :
 Calls Try.prog 165 #[.pointer (some ⟨gs,0,none⟩),.agg #[.int .u16 72,.int .u8 i1,.int .u8 i2,.int .u32 k]] w fun e w'=>e = .returned (.agg #[.int .u16 72,.int .u8 i1,.int .u8 i2,.int .u32 k])∧Below w.heap.size w w':=by
 have c0:_=some (Value.bool false):=(ae hS (2)).trans ((dw (s:=s) (i:=1) (by omega)).trans (by rw [e0];rfl))
 have c1:_=some (Value.int .u32 0):=(ae hS (2+1)).trans ((dO (s:=s) (i:=1) (by omega)).trans (by rw [e0];rfl))
 have hlt:=ax hS
 have hlt1:gs<w.heap.size+1:=by omega
 have hlt2:gs<w.heap.size+1+1:=by omega
 have HS:=aa.mk hS
 clear hS
 go_enter Try.func165,Try.ntmps165
 go_wp2
 refine bodyPost_ret (results_cell_row rfl _ _ (w.heap.size+1) 45 (#[.int .u16 72,.int .u8 i1,.int .u8 i2,.int .u32 k]) (0,0) _ rfl (aj (eY _ _ _) (ai (Below.refl _ _) _)) Try.underlying45 rfl (by kernel_rfl)) rfl ?_
 exact ⟨rfl,ai (cB _ _ _) _⟩
theorem Ao (w:World) (gs:Nat) (s:St) (y i1 i2:Int) (k:Int) (hS:w.heap[gs]?=some (.cells (aC s) 151 (0,0))) (hl:s.length=18) (e0:gS s 1=some y) (hle:decide (IntKind.u64.wrap (IntKind.u64.wrap y+IntKind.u64.wrap k)≤4294967295)=true) :
 Calls Try.prog 165 #[.pointer (some ⟨gs,0,none⟩),.agg #[.int .u16 72,.int .u8 i1,.int .u8 i2,.int .u32 k]] w fun e w'=>e = .returned (.agg #[.int .u16 40,.int .u8 0,.int .u8 0,.int .u32 (IntKind.u32.wrap (y+k))])∧Below w.heap.size w w':=by
 have c0:_=some (Value.bool true):=(ae hS (2)).trans ((dw (s:=s) (i:=1) (by omega)).trans (by rw [e0];rfl))
 have c1:_=some (Value.int .u32 y):=(ae hS (2+1)).trans ((dO (s:=s) (i:=1) (by omega)).trans (by rw [e0];rfl))
 have hlt:=ax hS
 have hlt1:gs<w.heap.size+1:=by omega
 have hlt2:gs<w.heap.size+1+1:=by omega
 have HS:=aa.mk hS
 clear hS
 go_enter Try.func165,Try.ntmps165
 go_wp2
 refine bodyPost_ret (results_cell_row rfl _ _ (w.heap.size+1) 45 (#[.int .u16 40,.int .u8 0,.int .u8 0,.int .u32 (IntKind.u32.wrap (y+k))]) (0,0) _ rfl (aj (eY _ _ _) (ai (Below.refl _ _) _)) Try.underlying45 rfl (by kernel_rfl)) rfl ?_
 exact ⟨rfl,ai (cB _ _ _) _⟩
theorem Al (w:World) (gs:Nat) (s:St) (y i1 i2:Int) (k:Int) (hS:w.heap[gs]?=some (.cells (aC s) 151 (0,0))) (hl:s.length=18) (e0:gS s 1=some y) (hle:decide (IntKind.u64.wrap (IntKind.u64.wrap y+IntKind.u64.wrap k)≤4294967295)=false) :
 Calls Try.prog 165 #[.pointer (some ⟨gs,0,none⟩),.agg #[.int .u16 72,.int .u8 i1,.int .u8 i2,.int .u32 k]] w fun e w'=>e = .returned (.agg #[.int .u16 72,.int .u8 i1,.int .u8 i2,.int .u32 k])∧Below w.heap.size w w':=by
 have c0:_=some (Value.bool true):=(ae hS (2)).trans ((dw (s:=s) (i:=1) (by omega)).trans (by rw [e0];rfl))
 have c1:_=some (Value.int .u32 y):=(ae hS (2+1)).trans ((dO (s:=s) (i:=1) (by omega)).trans (by rw [e0];rfl))
 have hlt:=ax hS
 have hlt1:gs<w.heap.size+1:=by omega
 have hlt2:gs<w.heap.size+1+1:=by omega
 have HS:=aa.mk hS
 clear hS
 go_enter Try.func165,Try.ntmps165
 go_wp2
 refine bodyPost_ret (results_cell_row rfl _ _ (w.heap.size+1) 45 (#[.int .u16 72,.int .u8 i1,.int .u8 i2,.int .u32 k]) (0,0) _ rfl (aj (eY _ _ _) (ai (Below.refl _ _) _)) Try.underlying45 rfl (by kernel_rfl)) rfl ?_
 exact ⟨rfl,ai (cB _ _ _) _⟩
theorem Au (w:World) (gs:Nat) (s:St) (i1 i2:Int) (k:Int) (hS:w.heap[gs]?=some (.cells (aC s) 151 (0,0))) (hl:s.length=18) (e0:gS s 1=none) :
 Calls Try.prog 165 #[.pointer (some ⟨gs,0,none⟩),.agg #[.int .u16 80,.int .u8 i1,.int .u8 i2,.int .u32 k]] w fun e w'=>e = .returned (.agg #[.int .u16 80,.int .u8 i1,.int .u8 i2,.int .u32 k])∧Below w.heap.size w w':=by
 have c0:_=some (Value.bool false):=(ae hS (2)).trans ((dw (s:=s) (i:=1) (by omega)).trans (by rw [e0];rfl))
 have c1:_=some (Value.int .u32 0):=(ae hS (2+1)).trans ((dO (s:=s) (i:=1) (by omega)).trans (by rw [e0];rfl))
 have hlt:=ax hS
 have hlt1:gs<w.heap.size+1:=by omega
 have hlt2:gs<w.heap.size+1+1:=by omega
 have HS:=aa.mk hS
 clear hS
 go_enter Try.func165,Try.ntmps165
 go_wp2
 refine bodyPost_ret (results_cell_row rfl _ _ (w.heap.size+1) 45 (#[.int .u16 80,.int .u8 i1,.int .u8 i2,.int .u32 k]) (0,0) _ rfl (aj (eY _ _ _) (ai (Below.refl _ _) _)) Try.underlying45 rfl (by kernel_rfl)) rfl ?_
 exact ⟨rfl,ai (cB _ _ _) _⟩
theorem Ay (w:World) (gs:Nat) (s:St) (y i1 i2:Int) (k:Int) (hS:w.heap[gs]?=some (.cells (aC s) 151 (0,0))) (hl:s.length=18) (e0:gS s 1=some y) (hle:decide (IntKind.u64.wrap (IntKind.u64.wrap y+IntKind.u64.wrap k)≤4294967295)=true) :
 Calls Try.prog 165 #[.pointer (some ⟨gs,0,none⟩),.agg #[.int .u16 80,.int .u8 i1,.int .u8 i2,.int .u32 k]] w fun e w'=>e = .returned (.agg #[.int .u16 48,.int .u8 0,.int .u8 0,.int .u32 (IntKind.u32.wrap (y+k))])∧Below w.heap.size w w':=by
 have c0:_=some (Value.bool true):=(ae hS (2)).trans ((dw (s:=s) (i:=1) (by omega)).trans (by rw [e0];rfl))
 have c1:_=some (Value.int .u32 y):=(ae hS (2+1)).trans ((dO (s:=s) (i:=1) (by omega)).trans (by rw [e0];rfl))
 have hlt:=ax hS
 have hlt1:gs<w.heap.size+1:=by omega
 have hlt2:gs<w.heap.size+1+1:=by omega
 have HS:=aa.mk hS
 clear hS
 go_enter Try.func165,Try.ntmps165
 go_wp2
 refine bodyPost_ret (results_cell_row rfl _ _ (w.heap.size+1) 45 (#[.int .u16 48,.int .u8 0,.int .u8 0,.int .u32 (IntKind.u32.wrap (y+k))]) (0,0) _ rfl (aj (eY _ _ _) (ai (Below.refl _ _) _)) Try.underlying45 rfl (by kernel_rfl)) rfl ?_
 exact ⟨rfl,ai (cB _ _ _) _⟩
theorem Aq (w:World) (gs:Nat) (s:St) (y i1 i2:Int) (k:Int) (hS:w.heap[gs]?=some (.cells (aC s) 151 (0,0))) (hl:s.length=18) (e0:gS s 1=some y) (hle:decide (IntKind.u64.wrap (IntKind.u64.wrap y+IntKind.u64.wrap k)≤4294967295)=false) :
 Calls Try.prog 165 #[.pointer (some ⟨gs,0,none⟩),.agg #[.int .u16 80,.int .u8 i1,.int .u8 i2,.int .u32 k]] w fun e w'=>e = .returned (.agg #[.int .u16 80,.int .u8 i1,.int .u8 i2,.int .u32 k])∧Below w.heap.size w w':=by
 have c0:_=some (Value.bool true):=(ae hS (2)).trans ((dw (s:=s) (i:=1) (by omega)).trans (by rw [e0];rfl))
 have c1:_=some (Value.int .u32 y):=(ae hS (2+1)).trans ((dO (s:=s) (i:=1) (by omega)).trans (by rw [e0];rfl))
 have hlt:=ax hS
 have hlt1:gs<w.heap.size+1:=by omega
 have hlt2:gs<w.heap.size+1+1:=by omega
 have HS:=aa.mk hS
 clear hS
 go_enter Try.func165,Try.ntmps165
 go_wp2
 refine bodyPost_ret (results_cell_row rfl _ _ (w.heap.size+1) 45 (#[.int .u16 80,.int .u8 i1,.int .u8 i2,.int .u32 k]) (0,0) _ rfl (aj (eY _ _ _) (ai (Below.refl _ _) _)) Try.underlying45 rfl (by kernel_rfl)) rfl ?_
 exact ⟨rfl,ai (cB _ _ _) _⟩
theorem load_o (w:World) (gs:Nat) (s:St) (c i1 i2:Int) (k:Int) (hS:w.heap[gs]?=some (.cells (aC s) 151 (0,0))) (hl:s.length=18) (h1:(c==96)=false) (h2:(c==97)=false) (h3:(c==64)=false) (h4:(c==72)=false) (h5:(c==80)=false) :
 Calls Try.prog 165 #[.pointer (some ⟨gs,0,none⟩),.agg #[.int .u16 c,.int .u8 i1,.int .u8 i2,.int .u32 k]] w fun e w'=>e = .returned (.agg #[.int .u16 c,.int .u8 i1,.int .u8 i2,.int .u32 k])∧Below w.heap.size w w':=by
 have hlt:=ax hS
 have hlt1:gs<w.heap.size+1:=by omega
 have hlt2:gs<w.heap.size+1+1:=by omega
 have HS:=aa.mk hS
 clear hS
 go_enter Try.func165,Try.ntmps165
 go_wp2
 refine bodyPost_ret (results_cell_row rfl _ _ (w.heap.size+1) 45 (#[.int .u16 c,.int .u8 i1,.int .u8 i2,.int .u32 k]) (0,0) _ rfl (eY _ _ _) Try.underlying45 rfl (by kernel_rfl)) rfl ?_
 exact ⟨rfl,cB _ _ _⟩
theorem uL (w:World) (gs:Nat) (s:St) (i:S45) (hS:w.heap[gs]?=some (.cells (aC s) 151 (0,0))) (hw:Wst s) (hc:stB i.f0 i.f3=true) (hk:Rg i.f3) :
 Calls Try.prog 165 #[.pointer (some ⟨gs,0,none⟩),fD i] w fun e w'=>e = .returned (fD (oh s i))∧Below w.heap.size w w':=by
 obtain ⟨_,h16,_,_⟩:=gQ hc
 obtain ⟨c,i1,i2,k⟩:=i
 dsimp only at h16 hk
 have hk0:=hk.1
 unfold oh
 dsimp only
 by_cases c1:c=96
 · rw [if_pos c1];subst c1
   have hk6:=h16 (by omega)
   obtain ⟨n,rfl⟩:∃ n:Nat,k=(n:Int):=⟨k.toNat,by omega⟩
   rw [Int.toNat_natCast]
   cases e:gS s (2+n) with
   | some v=>exact AA w gs s v i1 i2 n hS hw.len (by omega) e
   | none=>exact Az w gs s i1 i2 n hS hw.len (by omega) e
 rw [if_neg c1]
 by_cases c2:c=97
 · rw [if_pos c2];subst c2
   have hk6:=h16 (by omega)
   obtain ⟨n,rfl⟩:∃ n:Nat,k=(n:Int):=⟨k.toNat,by omega⟩
   rw [Int.toNat_natCast]
   cases e:gS s (2+n) with
   | some v=>exact AJ w gs s v i1 i2 n hS hw.len (by omega) e
   | none=>exact AB w gs s i1 i2 n hS hw.len (by omega) e
 rw [if_neg c2]
 by_cases c3:c=64∨c=72∨c=80
 · rw [if_pos c3]
   cases e:gS s 1 with
   | none=>
    rcases c3 with rfl | rfl | rfl
    · exact Aj w gs s i1 i2 k hS hw.len e
    · exact Am w gs s i1 i2 k hS hw.len e
    exact Au w gs s i1 i2 k hS hw.len e
   | some y=>
    dsimp only
    have hy:=hw.rg 1 y e
    have hy0:=hy.1
    have hy1:=hy.2
    have hk1:=hk.2
    have hwr:IntKind.u64.wrap (IntKind.u64.wrap y+IntKind.u64.wrap k)=y+k:=by simp only [IntKind.wrap_u64];omega
    by_cases q:y+k≤4294967295
    · rw [if_pos q]
      have hd:decide (IntKind.u64.wrap (IntKind.u64.wrap y+IntKind.u64.wrap k)≤4294967295)=true:=by rw [hwr];exact decide_eq_true q
      have hr:IntKind.u32.wrap (y+k)=y+k:=uh ⟨by omega,by omega⟩
      rcases c3 with rfl | rfl | rfl
      · have:=Ak w gs s y i1 i2 k hS hw.len e hd
        rw [hr] at this;exact this
      · have:=Ao w gs s y i1 i2 k hS hw.len e hd
        rw [hr] at this;exact this
      have:=Ay w gs s y i1 i2 k hS hw.len e hd
      rw [hr] at this;exact this
    rw [if_neg q]
    have hd:decide (IntKind.u64.wrap (IntKind.u64.wrap y+IntKind.u64.wrap k)≤4294967295)=false:=by rw [hwr];exact decide_eq_false q
    rcases c3 with rfl | rfl | rfl
    · exact Ai w gs s y i1 i2 k hS hw.len e hd
    · exact Al w gs s y i1 i2 k hS hw.len e hd
    exact Aq w gs s y i1 i2 k hS hw.len e hd
 rw [if_neg c3]
 exact load_o w gs s c i1 i2 k hS hw.len (bn c1) (bn c2) (bn (fun h=>c3 (.inl h))) (bn (fun h=>c3 (.inr (.inl h)))) (bn (fun h=>c3 (.inr (.inr h))))
theorem idle_z4 (w:World) (gs:Nat) (s:St) (i1 i2:Int) (k:Int) (hS:w.heap[gs]?=some (.cells (aC s) 151 (0,0))) (hl:s.length=18) :
 Calls Try.prog 167 #[.pointer (some ⟨gs,0,none⟩),.agg #[.int .u16 4,.int .u8 i1,.int .u8 i2,.int .u32 k]] w fun e w'=>e = .returned (.bool (k==0))∧Below w.heap.size w w':=by
 have hlt:=ax hS
 have HS:=aa.mk hS
 clear hS
 go_enter Try.func167,Try.ntmps167
 go_wp2
 go_ret
 exact ⟨rfl,ai (Below.refl _ _) _⟩
theorem zU (w:World) (gs:Nat) (s:St) (i1 i2:Int) (k:Int) (hS:w.heap[gs]?=some (.cells (aC s) 151 (0,0))) (hl:s.length=18) :
 Calls Try.prog 167 #[.pointer (some ⟨gs,0,none⟩),.agg #[.int .u16 20,.int .u8 i1,.int .u8 i2,.int .u32 k]] w fun e w'=>e = .returned (.bool (k==0))∧Below w.heap.size w w':=by
 have hlt:=ax hS
 have HS:=aa.mk hS
 clear hS
 go_enter Try.func167,Try.ntmps167
 go_wp2
 go_ret
 exact ⟨rfl,ai (Below.refl _ _) _⟩
theorem zV (w:World) (gs:Nat) (s:St) (i1 i2:Int) (k:Int) (hS:w.heap[gs]?=some (.cells (aC s) 151 (0,0))) (hl:s.length=18) :
 Calls Try.prog 167 #[.pointer (some ⟨gs,0,none⟩),.agg #[.int .u16 68,.int .u8 i1,.int .u8 i2,.int .u32 k]] w fun e w'=>e = .returned (.bool (k==0))∧Below w.heap.size w w':=by
 have hlt:=ax hS
 have HS:=aa.mk hS
 clear hS
 go_enter Try.func167,Try.ntmps167
 go_wp2
 go_ret
 exact ⟨rfl,ai (Below.refl _ _) _⟩
theorem xx (w:World) (gs:Nat) (s:St) (i1 i2:Int) (k:Int) (hS:w.heap[gs]?=some (.cells (aC s) 151 (0,0))) (hl:s.length=18) :
 Calls Try.prog 167 #[.pointer (some ⟨gs,0,none⟩),.agg #[.int .u16 164,.int .u8 i1,.int .u8 i2,.int .u32 k]] w fun e w'=>e = .returned (.bool (k==0))∧Below w.heap.size w w':=by
 have hlt:=ax hS
 have HS:=aa.mk hS
 clear hS
 go_enter Try.func167,Try.ntmps167
 go_wp2
 go_ret
 exact ⟨rfl,ai (Below.refl _ _) _⟩
theorem xu (w:World) (gs:Nat) (s:St) (i1 i2:Int) (k:Int) (hS:w.heap[gs]?=some (.cells (aC s) 151 (0,0))) (hl:s.length=18) :
 Calls Try.prog 167 #[.pointer (some ⟨gs,0,none⟩),.agg #[.int .u16 100,.int .u8 i1,.int .u8 i2,.int .u32 k]] w fun e w'=>e = .returned (.bool (k==0))∧Below w.heap.size w w':=by
 have hlt:=ax hS
 have HS:=aa.mk hS
 clear hS
 go_enter Try.func167,Try.ntmps167
 go_wp2
 go_ret
 exact ⟨rfl,ai (Below.refl _ _) _⟩
theorem xw (w:World) (gs:Nat) (s:St) (i1 i2:Int) (k:Int) (hS:w.heap[gs]?=some (.cells (aC s) 151 (0,0))) (hl:s.length=18) :
 Calls Try.prog 167 #[.pointer (some ⟨gs,0,none⟩),.agg #[.int .u16 116,.int .u8 i1,.int .u8 i2,.int .u32 k]] w fun e w'=>e = .returned (.bool (k==0))∧Below w.heap.size w w':=by
 have hlt:=ax hS
 have HS:=aa.mk hS
 clear hS
 go_enter Try.func167,Try.ntmps167
 go_wp2
 go_ret
 exact ⟨rfl,ai (Below.refl _ _) _⟩
theorem zK (w:World) (gs:Nat) (s:St) (i1 i2:Int) (k:Int) (hS:w.heap[gs]?=some (.cells (aC s) 151 (0,0))) (hl:s.length=18) :
 Calls Try.prog 167 #[.pointer (some ⟨gs,0,none⟩),.agg #[.int .u16 36,.int .u8 i1,.int .u8 i2,.int .u32 k]] w fun e w'=>e = .returned (.bool (k==1))∧Below w.heap.size w w':=by
 have hlt:=ax hS
 have HS:=aa.mk hS
 clear hS
 go_enter Try.func167,Try.ntmps167
 go_wp2
 go_ret
 exact ⟨rfl,ai (Below.refl _ _) _⟩
theorem zL (w:World) (gs:Nat) (s:St) (i1 i2:Int) (k:Int) (hS:w.heap[gs]?=some (.cells (aC s) 151 (0,0))) (hl:s.length=18) :
 Calls Try.prog 167 #[.pointer (some ⟨gs,0,none⟩),.agg #[.int .u16 52,.int .u8 i1,.int .u8 i2,.int .u32 k]] w fun e w'=>e = .returned (.bool (k==1))∧Below w.heap.size w w':=by
 have hlt:=ax hS
 have HS:=aa.mk hS
 clear hS
 go_enter Try.func167,Try.ntmps167
 go_wp2
 go_ret
 exact ⟨rfl,ai (Below.refl _ _) _⟩
theorem zJ (w:World) (gs:Nat) (s:St) (i1 i2:Int) (k:Int) (hS:w.heap[gs]?=some (.cells (aC s) 151 (0,0))) (hl:s.length=18) :
 Calls Try.prog 167 #[.pointer (some ⟨gs,0,none⟩),.agg #[.int .u16 84,.int .u8 i1,.int .u8 i2,.int .u32 k]] w fun e w'=>e = .returned (.bool (k==4294967295))∧Below w.heap.size w w':=by
 have hlt:=ax hS
 have HS:=aa.mk hS
 clear hS
 go_enter Try.func167,Try.ntmps167
 go_wp2
 go_ret
 exact ⟨rfl,ai (Below.refl _ _) _⟩
theorem idle_no (w:World) (gs:Nat) (s:St) (c i1 i2:Int) (k:Int) (hS:w.heap[gs]?=some (.cells (aC s) 151 (0,0))) (hl:s.length=18) (n0:(c==0)=false) (n1:(c==1)=false) (n2:(c==2)=false) (n3:(c==3)=false) (n4:(c==4)=false) (n20:(c==20)=false) (n68:(c==68)=false) (n164:(c==164)=false) (n100:(c==100)=false) (n116:(c==116)=false) (n36:(c==36)=false) (n52:(c==52)=false) (n84:(c==84)=false) :
 Calls Try.prog 167 #[.pointer (some ⟨gs,0,none⟩),.agg #[.int .u16 c,.int .u8 i1,.int .u8 i2,.int .u32 k]] w fun e w'=>e = .returned (.bool false)∧Below w.heap.size w w':=by
 have hlt:=ax hS
 have HS:=aa.mk hS
 clear hS
 go_enter Try.func167,Try.ntmps167
 go_wp2
 go_ret
 exact ⟨rfl,ai (Below.refl _ _) _⟩
theorem zO (w:World) (gs:Nat) (s:St) (i1 i2:Int) (k:Nat) (hS:w.heap[gs]?=some (.cells (aC s) 151 (0,0))) (hl:s.length=18) (hk:k<16) (e0:gS s 0=none) :
 Calls Try.prog 167 #[.pointer (some ⟨gs,0,none⟩),.agg #[.int .u16 2,.int .u8 i1,.int .u8 i2,.int .u32 (k:Int)]] w fun e w'=>e = .returned (.bool false)∧Below w.heap.size w w':=by
 have c0a:_=some (Value.bool false):=(ae hS (0)).trans ((dw (s:=s) (i:=0) (by omega)).trans (by rw [e0];rfl))
 have c0b:_=some (Value.int .u32 0):=(ae hS (1)).trans ((dO (s:=s) (i:=0) (by omega)).trans (by rw [e0];rfl))
 have hlt:=ax hS
 have HS:=aa.mk hS
 clear hS
 go_enter Try.func167,Try.ntmps167
 go_wp2
 go_region
 go_wp2
 go_ret
 exact ⟨rfl,ak (ai (Below.refl _ _) _)⟩
theorem zN (w:World) (gs:Nat) (s:St) (v i1 i2:Int) (k:Nat) (hS:w.heap[gs]?=some (.cells (aC s) 151 (0,0))) (hl:s.length=18) (hk:k<16) (e0:gS s 0=some v) (e1:gS s (2+k)=none) :
 Calls Try.prog 167 #[.pointer (some ⟨gs,0,none⟩),.agg #[.int .u16 2,.int .u8 i1,.int .u8 i2,.int .u32 (k:Int)]] w fun e w'=>e = .returned (.bool false)∧Below w.heap.size w w':=by
 have c0a:_=some (Value.bool true):=(ae hS (0)).trans ((dw (s:=s) (i:=0) (by omega)).trans (by rw [e0];rfl))
 have c0b:_=some (Value.int .u32 v):=(ae hS (1)).trans ((dO (s:=s) (i:=0) (by omega)).trans (by rw [e0];rfl))
 have c1a:_=some (Value.bool false):=(ae hS ((2+k)*2)).trans ((dw (s:=s) (i:=2+k) (by omega)).trans (by rw [e1];rfl))
 have c1b:_=some (Value.int .u32 0):=(ae hS ((2+k)*2+1)).trans ((dO (s:=s) (i:=2+k) (by omega)).trans (by rw [e1];rfl))
 have hlt:=ax hS
 have HS:=aa.mk hS
 clear hS
 go_enter Try.func167,Try.ntmps167
 go_wp2
 go_region
 go_wp2
 go_ret
 exact ⟨rfl,ak (ai (Below.refl _ _) _)⟩
theorem zP (w:World) (gs:Nat) (s:St) (v i1 i2:Int) (k:Nat) (hS:w.heap[gs]?=some (.cells (aC s) 151 (0,0))) (hl:s.length=18) (hk:k<16) (e0:gS s 0=some v) (e1:gS s (2+k)=some v) :
 Calls Try.prog 167 #[.pointer (some ⟨gs,0,none⟩),.agg #[.int .u16 2,.int .u8 i1,.int .u8 i2,.int .u32 (k:Int)]] w fun e w'=>e = .returned (.bool true)∧Below w.heap.size w w':=by
 have c0a:_=some (Value.bool true):=(ae hS (0)).trans ((dw (s:=s) (i:=0) (by omega)).trans (by rw [e0];rfl))
 have c0b:_=some (Value.int .u32 v):=(ae hS (1)).trans ((dO (s:=s) (i:=0) (by omega)).trans (by rw [e0];rfl))
 have c1a:_=some (Value.bool true):=(ae hS ((2+k)*2)).trans ((dw (s:=s) (i:=2+k) (by omega)).trans (by rw [e1];rfl))
 have c1b:_=some (Value.int .u32 v):=(ae hS ((2+k)*2+1)).trans ((dO (s:=s) (i:=2+k) (by omega)).trans (by rw [e1];rfl))
 have hlt:=ax hS
 have HS:=aa.mk hS
 clear hS
 go_enter Try.func167,Try.ntmps167
 go_wp2
 go_region
 go_wp2
 go_ret
 exact ⟨rfl,ak (ai (Below.refl _ _) _)⟩
theorem zM (w:World) (gs:Nat) (s:St) (v u i1 i2:Int) (k:Nat) (hS:w.heap[gs]?=some (.cells (aC s) 151 (0,0))) (hl:s.length=18) (hk:k<16) (e0:gS s 0=some v) (e1:gS s (2+k)=some u) (hne:u≠v) :
 Calls Try.prog 167 #[.pointer (some ⟨gs,0,none⟩),.agg #[.int .u16 2,.int .u8 i1,.int .u8 i2,.int .u32 (k:Int)]] w fun e w'=>e = .returned (.bool false)∧Below w.heap.size w w':=by
 have c0a:_=some (Value.bool true):=(ae hS (0)).trans ((dw (s:=s) (i:=0) (by omega)).trans (by rw [e0];rfl))
 have c0b:_=some (Value.int .u32 v):=(ae hS (1)).trans ((dO (s:=s) (i:=0) (by omega)).trans (by rw [e0];rfl))
 have c1a:_=some (Value.bool true):=(ae hS ((2+k)*2)).trans ((dw (s:=s) (i:=2+k) (by omega)).trans (by rw [e1];rfl))
 have c1b:_=some (Value.int .u32 u):=(ae hS ((2+k)*2+1)).trans ((dO (s:=s) (i:=2+k) (by omega)).trans (by rw [e1];rfl))
 have hlt:=ax hS
 have HS:=aa.mk hS
 clear hS
 go_enter Try.func167,Try.ntmps167
 go_wp2
 go_region
 go_wp2
 go_ret
 exact ⟨rfl,ak (ai (Below.refl _ _) _)⟩
theorem zS (w:World) (gs:Nat) (s:St) (i1 i2:Int) (k:Nat) (hS:w.heap[gs]?=some (.cells (aC s) 151 (0,0))) (hl:s.length=18) (hk:k<16) (e0:gS s 1=none) :
 Calls Try.prog 167 #[.pointer (some ⟨gs,0,none⟩),.agg #[.int .u16 3,.int .u8 i1,.int .u8 i2,.int .u32 (k:Int)]] w fun e w'=>e = .returned (.bool false)∧Below w.heap.size w w':=by
 have c0a:_=some (Value.bool false):=(ae hS (2)).trans ((dw (s:=s) (i:=1) (by omega)).trans (by rw [e0];rfl))
 have c0b:_=some (Value.int .u32 0):=(ae hS (3)).trans ((dO (s:=s) (i:=1) (by omega)).trans (by rw [e0];rfl))
 have hlt:=ax hS
 have HS:=aa.mk hS
 clear hS
 go_enter Try.func167,Try.ntmps167
 go_wp2
 go_region
 go_wp2
 go_ret
 exact ⟨rfl,ak (ai (Below.refl _ _) _)⟩
theorem zR (w:World) (gs:Nat) (s:St) (v i1 i2:Int) (k:Nat) (hS:w.heap[gs]?=some (.cells (aC s) 151 (0,0))) (hl:s.length=18) (hk:k<16) (e0:gS s 1=some v) (e1:gS s (2+k)=none) :
 Calls Try.prog 167 #[.pointer (some ⟨gs,0,none⟩),.agg #[.int .u16 3,.int .u8 i1,.int .u8 i2,.int .u32 (k:Int)]] w fun e w'=>e = .returned (.bool false)∧Below w.heap.size w w':=by
 have c0a:_=some (Value.bool true):=(ae hS (2)).trans ((dw (s:=s) (i:=1) (by omega)).trans (by rw [e0];rfl))
 have c0b:_=some (Value.int .u32 v):=(ae hS (3)).trans ((dO (s:=s) (i:=1) (by omega)).trans (by rw [e0];rfl))
 have c1a:_=some (Value.bool false):=(ae hS ((2+k)*2)).trans ((dw (s:=s) (i:=2+k) (by omega)).trans (by rw [e1];rfl))
 have c1b:_=some (Value.int .u32 0):=(ae hS ((2+k)*2+1)).trans ((dO (s:=s) (i:=2+k) (by omega)).trans (by rw [e1];rfl))
 have hlt:=ax hS
 have HS:=aa.mk hS
 clear hS
 go_enter Try.func167,Try.ntmps167
 go_wp2
 go_region
 go_wp2
 go_ret
 exact ⟨rfl,ak (ai (Below.refl _ _) _)⟩
theorem zT (w:World) (gs:Nat) (s:St) (v i1 i2:Int) (k:Nat) (hS:w.heap[gs]?=some (.cells (aC s) 151 (0,0))) (hl:s.length=18) (hk:k<16) (e0:gS s 1=some v) (e1:gS s (2+k)=some v) :
 Calls Try.prog 167 #[.pointer (some ⟨gs,0,none⟩),.agg #[.int .u16 3,.int .u8 i1,.int .u8 i2,.int .u32 (k:Int)]] w fun e w'=>e = .returned (.bool true)∧Below w.heap.size w w':=by
 have c0a:_=some (Value.bool true):=(ae hS (2)).trans ((dw (s:=s) (i:=1) (by omega)).trans (by rw [e0];rfl))
 have c0b:_=some (Value.int .u32 v):=(ae hS (3)).trans ((dO (s:=s) (i:=1) (by omega)).trans (by rw [e0];rfl))
 have c1a:_=some (Value.bool true):=(ae hS ((2+k)*2)).trans ((dw (s:=s) (i:=2+k) (by omega)).trans (by rw [e1];rfl))
 have c1b:_=some (Value.int .u32 v):=(ae hS ((2+k)*2+1)).trans ((dO (s:=s) (i:=2+k) (by omega)).trans (by rw [e1];rfl))
 have hlt:=ax hS
 have HS:=aa.mk hS
 clear hS
 go_enter Try.func167,Try.ntmps167
 go_wp2
 go_region
 go_wp2
 go_ret
 exact ⟨rfl,ak (ai (Below.refl _ _) _)⟩
theorem zQ (w:World) (gs:Nat) (s:St) (v u i1 i2:Int) (k:Nat) (hS:w.heap[gs]?=some (.cells (aC s) 151 (0,0))) (hl:s.length=18) (hk:k<16) (e0:gS s 1=some v) (e1:gS s (2+k)=some u) (hne:u≠v) :
 Calls Try.prog 167 #[.pointer (some ⟨gs,0,none⟩),.agg #[.int .u16 3,.int .u8 i1,.int .u8 i2,.int .u32 (k:Int)]] w fun e w'=>e = .returned (.bool false)∧Below w.heap.size w w':=by
 have c0a:_=some (Value.bool true):=(ae hS (2)).trans ((dw (s:=s) (i:=1) (by omega)).trans (by rw [e0];rfl))
 have c0b:_=some (Value.int .u32 v):=(ae hS (3)).trans ((dO (s:=s) (i:=1) (by omega)).trans (by rw [e0];rfl))
 have c1a:_=some (Value.bool true):=(ae hS ((2+k)*2)).trans ((dw (s:=s) (i:=2+k) (by omega)).trans (by rw [e1];rfl))
 have c1b:_=some (Value.int .u32 u):=(ae hS ((2+k)*2+1)).trans ((dO (s:=s) (i:=2+k) (by omega)).trans (by rw [e1];rfl))
 have hlt:=ax hS
 have HS:=aa.mk hS
 clear hS
 go_enter Try.func167,Try.ntmps167
 go_wp2
 go_region
 go_wp2
 go_ret
 exact ⟨rfl,ak (ai (Below.refl _ _) _)⟩
theorem zD (w:World) (gs:Nat) (s:St) (i1 i2:Int) (k:Int) (hS:w.heap[gs]?=some (.cells (aC s) 151 (0,0))) (hl:s.length=18) (e0:gS s 0=none) :
 Calls Try.prog 167 #[.pointer (some ⟨gs,0,none⟩),.agg #[.int .u16 0,.int .u8 i1,.int .u8 i2,.int .u32 k]] w fun e w'=>e = .returned (.bool false)∧Below w.heap.size w w':=by
 have c0a:_=some (Value.bool false):=(ae hS (0)).trans ((dw (s:=s) (i:=0) (by omega)).trans (by rw [e0];rfl))
 have c0b:_=some (Value.int .u32 0):=(ae hS (1)).trans ((dO (s:=s) (i:=0) (by omega)).trans (by rw [e0];rfl))
 have hlt:=ax hS
 have HS:=aa.mk hS
 clear hS
 go_enter Try.func167,Try.ntmps167
 go_upto_region 3 with (fail)
 refine forget (fun W=>∃ gi,gi=w.heap.size∧Below w.heap.size w W∧W.heap[gi]?=some (.cells #[.int .u16 0,.int .u8 i1,.int .u8 i2,.int .u32 k] 45 (0,0))) ⟨_,rfl,ai (Below.refl _ _) _,heap_alloc_new _ _⟩ ?_
 rintro W ⟨gi,egi,hb,hi⟩
 rw [←egi]
 have x0:=au hb c0a
 have x1:=au hb c0b
 have y3:=dA hi 3
 have HB:=aa.mk hb
 have EG:=aa.mk egi
 have HCL:aa (∀ w3,Below W.drew.heap.size W.drew w3→w3.cell? ⟨gs,0,none⟩=some (.bool false)∧w3.cell? ⟨gs,1,none⟩=some (.int .u32 0)∧w3.cell? ⟨gi,3,none⟩=some (.int .u32 k)):=
  ⟨fun w3 h3=>⟨au h3 (show W.drew.cell? _=_ from x0),au h3 (show W.drew.cell? _=_ from x1),au h3 (show W.drew.cell? _=_ from y3)⟩⟩
 clear hb hi egi c0a c0b
 go_region_held3 (fun w'=>w'.cell? ⟨gs,0,none⟩=some (.bool false)∧w'.cell? ⟨gs,1,none⟩=some (.int .u32 0)∧w'.cell? ⟨gi,3,none⟩=some (.int .u32 k)) (first | exact ⟨x0,x1,y3⟩ | exact HCL.out _ hk) ((go_at_call 125;refine (PA.gY.calls k true k W.drew rfl).mono ?_;rintro e w3 ⟨rfl,hk⟩))
 have HB3:=av HB.out (av (ak (Below.refl W.heap.size W)) hk)
 go_wp2
 go_ret
 exact ⟨rfl,HB3⟩
theorem zF (w:World) (gs:Nat) (s:St) (i1 i2:Int) (k:Int) (hS:w.heap[gs]?=some (.cells (aC s) 151 (0,0))) (hl:s.length=18) (e0:gS s 0=some k) :
 Calls Try.prog 167 #[.pointer (some ⟨gs,0,none⟩),.agg #[.int .u16 0,.int .u8 i1,.int .u8 i2,.int .u32 k]] w fun e w'=>e = .returned (.bool true)∧Below w.heap.size w w':=by
 have c0a:_=some (Value.bool true):=(ae hS (0)).trans ((dw (s:=s) (i:=0) (by omega)).trans (by rw [e0];rfl))
 have c0b:_=some (Value.int .u32 k):=(ae hS (1)).trans ((dO (s:=s) (i:=0) (by omega)).trans (by rw [e0];rfl))
 have hlt:=ax hS
 have HS:=aa.mk hS
 clear hS
 go_enter Try.func167,Try.ntmps167
 go_upto_region 3 with (fail)
 refine forget (fun W=>∃ gi,gi=w.heap.size∧Below w.heap.size w W∧W.heap[gi]?=some (.cells #[.int .u16 0,.int .u8 i1,.int .u8 i2,.int .u32 k] 45 (0,0))) ⟨_,rfl,ai (Below.refl _ _) _,heap_alloc_new _ _⟩ ?_
 rintro W ⟨gi,egi,hb,hi⟩
 rw [←egi]
 have x0:=au hb c0a
 have x1:=au hb c0b
 have y3:=dA hi 3
 have HB:=aa.mk hb
 have EG:=aa.mk egi
 have HCL:aa (∀ w3,Below W.drew.heap.size W.drew w3→w3.cell? ⟨gs,0,none⟩=some (.bool true)∧w3.cell? ⟨gs,1,none⟩=some (.int .u32 k)∧w3.cell? ⟨gi,3,none⟩=some (.int .u32 k)):=
  ⟨fun w3 h3=>⟨au h3 (show W.drew.cell? _=_ from x0),au h3 (show W.drew.cell? _=_ from x1),au h3 (show W.drew.cell? _=_ from y3)⟩⟩
 clear hb hi egi c0a c0b
 go_region_held3 (fun w'=>w'.cell? ⟨gs,0,none⟩=some (.bool true)∧w'.cell? ⟨gs,1,none⟩=some (.int .u32 k)∧w'.cell? ⟨gi,3,none⟩=some (.int .u32 k)) (first | exact ⟨x0,x1,y3⟩ | exact HCL.out _ hk) ((go_at_call 125;refine (PA.gY.calls k true k W.drew rfl).mono ?_;rintro e w3 ⟨rfl,hk⟩))
 have HB3:=av HB.out (av (ak (Below.refl W.heap.size W)) hk)
 go_wp2
 go_ret
 exact ⟨rfl,HB3⟩
theorem zC (w:World) (gs:Nat) (s:St) (v i1 i2:Int) (k:Int) (hS:w.heap[gs]?=some (.cells (aC s) 151 (0,0))) (hl:s.length=18) (e0:gS s 0=some v) (hne:v≠k) :
 Calls Try.prog 167 #[.pointer (some ⟨gs,0,none⟩),.agg #[.int .u16 0,.int .u8 i1,.int .u8 i2,.int .u32 k]] w fun e w'=>e = .returned (.bool false)∧Below w.heap.size w w':=by
 have c0a:_=some (Value.bool true):=(ae hS (0)).trans ((dw (s:=s) (i:=0) (by omega)).trans (by rw [e0];rfl))
 have c0b:_=some (Value.int .u32 v):=(ae hS (1)).trans ((dO (s:=s) (i:=0) (by omega)).trans (by rw [e0];rfl))
 have hlt:=ax hS
 have HS:=aa.mk hS
 clear hS
 go_enter Try.func167,Try.ntmps167
 go_upto_region 3 with (fail)
 refine forget (fun W=>∃ gi,gi=w.heap.size∧Below w.heap.size w W∧W.heap[gi]?=some (.cells #[.int .u16 0,.int .u8 i1,.int .u8 i2,.int .u32 k] 45 (0,0))) ⟨_,rfl,ai (Below.refl _ _) _,heap_alloc_new _ _⟩ ?_
 rintro W ⟨gi,egi,hb,hi⟩
 rw [←egi]
 have x0:=au hb c0a
 have x1:=au hb c0b
 have y3:=dA hi 3
 have HB:=aa.mk hb
 have EG:=aa.mk egi
 have HCL:aa (∀ w3,Below W.drew.heap.size W.drew w3→w3.cell? ⟨gs,0,none⟩=some (.bool true)∧w3.cell? ⟨gs,1,none⟩=some (.int .u32 v)∧w3.cell? ⟨gi,3,none⟩=some (.int .u32 k)):=
  ⟨fun w3 h3=>⟨au h3 (show W.drew.cell? _=_ from x0),au h3 (show W.drew.cell? _=_ from x1),au h3 (show W.drew.cell? _=_ from y3)⟩⟩
 clear hb hi egi c0a c0b
 go_region_held3 (fun w'=>w'.cell? ⟨gs,0,none⟩=some (.bool true)∧w'.cell? ⟨gs,1,none⟩=some (.int .u32 v)∧w'.cell? ⟨gi,3,none⟩=some (.int .u32 k)) (first | exact ⟨x0,x1,y3⟩ | exact HCL.out _ hk) ((go_at_call 125;refine (PA.gY.calls k true k W.drew rfl).mono ?_;rintro e w3 ⟨rfl,hk⟩))
 have HB3:=av HB.out (av (ak (Below.refl W.heap.size W)) hk)
 go_wp2
 go_ret
 exact ⟨rfl,HB3⟩
theorem zH (w:World) (gs:Nat) (s:St) (i1 i2:Int) (k:Int) (hS:w.heap[gs]?=some (.cells (aC s) 151 (0,0))) (hl:s.length=18) (e0:gS s 1=none) :
 Calls Try.prog 167 #[.pointer (some ⟨gs,0,none⟩),.agg #[.int .u16 1,.int .u8 i1,.int .u8 i2,.int .u32 k]] w fun e w'=>e = .returned (.bool false)∧Below w.heap.size w w':=by
 have c0a:_=some (Value.bool false):=(ae hS (2)).trans ((dw (s:=s) (i:=1) (by omega)).trans (by rw [e0];rfl))
 have c0b:_=some (Value.int .u32 0):=(ae hS (3)).trans ((dO (s:=s) (i:=1) (by omega)).trans (by rw [e0];rfl))
 have hlt:=ax hS
 have HS:=aa.mk hS
 clear hS
 go_enter Try.func167,Try.ntmps167
 go_upto_region 5 with (fail)
 refine forget (fun W=>∃ gi,gi=w.heap.size∧Below w.heap.size w W∧W.heap[gi]?=some (.cells #[.int .u16 1,.int .u8 i1,.int .u8 i2,.int .u32 k] 45 (0,0))) ⟨_,rfl,ai (Below.refl _ _) _,heap_alloc_new _ _⟩ ?_
 rintro W ⟨gi,egi,hb,hi⟩
 rw [←egi]
 have x0:=au hb c0a
 have x1:=au hb c0b
 have y3:=dA hi 3
 have HB:=aa.mk hb
 have EG:=aa.mk egi
 have HCL:aa (∀ w3,Below W.drew.heap.size W.drew w3→w3.cell? ⟨gs,2,none⟩=some (.bool false)∧w3.cell? ⟨gs,3,none⟩=some (.int .u32 0)∧w3.cell? ⟨gi,3,none⟩=some (.int .u32 k)):=
  ⟨fun w3 h3=>⟨au h3 (show W.drew.cell? _=_ from x0),au h3 (show W.drew.cell? _=_ from x1),au h3 (show W.drew.cell? _=_ from y3)⟩⟩
 clear hb hi egi c0a c0b
 go_region_held3 (fun w'=>w'.cell? ⟨gs,2,none⟩=some (.bool false)∧w'.cell? ⟨gs,3,none⟩=some (.int .u32 0)∧w'.cell? ⟨gi,3,none⟩=some (.int .u32 k)) (first | exact ⟨x0,x1,y3⟩ | exact HCL.out _ hk) ((go_at_call 125;refine (PA.gY.calls k true k W.drew rfl).mono ?_;rintro e w3 ⟨rfl,hk⟩))
 have HB3:=av HB.out (av (ak (Below.refl W.heap.size W)) hk)
 go_wp2
 go_ret
 exact ⟨rfl,HB3⟩
theorem zI (w:World) (gs:Nat) (s:St) (i1 i2:Int) (k:Int) (hS:w.heap[gs]?=some (.cells (aC s) 151 (0,0))) (hl:s.length=18) (e0:gS s 1=some k) :
 Calls Try.prog 167 #[.pointer (some ⟨gs,0,none⟩),.agg #[.int .u16 1,.int .u8 i1,.int .u8 i2,.int .u32 k]] w fun e w'=>e = .returned (.bool true)∧Below w.heap.size w w':=by
 have c0a:_=some (Value.bool true):=(ae hS (2)).trans ((dw (s:=s) (i:=1) (by omega)).trans (by rw [e0];rfl))
 have c0b:_=some (Value.int .u32 k):=(ae hS (3)).trans ((dO (s:=s) (i:=1) (by omega)).trans (by rw [e0];rfl))
 have hlt:=ax hS
 have HS:=aa.mk hS
 clear hS
 go_enter Try.func167,Try.ntmps167
 go_upto_region 5 with (fail)
 refine forget (fun W=>∃ gi,gi=w.heap.size∧Below w.heap.size w W∧W.heap[gi]?=some (.cells #[.int .u16 1,.int .u8 i1,.int .u8 i2,.int .u32 k] 45 (0,0))) ⟨_,rfl,ai (Below.refl _ _) _,heap_alloc_new _ _⟩ ?_
 rintro W ⟨gi,egi,hb,hi⟩
 rw [←egi]
 have x0:=au hb c0a
 have x1:=au hb c0b
 have y3:=dA hi 3
 have HB:=aa.mk hb
 have EG:=aa.mk egi
 have HCL:aa (∀ w3,Below W.drew.heap.size W.drew w3→w3.cell? ⟨gs,2,none⟩=some (.bool true)∧w3.cell? ⟨gs,3,none⟩=some (.int .u32 k)∧w3.cell? ⟨gi,3,none⟩=some (.int .u32 k)):=
  ⟨fun w3 h3=>⟨au h3 (show W.drew.cell? _=_ from x0),au h3 (show W.drew.cell? _=_ from x1),au h3 (show W.drew.cell? _=_ from y3)⟩⟩
 clear hb hi egi c0a c0b
 go_region_held3 (fun w'=>w'.cell? ⟨gs,2,none⟩=some (.bool true)∧w'.cell? ⟨gs,3,none⟩=some (.int .u32 k)∧w'.cell? ⟨gi,3,none⟩=some (.int .u32 k)) (first | exact ⟨x0,x1,y3⟩ | exact HCL.out _ hk) ((go_at_call 125;refine (PA.gY.calls k true k W.drew rfl).mono ?_;rintro e w3 ⟨rfl,hk⟩))
 have HB3:=av HB.out (av (ak (Below.refl W.heap.size W)) hk)
 go_wp2
 go_ret
 exact ⟨rfl,HB3⟩
theorem zG (w:World) (gs:Nat) (s:St) (v i1 i2:Int) (k:Int) (hS:w.heap[gs]?=some (.cells (aC s) 151 (0,0))) (hl:s.length=18) (e0:gS s 1=some v) (hne:v≠k) :
 Calls Try.prog 167 #[.pointer (some ⟨gs,0,none⟩),.agg #[.int .u16 1,.int .u8 i1,.int .u8 i2,.int .u32 k]] w fun e w'=>e = .returned (.bool false)∧Below w.heap.size w w':=by
 have c0a:_=some (Value.bool true):=(ae hS (2)).trans ((dw (s:=s) (i:=1) (by omega)).trans (by rw [e0];rfl))
 have c0b:_=some (Value.int .u32 v):=(ae hS (3)).trans ((dO (s:=s) (i:=1) (by omega)).trans (by rw [e0];rfl))
 have hlt:=ax hS
 have HS:=aa.mk hS
 clear hS
 go_enter Try.func167,Try.ntmps167
 go_upto_region 5 with (fail)
 refine forget (fun W=>∃ gi,gi=w.heap.size∧Below w.heap.size w W∧W.heap[gi]?=some (.cells #[.int .u16 1,.int .u8 i1,.int .u8 i2,.int .u32 k] 45 (0,0))) ⟨_,rfl,ai (Below.refl _ _) _,heap_alloc_new _ _⟩ ?_
 rintro W ⟨gi,egi,hb,hi⟩
 rw [←egi]
 have x0:=au hb c0a
 have x1:=au hb c0b
 have y3:=dA hi 3
 have HB:=aa.mk hb
 have EG:=aa.mk egi
 have HCL:aa (∀ w3,Below W.drew.heap.size W.drew w3→w3.cell? ⟨gs,2,none⟩=some (.bool true)∧w3.cell? ⟨gs,3,none⟩=some (.int .u32 v)∧w3.cell? ⟨gi,3,none⟩=some (.int .u32 k)):=
  ⟨fun w3 h3=>⟨au h3 (show W.drew.cell? _=_ from x0),au h3 (show W.drew.cell? _=_ from x1),au h3 (show W.drew.cell? _=_ from y3)⟩⟩
 clear hb hi egi c0a c0b
 go_region_held3 (fun w'=>w'.cell? ⟨gs,2,none⟩=some (.bool true)∧w'.cell? ⟨gs,3,none⟩=some (.int .u32 v)∧w'.cell? ⟨gi,3,none⟩=some (.int .u32 k)) (first | exact ⟨x0,x1,y3⟩ | exact HCL.out _ hk) ((go_at_call 125;refine (PA.gY.calls k true k W.drew rfl).mono ?_;rintro e w3 ⟨rfl,hk⟩))
 have HB3:=av HB.out (av (ak (Below.refl W.heap.size W)) hk)
 go_wp2
 go_ret
 exact ⟨rfl,HB3⟩
theorem iC (w:World) (gs:Nat) (s:St) (i:S45) (hS:w.heap[gs]?=some (.cells (aC s) 151 (0,0))) (hw:Wst s) (hc:stB i.f0 i.f3=true) (hk:Rg i.f3) :
 Calls Try.prog 167 #[.pointer (some ⟨gs,0,none⟩),fD i] w fun e w'=>e = .returned (.bool (iq s i))∧Below w.heap.size w w':=by
 obtain ⟨_,h16,_,_⟩:=gQ hc
 obtain ⟨c,i1,i2,k⟩:=i
 dsimp only at h16 hk
 have hk0:=hk.1
 have hl:=hw.len
 unfold iq
 dsimp only
 by_cases c0:c=0
 · rw [if_pos c0];subst c0
   cases e:gS s 0 with
   | none=>exact zD w gs s i1 i2 k hS hl e
   | some v=>
    by_cases q:v=k
    · subst q
      rw [decide_eq_true rfl];exact zF w gs s i1 i2 v hS hl e
    rw [decide_eq_false (fun h=>q (Option.some.inj h))];exact zC w gs s v i1 i2 k hS hl e q
 rw [if_neg c0]
 by_cases c1:c=1
 · rw [if_pos c1];subst c1
   cases e:gS s 1 with
   | none=>exact zH w gs s i1 i2 k hS hl e
   | some v=>
    by_cases q:v=k
    · subst q
      rw [decide_eq_true rfl];exact zI w gs s i1 i2 v hS hl e
    rw [decide_eq_false (fun h=>q (Option.some.inj h))];exact zG w gs s v i1 i2 k hS hl e q
 rw [if_neg c1]
 by_cases c2:c=2
 · rw [if_pos c2];subst c2
   have hk6:=h16 (by omega)
   obtain ⟨n,rfl⟩:∃ n:Nat,k=(n:Int):=⟨k.toNat,by omega⟩
   rw [Int.toNat_natCast]
   cases e:gS s 0 with
   | none=>exact zO w gs s i1 i2 n hS hl (by omega) e
   | some v=>
    cases e1:gS s (2+n) with
    | none=>exact zN w gs s v i1 i2 n hS hl (by omega) e e1
    | some u=>
     by_cases q:u=v
     · subst q
       rw [decide_eq_true rfl];exact zP w gs s u i1 i2 n hS hl (by omega) e e1
     rw [decide_eq_false (fun h=>q (Option.some.inj h))];exact zM w gs s v u i1 i2 n hS hl (by omega) e e1 q
 rw [if_neg c2]
 by_cases c3:c=3
 · rw [if_pos c3];subst c3
   have hk6:=h16 (by omega)
   obtain ⟨n,rfl⟩:∃ n:Nat,k=(n:Int):=⟨k.toNat,by omega⟩
   rw [Int.toNat_natCast]
   cases e:gS s 1 with
   | none=>exact zS w gs s i1 i2 n hS hl (by omega) e
   | some v=>
    cases e1:gS s (2+n) with
    | none=>exact zR w gs s v i1 i2 n hS hl (by omega) e e1
    | some u=>
     by_cases q:u=v
     · subst q
       rw [decide_eq_true rfl];exact zT w gs s u i1 i2 n hS hl (by omega) e e1
     rw [decide_eq_false (fun h=>q (Option.some.inj h))];exact zQ w gs s v u i1 i2 n hS hl (by omega) e e1 q
 rw [if_neg c3]
 by_cases c4:c=4∨c=20∨c=68∨c=164∨c=100∨c=116
 · rw [if_pos c4]
   rcases c4 with rfl | rfl | rfl | rfl | rfl | rfl
   · exact idle_z4 w gs s i1 i2 k hS hl
   · exact zU w gs s i1 i2 k hS hl
   · exact zV w gs s i1 i2 k hS hl
   · exact xx w gs s i1 i2 k hS hl
   · exact xu w gs s i1 i2 k hS hl
   exact xw w gs s i1 i2 k hS hl
 rw [if_neg c4]
 by_cases c5:c=36∨c=52
 · rw [if_pos c5]
   rcases c5 with rfl | rfl
   · exact zK w gs s i1 i2 k hS hl
   exact zL w gs s i1 i2 k hS hl
 rw [if_neg c5]
 by_cases c6:c=84
 · rw [if_pos c6];subst c6
   exact zJ w gs s i1 i2 k hS hl
 rw [if_neg c6]
 exact idle_no w gs s c i1 i2 k hS hl (bn c0) (bn c1) (bn c2) (bn c3) (bn (by omega)) (bn (by omega)) (bn (by omega)) (bn (by omega)) (bn (by omega)) (bn (by omega)) (bn (by omega)) (bn (by omega)) (bn c6)
theorem simp_o (w:World) (gs:Nat) (s:St) (j:S45) (hS:w.heap[gs]?=some (.cells (aC s) 151 (0,0))) (hw:Wst s) (hc:stB j.f0 j.f3=true) (hk:Rg j.f3)
 (n0:(aU j.f0==0)=false) (n1:(aU j.f0==1)=false) (n7:(aU j.f0==7)=false) (n4:(aU j.f0==4)=false) :
 Calls Try.prog 159 #[.pointer (some ⟨gs,0,none⟩),fD j] w fun e w'=>e = .returned (.tuple #[fD j,.bool (!iq s j)])∧Below w.heap.size w w':=by
 have HS:=aa.mk hS
 have HW:=aa.mk hw
 have HJ:=aa.mk (And.intro hc hk)
 have HC:=aa.mk (fun W=>aG.calls (0+8) j.f0 (aU j.f0) W (gu j.f0 0).1)
 clear hS hw hc hk
 unfold fD at *
 go_enter Try.func159,Try.ntmps159
 go_upto_region 1 with (fail)
 refine forget (fun W=>∃ gi,gi=w.heap.size∧Below w.heap.size w W∧W.heap[gi]?=some (.cells #[.int .u16 j.f0,.int .u8 j.f1,.int .u8 j.f2,.int .u32 j.f3] 45 (0,0))∧W.heap[gi+1]?=some (.cells #[.int .u16 0,.int .u8 0,.int .u8 0,.int .u32 0] 45 (0,0))) ⟨_,rfl,cB _ _ _,kP _ _ _,eY _ _ _⟩ ?_
 rintro W ⟨gi,egi,hb,hi,hr⟩
 rw [←egi]
 have y0:=dA hi 0
 have HB:=aa.mk hb
 have HI:=aa.mk hi
 have HR:=aa.mk hr
 have EG:=aa.mk egi
 clear hb hi hr egi
 go_upto_region 12 with (go_at_call 99;refine (HC.out _).mono ?_;rintro e w' ⟨rfl,⟨nd,rfl⟩⟩)
 have hq:=aA (Below.refl W.heap.size W) nd
 refine forget (fun V=>Below w.heap.size w V∧V.heap[gs]?=some (.cells (aC s) 151 (0,0))∧V.heap[gi]?=some (.cells #[.int .u16 j.f0,.int .u8 j.f1,.int .u8 j.f2,.int .u32 j.f3] 45 (0,0))∧V.heap[gi+1]?=some (.cells #[.int .u16 0,.int .u8 0,.int .u8 0,.int .u32 0] 45 (0,0)))
  ⟨av HB.out hq,aj (aj HS.out HB.out) hq,aj HI.out hq,aj HR.out hq⟩ ?_
 clear hq y0 HB HS HI HR
 rintro V ⟨hb,hs,hi,hr⟩
 obtain ⟨p0,p1,p2,p3,-,-,-,-⟩:=cz4 ⟨hi⟩
 obtain ⟨z0,z1,z2,z3,t0,t1,t2,t3⟩:=cz4 ⟨hr⟩
 have HSC:aa (∀ V',Below V.heap.size V V'→V'.heap[gs]?=some (.cells (aC s) 151 (0,0))):=⟨fun V' h=>aj hs h⟩
 have KC:=aa.mk (nU hi hr)
 have HB:=aa.mk hb
 have HR:=aa.mk hr
 clear hb hs hi hr
 refine eD 7 (SJ gi j) [5] ⟨p0,p1,p2,p3,z0,z1,z2,z3,t0,t1,t2,t3⟩ (fun hHeld=>?_)
 refine aH 1 55 ?_
 refine dC 0 54 hHeld ?_
 refine dC 2 56 hHeld ?_
 refine iG 3 (some 57) (fun K hK=>?_)
 refine gX Try.func167 #[.pointer (some ⟨gs,0,none⟩),fD j] ?_
 with_reducible refine (iC _ gs s j (HSC.out _ iy) HW.out HJ.out.1 HJ.out.2).mono ?_
 rintro e w3 ⟨rfl,hk3⟩
 refine ⟨_,rfl,?_⟩
 refine hK.out _ _ (KC.out _ _ iy hk3) (fun hHeld=>?_)
 clear hK K
 refine eZ 57 ?_
 refine aH 4 58 ?_
 refine fM 5 none (fun K hK=>?_)
 refine ik ?_
 refine hK.out _ _ ?_
 clear hK K
 refine aH 6 5 ?_
 refine iA (by kernel_rfl) ?_
 go_wp2
 have h1:=av (ak (Below.refl V.heap.size V)) hk3
 refine bodyPost_ret (fP rfl _ _ (gi+1) 45 #[.int .u16 j.f0,.int .u8 j.f1,.int .u8 j.f2,.int .u32 j.f3] (0,0) _ rfl (jS (aj HR.out h1) _ _ _ _) Try.underlying45 rfl (by kernel_rfl)) rfl ?_
 exact ⟨rfl,fK (av HB.out h1) (by have:=EG.out;omega) _ _ _ _⟩
theorem kv {W:World} {g x:Nat} {cs:Array Value} {T:TypeId} {v0 v1 v2 v3:Value} (h:W.heap[x]?=some (.cells cs T (0,0))) (hne:x≠g) :
 ((((W.setCell ⟨g,0,none⟩ v0).setCell ⟨g,1,none⟩ v1).setCell ⟨g,2,none⟩ v2).setCell ⟨g,3,none⟩ v3).heap[x]?=some (.cells cs T (0,0)):=
 df (df (df (df h hne _) hne _) hne _) hne _
theorem simp_l0 (w:World) (gs:Nat) (s:St) (i j:S45) (hS:w.heap[gs]?=some (.cells (aC s) 151 (0,0))) (hw:Wst s) (hc:stB j.f0 j.f3=true) (hk:Rg j.f3) (n0:(aU i.f0==0)=true) (hl:∀ W':World,W'.heap[gs]?=some (.cells (aC s) 151 (0,0))→Calls Try.prog 165 #[.pointer (some ⟨gs,0,none⟩),.agg #[.int .u16 i.f0,.int .u8 i.f1,.int .u8 i.f2,.int .u32 i.f3]] W' fun e w'=>e = .returned (.agg #[.int .u16 j.f0,.int .u8 j.f1,.int .u8 j.f2,.int .u32 j.f3])∧Below W'.heap.size W' w') :
 Calls Try.prog 159 #[.pointer (some ⟨gs,0,none⟩),fD i] w fun e w'=>e = .returned (.tuple #[fD j,.bool (!iq s j)])∧Below w.heap.size w w':=by
 have HS:=aa.mk hS
 have HW:=aa.mk hw
 have HJ:=aa.mk (And.intro hc hk)
 have HC:=aa.mk (fun W=>aG.calls (0+8) i.f0 (aU i.f0) W (gu i.f0 0).1)
 have HL:=aa.mk hl
 clear hl
 clear hS hw hc hk
 unfold fD at *
 go_enter Try.func159,Try.ntmps159
 go_upto_region 1 with (fail)
 refine forget (fun W=>∃ gi,gi=w.heap.size∧Below w.heap.size w W∧W.heap[gi]?=some (.cells #[.int .u16 i.f0,.int .u8 i.f1,.int .u8 i.f2,.int .u32 i.f3] 45 (0,0))∧W.heap[gi+1]?=some (.cells #[.int .u16 0,.int .u8 0,.int .u8 0,.int .u32 0] 45 (0,0))) ⟨_,rfl,cB _ _ _,kP _ _ _,eY _ _ _⟩ ?_
 rintro W ⟨gi,egi,hb,hi,hr⟩
 rw [←egi]
 obtain ⟨y0,y1,y2,y3,f0,f1,f2,f3⟩:=cz4 ⟨hi⟩
 have HB:=aa.mk hb
 have HI:=aa.mk hi
 have HR:=aa.mk hr
 have EG:=aa.mk egi
 clear hb hi hr egi
 go_upto_region 12 with (first | (go_at_call 99;refine (HC.out _).mono ?_;rintro e w' ⟨rfl,⟨nd,rfl⟩⟩) | (go_at_call 165;refine (HL.out _ (aj (aj HS.out HB.out) (aA (Below.refl W.heap.size W) _))).mono ?_;rintro e w5 ⟨rfl,hb5⟩;have HQ5:=aa.mk (av (aA (Below.refl W.heap.size W) _) hb5);clear hb5;have HI5:=aa.mk (aj HI.out HQ5.out);have u0:w5.cell? ⟨gi,0,none⟩=some (.int .u16 i.f0):=(ae HI5.out 0).trans rfl;have u1:w5.cell? ⟨gi,1,none⟩=some (.int .u8 i.f1):=(ae HI5.out 1).trans rfl;have u2:w5.cell? ⟨gi,2,none⟩=some (.int .u8 i.f2):=(ae HI5.out 2).trans rfl;have u3:w5.cell? ⟨gi,3,none⟩=some (.int .u32 i.f3):=(ae HI5.out 3).trans rfl;have v0:=af HI5.out 0;have v1:=af HI5.out 1;have v2:=af HI5.out 2;have v3:=af HI5.out 3))
 refine forget (fun V=>Below w.heap.size w V∧V.heap[gs]?=some (.cells (aC s) 151 (0,0))∧V.heap[gi]?=some (.cells #[.int .u16 j.f0,.int .u8 j.f1,.int .u8 j.f2,.int .u32 j.f3] 45 (0,0))∧V.heap[gi+1]?=some (.cells #[.int .u16 0,.int .u8 0,.int .u8 0,.int .u32 0] 45 (0,0)))
  ⟨fK (av HB.out HQ5.out) (by have:=EG.out;omega) _ _ _ _,by
   have h5:=aj (aj HS.out HB.out) HQ5.out
   have hne:gs≠gi:=by have:=EG.out;have:=ax HS.out;omega
   exact kv h5 hne,jS HI5.out _ _ _ _,kv (aj HR.out HQ5.out) (by omega)⟩ ?_
 clear u0 u1 u2 u3 v0 v1 v2 v3 HQ5 HI5
 clear y0 y1 y2 y3 f0 f1 f2 f3 HB HS HI HR
 rintro V ⟨hb,hs,hi,hr⟩
 obtain ⟨p0,p1,p2,p3,-,-,-,-⟩:=cz4 ⟨hi⟩
 obtain ⟨z0,z1,z2,z3,t0,t1,t2,t3⟩:=cz4 ⟨hr⟩
 have HSC:aa (∀ V',Below V.heap.size V V'→V'.heap[gs]?=some (.cells (aC s) 151 (0,0))):=⟨fun V' h=>aj hs h⟩
 have KC:=aa.mk (nU hi hr)
 have HB:=aa.mk hb
 have HR:=aa.mk hr
 clear hb hs hi hr
 refine eD 7 (SJ gi j) [5] ⟨p0,p1,p2,p3,z0,z1,z2,z3,t0,t1,t2,t3⟩ (fun hHeld=>?_)
 refine aH 1 55 ?_
 refine dC 0 54 hHeld ?_
 refine dC 2 56 hHeld ?_
 refine iG 3 (some 57) (fun K hK=>?_)
 refine gX Try.func167 #[.pointer (some ⟨gs,0,none⟩),fD j] ?_
 with_reducible refine (iC _ gs s j (HSC.out _ iy) HW.out HJ.out.1 HJ.out.2).mono ?_
 rintro e w3 ⟨rfl,hk3⟩
 refine ⟨_,rfl,?_⟩
 refine hK.out _ _ (KC.out _ _ iy hk3) (fun hHeld=>?_)
 clear hK K
 refine eZ 57 ?_
 refine aH 4 58 ?_
 refine fM 5 none (fun K hK=>?_)
 refine ik ?_
 refine hK.out _ _ ?_
 clear hK K
 refine aH 6 5 ?_
 refine iA (by kernel_rfl) ?_
 go_wp2
 have h1:=av (ak (Below.refl V.heap.size V)) hk3
 refine bodyPost_ret (fP rfl _ _ (gi+1) 45 #[.int .u16 j.f0,.int .u8 j.f1,.int .u8 j.f2,.int .u32 j.f3] (0,0) _ rfl (jS (aj HR.out h1) _ _ _ _) Try.underlying45 rfl (by kernel_rfl)) rfl ?_
 exact ⟨rfl,fK (av HB.out h1) (by have:=EG.out;omega) _ _ _ _⟩
theorem simp_l1 (w:World) (gs:Nat) (s:St) (i j:S45) (hS:w.heap[gs]?=some (.cells (aC s) 151 (0,0))) (hw:Wst s) (hc:stB j.f0 j.f3=true) (hk:Rg j.f3) (n0:(aU i.f0==0)=false) (n1:(aU i.f0==1)=true) (n7:(aU i.f0==7)=false) (n4:(aU i.f0==4)=false) (hl:∀ W':World,W'.heap[gs]?=some (.cells (aC s) 151 (0,0))→Calls Try.prog 165 #[.pointer (some ⟨gs,0,none⟩),.agg #[.int .u16 i.f0,.int .u8 i.f1,.int .u8 i.f2,.int .u32 i.f3]] W' fun e w'=>e = .returned (.agg #[.int .u16 j.f0,.int .u8 j.f1,.int .u8 j.f2,.int .u32 j.f3])∧Below W'.heap.size W' w') :
 Calls Try.prog 159 #[.pointer (some ⟨gs,0,none⟩),fD i] w fun e w'=>e = .returned (.tuple #[fD j,.bool (!iq s j)])∧Below w.heap.size w w':=by
 have HS:=aa.mk hS
 have HW:=aa.mk hw
 have HJ:=aa.mk (And.intro hc hk)
 have HC:=aa.mk (fun W=>aG.calls (0+8) i.f0 (aU i.f0) W (gu i.f0 0).1)
 have HL:=aa.mk hl
 clear hl
 clear hS hw hc hk
 unfold fD at *
 go_enter Try.func159,Try.ntmps159
 go_upto_region 1 with (fail)
 refine forget (fun W=>∃ gi,gi=w.heap.size∧Below w.heap.size w W∧W.heap[gi]?=some (.cells #[.int .u16 i.f0,.int .u8 i.f1,.int .u8 i.f2,.int .u32 i.f3] 45 (0,0))∧W.heap[gi+1]?=some (.cells #[.int .u16 0,.int .u8 0,.int .u8 0,.int .u32 0] 45 (0,0))) ⟨_,rfl,cB _ _ _,kP _ _ _,eY _ _ _⟩ ?_
 rintro W ⟨gi,egi,hb,hi,hr⟩
 rw [←egi]
 obtain ⟨y0,y1,y2,y3,f0,f1,f2,f3⟩:=cz4 ⟨hi⟩
 have HB:=aa.mk hb
 have HI:=aa.mk hi
 have HR:=aa.mk hr
 have EG:=aa.mk egi
 clear hb hi hr egi
 go_upto_region 12 with (first | (go_at_call 99;refine (HC.out _).mono ?_;rintro e w' ⟨rfl,⟨nd,rfl⟩⟩) | (go_at_call 165;refine (HL.out _ (aj (aj HS.out HB.out) (aA (Below.refl W.heap.size W) _))).mono ?_;rintro e w5 ⟨rfl,hb5⟩;have HQ5:=aa.mk (av (aA (Below.refl W.heap.size W) _) hb5);clear hb5;have HI5:=aa.mk (aj HI.out HQ5.out);have u0:w5.cell? ⟨gi,0,none⟩=some (.int .u16 i.f0):=(ae HI5.out 0).trans rfl;have u1:w5.cell? ⟨gi,1,none⟩=some (.int .u8 i.f1):=(ae HI5.out 1).trans rfl;have u2:w5.cell? ⟨gi,2,none⟩=some (.int .u8 i.f2):=(ae HI5.out 2).trans rfl;have u3:w5.cell? ⟨gi,3,none⟩=some (.int .u32 i.f3):=(ae HI5.out 3).trans rfl;have v0:=af HI5.out 0;have v1:=af HI5.out 1;have v2:=af HI5.out 2;have v3:=af HI5.out 3))
 refine forget (fun V=>Below w.heap.size w V∧V.heap[gs]?=some (.cells (aC s) 151 (0,0))∧V.heap[gi]?=some (.cells #[.int .u16 j.f0,.int .u8 j.f1,.int .u8 j.f2,.int .u32 j.f3] 45 (0,0))∧V.heap[gi+1]?=some (.cells #[.int .u16 0,.int .u8 0,.int .u8 0,.int .u32 0] 45 (0,0)))
  ⟨fK (av HB.out HQ5.out) (by have:=EG.out;omega) _ _ _ _,by
   have h5:=aj (aj HS.out HB.out) HQ5.out
   have hne:gs≠gi:=by have:=EG.out;have:=ax HS.out;omega
   exact kv h5 hne,jS HI5.out _ _ _ _,kv (aj HR.out HQ5.out) (by omega)⟩ ?_
 clear u0 u1 u2 u3 v0 v1 v2 v3 HQ5 HI5
 clear y0 y1 y2 y3 f0 f1 f2 f3 HB HS HI HR
 rintro V ⟨hb,hs,hi,hr⟩
 obtain ⟨p0,p1,p2,p3,-,-,-,-⟩:=cz4 ⟨hi⟩
 obtain ⟨z0,z1,z2,z3,t0,t1,t2,t3⟩:=cz4 ⟨hr⟩
 have HSC:aa (∀ V',Below V.heap.size V V'→V'.heap[gs]?=some (.cells (aC s) 151 (0,0))):=⟨fun V' h=>aj hs h⟩
 have KC:=aa.mk (nU hi hr)
 have HB:=aa.mk hb
 have HR:=aa.mk hr
 clear hb hs hi hr
 refine eD 7 (SJ gi j) [5] ⟨p0,p1,p2,p3,z0,z1,z2,z3,t0,t1,t2,t3⟩ (fun hHeld=>?_)
 refine aH 1 55 ?_
 refine dC 0 54 hHeld ?_
 refine dC 2 56 hHeld ?_
 refine iG 3 (some 57) (fun K hK=>?_)
 refine gX Try.func167 #[.pointer (some ⟨gs,0,none⟩),fD j] ?_
 with_reducible refine (iC _ gs s j (HSC.out _ iy) HW.out HJ.out.1 HJ.out.2).mono ?_
 rintro e w3 ⟨rfl,hk3⟩
 refine ⟨_,rfl,?_⟩
 refine hK.out _ _ (KC.out _ _ iy hk3) (fun hHeld=>?_)
 clear hK K
 refine eZ 57 ?_
 refine aH 4 58 ?_
 refine fM 5 none (fun K hK=>?_)
 refine ik ?_
 refine hK.out _ _ ?_
 clear hK K
 refine aH 6 5 ?_
 refine iA (by kernel_rfl) ?_
 go_wp2
 have h1:=av (ak (Below.refl V.heap.size V)) hk3
 refine bodyPost_ret (fP rfl _ _ (gi+1) 45 #[.int .u16 j.f0,.int .u8 j.f1,.int .u8 j.f2,.int .u32 j.f3] (0,0) _ rfl (jS (aj HR.out h1) _ _ _ _) Try.underlying45 rfl (by kernel_rfl)) rfl ?_
 exact ⟨rfl,fK (av HB.out h1) (by have:=EG.out;omega) _ _ _ _⟩
theorem simp_a (w:World) (gs:Nat) (s:St) (i j:S45) (hS:w.heap[gs]?=some (.cells (aC s) 151 (0,0))) (hw:Wst s) (hc:stB j.f0 j.f3=true) (hk:Rg j.f3) (n0:(aU i.f0==0)=false) (n1:(aU i.f0==1)=false) (n7:(aU i.f0==7)=false) (n4:(aU i.f0==4)=true) (hl:∀ W':World,W'.heap[gs]?=some (.cells (aC s) 151 (0,0))→Calls Try.prog 166 #[.pointer (some ⟨gs,0,none⟩),.agg #[.int .u16 i.f0,.int .u8 i.f1,.int .u8 i.f2,.int .u32 i.f3]] W' fun e w'=>e = .returned (.agg #[.int .u16 j.f0,.int .u8 j.f1,.int .u8 j.f2,.int .u32 j.f3])∧Below W'.heap.size W' w') :
 Calls Try.prog 159 #[.pointer (some ⟨gs,0,none⟩),fD i] w fun e w'=>e = .returned (.tuple #[fD j,.bool (!iq s j)])∧Below w.heap.size w w':=by
 have HS:=aa.mk hS
 have HW:=aa.mk hw
 have HJ:=aa.mk (And.intro hc hk)
 have HC:=aa.mk (fun W=>aG.calls (0+8) i.f0 (aU i.f0) W (gu i.f0 0).1)
 have HL:=aa.mk hl
 clear hl
 clear hS hw hc hk
 unfold fD at *
 go_enter Try.func159,Try.ntmps159
 go_upto_region 1 with (fail)
 refine forget (fun W=>∃ gi,gi=w.heap.size∧Below w.heap.size w W∧W.heap[gi]?=some (.cells #[.int .u16 i.f0,.int .u8 i.f1,.int .u8 i.f2,.int .u32 i.f3] 45 (0,0))∧W.heap[gi+1]?=some (.cells #[.int .u16 0,.int .u8 0,.int .u8 0,.int .u32 0] 45 (0,0))) ⟨_,rfl,cB _ _ _,kP _ _ _,eY _ _ _⟩ ?_
 rintro W ⟨gi,egi,hb,hi,hr⟩
 rw [←egi]
 obtain ⟨y0,y1,y2,y3,f0,f1,f2,f3⟩:=cz4 ⟨hi⟩
 have HB:=aa.mk hb
 have HI:=aa.mk hi
 have HR:=aa.mk hr
 have EG:=aa.mk egi
 clear hb hi hr egi
 go_upto_region 12 with (first | (go_at_call 99;refine (HC.out _).mono ?_;rintro e w' ⟨rfl,⟨nd,rfl⟩⟩) | (go_at_call 166;refine (HL.out _ (aj (aj HS.out HB.out) (aA (Below.refl W.heap.size W) _))).mono ?_;rintro e w5 ⟨rfl,hb5⟩;have HQ5:=aa.mk (av (aA (Below.refl W.heap.size W) _) hb5);clear hb5;have HI5:=aa.mk (aj HI.out HQ5.out);have u0:w5.cell? ⟨gi,0,none⟩=some (.int .u16 i.f0):=(ae HI5.out 0).trans rfl;have u1:w5.cell? ⟨gi,1,none⟩=some (.int .u8 i.f1):=(ae HI5.out 1).trans rfl;have u2:w5.cell? ⟨gi,2,none⟩=some (.int .u8 i.f2):=(ae HI5.out 2).trans rfl;have u3:w5.cell? ⟨gi,3,none⟩=some (.int .u32 i.f3):=(ae HI5.out 3).trans rfl;have v0:=af HI5.out 0;have v1:=af HI5.out 1;have v2:=af HI5.out 2;have v3:=af HI5.out 3))
 refine forget (fun V=>Below w.heap.size w V∧V.heap[gs]?=some (.cells (aC s) 151 (0,0))∧V.heap[gi]?=some (.cells #[.int .u16 j.f0,.int .u8 j.f1,.int .u8 j.f2,.int .u32 j.f3] 45 (0,0))∧V.heap[gi+1]?=some (.cells #[.int .u16 0,.int .u8 0,.int .u8 0,.int .u32 0] 45 (0,0)))
  ⟨fK (av HB.out HQ5.out) (by have:=EG.out;omega) _ _ _ _,by
   have h5:=aj (aj HS.out HB.out) HQ5.out
   have hne:gs≠gi:=by have:=EG.out;have:=ax HS.out;omega
   exact kv h5 hne,jS HI5.out _ _ _ _,kv (aj HR.out HQ5.out) (by omega)⟩ ?_
 clear u0 u1 u2 u3 v0 v1 v2 v3 HQ5 HI5
 clear y0 y1 y2 y3 f0 f1 f2 f3 HB HS HI HR
 rintro V ⟨hb,hs,hi,hr⟩
 obtain ⟨p0,p1,p2,p3,-,-,-,-⟩:=cz4 ⟨hi⟩
 obtain ⟨z0,z1,z2,z3,t0,t1,t2,t3⟩:=cz4 ⟨hr⟩
 have HSC:aa (∀ V',Below V.heap.size V V'→V'.heap[gs]?=some (.cells (aC s) 151 (0,0))):=⟨fun V' h=>aj hs h⟩
 have KC:=aa.mk (nU hi hr)
 have HB:=aa.mk hb
 have HR:=aa.mk hr
 clear hb hs hi hr
 refine eD 7 (SJ gi j) [5] ⟨p0,p1,p2,p3,z0,z1,z2,z3,t0,t1,t2,t3⟩ (fun hHeld=>?_)
 refine aH 1 55 ?_
 refine dC 0 54 hHeld ?_
 refine dC 2 56 hHeld ?_
 refine iG 3 (some 57) (fun K hK=>?_)
 refine gX Try.func167 #[.pointer (some ⟨gs,0,none⟩),fD j] ?_
 with_reducible refine (iC _ gs s j (HSC.out _ iy) HW.out HJ.out.1 HJ.out.2).mono ?_
 rintro e w3 ⟨rfl,hk3⟩
 refine ⟨_,rfl,?_⟩
 refine hK.out _ _ (KC.out _ _ iy hk3) (fun hHeld=>?_)
 clear hK K
 refine eZ 57 ?_
 refine aH 4 58 ?_
 refine fM 5 none (fun K hK=>?_)
 refine ik ?_
 refine hK.out _ _ ?_
 clear hK K
 refine aH 6 5 ?_
 refine iA (by kernel_rfl) ?_
 go_wp2
 have h1:=av (ak (Below.refl V.heap.size V)) hk3
 refine bodyPost_ret (fP rfl _ _ (gi+1) 45 #[.int .u16 j.f0,.int .u8 j.f1,.int .u8 j.f2,.int .u32 j.f3] (0,0) _ rfl (jS (aj HR.out h1) _ _ _ _) Try.underlying45 rfl (by kernel_rfl)) rfl ?_
 exact ⟨rfl,fK (av HB.out h1) (by have:=EG.out;omega) _ _ _ _⟩
theorem simp_ty (w:World) (gs:Nat) (s:St) (i j:S45) (hS:w.heap[gs]?=some (.cells (aC s) 151 (0,0))) (hw:Wst s) (hc:stB j.f0 j.f3=true) (hk:Rg j.f3) (n0:(aU i.f0==0)=false) (n1:(aU i.f0==1)=false) (n7:(aU i.f0==7)=true) (n4:(aU i.f0==4)=false) (h7:(i.f0==7)=true) (h135:(i.f0==135)=false) (v:Int) (e0:gS s 0=some v) (hj:j=⟨1,0,0,v⟩) :
 Calls Try.prog 159 #[.pointer (some ⟨gs,0,none⟩),fD i] w fun e w'=>e = .returned (.tuple #[fD j,.bool (!iq s j)])∧Below w.heap.size w w':=by
 have HS:=aa.mk hS
 have HW:=aa.mk hw
 have HJ:=aa.mk (And.intro hc hk)
 have HC:=aa.mk (fun W=>aG.calls (0+8) i.f0 (aU i.f0) W (gu i.f0 0).1)
 have c0:=cY 0 hS e0 (by have:=hw.len;omega)
 have c1:=dY 1 hS e0 (by have:=hw.len;omega)
 have HJ2:=aa.mk hj
 clear hj
 clear hS hw hc hk
 unfold fD at *
 go_enter Try.func159,Try.ntmps159
 go_upto_region 1 with (fail)
 refine forget (fun W=>∃ gi,gi=w.heap.size∧Below w.heap.size w W∧W.heap[gi]?=some (.cells #[.int .u16 i.f0,.int .u8 i.f1,.int .u8 i.f2,.int .u32 i.f3] 45 (0,0))∧W.heap[gi+1]?=some (.cells #[.int .u16 0,.int .u8 0,.int .u8 0,.int .u32 0] 45 (0,0))) ⟨_,rfl,cB _ _ _,kP _ _ _,eY _ _ _⟩ ?_
 rintro W ⟨gi,egi,hb,hi,hr⟩
 rw [←egi]
 obtain ⟨y0,y1,y2,y3,f0,f1,f2,f3⟩:=cz4 ⟨hi⟩
 have x0:W.cell? ⟨gs,0,none⟩=some (Value.bool true):=au hb c0
 have x1:W.cell? ⟨gs,1,none⟩=some (Value.int .u32 v):=au hb c1
 clear c0 c1
 have HB:=aa.mk hb
 have HI:=aa.mk hi
 have HR:=aa.mk hr
 have EG:=aa.mk egi
 clear hb hi hr egi
 go_upto_region 12 with (first | (go_at_call 99;refine (HC.out _).mono ?_;rintro e w' ⟨rfl,⟨nd,rfl⟩⟩))
 have hq:=aA (Below.refl W.heap.size W) nd
 refine forget (fun V=>Below w.heap.size w V∧V.heap[gs]?=some (.cells (aC s) 151 (0,0))∧V.heap[gi]?=some (.cells #[.int .u16 j.f0,.int .u8 j.f1,.int .u8 j.f2,.int .u32 j.f3] 45 (0,0))∧V.heap[gi+1]?=some (.cells #[.int .u16 0,.int .u8 0,.int .u8 0,.int .u32 0] 45 (0,0)))
  ⟨fK (av HB.out hq) (by have:=EG.out;omega) _ _ _ _,by
   have h5:=aj (aj HS.out HB.out) hq
   have hne:gs≠gi:=by have:=EG.out;have:=ax HS.out;omega
   exact kv h5 hne,by rw [HJ2.out];exact jS (aj HI.out hq) _ _ _ _,kv (aj HR.out hq) (by omega)⟩ ?_
 clear hq
 clear y0 y1 y2 y3 f0 f1 f2 f3 HB HS HI HR
 rintro V ⟨hb,hs,hi,hr⟩
 obtain ⟨p0,p1,p2,p3,-,-,-,-⟩:=cz4 ⟨hi⟩
 obtain ⟨z0,z1,z2,z3,t0,t1,t2,t3⟩:=cz4 ⟨hr⟩
 have HSC:aa (∀ V',Below V.heap.size V V'→V'.heap[gs]?=some (.cells (aC s) 151 (0,0))):=⟨fun V' h=>aj hs h⟩
 have KC:=aa.mk (nU hi hr)
 have HB:=aa.mk hb
 have HR:=aa.mk hr
 clear hb hs hi hr
 refine eD 7 (SJ gi j) [5] ⟨p0,p1,p2,p3,z0,z1,z2,z3,t0,t1,t2,t3⟩ (fun hHeld=>?_)
 refine aH 1 55 ?_
 refine dC 0 54 hHeld ?_
 refine dC 2 56 hHeld ?_
 refine iG 3 (some 57) (fun K hK=>?_)
 refine gX Try.func167 #[.pointer (some ⟨gs,0,none⟩),fD j] ?_
 with_reducible refine (iC _ gs s j (HSC.out _ iy) HW.out HJ.out.1 HJ.out.2).mono ?_
 rintro e w3 ⟨rfl,hk3⟩
 refine ⟨_,rfl,?_⟩
 refine hK.out _ _ (KC.out _ _ iy hk3) (fun hHeld=>?_)
 clear hK K
 refine eZ 57 ?_
 refine aH 4 58 ?_
 refine fM 5 none (fun K hK=>?_)
 refine ik ?_
 refine hK.out _ _ ?_
 clear hK K
 refine aH 6 5 ?_
 refine iA (by kernel_rfl) ?_
 go_wp2
 have h1:=av (ak (Below.refl V.heap.size V)) hk3
 refine bodyPost_ret (fP rfl _ _ (gi+1) 45 #[.int .u16 j.f0,.int .u8 j.f1,.int .u8 j.f2,.int .u32 j.f3] (0,0) _ rfl (jS (aj HR.out h1) _ _ _ _) Try.underlying45 rfl (by kernel_rfl)) rfl ?_
 exact ⟨rfl,fK (av HB.out h1) (by have:=EG.out;omega) _ _ _ _⟩
theorem simp_tn (w:World) (gs:Nat) (s:St) (i j:S45) (hS:w.heap[gs]?=some (.cells (aC s) 151 (0,0))) (hw:Wst s) (hc:stB j.f0 j.f3=true) (hk:Rg j.f3) (n0:(aU i.f0==0)=false) (n1:(aU i.f0==1)=false) (n7:(aU i.f0==7)=true) (n4:(aU i.f0==4)=false) (h7:(i.f0==7)=true) (h135:(i.f0==135)=false) (e0:gS s 0=none) (hj:j=i) :
 Calls Try.prog 159 #[.pointer (some ⟨gs,0,none⟩),fD i] w fun e w'=>e = .returned (.tuple #[fD j,.bool (!iq s j)])∧Below w.heap.size w w':=by
 have HS:=aa.mk hS
 have HW:=aa.mk hw
 have HJ:=aa.mk (And.intro hc hk)
 have HC:=aa.mk (fun W=>aG.calls (0+8) i.f0 (aU i.f0) W (gu i.f0 0).1)
 have c0:=cN 0 hS e0 (by have:=hw.len;omega)
 have c1:=dN 1 hS e0 (by have:=hw.len;omega)
 have HJ2:=aa.mk hj
 clear hj
 clear hS hw hc hk
 unfold fD at *
 go_enter Try.func159,Try.ntmps159
 go_upto_region 1 with (fail)
 refine forget (fun W=>∃ gi,gi=w.heap.size∧Below w.heap.size w W∧W.heap[gi]?=some (.cells #[.int .u16 i.f0,.int .u8 i.f1,.int .u8 i.f2,.int .u32 i.f3] 45 (0,0))∧W.heap[gi+1]?=some (.cells #[.int .u16 0,.int .u8 0,.int .u8 0,.int .u32 0] 45 (0,0))) ⟨_,rfl,cB _ _ _,kP _ _ _,eY _ _ _⟩ ?_
 rintro W ⟨gi,egi,hb,hi,hr⟩
 rw [←egi]
 obtain ⟨y0,y1,y2,y3,f0,f1,f2,f3⟩:=cz4 ⟨hi⟩
 have x0:W.cell? ⟨gs,0,none⟩=some (Value.bool false):=au hb c0
 have x1:W.cell? ⟨gs,1,none⟩=some (Value.int .u32 0):=au hb c1
 clear c0 c1
 have HB:=aa.mk hb
 have HI:=aa.mk hi
 have HR:=aa.mk hr
 have EG:=aa.mk egi
 clear hb hi hr egi
 go_upto_region 12 with (first | (go_at_call 99;refine (HC.out _).mono ?_;rintro e w' ⟨rfl,⟨nd,rfl⟩⟩))
 have hq:=aA (Below.refl W.heap.size W) nd
 refine forget (fun V=>Below w.heap.size w V∧V.heap[gs]?=some (.cells (aC s) 151 (0,0))∧V.heap[gi]?=some (.cells #[.int .u16 j.f0,.int .u8 j.f1,.int .u8 j.f2,.int .u32 j.f3] 45 (0,0))∧V.heap[gi+1]?=some (.cells #[.int .u16 0,.int .u8 0,.int .u8 0,.int .u32 0] 45 (0,0)))
  ⟨av HB.out hq,aj (aj HS.out HB.out) hq,by rw [HJ2.out];exact aj HI.out hq,aj HR.out hq⟩ ?_
 clear hq
 clear y0 y1 y2 y3 f0 f1 f2 f3 HB HS HI HR
 rintro V ⟨hb,hs,hi,hr⟩
 obtain ⟨p0,p1,p2,p3,-,-,-,-⟩:=cz4 ⟨hi⟩
 obtain ⟨z0,z1,z2,z3,t0,t1,t2,t3⟩:=cz4 ⟨hr⟩
 have HSC:aa (∀ V',Below V.heap.size V V'→V'.heap[gs]?=some (.cells (aC s) 151 (0,0))):=⟨fun V' h=>aj hs h⟩
 have KC:=aa.mk (nU hi hr)
 have HB:=aa.mk hb
 have HR:=aa.mk hr
 clear hb hs hi hr
 refine eD 7 (SJ gi j) [5] ⟨p0,p1,p2,p3,z0,z1,z2,z3,t0,t1,t2,t3⟩ (fun hHeld=>?_)
 refine aH 1 55 ?_
 refine dC 0 54 hHeld ?_
 refine dC 2 56 hHeld ?_
 refine iG 3 (some 57) (fun K hK=>?_)
 refine gX Try.func167 #[.pointer (some ⟨gs,0,none⟩),fD j] ?_
 with_reducible refine (iC _ gs s j (HSC.out _ iy) HW.out HJ.out.1 HJ.out.2).mono ?_
 rintro e w3 ⟨rfl,hk3⟩
 refine ⟨_,rfl,?_⟩
 refine hK.out _ _ (KC.out _ _ iy hk3) (fun hHeld=>?_)
 clear hK K
 refine eZ 57 ?_
 refine aH 4 58 ?_
 refine fM 5 none (fun K hK=>?_)
 refine ik ?_
 refine hK.out _ _ ?_
 clear hK K
 refine aH 6 5 ?_
 refine iA (by kernel_rfl) ?_
 go_wp2
 have h1:=av (ak (Below.refl V.heap.size V)) hk3
 refine bodyPost_ret (fP rfl _ _ (gi+1) 45 #[.int .u16 j.f0,.int .u8 j.f1,.int .u8 j.f2,.int .u32 j.f3] (0,0) _ rfl (jS (aj HR.out h1) _ _ _ _) Try.underlying45 rfl (by kernel_rfl)) rfl ?_
 exact ⟨rfl,fK (av HB.out h1) (by have:=EG.out;omega) _ _ _ _⟩
theorem simp_xy (w:World) (gs:Nat) (s:St) (i j:S45) (hS:w.heap[gs]?=some (.cells (aC s) 151 (0,0))) (hw:Wst s) (hc:stB j.f0 j.f3=true) (hk:Rg j.f3) (n0:(aU i.f0==0)=false) (n1:(aU i.f0==1)=false) (n7:(aU i.f0==7)=true) (n4:(aU i.f0==4)=false) (h7:(i.f0==7)=false) (h135:(i.f0==135)=true) (v:Int) (e0:gS s 1=some v) (hj:j=⟨0,0,0,v⟩) :
 Calls Try.prog 159 #[.pointer (some ⟨gs,0,none⟩),fD i] w fun e w'=>e = .returned (.tuple #[fD j,.bool (!iq s j)])∧Below w.heap.size w w':=by
 have HS:=aa.mk hS
 have HW:=aa.mk hw
 have HJ:=aa.mk (And.intro hc hk)
 have HC:=aa.mk (fun W=>aG.calls (0+8) i.f0 (aU i.f0) W (gu i.f0 0).1)
 have c0:=cY 2 hS e0 (by have:=hw.len;omega)
 have c1:=dY 3 hS e0 (by have:=hw.len;omega)
 have HJ2:=aa.mk hj
 clear hj
 clear hS hw hc hk
 unfold fD at *
 go_enter Try.func159,Try.ntmps159
 go_upto_region 1 with (fail)
 refine forget (fun W=>∃ gi,gi=w.heap.size∧Below w.heap.size w W∧W.heap[gi]?=some (.cells #[.int .u16 i.f0,.int .u8 i.f1,.int .u8 i.f2,.int .u32 i.f3] 45 (0,0))∧W.heap[gi+1]?=some (.cells #[.int .u16 0,.int .u8 0,.int .u8 0,.int .u32 0] 45 (0,0))) ⟨_,rfl,cB _ _ _,kP _ _ _,eY _ _ _⟩ ?_
 rintro W ⟨gi,egi,hb,hi,hr⟩
 rw [←egi]
 obtain ⟨y0,y1,y2,y3,f0,f1,f2,f3⟩:=cz4 ⟨hi⟩
 have x0:W.cell? ⟨gs,2,none⟩=some (Value.bool true):=au hb c0
 have x1:W.cell? ⟨gs,3,none⟩=some (Value.int .u32 v):=au hb c1
 clear c0 c1
 have HB:=aa.mk hb
 have HI:=aa.mk hi
 have HR:=aa.mk hr
 have EG:=aa.mk egi
 clear hb hi hr egi
 go_upto_region 12 with (first | (go_at_call 99;refine (HC.out _).mono ?_;rintro e w' ⟨rfl,⟨nd,rfl⟩⟩))
 have hq:=aA (Below.refl W.heap.size W) nd
 refine forget (fun V=>Below w.heap.size w V∧V.heap[gs]?=some (.cells (aC s) 151 (0,0))∧V.heap[gi]?=some (.cells #[.int .u16 j.f0,.int .u8 j.f1,.int .u8 j.f2,.int .u32 j.f3] 45 (0,0))∧V.heap[gi+1]?=some (.cells #[.int .u16 0,.int .u8 0,.int .u8 0,.int .u32 0] 45 (0,0)))
  ⟨fK (av HB.out hq) (by have:=EG.out;omega) _ _ _ _,by
   have h5:=aj (aj HS.out HB.out) hq
   have hne:gs≠gi:=by have:=EG.out;have:=ax HS.out;omega
   exact kv h5 hne,by rw [HJ2.out];exact jS (aj HI.out hq) _ _ _ _,kv (aj HR.out hq) (by omega)⟩ ?_
 clear hq
 clear y0 y1 y2 y3 f0 f1 f2 f3 HB HS HI HR
 rintro V ⟨hb,hs,hi,hr⟩
 obtain ⟨p0,p1,p2,p3,-,-,-,-⟩:=cz4 ⟨hi⟩
 obtain ⟨z0,z1,z2,z3,t0,t1,t2,t3⟩:=cz4 ⟨hr⟩
 have HSC:aa (∀ V',Below V.heap.size V V'→V'.heap[gs]?=some (.cells (aC s) 151 (0,0))):=⟨fun V' h=>aj hs h⟩
 have KC:=aa.mk (nU hi hr)
 have HB:=aa.mk hb
 have HR:=aa.mk hr
 clear hb hs hi hr
 refine eD 7 (SJ gi j) [5] ⟨p0,p1,p2,p3,z0,z1,z2,z3,t0,t1,t2,t3⟩ (fun hHeld=>?_)
 refine aH 1 55 ?_
 refine dC 0 54 hHeld ?_
 refine dC 2 56 hHeld ?_
 refine iG 3 (some 57) (fun K hK=>?_)
 refine gX Try.func167 #[.pointer (some ⟨gs,0,none⟩),fD j] ?_
 with_reducible refine (iC _ gs s j (HSC.out _ iy) HW.out HJ.out.1 HJ.out.2).mono ?_
 rintro e w3 ⟨rfl,hk3⟩
 refine ⟨_,rfl,?_⟩
 refine hK.out _ _ (KC.out _ _ iy hk3) (fun hHeld=>?_)
 clear hK K
 refine eZ 57 ?_
 refine aH 4 58 ?_
 refine fM 5 none (fun K hK=>?_)
 refine ik ?_
 refine hK.out _ _ ?_
 clear hK K
 refine aH 6 5 ?_
 refine iA (by kernel_rfl) ?_
 go_wp2
 have h1:=av (ak (Below.refl V.heap.size V)) hk3
 refine bodyPost_ret (fP rfl _ _ (gi+1) 45 #[.int .u16 j.f0,.int .u8 j.f1,.int .u8 j.f2,.int .u32 j.f3] (0,0) _ rfl (jS (aj HR.out h1) _ _ _ _) Try.underlying45 rfl (by kernel_rfl)) rfl ?_
 exact ⟨rfl,fK (av HB.out h1) (by have:=EG.out;omega) _ _ _ _⟩
theorem simp_xn (w:World) (gs:Nat) (s:St) (i j:S45) (hS:w.heap[gs]?=some (.cells (aC s) 151 (0,0))) (hw:Wst s) (hc:stB j.f0 j.f3=true) (hk:Rg j.f3) (n0:(aU i.f0==0)=false) (n1:(aU i.f0==1)=false) (n7:(aU i.f0==7)=true) (n4:(aU i.f0==4)=false) (h7:(i.f0==7)=false) (h135:(i.f0==135)=true) (e0:gS s 1=none) (hj:j=i) :
 Calls Try.prog 159 #[.pointer (some ⟨gs,0,none⟩),fD i] w fun e w'=>e = .returned (.tuple #[fD j,.bool (!iq s j)])∧Below w.heap.size w w':=by
 have HS:=aa.mk hS
 have HW:=aa.mk hw
 have HJ:=aa.mk (And.intro hc hk)
 have HC:=aa.mk (fun W=>aG.calls (0+8) i.f0 (aU i.f0) W (gu i.f0 0).1)
 have c0:=cN 2 hS e0 (by have:=hw.len;omega)
 have c1:=dN 3 hS e0 (by have:=hw.len;omega)
 have HJ2:=aa.mk hj
 clear hj
 clear hS hw hc hk
 unfold fD at *
 go_enter Try.func159,Try.ntmps159
 go_upto_region 1 with (fail)
 refine forget (fun W=>∃ gi,gi=w.heap.size∧Below w.heap.size w W∧W.heap[gi]?=some (.cells #[.int .u16 i.f0,.int .u8 i.f1,.int .u8 i.f2,.int .u32 i.f3] 45 (0,0))∧W.heap[gi+1]?=some (.cells #[.int .u16 0,.int .u8 0,.int .u8 0,.int .u32 0] 45 (0,0))) ⟨_,rfl,cB _ _ _,kP _ _ _,eY _ _ _⟩ ?_
 rintro W ⟨gi,egi,hb,hi,hr⟩
 rw [←egi]
 obtain ⟨y0,y1,y2,y3,f0,f1,f2,f3⟩:=cz4 ⟨hi⟩
 have x0:W.cell? ⟨gs,2,none⟩=some (Value.bool false):=au hb c0
 have x1:W.cell? ⟨gs,3,none⟩=some (Value.int .u32 0):=au hb c1
 clear c0 c1
 have HB:=aa.mk hb
 have HI:=aa.mk hi
 have HR:=aa.mk hr
 have EG:=aa.mk egi
 clear hb hi hr egi
 go_upto_region 12 with (first | (go_at_call 99;refine (HC.out _).mono ?_;rintro e w' ⟨rfl,⟨nd,rfl⟩⟩))
 have hq:=aA (Below.refl W.heap.size W) nd
 refine forget (fun V=>Below w.heap.size w V∧V.heap[gs]?=some (.cells (aC s) 151 (0,0))∧V.heap[gi]?=some (.cells #[.int .u16 j.f0,.int .u8 j.f1,.int .u8 j.f2,.int .u32 j.f3] 45 (0,0))∧V.heap[gi+1]?=some (.cells #[.int .u16 0,.int .u8 0,.int .u8 0,.int .u32 0] 45 (0,0)))
  ⟨av HB.out hq,aj (aj HS.out HB.out) hq,by rw [HJ2.out];exact aj HI.out hq,aj HR.out hq⟩ ?_
 clear hq
 clear y0 y1 y2 y3 f0 f1 f2 f3 HB HS HI HR
 rintro V ⟨hb,hs,hi,hr⟩
 obtain ⟨p0,p1,p2,p3,-,-,-,-⟩:=cz4 ⟨hi⟩
 obtain ⟨z0,z1,z2,z3,t0,t1,t2,t3⟩:=cz4 ⟨hr⟩
 have HSC:aa (∀ V',Below V.heap.size V V'→V'.heap[gs]?=some (.cells (aC s) 151 (0,0))):=⟨fun V' h=>aj hs h⟩
 have KC:=aa.mk (nU hi hr)
 have HB:=aa.mk hb
 have HR:=aa.mk hr
 clear hb hs hi hr
 refine eD 7 (SJ gi j) [5] ⟨p0,p1,p2,p3,z0,z1,z2,z3,t0,t1,t2,t3⟩ (fun hHeld=>?_)
 refine aH 1 55 ?_
 refine dC 0 54 hHeld ?_
 refine dC 2 56 hHeld ?_
 refine iG 3 (some 57) (fun K hK=>?_)
 refine gX Try.func167 #[.pointer (some ⟨gs,0,none⟩),fD j] ?_
 with_reducible refine (iC _ gs s j (HSC.out _ iy) HW.out HJ.out.1 HJ.out.2).mono ?_
 rintro e w3 ⟨rfl,hk3⟩
 refine ⟨_,rfl,?_⟩
 refine hK.out _ _ (KC.out _ _ iy hk3) (fun hHeld=>?_)
 clear hK K
 refine eZ 57 ?_
 refine aH 4 58 ?_
 refine fM 5 none (fun K hK=>?_)
 refine ik ?_
 refine hK.out _ _ ?_
 clear hK K
 refine aH 6 5 ?_
 refine iA (by kernel_rfl) ?_
 go_wp2
 have h1:=av (ak (Below.refl V.heap.size V)) hk3
 refine bodyPost_ret (fP rfl _ _ (gi+1) 45 #[.int .u16 j.f0,.int .u8 j.f1,.int .u8 j.f2,.int .u32 j.f3] (0,0) _ rfl (jS (aj HR.out h1) _ _ _ _) Try.underlying45 rfl (by kernel_rfl)) rfl ?_
 exact ⟨rfl,fK (av HB.out h1) (by have:=EG.out;omega) _ _ _ _⟩
theorem iH {a b:Int} (h:a=b):(a==b)=true:=beq_iff_eq.mpr h
theorem qC (w:World) (gs:Nat) (s:St) (i:S45) (hS:w.heap[gs]?=some (.cells (aC s) 151 (0,0))) (hw:Wst s) (hc:stB i.f0 i.f3=true) (hk:Rg i.f3) :
 Calls Try.prog 159 #[.pointer (some ⟨gs,0,none⟩),fD i] w fun e w'=>e = .returned (.tuple #[fD (dn s i),.bool (!iq s (dn s i))])∧Below w.heap.size w w':=by
 obtain ⟨hm,_⟩:=gQ hc
 obtain ⟨c0,c1,c2,c3,c4,c5,c6,c7,c8⟩:=uq i.f0 hm
 obtain ⟨jc,jk⟩:=oW hw hc hk
 have hld:i.f0∈ldL↔aU i.f0=0∨aU i.f0=1:=by
  rw [c0,c1]
  simp only [ldL,List.mem_cons,List.not_mem_nil,or_false]
  omega
 by_cases q1:i.f0∈ldL
 · have ej:dn s i=oh s i:=by unfold dn;rw [if_pos q1]
   rw [ej] at jc jk ⊢
   have hl:=fun (W':World) h=>uL W' gs s i h hw hc hk
   by_cases q0:aU i.f0=0
   · exact simp_l0 w gs s i (oh s i) hS hw jc jk (iH q0) hl
   have q2:=(hld.1 q1).resolve_left q0
   exact simp_l1 w gs s i (oh s i) hS hw jc jk (bn q0) (iH q2) (bn (by omega)) (bn (by omega)) hl
 have n0:aU i.f0≠0:=fun h=>q1 (hld.2 (.inl h))
 have n1:aU i.f0≠1:=fun h=>q1 (hld.2 (.inr h))
 by_cases q2:i.f0=7∨i.f0=135
 · have h7:=c7.2 q2
   have ej:dn s i=om s i:=by unfold dn;rw [if_neg q1,if_pos q2]
   rw [ej] at jc jk ⊢
   by_cases q7:i.f0=7
   · cases e:gS s 0 with
     | some v=>exact simp_ty w gs s i _ hS hw jc jk (bn n0) (bn n1) (iH h7) (bn (by omega)) (iH q7) (bn (by omega)) v e (by unfold om;rw [if_pos q7,e])
     | none=>exact simp_tn w gs s i _ hS hw jc jk (bn n0) (bn n1) (iH h7) (bn (by omega)) (iH q7) (bn (by omega)) e (by unfold om;rw [if_pos q7,e])
   have q135:=q2.resolve_left q7
   cases e:gS s 1 with
   | some v=>exact simp_xy w gs s i _ hS hw jc jk (bn n0) (bn n1) (iH h7) (bn (by omega)) (bn q7) (iH q135) v e (by unfold om;rw [if_neg q7,e])
   | none=>exact simp_xn w gs s i _ hS hw jc jk (bn n0) (bn n1) (iH h7) (bn (by omega)) (bn q7) (iH q135) e (by unfold om;rw [if_neg q7,e])
 have n7:aU i.f0≠7:=fun h=>q2 (c7.1 h)
 by_cases q3:i.f0=132∨i.f0∈eQ∨i.f0∈gH
 · have h4:=c4.2 q3
   have ej:dn s i=ru s i:=by unfold dn;rw [if_neg q1,if_neg q2,if_pos q3]
   rw [ej] at jc jk ⊢
   exact simp_a w gs s i (ru s i) hS hw jc jk (bn n0) (bn n1) (bn n7) (iH h4) (fun (W':World) h=>wW W' gs s i h hw hc hk q3)
 have n4:aU i.f0≠4:=fun h=>q3 (c4.1 h)
 have ej:dn s i=i:=by unfold dn;rw [if_neg q1,if_neg q2,if_neg q3]
 rw [ej]
 exact simp_o w gs s i hS hw hc hk (bn n0) (bn n1) (bn n7) (bn n4)
theorem ji {s:St} {i:Nat} (o:Option Int) (h:i<s.length):((aC s).setIfInBounds (i*2) (.bool o.isSome)).setIfInBounds (i*2+1) (.int .u32 (o.getD 0))=aC (s.set i o):=by rw [Nat.mul_comm];exact sc_set o h
theorem after_7 (w:World) (gs:Nat) (s:St) (i1 i2:Int) (k:Int) (hS:w.heap[gs]?=some (.cells (aC s) 151 (0,0))) (hl:s.length=18) :
 Calls Try.prog 160 #[.pointer (some ⟨gs,0,none⟩),.agg #[.int .u16 7,.int .u8 i1,.int .u8 i2,.int .u32 k]] w fun e w'=>e = .returned (.tuple #[])∧w'.heap[gs]?=some (.cells (aC (s.set 1 (gS s 0))) 151 (0,0))∧Kp (fun k=>k=gs) w w':=by
 have c0:w.cell? ⟨gs,0,none⟩=_:=(ae hS (0*2)).trans (dw (s:=s) (i:=0) (by omega))
 have c1:w.cell? ⟨gs,1,none⟩=_:=(ae hS (0*2+1)).trans (dO (s:=s) (i:=0) (by omega))
 have d0:w.cell? ⟨gs,2,none⟩=_:=(ae hS (1*2)).trans (dw (s:=s) (i:=1) (by omega))
 have d1:w.cell? ⟨gs,3,none⟩=_:=(ae hS (1*2+1)).trans (dO (s:=s) (i:=1) (by omega))
 have f0:w.frozen? ⟨gs,2,none⟩=false:=af hS (1*2)
 have f1:w.frozen? ⟨gs,3,none⟩=false:=af hS (1*2+1)
 have hlt:=ax hS
 have HS:=aa.mk hS
 clear hS
 go_enter Try.func160,Try.ntmps160
 go_wp2
 go_region
 go_wp2
 go_end0
 exact ⟨rfl,aj (aM (aM HS.out (1*2) _ rfl) (1*2+1) _ (ji (i:=1) (gS s 0) (by omega))) (ak (ai (Below.refl _ _) _)),
  (Kp.set (S:=fun k=>k=gs) (g:=gs) (Kp.set (S:=fun k=>k=gs) (g:=gs) (Kp.refl _ w) (.inl rfl) _ _) (.inl rfl) _ _).below (ak (ai (Below.refl _ _) _))⟩
theorem wU (w:World) (gs:Nat) (s:St) (i1 i2:Int) (k:Int) (hS:w.heap[gs]?=some (.cells (aC s) 151 (0,0))) (hl:s.length=18) :
 Calls Try.prog 160 #[.pointer (some ⟨gs,0,none⟩),.agg #[.int .u16 135,.int .u8 i1,.int .u8 i2,.int .u32 k]] w fun e w'=>e = .returned (.tuple #[])∧w'.heap[gs]?=some (.cells (aC (s.set 0 (gS s 1))) 151 (0,0))∧Kp (fun k=>k=gs) w w':=by
 have c0:w.cell? ⟨gs,2,none⟩=_:=(ae hS (1*2)).trans (dw (s:=s) (i:=1) (by omega))
 have c1:w.cell? ⟨gs,3,none⟩=_:=(ae hS (1*2+1)).trans (dO (s:=s) (i:=1) (by omega))
 have d0:w.cell? ⟨gs,0,none⟩=_:=(ae hS (0*2)).trans (dw (s:=s) (i:=0) (by omega))
 have d1:w.cell? ⟨gs,1,none⟩=_:=(ae hS (0*2+1)).trans (dO (s:=s) (i:=0) (by omega))
 have f0:w.frozen? ⟨gs,0,none⟩=false:=af hS (0*2)
 have f1:w.frozen? ⟨gs,1,none⟩=false:=af hS (0*2+1)
 have hlt:=ax hS
 have HS:=aa.mk hS
 clear hS
 go_enter Try.func160,Try.ntmps160
 go_wp2
 go_region
 go_wp2
 go_end0
 exact ⟨rfl,aj (aM (aM HS.out (0*2) _ rfl) (0*2+1) _ (ji (i:=0) (gS s 1) (by omega))) (ak (ai (Below.refl _ _) _)),
  (Kp.set (S:=fun k=>k=gs) (g:=gs) (Kp.set (S:=fun k=>k=gs) (g:=gs) (Kp.refl _ w) (.inl rfl) _ _) (.inl rfl) _ _).below (ak (ai (Below.refl _ _) _))⟩
theorem after_2 (w:World) (gs:Nat) (s:St) (i1 i2:Int) (k:Nat) (hS:w.heap[gs]?=some (.cells (aC s) 151 (0,0))) (hl:s.length=18) (hk:k<16) :
 Calls Try.prog 160 #[.pointer (some ⟨gs,0,none⟩),.agg #[.int .u16 2,.int .u8 i1,.int .u8 i2,.int .u32 (k:Int)]] w fun e w'=>e = .returned (.tuple #[])∧w'.heap[gs]?=some (.cells (aC (s.set (2+k) (gS s 0))) 151 (0,0))∧Kp (fun k=>k=gs) w w':=by
 have c0:w.cell? ⟨gs,0,none⟩=_:=(ae hS (0*2)).trans (dw (s:=s) (i:=0) (by omega))
 have c1:w.cell? ⟨gs,1,none⟩=_:=(ae hS (0*2+1)).trans (dO (s:=s) (i:=0) (by omega))
 have d0:w.cell? ⟨gs,(2+k)*2,none⟩=_:=(ae hS ((2+k)*2)).trans (dw (s:=s) (i:=(2+k)) (by omega))
 have d1:w.cell? ⟨gs,(2+k)*2+1,none⟩=_:=(ae hS ((2+k)*2+1)).trans (dO (s:=s) (i:=(2+k)) (by omega))
 have f0:w.frozen? ⟨gs,(2+k)*2,none⟩=false:=af hS ((2+k)*2)
 have f1:w.frozen? ⟨gs,(2+k)*2+1,none⟩=false:=af hS ((2+k)*2+1)
 have hlt:=ax hS
 have HS:=aa.mk hS
 clear hS
 go_enter Try.func160,Try.ntmps160
 go_wp2
 go_region
 go_wp2
 go_end0
 exact ⟨rfl,aj (aM (aM HS.out ((2+k)*2) _ rfl) ((2+k)*2+1) _ (ji (i:=(2+k)) (gS s 0) (by omega))) (ak (ai (Below.refl _ _) _)),
  (Kp.set (S:=fun k=>k=gs) (g:=gs) (Kp.set (S:=fun k=>k=gs) (g:=gs) (Kp.refl _ w) (.inl rfl) _ _) (.inl rfl) _ _).below (ak (ai (Below.refl _ _) _))⟩
theorem after_3 (w:World) (gs:Nat) (s:St) (i1 i2:Int) (k:Nat) (hS:w.heap[gs]?=some (.cells (aC s) 151 (0,0))) (hl:s.length=18) (hk:k<16) :
 Calls Try.prog 160 #[.pointer (some ⟨gs,0,none⟩),.agg #[.int .u16 3,.int .u8 i1,.int .u8 i2,.int .u32 (k:Int)]] w fun e w'=>e = .returned (.tuple #[])∧w'.heap[gs]?=some (.cells (aC (s.set (2+k) (gS s 1))) 151 (0,0))∧Kp (fun k=>k=gs) w w':=by
 have c0:w.cell? ⟨gs,2,none⟩=_:=(ae hS (1*2)).trans (dw (s:=s) (i:=1) (by omega))
 have c1:w.cell? ⟨gs,3,none⟩=_:=(ae hS (1*2+1)).trans (dO (s:=s) (i:=1) (by omega))
 have d0:w.cell? ⟨gs,(2+k)*2,none⟩=_:=(ae hS ((2+k)*2)).trans (dw (s:=s) (i:=(2+k)) (by omega))
 have d1:w.cell? ⟨gs,(2+k)*2+1,none⟩=_:=(ae hS ((2+k)*2+1)).trans (dO (s:=s) (i:=(2+k)) (by omega))
 have f0:w.frozen? ⟨gs,(2+k)*2,none⟩=false:=af hS ((2+k)*2)
 have f1:w.frozen? ⟨gs,(2+k)*2+1,none⟩=false:=af hS ((2+k)*2+1)
 have hlt:=ax hS
 have HS:=aa.mk hS
 clear hS
 go_enter Try.func160,Try.ntmps160
 go_wp2
 go_region
 go_wp2
 go_end0
 exact ⟨rfl,aj (aM (aM HS.out ((2+k)*2) _ rfl) ((2+k)*2+1) _ (ji (i:=(2+k)) (gS s 1) (by omega))) (ak (ai (Below.refl _ _) _)),
  (Kp.set (S:=fun k=>k=gs) (g:=gs) (Kp.set (S:=fun k=>k=gs) (g:=gs) (Kp.refl _ w) (.inl rfl) _ _) (.inl rfl) _ _).below (ak (ai (Below.refl _ _) _))⟩
theorem after_x (w:World) (gs:Nat) (s:St) (c i1 i2 k:Int) (hS:w.heap[gs]?=some (.cells (aC s) 151 (0,0))) (hl:s.length=18)
 (n0:(c==0)=false) (n1:(c==1)=false) (n2:(c==2)=false) (n3:(c==3)=false) (n7:(c==7)=false) (n135:(c==135)=false) (hx:(aU c==1)=true) :
 Calls Try.prog 160 #[.pointer (some ⟨gs,0,none⟩),.agg #[.int .u16 c,.int .u8 i1,.int .u8 i2,.int .u32 k]] w fun e w'=>e = .returned (.tuple #[])∧w'.heap[gs]?=some (.cells (aC (s.set 1 none)) 151 (0,0))∧Kp (fun k=>k=gs) w w':=by
 have d0:w.cell? ⟨gs,2,none⟩=_:=(ae hS (1*2)).trans (dw (s:=s) (i:=1) (by omega))
 have d1:w.cell? ⟨gs,3,none⟩=_:=(ae hS (1*2+1)).trans (dO (s:=s) (i:=1) (by omega))
 have f0:w.frozen? ⟨gs,2,none⟩=false:=af hS (1*2)
 have f1:w.frozen? ⟨gs,3,none⟩=false:=af hS (1*2+1)
 have hlt:=ax hS
 have HS:=aa.mk hS
 have HC:=aa.mk (fun W=>aG.calls (0+8) c (aU c) W (gu c 0).1)
 clear hS
 go_enter Try.func160,Try.ntmps160
 go_wp2_with (go_at_call 99;refine (HC.out _).mono ?_;rintro e w' ⟨rfl,⟨nd,rfl⟩⟩)
 go_end0
 exact ⟨rfl,aM (aM (aj HS.out mr) (1*2) _ rfl) (1*2+1) _ (ji (i:=1) none (by omega)),
  Kp.set (S:=fun k=>k=gs) (g:=gs) (Kp.set (S:=fun k=>k=gs) (g:=gs) ((Kp.refl _ w).below mr) (.inl rfl) _ _) (.inl rfl) _ _⟩
theorem after_o (w:World) (gs:Nat) (s:St) (c i1 i2 k:Int) (hS:w.heap[gs]?=some (.cells (aC s) 151 (0,0))) (hl:s.length=18)
 (n0:(c==0)=false) (n1:(c==1)=false) (n2:(c==2)=false) (n3:(c==3)=false) (n7:(c==7)=false) (n135:(c==135)=false) (hx:(aU c==1)=false) :
 Calls Try.prog 160 #[.pointer (some ⟨gs,0,none⟩),.agg #[.int .u16 c,.int .u8 i1,.int .u8 i2,.int .u32 k]] w fun e w'=>e = .returned (.tuple #[])∧w'.heap[gs]?=some (.cells (aC (s.set 0 none)) 151 (0,0))∧Kp (fun k=>k=gs) w w':=by
 have d0:w.cell? ⟨gs,0,none⟩=_:=(ae hS (0*2)).trans (dw (s:=s) (i:=0) (by omega))
 have d1:w.cell? ⟨gs,1,none⟩=_:=(ae hS (0*2+1)).trans (dO (s:=s) (i:=0) (by omega))
 have f0:w.frozen? ⟨gs,0,none⟩=false:=af hS (0*2)
 have f1:w.frozen? ⟨gs,1,none⟩=false:=af hS (0*2+1)
 have hlt:=ax hS
 have HS:=aa.mk hS
 have HC:=aa.mk (fun W=>aG.calls (0+8) c (aU c) W (gu c 0).1)
 clear hS
 go_enter Try.func160,Try.ntmps160
 go_wp2_with (go_at_call 99;refine (HC.out _).mono ?_;rintro e w' ⟨rfl,⟨nd,rfl⟩⟩)
 go_end0
 exact ⟨rfl,aM (aM (aj HS.out mr) (0*2) _ rfl) (0*2+1) _ (ji (i:=0) none (by omega)),
  Kp.set (S:=fun k=>k=gs) (g:=gs) (Kp.set (S:=fun k=>k=gs) (g:=gs) ((Kp.refl _ w).below mr) (.inl rfl) _ _) (.inl rfl) _ _⟩
end Go.Proofs.Ytdkalnkplgfgoaa.Ln
