/- Lemmas and walks for the statements of the texts ZTZ..: the declarations that they need, taken together by a program of this session. Conditions: as each says. -/
import Derived.ArgAppend
import Derived.Deep.MidRow
import Derived.Test.YtdkalnkplgfgoaaZTb
import Derived.Test.YtdkalnkplgfgoaaZTc
import Derived.Test.YtdkalnkplgfgoaaZTd
import Derived.Test.YtdkalnkplgfgoaaZTf
set_option maxHeartbeats 4000000
set_option maxRecDepth 100000
set_option linter.unusedVariables false
set_option linter.unusedSimpArgs false
namespace Go.Proofs.Ytdkalnkplgfgoaa.Ln
open Go.RowKit Go.Maps Go.Proofs.YtdkalnkplgfgoaaW.PrintWords Go.Proofs.YtdkalnkplgfgoaaW.PrintLast Go.Proofs.YtdkalnkplgfgoaaW.PrintMore Go.Proofs.Ytdkalnkplgfgoaa.PA
theorem jJ {W:World} {g x:Nat} {cs:Array Value} {T:TypeId} {v0 v1 v2 v3:Value} (h:W.heap[x]?=some (.cells cs T (0,0))) (hne:x≠g) :
 ((((W.setCell ⟨g,0,none⟩ v0).setCell ⟨g,1,none⟩ v1).setCell ⟨g,2,none⟩ v2).setCell ⟨g,3,none⟩ v3).heap[x]?=some (.cells cs T (0,0)):=
 bN (bN (bN (bN h hne _) hne _) hne _) hne _
theorem simp_l0 (w:World) (gs:Nat) (s:St) (i j:S45) (hS:w.heap[gs]?=some (.cells (aA s) 151 (0,0))) (hw:Wst s) (hc:stB j.f0 j.f3=true) (hk:Rg j.f3) (n0:(aJ i.f0==0)=true) (hl:∀ W':World,W'.heap[gs]?=some (.cells (aA s) 151 (0,0))→Calls Try.prog 165 #[.pointer (some ⟨gs,0,none⟩),.agg #[.int .u16 i.f0,.int .u8 i.f1,.int .u8 i.f2,.int .u32 i.f3]] W' fun e w'=>e = .returned (.agg #[.int .u16 j.f0,.int .u8 j.f1,.int .u8 j.f2,.int .u32 j.f3])∧Below W'.heap.size W' w') :
 Calls Try.prog 159 #[.pointer (some ⟨gs,0,none⟩),dQ i] w fun e w'=>e = .returned (.tuple #[dQ j,.bool (!gN s j)])∧Below w.heap.size w w':=by
 have HS:=aa.mk hS
 have HW:=aa.mk hw
 have HJ:=aa.mk (And.intro hc hk)
 have HC:=aa.mk (fun W=>aC.calls (0+8) i.f0 (aJ i.f0) W (fU i.f0 0).1)
 have HL:=aa.mk hl
 clear hl
 clear hS hw hc hk
 unfold dQ at *
 go_enter Try.func159,Try.ntmps159
 go_upto_region 1 with (fail)
 refine forget (fun W=>∃ gi,gi=w.heap.size∧Below w.heap.size w W∧W.heap[gi]?=some (.cells #[.int .u16 i.f0,.int .u8 i.f1,.int .u8 i.f2,.int .u32 i.f3] 45 (0,0))∧W.heap[gi+1]?=some (.cells #[.int .u16 0,.int .u8 0,.int .u8 0,.int .u32 0] 45 (0,0))) ⟨_,rfl,bL _ _ _,kH _ _ _,dK _ _ _⟩ ?_
 rintro W ⟨gi,egi,hb,hi,hr⟩
 rw [←egi]
 obtain ⟨y0,y1,y2,y3,f0,f1,f2,f3⟩:=cz4 ⟨hi⟩
 have HB:=aa.mk hb
 have HI:=aa.mk hi
 have HR:=aa.mk hr
 have EG:=aa.mk egi
 clear hb hi hr egi
 go_upto_region 12 with (first | (go_at_call 99;refine (HC.out _).mono ?_;rintro e w' ⟨rfl,⟨nd,rfl⟩⟩) | (go_at_call 165;refine (HL.out _ (ak (ak HS.out HB.out) (aj (Below.refl W.heap.size W) _))).mono ?_;rintro e w5 ⟨rfl,hb5⟩;have HQ5:=aa.mk (au (aj (Below.refl W.heap.size W) _) hb5);clear hb5;have HI5:=aa.mk (ak HI.out HQ5.out);have u0:w5.cell? ⟨gi,0,none⟩=some (.int .u16 i.f0):=(ae HI5.out 0).trans rfl;have u1:w5.cell? ⟨gi,1,none⟩=some (.int .u8 i.f1):=(ae HI5.out 1).trans rfl;have u2:w5.cell? ⟨gi,2,none⟩=some (.int .u8 i.f2):=(ae HI5.out 2).trans rfl;have u3:w5.cell? ⟨gi,3,none⟩=some (.int .u32 i.f3):=(ae HI5.out 3).trans rfl;have v0:=ah HI5.out 0;have v1:=ah HI5.out 1;have v2:=ah HI5.out 2;have v3:=ah HI5.out 3))
 refine forget (fun V=>Below w.heap.size w V∧V.heap[gs]?=some (.cells (aA s) 151 (0,0))∧V.heap[gi]?=some (.cells #[.int .u16 j.f0,.int .u8 j.f1,.int .u8 j.f2,.int .u32 j.f3] 45 (0,0))∧V.heap[gi+1]?=some (.cells #[.int .u16 0,.int .u8 0,.int .u8 0,.int .u32 0] 45 (0,0)))
  ⟨eU (au HB.out HQ5.out) (by have:=EG.out;omega) _ _ _ _,by
   have h5:=ak (ak HS.out HB.out) HQ5.out
   have hne:gs≠gi:=by have:=EG.out;have:=ay HS.out;omega
   exact jJ h5 hne,jh HI5.out _ _ _ _,jJ (ak HR.out HQ5.out) (by omega)⟩ ?_
 clear u0 u1 u2 u3 v0 v1 v2 v3 HQ5 HI5
 clear y0 y1 y2 y3 f0 f1 f2 f3 HB HS HI HR
 rintro V ⟨hb,hs,hi,hr⟩
 obtain ⟨p0,p1,p2,p3,-,-,-,-⟩:=cz4 ⟨hi⟩
 obtain ⟨z0,z1,z2,z3,t0,t1,t2,t3⟩:=cz4 ⟨hr⟩
 have HSC:aa (∀ V',Below V.heap.size V V'→V'.heap[gs]?=some (.cells (aA s) 151 (0,0))):=⟨fun V' h=>ak hs h⟩
 have KC:=aa.mk (mD hi hr)
 have HB:=aa.mk hb
 have HR:=aa.mk hr
 clear hb hs hi hr
 refine fF 7 (SJ gi j) [5] ⟨p0,p1,p2,p3,z0,z1,z2,z3,t0,t1,t2,t3⟩ (fun hHeld=>?_)
 refine bi 1 55 ?_
 refine dn 0 54 hHeld ?_
 refine dn 2 56 hHeld ?_
 refine jD 3 (some 57) (fun K hK=>?_)
 refine iN Try.func167 #[.pointer (some ⟨gs,0,none⟩),dQ j] ?_
 with_reducible refine (gz _ gs s j (HSC.out _ jU) HW.out HJ.out.1 HJ.out.2).mono ?_
 rintro e w3 ⟨rfl,hk3⟩
 refine ⟨_,rfl,?_⟩
 refine hK.out _ _ (KC.out _ _ jU hk3) (fun hHeld=>?_)
 clear hK K
 refine gF 57 ?_
 refine bi 4 58 ?_
 refine gD 5 none (fun K hK=>?_)
 refine iD ?_
 refine hK.out _ _ ?_
 clear hK K
 refine bi 6 5 ?_
 refine fO (by kernel_rfl) ?_
 go_wp2
 have h1:=au (af (Below.refl V.heap.size V)) hk3
 refine bodyPost_ret (fK rfl _ _ (gi+1) 45 #[.int .u16 j.f0,.int .u8 j.f1,.int .u8 j.f2,.int .u32 j.f3] (0,0) _ rfl (jh (ak HR.out h1) _ _ _ _) Try.underlying45 rfl (by kernel_rfl)) rfl ?_
 exact ⟨rfl,eU (au HB.out h1) (by have:=EG.out;omega) _ _ _ _⟩
theorem simp_l1 (w:World) (gs:Nat) (s:St) (i j:S45) (hS:w.heap[gs]?=some (.cells (aA s) 151 (0,0))) (hw:Wst s) (hc:stB j.f0 j.f3=true) (hk:Rg j.f3) (n0:(aJ i.f0==0)=false) (n1:(aJ i.f0==1)=true) (n7:(aJ i.f0==7)=false) (n4:(aJ i.f0==4)=false) (hl:∀ W':World,W'.heap[gs]?=some (.cells (aA s) 151 (0,0))→Calls Try.prog 165 #[.pointer (some ⟨gs,0,none⟩),.agg #[.int .u16 i.f0,.int .u8 i.f1,.int .u8 i.f2,.int .u32 i.f3]] W' fun e w'=>e = .returned (.agg #[.int .u16 j.f0,.int .u8 j.f1,.int .u8 j.f2,.int .u32 j.f3])∧Below W'.heap.size W' w') :
 Calls Try.prog 159 #[.pointer (some ⟨gs,0,none⟩),dQ i] w fun e w'=>e = .returned (.tuple #[dQ j,.bool (!gN s j)])∧Below w.heap.size w w':=by
 have HS:=aa.mk hS
 have HW:=aa.mk hw
 have HJ:=aa.mk (And.intro hc hk)
 have HC:=aa.mk (fun W=>aC.calls (0+8) i.f0 (aJ i.f0) W (fU i.f0 0).1)
 have HL:=aa.mk hl
 clear hl
 clear hS hw hc hk
 unfold dQ at *
 go_enter Try.func159,Try.ntmps159
 go_upto_region 1 with (fail)
 refine forget (fun W=>∃ gi,gi=w.heap.size∧Below w.heap.size w W∧W.heap[gi]?=some (.cells #[.int .u16 i.f0,.int .u8 i.f1,.int .u8 i.f2,.int .u32 i.f3] 45 (0,0))∧W.heap[gi+1]?=some (.cells #[.int .u16 0,.int .u8 0,.int .u8 0,.int .u32 0] 45 (0,0))) ⟨_,rfl,bL _ _ _,kH _ _ _,dK _ _ _⟩ ?_
 rintro W ⟨gi,egi,hb,hi,hr⟩
 rw [←egi]
 obtain ⟨y0,y1,y2,y3,f0,f1,f2,f3⟩:=cz4 ⟨hi⟩
 have HB:=aa.mk hb
 have HI:=aa.mk hi
 have HR:=aa.mk hr
 have EG:=aa.mk egi
 clear hb hi hr egi
 go_upto_region 12 with (first | (go_at_call 99;refine (HC.out _).mono ?_;rintro e w' ⟨rfl,⟨nd,rfl⟩⟩) | (go_at_call 165;refine (HL.out _ (ak (ak HS.out HB.out) (aj (Below.refl W.heap.size W) _))).mono ?_;rintro e w5 ⟨rfl,hb5⟩;have HQ5:=aa.mk (au (aj (Below.refl W.heap.size W) _) hb5);clear hb5;have HI5:=aa.mk (ak HI.out HQ5.out);have u0:w5.cell? ⟨gi,0,none⟩=some (.int .u16 i.f0):=(ae HI5.out 0).trans rfl;have u1:w5.cell? ⟨gi,1,none⟩=some (.int .u8 i.f1):=(ae HI5.out 1).trans rfl;have u2:w5.cell? ⟨gi,2,none⟩=some (.int .u8 i.f2):=(ae HI5.out 2).trans rfl;have u3:w5.cell? ⟨gi,3,none⟩=some (.int .u32 i.f3):=(ae HI5.out 3).trans rfl;have v0:=ah HI5.out 0;have v1:=ah HI5.out 1;have v2:=ah HI5.out 2;have v3:=ah HI5.out 3))
 refine forget (fun V=>Below w.heap.size w V∧V.heap[gs]?=some (.cells (aA s) 151 (0,0))∧V.heap[gi]?=some (.cells #[.int .u16 j.f0,.int .u8 j.f1,.int .u8 j.f2,.int .u32 j.f3] 45 (0,0))∧V.heap[gi+1]?=some (.cells #[.int .u16 0,.int .u8 0,.int .u8 0,.int .u32 0] 45 (0,0)))
  ⟨eU (au HB.out HQ5.out) (by have:=EG.out;omega) _ _ _ _,by
   have h5:=ak (ak HS.out HB.out) HQ5.out
   have hne:gs≠gi:=by have:=EG.out;have:=ay HS.out;omega
   exact jJ h5 hne,jh HI5.out _ _ _ _,jJ (ak HR.out HQ5.out) (by omega)⟩ ?_
 clear u0 u1 u2 u3 v0 v1 v2 v3 HQ5 HI5
 clear y0 y1 y2 y3 f0 f1 f2 f3 HB HS HI HR
 rintro V ⟨hb,hs,hi,hr⟩
 obtain ⟨p0,p1,p2,p3,-,-,-,-⟩:=cz4 ⟨hi⟩
 obtain ⟨z0,z1,z2,z3,t0,t1,t2,t3⟩:=cz4 ⟨hr⟩
 have HSC:aa (∀ V',Below V.heap.size V V'→V'.heap[gs]?=some (.cells (aA s) 151 (0,0))):=⟨fun V' h=>ak hs h⟩
 have KC:=aa.mk (mD hi hr)
 have HB:=aa.mk hb
 have HR:=aa.mk hr
 clear hb hs hi hr
 refine fF 7 (SJ gi j) [5] ⟨p0,p1,p2,p3,z0,z1,z2,z3,t0,t1,t2,t3⟩ (fun hHeld=>?_)
 refine bi 1 55 ?_
 refine dn 0 54 hHeld ?_
 refine dn 2 56 hHeld ?_
 refine jD 3 (some 57) (fun K hK=>?_)
 refine iN Try.func167 #[.pointer (some ⟨gs,0,none⟩),dQ j] ?_
 with_reducible refine (gz _ gs s j (HSC.out _ jU) HW.out HJ.out.1 HJ.out.2).mono ?_
 rintro e w3 ⟨rfl,hk3⟩
 refine ⟨_,rfl,?_⟩
 refine hK.out _ _ (KC.out _ _ jU hk3) (fun hHeld=>?_)
 clear hK K
 refine gF 57 ?_
 refine bi 4 58 ?_
 refine gD 5 none (fun K hK=>?_)
 refine iD ?_
 refine hK.out _ _ ?_
 clear hK K
 refine bi 6 5 ?_
 refine fO (by kernel_rfl) ?_
 go_wp2
 have h1:=au (af (Below.refl V.heap.size V)) hk3
 refine bodyPost_ret (fK rfl _ _ (gi+1) 45 #[.int .u16 j.f0,.int .u8 j.f1,.int .u8 j.f2,.int .u32 j.f3] (0,0) _ rfl (jh (ak HR.out h1) _ _ _ _) Try.underlying45 rfl (by kernel_rfl)) rfl ?_
 exact ⟨rfl,eU (au HB.out h1) (by have:=EG.out;omega) _ _ _ _⟩
theorem simp_a (w:World) (gs:Nat) (s:St) (i j:S45) (hS:w.heap[gs]?=some (.cells (aA s) 151 (0,0))) (hw:Wst s) (hc:stB j.f0 j.f3=true) (hk:Rg j.f3) (n0:(aJ i.f0==0)=false) (n1:(aJ i.f0==1)=false) (n7:(aJ i.f0==7)=false) (n4:(aJ i.f0==4)=true) (hl:∀ W':World,W'.heap[gs]?=some (.cells (aA s) 151 (0,0))→Calls Try.prog 166 #[.pointer (some ⟨gs,0,none⟩),.agg #[.int .u16 i.f0,.int .u8 i.f1,.int .u8 i.f2,.int .u32 i.f3]] W' fun e w'=>e = .returned (.agg #[.int .u16 j.f0,.int .u8 j.f1,.int .u8 j.f2,.int .u32 j.f3])∧Below W'.heap.size W' w') :
 Calls Try.prog 159 #[.pointer (some ⟨gs,0,none⟩),dQ i] w fun e w'=>e = .returned (.tuple #[dQ j,.bool (!gN s j)])∧Below w.heap.size w w':=by
 have HS:=aa.mk hS
 have HW:=aa.mk hw
 have HJ:=aa.mk (And.intro hc hk)
 have HC:=aa.mk (fun W=>aC.calls (0+8) i.f0 (aJ i.f0) W (fU i.f0 0).1)
 have HL:=aa.mk hl
 clear hl
 clear hS hw hc hk
 unfold dQ at *
 go_enter Try.func159,Try.ntmps159
 go_upto_region 1 with (fail)
 refine forget (fun W=>∃ gi,gi=w.heap.size∧Below w.heap.size w W∧W.heap[gi]?=some (.cells #[.int .u16 i.f0,.int .u8 i.f1,.int .u8 i.f2,.int .u32 i.f3] 45 (0,0))∧W.heap[gi+1]?=some (.cells #[.int .u16 0,.int .u8 0,.int .u8 0,.int .u32 0] 45 (0,0))) ⟨_,rfl,bL _ _ _,kH _ _ _,dK _ _ _⟩ ?_
 rintro W ⟨gi,egi,hb,hi,hr⟩
 rw [←egi]
 obtain ⟨y0,y1,y2,y3,f0,f1,f2,f3⟩:=cz4 ⟨hi⟩
 have HB:=aa.mk hb
 have HI:=aa.mk hi
 have HR:=aa.mk hr
 have EG:=aa.mk egi
 clear hb hi hr egi
 go_upto_region 12 with (first | (go_at_call 99;refine (HC.out _).mono ?_;rintro e w' ⟨rfl,⟨nd,rfl⟩⟩) | (go_at_call 166;refine (HL.out _ (ak (ak HS.out HB.out) (aj (Below.refl W.heap.size W) _))).mono ?_;rintro e w5 ⟨rfl,hb5⟩;have HQ5:=aa.mk (au (aj (Below.refl W.heap.size W) _) hb5);clear hb5;have HI5:=aa.mk (ak HI.out HQ5.out);have u0:w5.cell? ⟨gi,0,none⟩=some (.int .u16 i.f0):=(ae HI5.out 0).trans rfl;have u1:w5.cell? ⟨gi,1,none⟩=some (.int .u8 i.f1):=(ae HI5.out 1).trans rfl;have u2:w5.cell? ⟨gi,2,none⟩=some (.int .u8 i.f2):=(ae HI5.out 2).trans rfl;have u3:w5.cell? ⟨gi,3,none⟩=some (.int .u32 i.f3):=(ae HI5.out 3).trans rfl;have v0:=ah HI5.out 0;have v1:=ah HI5.out 1;have v2:=ah HI5.out 2;have v3:=ah HI5.out 3))
 refine forget (fun V=>Below w.heap.size w V∧V.heap[gs]?=some (.cells (aA s) 151 (0,0))∧V.heap[gi]?=some (.cells #[.int .u16 j.f0,.int .u8 j.f1,.int .u8 j.f2,.int .u32 j.f3] 45 (0,0))∧V.heap[gi+1]?=some (.cells #[.int .u16 0,.int .u8 0,.int .u8 0,.int .u32 0] 45 (0,0)))
  ⟨eU (au HB.out HQ5.out) (by have:=EG.out;omega) _ _ _ _,by
   have h5:=ak (ak HS.out HB.out) HQ5.out
   have hne:gs≠gi:=by have:=EG.out;have:=ay HS.out;omega
   exact jJ h5 hne,jh HI5.out _ _ _ _,jJ (ak HR.out HQ5.out) (by omega)⟩ ?_
 clear u0 u1 u2 u3 v0 v1 v2 v3 HQ5 HI5
 clear y0 y1 y2 y3 f0 f1 f2 f3 HB HS HI HR
 rintro V ⟨hb,hs,hi,hr⟩
 obtain ⟨p0,p1,p2,p3,-,-,-,-⟩:=cz4 ⟨hi⟩
 obtain ⟨z0,z1,z2,z3,t0,t1,t2,t3⟩:=cz4 ⟨hr⟩
 have HSC:aa (∀ V',Below V.heap.size V V'→V'.heap[gs]?=some (.cells (aA s) 151 (0,0))):=⟨fun V' h=>ak hs h⟩
 have KC:=aa.mk (mD hi hr)
 have HB:=aa.mk hb
 have HR:=aa.mk hr
 clear hb hs hi hr
 refine fF 7 (SJ gi j) [5] ⟨p0,p1,p2,p3,z0,z1,z2,z3,t0,t1,t2,t3⟩ (fun hHeld=>?_)
 refine bi 1 55 ?_
 refine dn 0 54 hHeld ?_
 refine dn 2 56 hHeld ?_
 refine jD 3 (some 57) (fun K hK=>?_)
 refine iN Try.func167 #[.pointer (some ⟨gs,0,none⟩),dQ j] ?_
 with_reducible refine (gz _ gs s j (HSC.out _ jU) HW.out HJ.out.1 HJ.out.2).mono ?_
 rintro e w3 ⟨rfl,hk3⟩
 refine ⟨_,rfl,?_⟩
 refine hK.out _ _ (KC.out _ _ jU hk3) (fun hHeld=>?_)
 clear hK K
 refine gF 57 ?_
 refine bi 4 58 ?_
 refine gD 5 none (fun K hK=>?_)
 refine iD ?_
 refine hK.out _ _ ?_
 clear hK K
 refine bi 6 5 ?_
 refine fO (by kernel_rfl) ?_
 go_wp2
 have h1:=au (af (Below.refl V.heap.size V)) hk3
 refine bodyPost_ret (fK rfl _ _ (gi+1) 45 #[.int .u16 j.f0,.int .u8 j.f1,.int .u8 j.f2,.int .u32 j.f3] (0,0) _ rfl (jh (ak HR.out h1) _ _ _ _) Try.underlying45 rfl (by kernel_rfl)) rfl ?_
 exact ⟨rfl,eU (au HB.out h1) (by have:=EG.out;omega) _ _ _ _⟩
theorem simp_ty (w:World) (gs:Nat) (s:St) (i j:S45) (hS:w.heap[gs]?=some (.cells (aA s) 151 (0,0))) (hw:Wst s) (hc:stB j.f0 j.f3=true) (hk:Rg j.f3) (n0:(aJ i.f0==0)=false) (n1:(aJ i.f0==1)=false) (n7:(aJ i.f0==7)=true) (n4:(aJ i.f0==4)=false) (h7:(i.f0==7)=true) (h135:(i.f0==135)=false) (v:Int) (e0:gS s 0=some v) (hj:j=⟨1,0,0,v⟩) :
 Calls Try.prog 159 #[.pointer (some ⟨gs,0,none⟩),dQ i] w fun e w'=>e = .returned (.tuple #[dQ j,.bool (!gN s j)])∧Below w.heap.size w w':=by
 have HS:=aa.mk hS
 have HW:=aa.mk hw
 have HJ:=aa.mk (And.intro hc hk)
 have HC:=aa.mk (fun W=>aC.calls (0+8) i.f0 (aJ i.f0) W (fU i.f0 0).1)
 have c0:=cY 0 hS e0 (by have:=hw.len;omega)
 have c1:=dY 1 hS e0 (by have:=hw.len;omega)
 have HJ2:=aa.mk hj
 clear hj
 clear hS hw hc hk
 unfold dQ at *
 go_enter Try.func159,Try.ntmps159
 go_upto_region 1 with (fail)
 refine forget (fun W=>∃ gi,gi=w.heap.size∧Below w.heap.size w W∧W.heap[gi]?=some (.cells #[.int .u16 i.f0,.int .u8 i.f1,.int .u8 i.f2,.int .u32 i.f3] 45 (0,0))∧W.heap[gi+1]?=some (.cells #[.int .u16 0,.int .u8 0,.int .u8 0,.int .u32 0] 45 (0,0))) ⟨_,rfl,bL _ _ _,kH _ _ _,dK _ _ _⟩ ?_
 rintro W ⟨gi,egi,hb,hi,hr⟩
 rw [←egi]
 obtain ⟨y0,y1,y2,y3,f0,f1,f2,f3⟩:=cz4 ⟨hi⟩
 have x0:W.cell? ⟨gs,0,none⟩=some (Value.bool true):=ax hb c0
 have x1:W.cell? ⟨gs,1,none⟩=some (Value.int .u32 v):=ax hb c1
 clear c0 c1
 have HB:=aa.mk hb
 have HI:=aa.mk hi
 have HR:=aa.mk hr
 have EG:=aa.mk egi
 clear hb hi hr egi
 go_upto_region 12 with (first | (go_at_call 99;refine (HC.out _).mono ?_;rintro e w' ⟨rfl,⟨nd,rfl⟩⟩))
 have hq:=aj (Below.refl W.heap.size W) nd
 refine forget (fun V=>Below w.heap.size w V∧V.heap[gs]?=some (.cells (aA s) 151 (0,0))∧V.heap[gi]?=some (.cells #[.int .u16 j.f0,.int .u8 j.f1,.int .u8 j.f2,.int .u32 j.f3] 45 (0,0))∧V.heap[gi+1]?=some (.cells #[.int .u16 0,.int .u8 0,.int .u8 0,.int .u32 0] 45 (0,0)))
  ⟨eU (au HB.out hq) (by have:=EG.out;omega) _ _ _ _,by
   have h5:=ak (ak HS.out HB.out) hq
   have hne:gs≠gi:=by have:=EG.out;have:=ay HS.out;omega
   exact jJ h5 hne,by rw [HJ2.out];exact jh (ak HI.out hq) _ _ _ _,jJ (ak HR.out hq) (by omega)⟩ ?_
 clear hq
 clear y0 y1 y2 y3 f0 f1 f2 f3 HB HS HI HR
 rintro V ⟨hb,hs,hi,hr⟩
 obtain ⟨p0,p1,p2,p3,-,-,-,-⟩:=cz4 ⟨hi⟩
 obtain ⟨z0,z1,z2,z3,t0,t1,t2,t3⟩:=cz4 ⟨hr⟩
 have HSC:aa (∀ V',Below V.heap.size V V'→V'.heap[gs]?=some (.cells (aA s) 151 (0,0))):=⟨fun V' h=>ak hs h⟩
 have KC:=aa.mk (mD hi hr)
 have HB:=aa.mk hb
 have HR:=aa.mk hr
 clear hb hs hi hr
 refine fF 7 (SJ gi j) [5] ⟨p0,p1,p2,p3,z0,z1,z2,z3,t0,t1,t2,t3⟩ (fun hHeld=>?_)
 refine bi 1 55 ?_
 refine dn 0 54 hHeld ?_
 refine dn 2 56 hHeld ?_
 refine jD 3 (some 57) (fun K hK=>?_)
 refine iN Try.func167 #[.pointer (some ⟨gs,0,none⟩),dQ j] ?_
 with_reducible refine (gz _ gs s j (HSC.out _ jU) HW.out HJ.out.1 HJ.out.2).mono ?_
 rintro e w3 ⟨rfl,hk3⟩
 refine ⟨_,rfl,?_⟩
 refine hK.out _ _ (KC.out _ _ jU hk3) (fun hHeld=>?_)
 clear hK K
 refine gF 57 ?_
 refine bi 4 58 ?_
 refine gD 5 none (fun K hK=>?_)
 refine iD ?_
 refine hK.out _ _ ?_
 clear hK K
 refine bi 6 5 ?_
 refine fO (by kernel_rfl) ?_
 go_wp2
 have h1:=au (af (Below.refl V.heap.size V)) hk3
 refine bodyPost_ret (fK rfl _ _ (gi+1) 45 #[.int .u16 j.f0,.int .u8 j.f1,.int .u8 j.f2,.int .u32 j.f3] (0,0) _ rfl (jh (ak HR.out h1) _ _ _ _) Try.underlying45 rfl (by kernel_rfl)) rfl ?_
 exact ⟨rfl,eU (au HB.out h1) (by have:=EG.out;omega) _ _ _ _⟩
theorem simp_tn (w:World) (gs:Nat) (s:St) (i j:S45) (hS:w.heap[gs]?=some (.cells (aA s) 151 (0,0))) (hw:Wst s) (hc:stB j.f0 j.f3=true) (hk:Rg j.f3) (n0:(aJ i.f0==0)=false) (n1:(aJ i.f0==1)=false) (n7:(aJ i.f0==7)=true) (n4:(aJ i.f0==4)=false) (h7:(i.f0==7)=true) (h135:(i.f0==135)=false) (e0:gS s 0=none) (hj:j=i) :
 Calls Try.prog 159 #[.pointer (some ⟨gs,0,none⟩),dQ i] w fun e w'=>e = .returned (.tuple #[dQ j,.bool (!gN s j)])∧Below w.heap.size w w':=by
 have HS:=aa.mk hS
 have HW:=aa.mk hw
 have HJ:=aa.mk (And.intro hc hk)
 have HC:=aa.mk (fun W=>aC.calls (0+8) i.f0 (aJ i.f0) W (fU i.f0 0).1)
 have c0:=cN 0 hS e0 (by have:=hw.len;omega)
 have c1:=dN 1 hS e0 (by have:=hw.len;omega)
 have HJ2:=aa.mk hj
 clear hj
 clear hS hw hc hk
 unfold dQ at *
 go_enter Try.func159,Try.ntmps159
 go_upto_region 1 with (fail)
 refine forget (fun W=>∃ gi,gi=w.heap.size∧Below w.heap.size w W∧W.heap[gi]?=some (.cells #[.int .u16 i.f0,.int .u8 i.f1,.int .u8 i.f2,.int .u32 i.f3] 45 (0,0))∧W.heap[gi+1]?=some (.cells #[.int .u16 0,.int .u8 0,.int .u8 0,.int .u32 0] 45 (0,0))) ⟨_,rfl,bL _ _ _,kH _ _ _,dK _ _ _⟩ ?_
 rintro W ⟨gi,egi,hb,hi,hr⟩
 rw [←egi]
 obtain ⟨y0,y1,y2,y3,f0,f1,f2,f3⟩:=cz4 ⟨hi⟩
 have x0:W.cell? ⟨gs,0,none⟩=some (Value.bool false):=ax hb c0
 have x1:W.cell? ⟨gs,1,none⟩=some (Value.int .u32 0):=ax hb c1
 clear c0 c1
 have HB:=aa.mk hb
 have HI:=aa.mk hi
 have HR:=aa.mk hr
 have EG:=aa.mk egi
 clear hb hi hr egi
 go_upto_region 12 with (first | (go_at_call 99;refine (HC.out _).mono ?_;rintro e w' ⟨rfl,⟨nd,rfl⟩⟩))
 have hq:=aj (Below.refl W.heap.size W) nd
 refine forget (fun V=>Below w.heap.size w V∧V.heap[gs]?=some (.cells (aA s) 151 (0,0))∧V.heap[gi]?=some (.cells #[.int .u16 j.f0,.int .u8 j.f1,.int .u8 j.f2,.int .u32 j.f3] 45 (0,0))∧V.heap[gi+1]?=some (.cells #[.int .u16 0,.int .u8 0,.int .u8 0,.int .u32 0] 45 (0,0)))
  ⟨au HB.out hq,ak (ak HS.out HB.out) hq,by rw [HJ2.out];exact ak HI.out hq,ak HR.out hq⟩ ?_
 clear hq
 clear y0 y1 y2 y3 f0 f1 f2 f3 HB HS HI HR
 rintro V ⟨hb,hs,hi,hr⟩
 obtain ⟨p0,p1,p2,p3,-,-,-,-⟩:=cz4 ⟨hi⟩
 obtain ⟨z0,z1,z2,z3,t0,t1,t2,t3⟩:=cz4 ⟨hr⟩
 have HSC:aa (∀ V',Below V.heap.size V V'→V'.heap[gs]?=some (.cells (aA s) 151 (0,0))):=⟨fun V' h=>ak hs h⟩
 have KC:=aa.mk (mD hi hr)
 have HB:=aa.mk hb
 have HR:=aa.mk hr
 clear hb hs hi hr
 refine fF 7 (SJ gi j) [5] ⟨p0,p1,p2,p3,z0,z1,z2,z3,t0,t1,t2,t3⟩ (fun hHeld=>?_)
 refine bi 1 55 ?_
 refine dn 0 54 hHeld ?_
 refine dn 2 56 hHeld ?_
 refine jD 3 (some 57) (fun K hK=>?_)
 refine iN Try.func167 #[.pointer (some ⟨gs,0,none⟩),dQ j] ?_
 with_reducible refine (gz _ gs s j (HSC.out _ jU) HW.out HJ.out.1 HJ.out.2).mono ?_
 rintro e w3 ⟨rfl,hk3⟩
 refine ⟨_,rfl,?_⟩
 refine hK.out _ _ (KC.out _ _ jU hk3) (fun hHeld=>?_)
 clear hK K
 refine gF 57 ?_
 refine bi 4 58 ?_
 refine gD 5 none (fun K hK=>?_)
 refine iD ?_
 refine hK.out _ _ ?_
 clear hK K
 refine bi 6 5 ?_
 refine fO (by kernel_rfl) ?_
 go_wp2
 have h1:=au (af (Below.refl V.heap.size V)) hk3
 refine bodyPost_ret (fK rfl _ _ (gi+1) 45 #[.int .u16 j.f0,.int .u8 j.f1,.int .u8 j.f2,.int .u32 j.f3] (0,0) _ rfl (jh (ak HR.out h1) _ _ _ _) Try.underlying45 rfl (by kernel_rfl)) rfl ?_
 exact ⟨rfl,eU (au HB.out h1) (by have:=EG.out;omega) _ _ _ _⟩
theorem simp_xy (w:World) (gs:Nat) (s:St) (i j:S45) (hS:w.heap[gs]?=some (.cells (aA s) 151 (0,0))) (hw:Wst s) (hc:stB j.f0 j.f3=true) (hk:Rg j.f3) (n0:(aJ i.f0==0)=false) (n1:(aJ i.f0==1)=false) (n7:(aJ i.f0==7)=true) (n4:(aJ i.f0==4)=false) (h7:(i.f0==7)=false) (h135:(i.f0==135)=true) (v:Int) (e0:gS s 1=some v) (hj:j=⟨0,0,0,v⟩) :
 Calls Try.prog 159 #[.pointer (some ⟨gs,0,none⟩),dQ i] w fun e w'=>e = .returned (.tuple #[dQ j,.bool (!gN s j)])∧Below w.heap.size w w':=by
 have HS:=aa.mk hS
 have HW:=aa.mk hw
 have HJ:=aa.mk (And.intro hc hk)
 have HC:=aa.mk (fun W=>aC.calls (0+8) i.f0 (aJ i.f0) W (fU i.f0 0).1)
 have c0:=cY 2 hS e0 (by have:=hw.len;omega)
 have c1:=dY 3 hS e0 (by have:=hw.len;omega)
 have HJ2:=aa.mk hj
 clear hj
 clear hS hw hc hk
 unfold dQ at *
 go_enter Try.func159,Try.ntmps159
 go_upto_region 1 with (fail)
 refine forget (fun W=>∃ gi,gi=w.heap.size∧Below w.heap.size w W∧W.heap[gi]?=some (.cells #[.int .u16 i.f0,.int .u8 i.f1,.int .u8 i.f2,.int .u32 i.f3] 45 (0,0))∧W.heap[gi+1]?=some (.cells #[.int .u16 0,.int .u8 0,.int .u8 0,.int .u32 0] 45 (0,0))) ⟨_,rfl,bL _ _ _,kH _ _ _,dK _ _ _⟩ ?_
 rintro W ⟨gi,egi,hb,hi,hr⟩
 rw [←egi]
 obtain ⟨y0,y1,y2,y3,f0,f1,f2,f3⟩:=cz4 ⟨hi⟩
 have x0:W.cell? ⟨gs,2,none⟩=some (Value.bool true):=ax hb c0
 have x1:W.cell? ⟨gs,3,none⟩=some (Value.int .u32 v):=ax hb c1
 clear c0 c1
 have HB:=aa.mk hb
 have HI:=aa.mk hi
 have HR:=aa.mk hr
 have EG:=aa.mk egi
 clear hb hi hr egi
 go_upto_region 12 with (first | (go_at_call 99;refine (HC.out _).mono ?_;rintro e w' ⟨rfl,⟨nd,rfl⟩⟩))
 have hq:=aj (Below.refl W.heap.size W) nd
 refine forget (fun V=>Below w.heap.size w V∧V.heap[gs]?=some (.cells (aA s) 151 (0,0))∧V.heap[gi]?=some (.cells #[.int .u16 j.f0,.int .u8 j.f1,.int .u8 j.f2,.int .u32 j.f3] 45 (0,0))∧V.heap[gi+1]?=some (.cells #[.int .u16 0,.int .u8 0,.int .u8 0,.int .u32 0] 45 (0,0)))
  ⟨eU (au HB.out hq) (by have:=EG.out;omega) _ _ _ _,by
   have h5:=ak (ak HS.out HB.out) hq
   have hne:gs≠gi:=by have:=EG.out;have:=ay HS.out;omega
   exact jJ h5 hne,by rw [HJ2.out];exact jh (ak HI.out hq) _ _ _ _,jJ (ak HR.out hq) (by omega)⟩ ?_
 clear hq
 clear y0 y1 y2 y3 f0 f1 f2 f3 HB HS HI HR
 rintro V ⟨hb,hs,hi,hr⟩
 obtain ⟨p0,p1,p2,p3,-,-,-,-⟩:=cz4 ⟨hi⟩
 obtain ⟨z0,z1,z2,z3,t0,t1,t2,t3⟩:=cz4 ⟨hr⟩
 have HSC:aa (∀ V',Below V.heap.size V V'→V'.heap[gs]?=some (.cells (aA s) 151 (0,0))):=⟨fun V' h=>ak hs h⟩
 have KC:=aa.mk (mD hi hr)
 have HB:=aa.mk hb
 have HR:=aa.mk hr
 clear hb hs hi hr
 refine fF 7 (SJ gi j) [5] ⟨p0,p1,p2,p3,z0,z1,z2,z3,t0,t1,t2,t3⟩ (fun hHeld=>?_)
 refine bi 1 55 ?_
 refine dn 0 54 hHeld ?_
 refine dn 2 56 hHeld ?_
 refine jD 3 (some 57) (fun K hK=>?_)
 refine iN Try.func167 #[.pointer (some ⟨gs,0,none⟩),dQ j] ?_
 with_reducible refine (gz _ gs s j (HSC.out _ jU) HW.out HJ.out.1 HJ.out.2).mono ?_
 rintro e w3 ⟨rfl,hk3⟩
 refine ⟨_,rfl,?_⟩
 refine hK.out _ _ (KC.out _ _ jU hk3) (fun hHeld=>?_)
 clear hK K
 refine gF 57 ?_
 refine bi 4 58 ?_
 refine gD 5 none (fun K hK=>?_)
 refine iD ?_
 refine hK.out _ _ ?_
 clear hK K
 refine bi 6 5 ?_
 refine fO (by kernel_rfl) ?_
 go_wp2
 have h1:=au (af (Below.refl V.heap.size V)) hk3
 refine bodyPost_ret (fK rfl _ _ (gi+1) 45 #[.int .u16 j.f0,.int .u8 j.f1,.int .u8 j.f2,.int .u32 j.f3] (0,0) _ rfl (jh (ak HR.out h1) _ _ _ _) Try.underlying45 rfl (by kernel_rfl)) rfl ?_
 exact ⟨rfl,eU (au HB.out h1) (by have:=EG.out;omega) _ _ _ _⟩
theorem simp_xn (w:World) (gs:Nat) (s:St) (i j:S45) (hS:w.heap[gs]?=some (.cells (aA s) 151 (0,0))) (hw:Wst s) (hc:stB j.f0 j.f3=true) (hk:Rg j.f3) (n0:(aJ i.f0==0)=false) (n1:(aJ i.f0==1)=false) (n7:(aJ i.f0==7)=true) (n4:(aJ i.f0==4)=false) (h7:(i.f0==7)=false) (h135:(i.f0==135)=true) (e0:gS s 1=none) (hj:j=i) :
 Calls Try.prog 159 #[.pointer (some ⟨gs,0,none⟩),dQ i] w fun e w'=>e = .returned (.tuple #[dQ j,.bool (!gN s j)])∧Below w.heap.size w w':=by
 have HS:=aa.mk hS
 have HW:=aa.mk hw
 have HJ:=aa.mk (And.intro hc hk)
 have HC:=aa.mk (fun W=>aC.calls (0+8) i.f0 (aJ i.f0) W (fU i.f0 0).1)
 have c0:=cN 2 hS e0 (by have:=hw.len;omega)
 have c1:=dN 3 hS e0 (by have:=hw.len;omega)
 have HJ2:=aa.mk hj
 clear hj
 clear hS hw hc hk
 unfold dQ at *
 go_enter Try.func159,Try.ntmps159
 go_upto_region 1 with (fail)
 refine forget (fun W=>∃ gi,gi=w.heap.size∧Below w.heap.size w W∧W.heap[gi]?=some (.cells #[.int .u16 i.f0,.int .u8 i.f1,.int .u8 i.f2,.int .u32 i.f3] 45 (0,0))∧W.heap[gi+1]?=some (.cells #[.int .u16 0,.int .u8 0,.int .u8 0,.int .u32 0] 45 (0,0))) ⟨_,rfl,bL _ _ _,kH _ _ _,dK _ _ _⟩ ?_
 rintro W ⟨gi,egi,hb,hi,hr⟩
 rw [←egi]
 obtain ⟨y0,y1,y2,y3,f0,f1,f2,f3⟩:=cz4 ⟨hi⟩
 have x0:W.cell? ⟨gs,2,none⟩=some (Value.bool false):=ax hb c0
 have x1:W.cell? ⟨gs,3,none⟩=some (Value.int .u32 0):=ax hb c1
 clear c0 c1
 have HB:=aa.mk hb
 have HI:=aa.mk hi
 have HR:=aa.mk hr
 have EG:=aa.mk egi
 clear hb hi hr egi
 go_upto_region 12 with (first | (go_at_call 99;refine (HC.out _).mono ?_;rintro e w' ⟨rfl,⟨nd,rfl⟩⟩))
 have hq:=aj (Below.refl W.heap.size W) nd
 refine forget (fun V=>Below w.heap.size w V∧V.heap[gs]?=some (.cells (aA s) 151 (0,0))∧V.heap[gi]?=some (.cells #[.int .u16 j.f0,.int .u8 j.f1,.int .u8 j.f2,.int .u32 j.f3] 45 (0,0))∧V.heap[gi+1]?=some (.cells #[.int .u16 0,.int .u8 0,.int .u8 0,.int .u32 0] 45 (0,0)))
  ⟨au HB.out hq,ak (ak HS.out HB.out) hq,by rw [HJ2.out];exact ak HI.out hq,ak HR.out hq⟩ ?_
 clear hq
 clear y0 y1 y2 y3 f0 f1 f2 f3 HB HS HI HR
 rintro V ⟨hb,hs,hi,hr⟩
 obtain ⟨p0,p1,p2,p3,-,-,-,-⟩:=cz4 ⟨hi⟩
 obtain ⟨z0,z1,z2,z3,t0,t1,t2,t3⟩:=cz4 ⟨hr⟩
 have HSC:aa (∀ V',Below V.heap.size V V'→V'.heap[gs]?=some (.cells (aA s) 151 (0,0))):=⟨fun V' h=>ak hs h⟩
 have KC:=aa.mk (mD hi hr)
 have HB:=aa.mk hb
 have HR:=aa.mk hr
 clear hb hs hi hr
 refine fF 7 (SJ gi j) [5] ⟨p0,p1,p2,p3,z0,z1,z2,z3,t0,t1,t2,t3⟩ (fun hHeld=>?_)
 refine bi 1 55 ?_
 refine dn 0 54 hHeld ?_
 refine dn 2 56 hHeld ?_
 refine jD 3 (some 57) (fun K hK=>?_)
 refine iN Try.func167 #[.pointer (some ⟨gs,0,none⟩),dQ j] ?_
 with_reducible refine (gz _ gs s j (HSC.out _ jU) HW.out HJ.out.1 HJ.out.2).mono ?_
 rintro e w3 ⟨rfl,hk3⟩
 refine ⟨_,rfl,?_⟩
 refine hK.out _ _ (KC.out _ _ jU hk3) (fun hHeld=>?_)
 clear hK K
 refine gF 57 ?_
 refine bi 4 58 ?_
 refine gD 5 none (fun K hK=>?_)
 refine iD ?_
 refine hK.out _ _ ?_
 clear hK K
 refine bi 6 5 ?_
 refine fO (by kernel_rfl) ?_
 go_wp2
 have h1:=au (af (Below.refl V.heap.size V)) hk3
 refine bodyPost_ret (fK rfl _ _ (gi+1) 45 #[.int .u16 j.f0,.int .u8 j.f1,.int .u8 j.f2,.int .u32 j.f3] (0,0) _ rfl (jh (ak HR.out h1) _ _ _ _) Try.underlying45 rfl (by kernel_rfl)) rfl ?_
 exact ⟨rfl,eU (au HB.out h1) (by have:=EG.out;omega) _ _ _ _⟩
theorem gL {a b:Int} (h:a=b):(a==b)=true:=beq_iff_eq.mpr h
theorem pq (w:World) (gs:Nat) (s:St) (i:S45) (hS:w.heap[gs]?=some (.cells (aA s) 151 (0,0))) (hw:Wst s) (hc:stB i.f0 i.f3=true) (hk:Rg i.f3) :
 Calls Try.prog 159 #[.pointer (some ⟨gs,0,none⟩),dQ i] w fun e w'=>e = .returned (.tuple #[dQ (bW s i),.bool (!gN s (bW s i))])∧Below w.heap.size w w':=by
 obtain ⟨hm,_⟩:=fM hc
 obtain ⟨c0,c1,c2,c3,c4,c5,c6,c7,c8⟩:=sG i.f0 hm
 obtain ⟨jc,jk⟩:=nK hw hc hk
 have hld:i.f0∈ldL↔aJ i.f0=0∨aJ i.f0=1:=by
  rw [c0,c1]
  simp only [ldL,List.mem_cons,List.not_mem_nil,or_false]
  omega
 by_cases q1:i.f0∈ldL
 · have ej:bW s i=mI s i:=by unfold bW;rw [if_pos q1]
   rw [ej] at jc jk ⊢
   have hl:=fun (W':World) h=>sW W' gs s i h hw hc hk
   by_cases q0:aJ i.f0=0
   · exact simp_l0 w gs s i (mI s i) hS hw jc jk (gL q0) hl
   have q2:=(hld.1 q1).resolve_left q0
   exact simp_l1 w gs s i (mI s i) hS hw jc jk (aX q0) (gL q2) (aX (by omega)) (aX (by omega)) hl
 have n0:aJ i.f0≠0:=fun h=>q1 (hld.2 (.inl h))
 have n1:aJ i.f0≠1:=fun h=>q1 (hld.2 (.inr h))
 by_cases q2:i.f0=7∨i.f0=135
 · have h7:=c7.2 q2
   have ej:bW s i=mK s i:=by unfold bW;rw [if_neg q1,if_pos q2]
   rw [ej] at jc jk ⊢
   by_cases q7:i.f0=7
   · cases e:gS s 0 with
     | some v=>exact simp_ty w gs s i _ hS hw jc jk (aX n0) (aX n1) (gL h7) (aX (by omega)) (gL q7) (aX (by omega)) v e (by unfold mK;rw [if_pos q7,e])
     | none=>exact simp_tn w gs s i _ hS hw jc jk (aX n0) (aX n1) (gL h7) (aX (by omega)) (gL q7) (aX (by omega)) e (by unfold mK;rw [if_pos q7,e])
   have q135:=q2.resolve_left q7
   cases e:gS s 1 with
   | some v=>exact simp_xy w gs s i _ hS hw jc jk (aX n0) (aX n1) (gL h7) (aX (by omega)) (aX q7) (gL q135) v e (by unfold mK;rw [if_neg q7,e])
   | none=>exact simp_xn w gs s i _ hS hw jc jk (aX n0) (aX n1) (gL h7) (aX (by omega)) (aX q7) (gL q135) e (by unfold mK;rw [if_neg q7,e])
 have n7:aJ i.f0≠7:=fun h=>q2 (c7.1 h)
 by_cases q3:i.f0=132∨i.f0∈dO∨i.f0∈eZ
 · have h4:=c4.2 q3
   have ej:bW s i=sw s i:=by unfold bW;rw [if_neg q1,if_neg q2,if_pos q3]
   rw [ej] at jc jk ⊢
   exact simp_a w gs s i (sw s i) hS hw jc jk (aX n0) (aX n1) (aX n7) (gL h4) (fun (W':World) h=>vv W' gs s i h hw hc hk q3)
 have n4:aJ i.f0≠4:=fun h=>q3 (c4.1 h)
 have ej:bW s i=i:=by unfold bW;rw [if_neg q1,if_neg q2,if_neg q3]
 rw [ej]
 exact simp_o w gs s i hS hw hc hk (aX n0) (aX n1) (aX n7) (aX n4)
theorem iF {s:St} {i:Nat} (o:Option Int) (h:i<s.length):((aA s).setIfInBounds (i*2) (.bool o.isSome)).setIfInBounds (i*2+1) (.int .u32 (o.getD 0))=aA (s.set i o):=by rw [Nat.mul_comm];exact sc_set o h
theorem after_7 (w:World) (gs:Nat) (s:St) (i1 i2:Int) (k:Int) (hS:w.heap[gs]?=some (.cells (aA s) 151 (0,0))) (hl:s.length=18) :
 Calls Try.prog 160 #[.pointer (some ⟨gs,0,none⟩),.agg #[.int .u16 7,.int .u8 i1,.int .u8 i2,.int .u32 k]] w fun e w'=>e = .returned (.tuple #[])∧w'.heap[gs]?=some (.cells (aA (s.set 1 (gS s 0))) 151 (0,0))∧Kp (fun k=>k=gs) w w':=by
 have c0:w.cell? ⟨gs,0,none⟩=_:=(ae hS (0*2)).trans (bQ (s:=s) (i:=0) (by omega))
 have c1:w.cell? ⟨gs,1,none⟩=_:=(ae hS (0*2+1)).trans (cu (s:=s) (i:=0) (by omega))
 have d0:w.cell? ⟨gs,2,none⟩=_:=(ae hS (1*2)).trans (bQ (s:=s) (i:=1) (by omega))
 have d1:w.cell? ⟨gs,3,none⟩=_:=(ae hS (1*2+1)).trans (cu (s:=s) (i:=1) (by omega))
 have f0:w.frozen? ⟨gs,2,none⟩=false:=ah hS (1*2)
 have f1:w.frozen? ⟨gs,3,none⟩=false:=ah hS (1*2+1)
 have hlt:=ay hS
 have HS:=aa.mk hS
 clear hS
 go_enter Try.func160,Try.ntmps160
 go_wp2
 go_region
 go_wp2
 go_end0
 exact ⟨rfl,ak (aI (aI HS.out (1*2) _ rfl) (1*2+1) _ (iF (i:=1) (gS s 0) (by omega))) (af (ai (Below.refl _ _) _)),
  (Kp.set (S:=fun k=>k=gs) (g:=gs) (Kp.set (S:=fun k=>k=gs) (g:=gs) (Kp.refl _ w) (.inl rfl) _ _) (.inl rfl) _ _).below (af (ai (Below.refl _ _) _))⟩
theorem vg (w:World) (gs:Nat) (s:St) (i1 i2:Int) (k:Int) (hS:w.heap[gs]?=some (.cells (aA s) 151 (0,0))) (hl:s.length=18) :
 Calls Try.prog 160 #[.pointer (some ⟨gs,0,none⟩),.agg #[.int .u16 135,.int .u8 i1,.int .u8 i2,.int .u32 k]] w fun e w'=>e = .returned (.tuple #[])∧w'.heap[gs]?=some (.cells (aA (s.set 0 (gS s 1))) 151 (0,0))∧Kp (fun k=>k=gs) w w':=by
 have c0:w.cell? ⟨gs,2,none⟩=_:=(ae hS (1*2)).trans (bQ (s:=s) (i:=1) (by omega))
 have c1:w.cell? ⟨gs,3,none⟩=_:=(ae hS (1*2+1)).trans (cu (s:=s) (i:=1) (by omega))
 have d0:w.cell? ⟨gs,0,none⟩=_:=(ae hS (0*2)).trans (bQ (s:=s) (i:=0) (by omega))
 have d1:w.cell? ⟨gs,1,none⟩=_:=(ae hS (0*2+1)).trans (cu (s:=s) (i:=0) (by omega))
 have f0:w.frozen? ⟨gs,0,none⟩=false:=ah hS (0*2)
 have f1:w.frozen? ⟨gs,1,none⟩=false:=ah hS (0*2+1)
 have hlt:=ay hS
 have HS:=aa.mk hS
 clear hS
 go_enter Try.func160,Try.ntmps160
 go_wp2
 go_region
 go_wp2
 go_end0
 exact ⟨rfl,ak (aI (aI HS.out (0*2) _ rfl) (0*2+1) _ (iF (i:=0) (gS s 1) (by omega))) (af (ai (Below.refl _ _) _)),
  (Kp.set (S:=fun k=>k=gs) (g:=gs) (Kp.set (S:=fun k=>k=gs) (g:=gs) (Kp.refl _ w) (.inl rfl) _ _) (.inl rfl) _ _).below (af (ai (Below.refl _ _) _))⟩
theorem after_2 (w:World) (gs:Nat) (s:St) (i1 i2:Int) (k:Nat) (hS:w.heap[gs]?=some (.cells (aA s) 151 (0,0))) (hl:s.length=18) (hk:k<16) :
 Calls Try.prog 160 #[.pointer (some ⟨gs,0,none⟩),.agg #[.int .u16 2,.int .u8 i1,.int .u8 i2,.int .u32 (k:Int)]] w fun e w'=>e = .returned (.tuple #[])∧w'.heap[gs]?=some (.cells (aA (s.set (2+k) (gS s 0))) 151 (0,0))∧Kp (fun k=>k=gs) w w':=by
 have c0:w.cell? ⟨gs,0,none⟩=_:=(ae hS (0*2)).trans (bQ (s:=s) (i:=0) (by omega))
 have c1:w.cell? ⟨gs,1,none⟩=_:=(ae hS (0*2+1)).trans (cu (s:=s) (i:=0) (by omega))
 have d0:w.cell? ⟨gs,(2+k)*2,none⟩=_:=(ae hS ((2+k)*2)).trans (bQ (s:=s) (i:=(2+k)) (by omega))
 have d1:w.cell? ⟨gs,(2+k)*2+1,none⟩=_:=(ae hS ((2+k)*2+1)).trans (cu (s:=s) (i:=(2+k)) (by omega))
 have f0:w.frozen? ⟨gs,(2+k)*2,none⟩=false:=ah hS ((2+k)*2)
 have f1:w.frozen? ⟨gs,(2+k)*2+1,none⟩=false:=ah hS ((2+k)*2+1)
 have hlt:=ay hS
 have HS:=aa.mk hS
 clear hS
 go_enter Try.func160,Try.ntmps160
 go_wp2
 go_region
 go_wp2
 go_end0
 exact ⟨rfl,ak (aI (aI HS.out ((2+k)*2) _ rfl) ((2+k)*2+1) _ (iF (i:=(2+k)) (gS s 0) (by omega))) (af (ai (Below.refl _ _) _)),
  (Kp.set (S:=fun k=>k=gs) (g:=gs) (Kp.set (S:=fun k=>k=gs) (g:=gs) (Kp.refl _ w) (.inl rfl) _ _) (.inl rfl) _ _).below (af (ai (Below.refl _ _) _))⟩
theorem after_3 (w:World) (gs:Nat) (s:St) (i1 i2:Int) (k:Nat) (hS:w.heap[gs]?=some (.cells (aA s) 151 (0,0))) (hl:s.length=18) (hk:k<16) :
 Calls Try.prog 160 #[.pointer (some ⟨gs,0,none⟩),.agg #[.int .u16 3,.int .u8 i1,.int .u8 i2,.int .u32 (k:Int)]] w fun e w'=>e = .returned (.tuple #[])∧w'.heap[gs]?=some (.cells (aA (s.set (2+k) (gS s 1))) 151 (0,0))∧Kp (fun k=>k=gs) w w':=by
 have c0:w.cell? ⟨gs,2,none⟩=_:=(ae hS (1*2)).trans (bQ (s:=s) (i:=1) (by omega))
 have c1:w.cell? ⟨gs,3,none⟩=_:=(ae hS (1*2+1)).trans (cu (s:=s) (i:=1) (by omega))
 have d0:w.cell? ⟨gs,(2+k)*2,none⟩=_:=(ae hS ((2+k)*2)).trans (bQ (s:=s) (i:=(2+k)) (by omega))
 have d1:w.cell? ⟨gs,(2+k)*2+1,none⟩=_:=(ae hS ((2+k)*2+1)).trans (cu (s:=s) (i:=(2+k)) (by omega))
 have f0:w.frozen? ⟨gs,(2+k)*2,none⟩=false:=ah hS ((2+k)*2)
 have f1:w.frozen? ⟨gs,(2+k)*2+1,none⟩=false:=ah hS ((2+k)*2+1)
 have hlt:=ay hS
 have HS:=aa.mk hS
 clear hS
 go_enter Try.func160,Try.ntmps160
 go_wp2
 go_region
 go_wp2
 go_end0
 exact ⟨rfl,ak (aI (aI HS.out ((2+k)*2) _ rfl) ((2+k)*2+1) _ (iF (i:=(2+k)) (gS s 1) (by omega))) (af (ai (Below.refl _ _) _)),
  (Kp.set (S:=fun k=>k=gs) (g:=gs) (Kp.set (S:=fun k=>k=gs) (g:=gs) (Kp.refl _ w) (.inl rfl) _ _) (.inl rfl) _ _).below (af (ai (Below.refl _ _) _))⟩
theorem after_x (w:World) (gs:Nat) (s:St) (c i1 i2 k:Int) (hS:w.heap[gs]?=some (.cells (aA s) 151 (0,0))) (hl:s.length=18)
 (n0:(c==0)=false) (n1:(c==1)=false) (n2:(c==2)=false) (n3:(c==3)=false) (n7:(c==7)=false) (n135:(c==135)=false) (hx:(aJ c==1)=true) :
 Calls Try.prog 160 #[.pointer (some ⟨gs,0,none⟩),.agg #[.int .u16 c,.int .u8 i1,.int .u8 i2,.int .u32 k]] w fun e w'=>e = .returned (.tuple #[])∧w'.heap[gs]?=some (.cells (aA (s.set 1 none)) 151 (0,0))∧Kp (fun k=>k=gs) w w':=by
 have d0:w.cell? ⟨gs,2,none⟩=_:=(ae hS (1*2)).trans (bQ (s:=s) (i:=1) (by omega))
 have d1:w.cell? ⟨gs,3,none⟩=_:=(ae hS (1*2+1)).trans (cu (s:=s) (i:=1) (by omega))
 have f0:w.frozen? ⟨gs,2,none⟩=false:=ah hS (1*2)
 have f1:w.frozen? ⟨gs,3,none⟩=false:=ah hS (1*2+1)
 have hlt:=ay hS
 have HS:=aa.mk hS
 have HC:=aa.mk (fun W=>aC.calls (0+8) c (aJ c) W (fU c 0).1)
 clear hS
 go_enter Try.func160,Try.ntmps160
 go_wp2_with (go_at_call 99;refine (HC.out _).mono ?_;rintro e w' ⟨rfl,⟨nd,rfl⟩⟩)
 go_end0
 exact ⟨rfl,aI (aI (ak HS.out bel2) (1*2) _ rfl) (1*2+1) _ (iF (i:=1) none (by omega)),
  Kp.set (S:=fun k=>k=gs) (g:=gs) (Kp.set (S:=fun k=>k=gs) (g:=gs) ((Kp.refl _ w).below bel2) (.inl rfl) _ _) (.inl rfl) _ _⟩
theorem after_o (w:World) (gs:Nat) (s:St) (c i1 i2 k:Int) (hS:w.heap[gs]?=some (.cells (aA s) 151 (0,0))) (hl:s.length=18)
 (n0:(c==0)=false) (n1:(c==1)=false) (n2:(c==2)=false) (n3:(c==3)=false) (n7:(c==7)=false) (n135:(c==135)=false) (hx:(aJ c==1)=false) :
 Calls Try.prog 160 #[.pointer (some ⟨gs,0,none⟩),.agg #[.int .u16 c,.int .u8 i1,.int .u8 i2,.int .u32 k]] w fun e w'=>e = .returned (.tuple #[])∧w'.heap[gs]?=some (.cells (aA (s.set 0 none)) 151 (0,0))∧Kp (fun k=>k=gs) w w':=by
 have d0:w.cell? ⟨gs,0,none⟩=_:=(ae hS (0*2)).trans (bQ (s:=s) (i:=0) (by omega))
 have d1:w.cell? ⟨gs,1,none⟩=_:=(ae hS (0*2+1)).trans (cu (s:=s) (i:=0) (by omega))
 have f0:w.frozen? ⟨gs,0,none⟩=false:=ah hS (0*2)
 have f1:w.frozen? ⟨gs,1,none⟩=false:=ah hS (0*2+1)
 have hlt:=ay hS
 have HS:=aa.mk hS
 have HC:=aa.mk (fun W=>aC.calls (0+8) c (aJ c) W (fU c 0).1)
 clear hS
 go_enter Try.func160,Try.ntmps160
 go_wp2_with (go_at_call 99;refine (HC.out _).mono ?_;rintro e w' ⟨rfl,⟨nd,rfl⟩⟩)
 go_end0
 exact ⟨rfl,aI (aI (ak HS.out bel2) (0*2) _ rfl) (0*2+1) _ (iF (i:=0) none (by omega)),
  Kp.set (S:=fun k=>k=gs) (g:=gs) (Kp.set (S:=fun k=>k=gs) (g:=gs) ((Kp.refl _ w).below bel2) (.inl rfl) _ _) (.inl rfl) _ _⟩
theorem after_0 (w:World) (gs:Nat) (s:St) (i1 i2 k:Int) (hS:w.heap[gs]?=some (.cells (aA s) 151 (0,0))) (hl:s.length=18) :
 Calls Try.prog 160 #[.pointer (some ⟨gs,0,none⟩),.agg #[.int .u16 0,.int .u8 i1,.int .u8 i2,.int .u32 k]] w fun e w'=>e = .returned (.tuple #[])∧w'.heap[gs]?=some (.cells (aA (s.set 0 (some k))) 151 (0,0))∧Kp (fun k=>k=gs) w w':=by
 have HS:=aa.mk hS
 clear hS
 go_enter Try.func160,Try.ntmps160
 go_upto_region 6 with (fail)
 refine forget (fun W=>∃ gi,gi=w.heap.size∧Below w.heap.size w W∧W.heap[gi]?=some (.cells #[.int .u16 0,.int .u8 i1,.int .u8 i2,.int .u32 k] 45 (0,0))) ⟨_,rfl,ai (Below.refl _ _) _,heap_alloc_new _ _⟩ ?_
 rintro W ⟨gi,egi,hb,hi⟩
 rw [←egi]
 have hs:=ak HS.out hb
 have y3:=d9 hi 3
 have d0:W.cell? ⟨gs,0,none⟩=_:=(ae hs (0*2)).trans (bQ (s:=s) (i:=0) (by omega))
 have d1:W.cell? ⟨gs,1,none⟩=_:=(ae hs (0*2+1)).trans (cu (s:=s) (i:=0) (by omega))
 have f0:W.frozen? ⟨gs,0,none⟩=false:=ah hs (0*2)
 have f1:W.frozen? ⟨gs,1,none⟩=false:=ah hs (0*2+1)
 generalize (gS s 0).isSome=ob at d0
 generalize (gS s 0).getD 0=ov at d1
 have KC:aa (∀ V' V'',Below W.heap.size W V'→Below V'.heap.size V' V''→V''.cell? ⟨gi,3,none⟩=some (.int .u32 k)∧V''.cell? ⟨gs,0,none⟩=some (.bool ob)∧V''.cell? ⟨gs,1,none⟩=some (.int .u32 ov)∧V''.frozen? ⟨gs,0,none⟩=false∧V''.frozen? ⟨gs,1,none⟩=false):=
  ⟨fun V' V'' h1 h2=>⟨ax h2 (ax h1 y3),ax h2 (ax h1 d0),ax h2 (ax h1 d1),ah (ak (ak hs h1) h2) 0,ah (ak (ak hs h1) h2) 1⟩⟩
 have HB:=aa.mk hb
 have HS2:=aa.mk hs
 have EG:=aa.mk egi
 clear hb hi hs egi
 refine fF 7 (fun w'=>w'.cell? ⟨gi,3,none⟩=some (.int .u32 k)∧w'.cell? ⟨gs,0,none⟩=some (.bool ob)∧w'.cell? ⟨gs,1,none⟩=some (.int .u32 ov)∧w'.frozen? ⟨gs,0,none⟩=false∧w'.frozen? ⟨gs,1,none⟩=false) [6] ⟨y3,d0,d1,f0,f1⟩ (fun hHeld=>?_)
 refine bi 0 20 ?_
 refine bi 1 21 ?_
 refine bi 4 24 ?_
 refine dn 2 22 hHeld ?_
 refine jD 3 (some 23) (fun K hK=>?_)
 refine iN Try.func125 #[.int .u32 k] ?_
 with_reducible refine (PA.fP.calls k true k _ rfl).mono ?_
 rintro e w3 ⟨rfl,hk3⟩
 refine ⟨_,rfl,?_⟩
 refine hK.out _ _ (KC.out _ _ jU hk3) (fun hHeld=>?_)
 clear hK K
 refine gF 23 ?_
 refine bi 5 25 ?_
 refine gD 6 none (fun K hK=>?_)
 refine iD ?_
 refine hK.out _ _ ?_
 clear hK K
 refine fO (by kernel_rfl) ?_
 go_wp2
 go_end0
 have h1:=au (af (Below.refl W.heap.size W)) hk3
 exact ⟨rfl,aI (aI (ak HS2.out h1) (0*2) _ rfl) (0*2+1) _ (iF (i:=0) (some k) (by omega)),
  Kp.set (S:=fun k=>k=gs) (g:=gs) (Kp.set (S:=fun k=>k=gs) (g:=gs) ((Kp.refl _ w).below (au HB.out h1)) (.inl rfl) _ _) (.inl rfl) _ _⟩
theorem after_1 (w:World) (gs:Nat) (s:St) (i1 i2 k:Int) (hS:w.heap[gs]?=some (.cells (aA s) 151 (0,0))) (hl:s.length=18) :
 Calls Try.prog 160 #[.pointer (some ⟨gs,0,none⟩),.agg #[.int .u16 1,.int .u8 i1,.int .u8 i2,.int .u32 k]] w fun e w'=>e = .returned (.tuple #[])∧w'.heap[gs]?=some (.cells (aA (s.set 1 (some k))) 151 (0,0))∧Kp (fun k=>k=gs) w w':=by
 have HS:=aa.mk hS
 clear hS
 go_enter Try.func160,Try.ntmps160
 go_upto_region 8 with (fail)
 refine forget (fun W=>∃ gi,gi=w.heap.size∧Below w.heap.size w W∧W.heap[gi]?=some (.cells #[.int .u16 1,.int .u8 i1,.int .u8 i2,.int .u32 k] 45 (0,0))) ⟨_,rfl,ai (Below.refl _ _) _,heap_alloc_new _ _⟩ ?_
 rintro W ⟨gi,egi,hb,hi⟩
 rw [←egi]
 have hs:=ak HS.out hb
 have y3:=d9 hi 3
 have d0:W.cell? ⟨gs,2,none⟩=_:=(ae hs (1*2)).trans (bQ (s:=s) (i:=1) (by omega))
 have d1:W.cell? ⟨gs,3,none⟩=_:=(ae hs (1*2+1)).trans (cu (s:=s) (i:=1) (by omega))
 have f0:W.frozen? ⟨gs,2,none⟩=false:=ah hs (1*2)
 have f1:W.frozen? ⟨gs,3,none⟩=false:=ah hs (1*2+1)
 generalize (gS s 1).isSome=ob at d0
 generalize (gS s 1).getD 0=ov at d1
 have KC:aa (∀ V' V'',Below W.heap.size W V'→Below V'.heap.size V' V''→V''.cell? ⟨gi,3,none⟩=some (.int .u32 k)∧V''.cell? ⟨gs,2,none⟩=some (.bool ob)∧V''.cell? ⟨gs,3,none⟩=some (.int .u32 ov)∧V''.frozen? ⟨gs,2,none⟩=false∧V''.frozen? ⟨gs,3,none⟩=false):=
  ⟨fun V' V'' h1 h2=>⟨ax h2 (ax h1 y3),ax h2 (ax h1 d0),ax h2 (ax h1 d1),ah (ak (ak hs h1) h2) 2,ah (ak (ak hs h1) h2) 3⟩⟩
 have HB:=aa.mk hb
 have HS2:=aa.mk hs
 have EG:=aa.mk egi
 clear hb hi hs egi
 refine fF 7 (fun w'=>w'.cell? ⟨gi,3,none⟩=some (.int .u32 k)∧w'.cell? ⟨gs,2,none⟩=some (.bool ob)∧w'.cell? ⟨gs,3,none⟩=some (.int .u32 ov)∧w'.frozen? ⟨gs,2,none⟩=false∧w'.frozen? ⟨gs,3,none⟩=false) [6] ⟨y3,d0,d1,f0,f1⟩ (fun hHeld=>?_)
 refine bi 0 28 ?_
 refine bi 1 29 ?_
 refine bi 4 32 ?_
 refine dn 2 30 hHeld ?_
 refine jD 3 (some 31) (fun K hK=>?_)
 refine iN Try.func125 #[.int .u32 k] ?_
 with_reducible refine (PA.fP.calls k true k _ rfl).mono ?_
 rintro e w3 ⟨rfl,hk3⟩
 refine ⟨_,rfl,?_⟩
 refine hK.out _ _ (KC.out _ _ jU hk3) (fun hHeld=>?_)
 clear hK K
 refine gF 31 ?_
 refine bi 5 33 ?_
 refine gD 6 none (fun K hK=>?_)
 refine iD ?_
 refine hK.out _ _ ?_
 clear hK K
 refine fO (by kernel_rfl) ?_
 go_wp2
 go_end0
 have h1:=au (af (Below.refl W.heap.size W)) hk3
 exact ⟨rfl,aI (aI (ak HS2.out h1) (1*2) _ rfl) (1*2+1) _ (iF (i:=1) (some k) (by omega)),
  Kp.set (S:=fun k=>k=gs) (g:=gs) (Kp.set (S:=fun k=>k=gs) (g:=gs) ((Kp.refl _ w).below (au HB.out h1)) (.inl rfl) _ _) (.inl rfl) _ _⟩
theorem q8 (w:World) (gs:Nat) (s:St) (i:S45) (hS:w.heap[gs]?=some (.cells (aA s) 151 (0,0))) (hl:s.length=18) (hc:stB i.f0 i.f3=true) (hk:Rg i.f3) :
 Calls Try.prog 160 #[.pointer (some ⟨gs,0,none⟩),dQ i] w fun e w'=>e = .returned (.tuple #[])∧w'.heap[gs]?=some (.cells (aA (dW s i)) 151 (0,0))∧Kp (fun k=>k=gs) w w':=by
 obtain ⟨hm,h16,_,_⟩:=fM hc
 obtain ⟨_,hx,_⟩:=sG i.f0 hm
 obtain ⟨c,i1,i2,k⟩:=i
 dsimp only at h16 hk hx
 have hk0:=hk.1
 unfold dW
 dsimp only
 by_cases c0:c=0
 · rw [if_pos c0];subst c0;exact after_0 w gs s i1 i2 k hS hl
 rw [if_neg c0]
 by_cases c1:c=1
 · rw [if_pos c1];subst c1;exact after_1 w gs s i1 i2 k hS hl
 rw [if_neg c1]
 by_cases c2:c=2
 · rw [if_pos c2];subst c2
   have hk6:=h16 (by omega)
   obtain ⟨n,rfl⟩:∃ n:Nat,k=(n:Int):=⟨k.toNat,by omega⟩
   rw [Int.toNat_natCast]
   exact after_2 w gs s i1 i2 n hS hl (by omega)
 rw [if_neg c2]
 by_cases c3:c=3
 · rw [if_pos c3];subst c3
   have hk6:=h16 (by omega)
   obtain ⟨n,rfl⟩:∃ n:Nat,k=(n:Int):=⟨k.toNat,by omega⟩
   rw [Int.toNat_natCast]
   exact after_3 w gs s i1 i2 n hS hl (by omega)
 rw [if_neg c3]
 by_cases c7:c=7
 · rw [if_pos c7];subst c7;exact after_7 w gs s i1 i2 k hS hl
 rw [if_neg c7]
 by_cases c8:c=135
 · rw [if_pos c8];subst c8;exact vg w gs s i1 i2 k hS hl
 rw [if_neg c8]
 simp only [List.mem_cons,List.not_mem_nil,or_false] at hx
 by_cases c9:c=97∨c=129∨c=177
 · rw [if_pos c9]
   exact after_x w gs s c i1 i2 k hS hl (aX c0) (aX c1) (aX c2) (aX c3) (aX c7) (aX c8) (gL (hx.2 (.inr c9)))
 rw [if_neg c9]
 exact after_o w gs s c i1 i2 k hS hl (aX c0) (aX c1) (aX c2) (aX c3) (aX c7) (aX c8) (aX (fun h=>(hx.1 h).elim c1 c9))
theorem dec_x (w:World) (gs:Nat) (s:St) (c i1 i2 k:Int) (hS:w.heap[gs]?=some (.cells (aA s) 151 (0,0))) (hl:s.length=18) (h8:(Go.bits .and .u16 c 8 != 0)=true) :
 Calls Try.prog 161 #[.pointer (some ⟨gs,0,none⟩),.agg #[.int .u16 c,.int .u8 i1,.int .u8 i2,.int .u32 k]] w fun e w'=>e = .returned (.tuple #[.bool false,.bool false])∧Below w.heap.size w w':=by
 have hlt:=ay hS
 have HS:=aa.mk hS
 clear hS
 go_enter Try.func161,Try.ntmps161
 go_wp2
 go_ret2
 exact ⟨rfl,ai (Below.refl _ _) _⟩
theorem dec_53y (w:World) (gs:Nat) (s:St) (i1 i2 k:Int) (hS:w.heap[gs]?=some (.cells (aA s) 151 (0,0))) (hl:s.length=18) (e0:gS s 0=none) (hk:(k==0)=true) :
 Calls Try.prog 161 #[.pointer (some ⟨gs,0,none⟩),.agg #[.int .u16 53,.int .u8 i1,.int .u8 i2,.int .u32 k]] w fun e w'=>e = .returned (.tuple #[.bool true,.bool true])∧Below w.heap.size w w':=by
 have c0:=cN 0 hS e0
 have hlt:=ay hS
 have HS:=aa.mk hS
 clear hS
 go_enter Try.func161,Try.ntmps161
 go_wp2
 go_ret2
 exact ⟨rfl,ai (Below.refl _ _) _⟩
theorem dec_53n (w:World) (gs:Nat) (s:St) (i1 i2 k:Int) (hS:w.heap[gs]?=some (.cells (aA s) 151 (0,0))) (hl:s.length=18) (e0:gS s 0=none) (hk:(k==0)=false) :
 Calls Try.prog 161 #[.pointer (some ⟨gs,0,none⟩),.agg #[.int .u16 53,.int .u8 i1,.int .u8 i2,.int .u32 k]] w fun e w'=>e = .returned (.tuple #[.bool false,.bool false])∧Below w.heap.size w w':=by
 have c0:=cN 0 hS e0
 have hlt:=ay hS
 have HS:=aa.mk hS
 clear hS
 go_enter Try.func161,Try.ntmps161
 go_wp2
 go_ret2
 exact ⟨rfl,ai (Below.refl _ _) _⟩
theorem dec_37y (w:World) (gs:Nat) (s:St) (i1 i2 k:Int) (hS:w.heap[gs]?=some (.cells (aA s) 151 (0,0))) (hl:s.length=18) (e0:gS s 0=none) (hk:(k==4294967295)=true) :
 Calls Try.prog 161 #[.pointer (some ⟨gs,0,none⟩),.agg #[.int .u16 37,.int .u8 i1,.int .u8 i2,.int .u32 k]] w fun e w'=>e = .returned (.tuple #[.bool false,.bool true])∧Below w.heap.size w w':=by
 have c0:=cN 0 hS e0
 have hlt:=ay hS
 have HS:=aa.mk hS
 clear hS
 go_enter Try.func161,Try.ntmps161
 go_wp2
 go_ret2
 exact ⟨rfl,ai (Below.refl _ _) _⟩
theorem dec_37n (w:World) (gs:Nat) (s:St) (i1 i2 k:Int) (hS:w.heap[gs]?=some (.cells (aA s) 151 (0,0))) (hl:s.length=18) (e0:gS s 0=none) (hk:(k==4294967295)=false) :
 Calls Try.prog 161 #[.pointer (some ⟨gs,0,none⟩),.agg #[.int .u16 37,.int .u8 i1,.int .u8 i2,.int .u32 k]] w fun e w'=>e = .returned (.tuple #[.bool false,.bool false])∧Below w.heap.size w w':=by
 have c0:=cN 0 hS e0
 have hlt:=ay hS
 have HS:=aa.mk hS
 clear hS
 go_enter Try.func161,Try.ntmps161
 go_wp2
 go_ret2
 exact ⟨rfl,ai (Below.refl _ _) _⟩
theorem dec_69y (w:World) (gs:Nat) (s:St) (i1 i2 k:Int) (hS:w.heap[gs]?=some (.cells (aA s) 151 (0,0))) (hl:s.length=18) (e0:gS s 0=none) (hk:(k==0)=true) :
 Calls Try.prog 161 #[.pointer (some ⟨gs,0,none⟩),.agg #[.int .u16 69,.int .u8 i1,.int .u8 i2,.int .u32 k]] w fun e w'=>e = .returned (.tuple #[.bool false,.bool true])∧Below w.heap.size w w':=by
 have c0:=cN 0 hS e0
 have hlt:=ay hS
 have HS:=aa.mk hS
 clear hS
 go_enter Try.func161,Try.ntmps161
 go_wp2
 go_ret2
 exact ⟨rfl,ai (Below.refl _ _) _⟩
theorem dec_69n (w:World) (gs:Nat) (s:St) (i1 i2 k:Int) (hS:w.heap[gs]?=some (.cells (aA s) 151 (0,0))) (hl:s.length=18) (e0:gS s 0=none) (hk:(k==0)=false) :
 Calls Try.prog 161 #[.pointer (some ⟨gs,0,none⟩),.agg #[.int .u16 69,.int .u8 i1,.int .u8 i2,.int .u32 k]] w fun e w'=>e = .returned (.tuple #[.bool false,.bool false])∧Below w.heap.size w w':=by
 have c0:=cN 0 hS e0
 have hlt:=ay hS
 have HS:=aa.mk hS
 clear hS
 go_enter Try.func161,Try.ntmps161
 go_wp2
 go_ret2
 exact ⟨rfl,ai (Below.refl _ _) _⟩
theorem dec_21 (w:World) (gs:Nat) (s:St) (i1 i2 k:Int) (hS:w.heap[gs]?=some (.cells (aA s) 151 (0,0))) (hl:s.length=18) (e0:gS s 0=none) :
 Calls Try.prog 161 #[.pointer (some ⟨gs,0,none⟩),.agg #[.int .u16 21,.int .u8 i1,.int .u8 i2,.int .u32 k]] w fun e w'=>e = .returned (.tuple #[.bool false,.bool false])∧Below w.heap.size w w':=by
 have c0:=cN 0 hS e0
 have hlt:=ay hS
 have HS:=aa.mk hS
 clear hS
 go_enter Try.func161,Try.ntmps161
 go_wp2
 go_ret2
 exact ⟨rfl,ai (Below.refl _ _) _⟩
theorem dec_k (w:World) (gs:Nat) (s:St) (c v i1 i2 k:Int) (hS:w.heap[gs]?=some (.cells (aA s) 151 (0,0))) (hl:s.length=18) (e0:gS s 0=some v) (h8:(Go.bits .and .u16 c 8 != 0)=false) (r:Bool) (hr:PA.dA.f c v k=some r) :
 Calls Try.prog 161 #[.pointer (some ⟨gs,0,none⟩),.agg #[.int .u16 c,.int .u8 i1,.int .u8 i2,.int .u32 k]] w fun e w'=>e = .returned (.tuple #[.bool r,.bool true])∧Below w.heap.size w w':=by
 have c0:=cY 0 hS e0
 have c1:=dY 1 hS e0
 have HC:=aa.mk (fun W=>PA.dA.calls c v k r W hr)
 clear hr
 have hlt:=ay hS
 have HS:=aa.mk hS
 clear hS
 go_enter Try.func161,Try.ntmps161
 go_upto_region 4 with (fail)
 refine forget (fun W=>∃ gi,gi=w.heap.size∧Below w.heap.size w W∧W.heap[gi]?=some (.cells #[.int .u16 c,.int .u8 i1,.int .u8 i2,.int .u32 k] 45 (0,0))) ⟨_,rfl,ai (Below.refl _ _) _,heap_alloc_new _ _⟩ ?_
 rintro W ⟨gi,egi,hb,hi⟩
 rw [←egi]
 have x1:=ax hb c1
 have y0:=d9 hi 0
 have y3:=d9 hi 3
 have HB:=aa.mk hb
 have EG:=aa.mk egi
 clear hb hi egi c0 c1
 go_quiet ((go_at_call 157;exact Calls.quiet_of ((HC.out _).mono fun _ _ ⟨he,⟨m,hm⟩⟩=>⟨he,m,hm⟩)))
 go_wp2
 go_ret2
 exact ⟨rfl,au HB.out (aj (Below.refl _ _) _)⟩
theorem iw (w:World) (gs:Nat) (s:St) (l:S45) (hS:w.heap[gs]?=some (.cells (aA s) 151 (0,0))) (hl:s.length=18) (hj:jmB l.f0=true) :
 Calls Try.prog 161 #[.pointer (some ⟨gs,0,none⟩),dQ l] w fun e w'=>e = .returned (.tuple #[.bool ((jg s l).getD false),.bool (jg s l).isSome])∧Below w.heap.size w w':=by
 obtain ⟨c,i1,i2,k⟩:=l
 dsimp only at hj
 have hm:c∈([21,29,37,45,53,61,69,77]:List Int):=of_decide_eq_true hj
 unfold jg
 dsimp only
 by_cases hx:c∈tX
 · have H:∀ c∈tX,(Go.bits .and .u16 c 8 != 0)=true:=by decide +kernel
   rw [if_pos hx];exact dec_x w gs s c i1 i2 k hS hl (H c hx)
 rw [if_neg hx]
 simp only [tX,List.mem_cons,List.not_mem_nil,or_false] at hm hx
 have hc:c=21∨c=37∨c=53∨c=69:=by omega
 cases e:gS s 0 with
 | some a=>
  refine dec_k w gs s c a i1 i2 k hS hl e ?_ _ (holds_f hj (by simp only [tX,List.mem_cons,List.not_mem_nil,or_false];omega))
  rcases hc with rfl | rfl | rfl | rfl<;>decide +kernel
 | none=>
  dsimp only
  rcases hc with rfl | rfl | rfl | rfl
  · rw [if_neg (by omega),if_neg (by omega)];exact dec_21 w gs s i1 i2 k hS hl e
  · rw [if_neg (by omega)]
    by_cases q:k=4294967295
    · rw [if_pos (.inl ⟨rfl,q⟩)];exact dec_37y w gs s i1 i2 k hS hl e (gL q)
    rw [if_neg (by omega)];exact dec_37n w gs s i1 i2 k hS hl e (aX q)
  · by_cases q:k=0
    · rw [if_pos ⟨rfl,q⟩];exact dec_53y w gs s i1 i2 k hS hl e (gL q)
    rw [if_neg (by omega),if_neg (by omega)];exact dec_53n w gs s i1 i2 k hS hl e (aX q)
  rw [if_neg (by omega)]
  by_cases q:k=0
  · rw [if_pos (.inr ⟨rfl,q⟩)];exact dec_69y w gs s i1 i2 k hS hl e (gL q)
  rw [if_neg (by omega)];exact dec_69n w gs s i1 i2 k hS hl e (aX q)
def eX (of:List Int) (nx:Int):Array Value:=((of++[nx]).map (fun v=>Value.int .i64 v)).toArray
theorem tH {of:List Int} {nx:Int} {i:Nat} (h:i<of.length):(eX of nx)[i]?=some (.int .i64 (of.getD i 0)):=by
 unfold eX
 rw [List.getElem?_toArray,List.getElem?_map,List.getElem?_append_left h,List.getD_eq_getElem?_getD,List.getElem?_eq_getElem h];rfl
theorem oc_nx {of:List Int} {nx:Int} (h:of.length=18):(eX of nx)[18]?=some (.int .i64 nx):=by
 unfold eX
 rw [List.getElem?_toArray,List.getElem?_map,List.getElem?_append_right (by omega),h];rfl
theorem zC {of:List Int} {nx:Int} {i:Nat} (v:Int) (h:i<of.length):(eX of nx).setIfInBounds i (.int .i64 v)=eX (of.set i v) nx:=by
 unfold eX
 rw [List.setIfInBounds_toArray,←List.map_set,List.set_append_left _ _ h]
theorem oc_setn {of:List Int} {nx:Int} (v:Int) (h:of.length=18):(eX of nx).setIfInBounds 18 (.int .i64 v)=eX of v:=by
 unfold eX
 rw [List.setIfInBounds_toArray,←List.map_set,List.set_append_right _ _ (by omega),h];rfl
theorem mF (w:World) (gm:Nat) (of:List Int) (nx:Int) (t:Nat) (hM:w.heap[gm]?=some (.cells (eX of nx) 160 (0,0))) (hl:of.length=18) (ht:t<18) (hn:0≤nx∧nx<4294967296) :
 Calls Try.prog 130 #[.pointer (some ⟨gm,0,none⟩),.int .i64 (t:Int)] w fun e w'=>e = .returned (.tuple #[])∧w'.heap[gm]?=some (.cells (eX (of.set t (nx+1)) (nx+1)) 160 (0,0))∧Kp (fun k=>k=gm) w w':=by
 have hwr:wrap64 (nx+1)=nx+1:=w64 (by omega) (by omega)
 have c18:=(ae hM 18).trans (oc_nx hl)
 have ct:=(ae hM t).trans (tH (by omega))
 have f18:=ah hM 18
 have ft:=ah hM t
 have hlt:=ay hM
 have h0:(0:Int)≤(t:Int):=by omega
 have h1:(t:Int)<18:=by omega
 have hne:¬t=18:=by omega
 have hne2:¬18=t:=by omega
 have HM:=aa.mk hM
 have HW:=aa.mk hwr
 clear hM hwr
 go_enter Try.func130,Try.ntmps130
 go_wp2
 go_region
 go_wp2
 go_end0
 refine ⟨rfl,?_,?_⟩
 · exact ak (aI (aI HM.out 18 _ (oc_setn _ hl)) t _ (zC _ (by omega))) (by repeat (first | (with_reducible exact Below.refl _ _) | apply af))
 exact (Kp.set (S:=fun k=>k=gm) (g:=gm) (Kp.set (S:=fun k=>k=gm) (g:=gm) (Kp.refl _ w) (.inl rfl) _ _) (.inl rfl) _ _).below (by repeat (first | (with_reducible exact Below.refl _ _) | apply af))
theorem lI (w:World) (gm:Nat) (of:List Int) (nx:Int) (t f:Nat) (hM:w.heap[gm]?=some (.cells (eX of nx) 160 (0,0))) (hl:of.length=18) (ht:t<18) (hf:f<18) :
 Calls Try.prog 132 #[.pointer (some ⟨gm,0,none⟩),.int .i64 (t:Int),.int .i64 (f:Int)] w fun e w'=>e = .returned (.bool (of.getD t 0 != of.getD f 0))∧w'.heap[gm]?=some (.cells (eX (of.set t (of.getD f 0)) nx) 160 (0,0))∧Kp (fun k=>k=gm) w w':=by
 have ct:=(ae hM t).trans (tH (by omega))
 have cf:=(ae hM f).trans (tH (by omega))
 have ft:=ah hM t
 have hlt:=ay hM
 have h0:(0:Int)≤(t:Int):=by omega
 have h1:(t:Int)<18:=by omega
 have h2:(0:Int)≤(f:Int):=by omega
 have h3:(f:Int)<18:=by omega
 have HM:=aa.mk hM
 clear hM
 generalize of.getD t 0=vt at ct ⊢
 obtain ⟨vf,evf⟩:∃ v,v=of.getD f 0:=⟨_,rfl⟩
 rw [←evf] at cf ⊢
 have EV:=aa.mk evf
 clear evf
 go_enter Try.func132,Try.ntmps132
 go_wp2
 go_region
 go_wp2
 go_region
 go_wp2
 go_ret
 refine ⟨rfl,?_,?_⟩
 · exact ak (aI (ak HM.out (by repeat (first | (with_reducible exact Below.refl _ _) | apply af))) t _ (zC _ (by omega))) (by repeat (first | (with_reducible exact Below.refl _ _) | apply af))
 exact (Kp.set (S:=fun k=>k=gm) (g:=gm) ((Kp.refl _ w).below (by repeat (first | (with_reducible exact Below.refl _ _) | apply af))) (.inl rfl) _ _).below (by repeat (first | (with_reducible exact Below.refl _ _) | apply af))
def b8 (p:Value × S47):List Value:=[p.1,.int .i64 p.2.f1,.int .u16 p.2.f2.f0,.int .u8 p.2.f2.f1,.int .u8 p.2.f2.f2,.int .u32 p.2.f2.f3,.int .i64 p.2.f3,.int .i64 p.2.f4]
def bf (bs:List (Value × S47)) (tl:List Value):Array Value:=(bs.flatMap b8++tl).toArray
theorem qN (bs:List (Value × S47)):(bs.flatMap b8).length=bs.length*8:=by
 induction bs with
 | nil=>rfl
 | cons a r ih=>rw [List.flatMap_cons,List.length_append,ih,List.length_cons];show 8+_=_;omega
theorem rc_fm:∀ (bs:List (Value × S47)) (n:Nat) (p:Value × S47),bs[n]?=some p→∀ j,j<8→(bs.flatMap b8)[n*8+j]?=(b8 p)[j]?:=by
 intro bs
 induction bs with
 | nil=>intro n p h;simp at h
 | cons a r ih=>
  intro n p h j hj
  rw [List.flatMap_cons]
  have hl:(b8 a).length=8:=rfl
  cases n with
  | zero=>
   cases h
   rw [Nat.zero_mul,Nat.zero_add,List.getElem?_append_left (by omega)]
  | succ n=>
   rw [List.getElem?_append_right (by omega),hl,show (n+1)*8+j - 8=n*8+j by omega]
   exact ih n p h j hj
theorem lT {bs:List (Value × S47)} {n:Nat} {p:Value × S47} (h:bs[n]?=some p):n<bs.length:=(List.getElem?_eq_some_iff.1 h).1
theorem bO {bs:List (Value × S47)} {tl:List Value} {n:Nat} {p:Value × S47} (h:bs[n]?=some p) {j:Nat} (hj:j<8):(bf bs tl)[n*8+j]?=(b8 p)[j]?:=by
 unfold bf;rw [List.getElem?_toArray,List.getElem?_append_left (by rw [qN];have:=lT h;omega)];exact rc_fm bs n p h j hj
theorem rc_set1:∀ (bs:List (Value × S47)) (n:Nat) (p q:Value × S47) (j:Nat) (v:Value),bs[n]?=some p→j<8→(b8 p).set j v=b8 q→(bs.flatMap b8).set (n*8+j) v=(bs.set n q).flatMap b8:=by
 intro bs
 induction bs with
 | nil=>intro n p q j v h;simp at h
 | cons a r ih=>
  intro n p q j v h hj e
  rw [List.flatMap_cons]
  have hl:(b8 a).length=8:=rfl
  cases n with
  | zero=>
   cases h
   rw [Nat.zero_mul,Nat.zero_add,List.set_append_left _ _ (by omega),e,List.set_cons_zero,List.flatMap_cons]
  | succ n=>
   rw [List.set_append_right _ _ (by omega),hl,show (n+1)*8+j - 8=n*8+j by omega,ih n p q j v h hj e,List.set_cons_succ,List.flatMap_cons]
theorem rc_set {bs:List (Value × S47)} {tl:List Value} {n:Nat} {p:Value × S47} (h:bs[n]?=some p) (q:Value × S47) {j:Nat} (hj:j<8) {v:Value} (e:(b8 p).set j v=b8 q):(bf bs tl).setIfInBounds (n*8+j) v=bf (bs.set n q) tl:=by
 unfold bf;rw [List.setIfInBounds_toArray,List.set_append_left _ _ (by rw [qN];have:=lT h;omega),rc_set1 bs n p q j v h hj e]
theorem aG {bs:List (Value × S47)} {n:Nat} {p q:Value × S47} (h:bs[n]?=some p):(bs.set n q)[n]?=some q:=by
 rw [List.getElem?_set_self (lT h)]
theorem set_set {bs:List (Value × S47)} {n:Nat} {q r:Value × S47}:(bs.set n q).set n r=bs.set n r:=List.set_set _
theorem set_self {bs:List (Value × S47)} {n:Nat} {p:Value × S47} (h:bs[n]?=some p):bs.set n p=bs:=by
 apply List.ext_getElem?
 intro i
 rw [List.getElem?_set]
 split
 · rename_i e;subst e;split
   · exact h.symm
   have:=lT h;omega
 rfl
theorem bz {W:World} {gb n j:Nat} {bs:List (Value × S47)} {tl:List Value} {p:Value × S47} (hB:W.heap[gb]?=some (.cells (bf bs tl) 47 (0,0))) (h:bs[n]?=some p) (q:Value × S47) (hj:j<8) (v:Value) (e:(b8 p).set j v=b8 q) :
 (W.setCell ⟨gb,n*8+j,none⟩ v).heap[gb]?=some (.cells (bf (bs.set n q) tl) 47 (0,0)):=aI hB (n*8+j) v (rc_set h q hj e)
def i4 (i:S45):List Value:=[.int .u16 i.f0,.int .u8 i.f1,.int .u8 i.f2,.int .u32 i.f3]
theorem jX (c:List S45):(c.flatMap i4).length=c.length*4:=by
 induction c with
 | nil=>rfl
 | cons a r ih=>rw [List.flatMap_cons,List.length_append,ih,List.length_cons];show 4+_=_;omega
theorem sQ:∀ (c:List S45) (n:Nat) (i:S45),c[n]?=some i→∀ j,j<4→(c.flatMap i4)[n*4+j]?=(i4 i)[j]?:=by
 intro c
 induction c with
 | nil=>intro n p h;simp at h
 | cons a r ih=>
  intro n p h j hj
  rw [List.flatMap_cons]
  have hl:(i4 a).length=4:=rfl
  cases n with
  | zero=>
   cases h
   rw [Nat.zero_mul,Nat.zero_add,List.getElem?_append_left (by omega)]
  | succ n=>
   rw [List.getElem?_append_right (by omega),hl,show (n+1)*4+j - 4=n*4+j by omega]
   exact ih n p h j hj
structure CdA (w:World) (g cap:Nat) (c:List S45) (tl:List Value):Prop where
 blk:w.heap[g]?=some (.cells (c.flatMap i4++tl).toArray 45 (0,0))
 len:c.length≤cap
 max:cap≤maxLen
 size:(c.flatMap i4++tl).length=cap*4
def Cd (w:World) (v:Value) (c:List S45):Prop:=(v = .slice none 0 0∧c=[])∨∃ g cap tl,v = .slice (some ⟨g,0,none⟩) c.length cap∧CdA w g cap c tl
theorem reps_i4 {W:World} {base:Nat} {ok:Nat→Prop}:∀ (c:List S45),eu (k45.M W base ok) 4 c (c.flatMap i4):=by
 intro c
 refine ⟨jX c,fun j i h=>?_⟩
 have h2:((c.flatMap i4).drop (j*4)).take 4=i4 i:=by
  apply List.ext_getElem?
  intro q
  rw [List.getElem?_take,List.getElem?_drop]
  split
  · rename_i hq;exact sQ c j i h q hq
  rename_i hq;exact (List.getElem?_eq_none (by show 4≤q;omega)).symm
 rw [h2]
 exact kR _ _ _ i
theorem i4_reps {W:World} {base:Nat} {ok:Nat→Prop} {c:List S45} {cs:List Value} (h:eu (k45.M W base ok) 4 c cs):cs=c.flatMap i4:=by
 obtain ⟨h1,h2⟩:=h
 apply List.ext_getElem?
 intro q
 by_cases hq:q<c.length*4
 · have hj:q / 4<c.length:=by omega
   have h3:=h2 (q / 4) c[q / 4] (List.getElem?_eq_getElem hj)
   have h4:=jP (k45.K_of_M h3)
   have e1:cs[q]?=((cs.drop (q / 4*4)).take 4)[q % 4]?:=by
    rw [List.getElem?_take,List.getElem?_drop,if_pos (by omega)];congr 1;omega
   rw [e1,h4]
   have e2:=sQ c (q / 4) c[q / 4] (List.getElem?_eq_getElem hj) (q % 4) (by omega)
   rw [show q / 4*4+q % 4=q by omega] at e2
   rw [e2];rfl
 rw [List.getElem?_eq_none (by omega),List.getElem?_eq_none (by rw [jX];omega)]
theorem lF {w:World} {base:Nat} {ok:Nat→Prop} {v:Value} {c:List S45} (h:k45.R 45 w base ok v c):Cd w v c:=by
 obtain ⟨_,inner,ho,hr⟩:=h
 obtain rfl:=i4_reps hr
 rcases ho.2 with ⟨h1,h2⟩ | ⟨g,cap,cur,h1,_,h3,h4,h5,h6,h7⟩
 · exact .inl ⟨h1,List.eq_nil_of_length_eq_zero h2⟩
 refine .inr ⟨g,cap,cur.toList.drop (c.length*4),h1,?_,h4,h5,?_⟩
 · rw [h3]
   congr 2
   have:=List.take_append_drop (c.length*4) cur.toList
   rw [show cur.toList.take (c.length*4)=c.flatMap i4 from h7] at this
   rw [this]
 have:=List.take_append_drop (c.length*4) cur.toList
 rw [show cur.toList.take (c.length*4)=c.flatMap i4 from h7] at this
 rw [this,Array.length_toList,h6];rfl
theorem mY {w:World} {base:Nat} {ok:Nat→Prop} {v:Value} {c:List S45} (h:Cd w v c) (hb:∀ g,v.ownBlock=some g→base≤g∧ok g):k45.R 45 w base ok v c:=by
 refine ⟨fun k hk=>(hb k hk).2,c.flatMap i4,⟨jX c,?_⟩,reps_i4 c⟩
 rcases h with ⟨h1,rfl⟩ | ⟨g,cap,tl,h1,h2⟩
 · exact .inl ⟨h1,rfl⟩
 refine .inr ⟨g,cap,_,h1,(hb g (by rw [h1];rfl)).1,h2.blk,h2.len,h2.max,?_,?_⟩
 · rw [List.size_toArray,h2.size];rfl
 show (c.flatMap i4++tl).take (c.length*4)=_
 rw [←jX c,List.take_left]
theorem Cd.slice {w:World} {v:Value} {c:List S45} (h:Cd w v c):∃ A cap,v = .slice A c.length cap:=by
 rcases h with ⟨h1,rfl⟩ | ⟨g,cap,tl,h1,_⟩
 · exact ⟨none,0,h1⟩
 exact ⟨_,cap,h1⟩
theorem Cd.kp {S:Nat→Prop} {w w1:World} {v:Value} {c:List S45} (h:Cd w v c) (k:Kp S w w1) (hS:∀ g,v.ownBlock=some g→¬S g):Cd w1 v c:=by
 rcases h with h | ⟨g,cap,tl,h1,h2⟩
 · exact .inl h
 exact .inr ⟨g,cap,tl,h1,(k.block g (ay h2.blk) (hS g (by rw [h1];rfl))).trans h2.blk,h2.len,h2.max,h2.size⟩
theorem Cd.below {w w1:World} {v:Value} {c:List S45} (h:Cd w v c) (k:Below w.heap.size w w1):Cd w1 v c:=by
 rcases h with h | ⟨g,cap,tl,h1,h2⟩
 · exact .inl h
 exact .inr ⟨g,cap,tl,h1,ak h2.blk k,h2.len,h2.max,h2.size⟩
theorem Cd.lt {w:World} {v:Value} {c:List S45} (h:Cd w v c) {g:Nat} (hg:v.ownBlock=some g):∃ cs,w.heap[g]?=some (.cells cs 45 (0,0)):=by
 rcases h with ⟨h1,_⟩ | ⟨g',cap,tl,h1,h2⟩
 · rw [h1] at hg;cases hg
 rw [h1] at hg;injection hg with hg;subst hg;exact ⟨_,h2.blk⟩
theorem lY {P:Program} (w:World) {ops:Array Oper} {rest:List Oper} {o:Oper} {a:Act} {Q:Exit→Act→World→Prop}
 (hg:o.guard=none) (s x:Operand) (t:TypeId) (hop:o.op=Op.call {callee:=Callee.builtin Builtin.append,args:=#[s,x],argTypes:=#[t,t]})
 (e:TypeId) (z:Value) (size bytes:Nat) (ht:P.underlying t=some (.slice e)) (hinfo:(P.info? e).map (fun i=>(i.zero,i.size,i.bytes))=some (some z,size,bytes))
 (g n cap:Nat) (hs:a.eval s = .slice (some ⟨g,0,none⟩) n cap) (cur:Array Value) (hcur:w.heap[g]?=some (.cells cur e (0,0)))
 (ad:Addr) (m c:Nat) (news:List Value) (hx:a.eval x = .slice (some ad) m c) (hl:news.length=m*size) (hnews:∀ j u,news[j]?=some u→w.cell? (ad.add j)=some u) (h1:∀ u∈news,u.oneCell'=true)
 (hroom:n+m≤cap) (hfit:n*size+news.length≤cur.size)
 (hK:∀ w',w'.heap[g]?=some (.cells (cur.toList.take (n*size)++news++cur.toList.drop (n*size+news.length)).toArray e (0,0))→Kp (fun k=>k=g) w w'→wpList P ops Q rest (a.put o.dst (.slice (some ⟨g,0,none⟩) (n+m) cap)) w') :
 wpList P ops Q (o :: rest) a w:=by
 obtain ⟨i,hi,hzz⟩:=Option.map_eq_some_iff.1 hinfo
 simp only [Prod.mk.injEq] at hzz
 obtain ⟨_,hs1,_⟩:=hzz
 subst hs1
 refine wpList_plain hg fun K hK'=>?_
 have hrun:=run_append_room (P:=P) w t o.type e i ht hi g n cap cur hcur ad m c news hl hnews h1 hroom hfit
 unfold Oper.wp
 simp [execOp,hop,resolve,invoke,builtin,hs,hx,hrun,Result.andThen]
 rw [←List.append_assoc]
 refine hK' _ _ (hK _ (setRow_heap w g cur _ e _ hcur) ⟨rfl,rfl,rfl,by simp [World.setRow],fun k _ hk=>setRow_other w g k _ hk⟩)
theorem rc8 {w:World} {g n:Nat} {bs:List (Value × S47)} {tl:List Value} {v0:Value} {c:List S45} {f1 l0 l1 l2 l3 y m:Int} (hB:w.heap[g]?=some (.cells (bf bs tl) 47 (0,0))) (hp:bs[n]?=some (v0,⟨c,f1,⟨l0,l1,l2,l3⟩,y,m⟩)) :
 w.cell? ⟨g,n*8+1,none⟩=some (.int .i64 f1)∧w.cell? ⟨g,n*8+2,none⟩=some (.int .u16 l0)∧w.cell? ⟨g,n*8+3,none⟩=some (.int .u8 l1)∧w.cell? ⟨g,n*8+4,none⟩=some (.int .u8 l2)∧w.cell? ⟨g,n*8+5,none⟩=some (.int .u32 l3)∧w.cell? ⟨g,n*8+6,none⟩=some (.int .i64 y)∧w.cell? ⟨g,n*8+7,none⟩=some (.int .i64 m) ∧
 w.frozen? ⟨g,n*8+1,none⟩=false∧w.frozen? ⟨g,n*8+2,none⟩=false∧w.frozen? ⟨g,n*8+3,none⟩=false∧w.frozen? ⟨g,n*8+4,none⟩=false∧w.frozen? ⟨g,n*8+5,none⟩=false∧w.frozen? ⟨g,n*8+6,none⟩=false∧w.frozen? ⟨g,n*8+7,none⟩=false:=by
 have h:∀ j v,j<8→(b8 (v0,⟨c,f1,⟨l0,l1,l2,l3⟩,y,m⟩))[j]?=some v→w.cell? ⟨g,n*8+j,none⟩=some v:=fun j v hj e=>(ae hB (n*8+j)).trans ((bO hp hj).trans e)
 exact ⟨h 1 _ (by omega) rfl,h 2 _ (by omega) rfl,h 3 _ (by omega) rfl,h 4 _ (by omega) rfl,h 5 _ (by omega) rfl,h 6 _ (by omega) rfl,h 7 _ (by omega) rfl,ah hB _,ah hB _,ah hB _,ah hB _,ah hB _,ah hB _,ah hB _⟩
theorem qh {W:World} {g x a0 a1 a2 a3:Nat} {cs:Array Value} {T:TypeId} {v0 v1 v2 v3:Value} (h:W.heap[x]?=some (.cells cs T (0,0))) (hne:x≠g) :
 ((((W.setCell ⟨g,a0,none⟩ v0).setCell ⟨g,a1,none⟩ v1).setCell ⟨g,a2,none⟩ v2).setCell ⟨g,a3,none⟩ v3).heap[x]?=some (.cells cs T (0,0)):=
 bN (bN (bN (bN h hne _) hne _) hne _) hne _
theorem end_a (w:World) (gs gb n:Nat) (s:St) (bs:List (Value × S47)) (tl:List Value) (v0:Value) (c:List S45) (f1 l0 l1 l2 l3 y m:Int) (hS:w.heap[gs]?=some (.cells (aA s) 151 (0,0))) (hB:w.heap[gb]?=some (.cells (bf bs tl) 47 (0,0))) (hl:s.length=18) (hp:bs[n]?=some (v0,⟨c,f1,⟨l0,l1,l2,l3⟩,y,m⟩))
 (h1:(f1==1)=true) (h22:(l0==22)=true) (v:Int) (e0:gS s 0=some v) :
 Calls Try.prog 129 #[.pointer (some ⟨gs,0,none⟩),.pointer (some ⟨gb,n*8,none⟩)] w fun e w'=>e = .returned (.bool true)∧w'.heap[gb]?=some (.cells (bf (bs.set n (v0,⟨c,f1,⟨6,0,0,v⟩,y,m⟩)) tl) 47 (0,0))∧Kp (fun k=>k=gb) w w':=by
 obtain ⟨b1,b2,-,-,-,-,-,-,-,-,-,-,-,-⟩:=rc8 hB hp
 have c0:=cY 0 hS e0
 have d0:=dY 1 hS e0
 have z2:=ah hB (n*8+2)
 have z3:=ah hB (n*8+3)
 have z4:=ah hB (n*8+4)
 have z5:=ah hB (n*8+5)
 obtain ⟨-,-,b3,b4,b5,-,-,-,-,-,-,-,-,-⟩:=rc8 hB hp
 have HS:=aa.mk hS
 have HB:=aa.mk hB
 have HP:=aa.mk hp
 have hlt:=ay hB
 have hlts:=ay hS
 clear hS hB hp
 go_enter Try.func129,Try.ntmps129
 go_wp2
 go_ret
 exact ⟨rfl,by have h:=bz (j:=5) (bz (j:=4) (bz (j:=3) (bz (j:=2) HB.out HP.out (v0,⟨c,f1,⟨6,l1,l2,l3⟩,y,m⟩) (by omega) _ rfl) (aG HP.out) (v0,⟨c,f1,⟨6,0,l2,l3⟩,y,m⟩) (by omega) _ rfl) (aG (aG HP.out)) (v0,⟨c,f1,⟨6,0,0,l3⟩,y,m⟩) (by omega) _ rfl) (aG (aG (aG HP.out))) (v0,⟨c,f1,⟨6,0,0,v⟩,y,m⟩) (by omega) _ rfl;rw [set_set,set_set,set_set] at h;exact h,((((Kp.refl (fun k=>k=gb) w).set (.inl rfl) _ _).set (.inl rfl) _ _).set (.inl rfl) _ _).set (.inl rfl) _ _⟩
theorem end_b (w:World) (gs gb n:Nat) (s:St) (bs:List (Value × S47)) (tl:List Value) (v0:Value) (c:List S45) (f1 l0 l1 l2 l3 y m:Int) (hS:w.heap[gs]?=some (.cells (aA s) 151 (0,0))) (hB:w.heap[gb]?=some (.cells (bf bs tl) 47 (0,0))) (hl:s.length=18) (hp:bs[n]?=some (v0,⟨c,f1,⟨l0,l1,l2,l3⟩,y,m⟩))
 (h1:(f1==1)=true) (h22:(l0==22)=true) (h3:(f1 != 3)=true) (e0:gS s 0=none) :
 Calls Try.prog 129 #[.pointer (some ⟨gs,0,none⟩),.pointer (some ⟨gb,n*8,none⟩)] w fun e w'=>e = .returned (.bool false)∧w'=w:=by
 obtain ⟨b1,b2,-,-,-,-,-,-,-,-,-,-,-,-⟩:=rc8 hB hp
 have c0:=cN 0 hS e0
 have HS:=aa.mk hS
 have HB:=aa.mk hB
 have HP:=aa.mk hp
 have hlt:=ay hB
 have hlts:=ay hS
 clear hS hB hp
 go_enter Try.func129,Try.ntmps129
 go_wp2
 go_ret
 exact ⟨rfl,rfl⟩
theorem end_c (w:World) (gs gb n:Nat) (s:St) (bs:List (Value × S47)) (tl:List Value) (v0:Value) (c:List S45) (f1 l0 l1 l2 l3 y m:Int) (hS:w.heap[gs]?=some (.cells (aA s) 151 (0,0))) (hB:w.heap[gb]?=some (.cells (bf bs tl) 47 (0,0))) (hl:s.length=18) (hp:bs[n]?=some (v0,⟨c,f1,⟨l0,l1,l2,l3⟩,y,m⟩))
 (h1:(f1==1)=true) (h22:(l0==22)=false) (h3:(f1 != 3)=true) :
 Calls Try.prog 129 #[.pointer (some ⟨gs,0,none⟩),.pointer (some ⟨gb,n*8,none⟩)] w fun e w'=>e = .returned (.bool false)∧w'=w:=by
 obtain ⟨b1,b2,-,-,-,-,-,-,-,-,-,-,-,-⟩:=rc8 hB hp
 have HS:=aa.mk hS
 have HB:=aa.mk hB
 have HP:=aa.mk hp
 have hlt:=ay hB
 have hlts:=ay hS
 clear hS hB hp
 go_enter Try.func129,Try.ntmps129
 go_wp2
 go_ret
 exact ⟨rfl,rfl⟩
theorem end_d (w:World) (gs gb n:Nat) (s:St) (bs:List (Value × S47)) (tl:List Value) (v0:Value) (c:List S45) (f1 l0 l1 l2 l3 y m:Int) (hS:w.heap[gs]?=some (.cells (aA s) 151 (0,0))) (hB:w.heap[gb]?=some (.cells (bf bs tl) 47 (0,0))) (hl:s.length=18) (hp:bs[n]?=some (v0,⟨c,f1,⟨l0,l1,l2,l3⟩,y,m⟩))
 (h1:(f1==1)=false) (h3:(f1 != 3)=true) :
 Calls Try.prog 129 #[.pointer (some ⟨gs,0,none⟩),.pointer (some ⟨gb,n*8,none⟩)] w fun e w'=>e = .returned (.bool false)∧w'=w:=by
 obtain ⟨b1,b2,-,-,-,-,-,-,-,-,-,-,-,-⟩:=rc8 hB hp
 have HS:=aa.mk hS
 have HB:=aa.mk hB
 have HP:=aa.mk hp
 have hlt:=ay hB
 have hlts:=ay hS
 clear hS hB hp
 go_enter Try.func129,Try.ntmps129
 go_wp2
 go_ret
 exact ⟨rfl,rfl⟩
theorem end_xn (w:World) (gs gb n:Nat) (s:St) (bs:List (Value × S47)) (tl:List Value) (v0:Value) (c:List S45) (f1 l0 l1 l2 l3 y m:Int) (hS:w.heap[gs]?=some (.cells (aA s) 151 (0,0))) (hB:w.heap[gb]?=some (.cells (bf bs tl) 47 (0,0))) (hl:s.length=18) (hp:bs[n]?=some (v0,⟨c,f1,⟨l0,l1,l2,l3⟩,y,m⟩))
 (h1:(f1==1)=false) (h3:(f1 != 3)=false) (h8:(Go.bits .and .u16 l0 8 != 0)=true) (x:Int) (e1:gS s 1=some x) (hj:jmB (Go.bits .andNot .u16 l0 8)=true) (hd:jg s ⟨Go.bits .andNot .u16 l0 8,0,0,x⟩=none) :
 Calls Try.prog 129 #[.pointer (some ⟨gs,0,none⟩),.pointer (some ⟨gb,n*8,none⟩)] w fun e w'=>e = .returned (.bool true)∧w'.heap[gb]?=some (.cells (bf (bs.set n (v0,⟨c,f1,⟨Go.bits .andNot .u16 l0 8,0,0,x⟩,y,m⟩)) tl) 47 (0,0))∧Kp (fun k=>k=gb) w w':=by
 obtain ⟨b1,b2,-,-,-,-,-,-,-,-,-,-,-,-⟩:=rc8 hB hp
 have c1:=cY 2 hS e1
 have d1:=dY 3 hS e1
 have z2:=ah hB (n*8+2)
 have z3:=ah hB (n*8+3)
 have z4:=ah hB (n*8+4)
 have z5:=ah hB (n*8+5)
 obtain ⟨-,-,b3,b4,b5,b6,b7,-,-,-,-,-,-,-⟩:=rc8 hB hp
 have HS:=aa.mk hS
 have HB:=aa.mk hB
 have HP:=aa.mk hp
 have hlt:=ay hB
 have hlts:=ay hS
 clear hS hB hp
 go_enter Try.func129,Try.ntmps129
 have HJ:=aa.mk hj
 have HD:=aa.mk hd
 clear hj hd
 go_upto_region 8 with (fail)
 go_region
 go_upto_region 10 with (fail)
 have DR:Below w.heap.size w w.drew:=af (Below.refl _ _)
 have hne:=bF HB.out HS.out (by decide)
 refine forget (fun W=>W.heap[gs]?=some (.cells (aA s) 151 (0,0))∧∃ bs',bs'[n]?=some (v0,⟨c,f1,⟨Go.bits .andNot .u16 l0 8,0,0,x⟩,y,m⟩)∧(∀ q,bs'.set n q=bs.set n q)∧W.heap[gb]?=some (.cells (bf bs' tl) 47 (0,0))∧Kp (fun k=>k=gb) w W) ⟨?_,_,aG HP.out,fun q=>set_set,?_,?_⟩ ?_
 · exact qh HS.out (fun e=>hne e.symm)
 · have h:=bz (j:=5) (bz (j:=4) (bz (j:=3) (bz (j:=2) HB.out HP.out (v0,⟨c,f1,⟨(Go.bits .andNot .u16 l0 8),l1,l2,l3⟩,y,m⟩) (by omega) _ rfl) (aG HP.out) (v0,⟨c,f1,⟨(Go.bits .andNot .u16 l0 8),0,l2,l3⟩,y,m⟩) (by omega) _ rfl) (aG (aG HP.out)) (v0,⟨c,f1,⟨(Go.bits .andNot .u16 l0 8),0,0,l3⟩,y,m⟩) (by omega) _ rfl) (aG (aG (aG HP.out))) (v0,⟨c,f1,⟨(Go.bits .andNot .u16 l0 8),0,0,x⟩,y,m⟩) (by omega) _ rfl
   rw [set_set,set_set,set_set] at h
   exact h
 · exact (((((Kp.refl (fun k=>k=gb) w).set (.inl rfl) _ _).set (.inl rfl) _ _).set (.inl rfl) _ _).set (.inl rfl) _ _).below (af (Below.refl _ _))
 clear HS HB HP b1 b2 c1 d1 z2 z3 z4 z5 b3 b4 b5 hlt hlts DR hne
 rintro W ⟨hS,bs',hp,hset,hB,hk⟩
 obtain ⟨-,b2,b3,b4,b5,-,-,-,-,-,-,-,-,-⟩:=rc8 hB hp
 have HS:=aa.mk hS
 have HP:=aa.mk hp
 have HB:=aa.mk hB
 have HK:=aa.mk hk
 have HT:=aa.mk hset
 clear hS hp hset hB hk
 go_wp2_with (go_at_call 161;refine (iw W gs s ⟨Go.bits .andNot .u16 l0 8,0,0,x⟩ HS.out hl HJ.out).mono ?_;rintro e w2 ⟨rfl,hb⟩;rw [HD.out];have HB2:=aa.mk (ak HB.out hb);have HK2:=aa.mk (HK.out.below hb);clear hb)
 go_ret
 exact ⟨rfl,by rw [←HT.out,set_self HP.out];exact HB2.out,HK2.out⟩
theorem end_xt (w:World) (gs gb n:Nat) (s:St) (bs:List (Value × S47)) (tl:List Value) (v0:Value) (c:List S45) (f1 l0 l1 l2 l3 y m:Int) (hS:w.heap[gs]?=some (.cells (aA s) 151 (0,0))) (hB:w.heap[gb]?=some (.cells (bf bs tl) 47 (0,0))) (hl:s.length=18) (hp:bs[n]?=some (v0,⟨c,f1,⟨l0,l1,l2,l3⟩,y,m⟩))
 (h1:(f1==1)=false) (h3:(f1 != 3)=false) (h8:(Go.bits .and .u16 l0 8 != 0)=true) (x:Int) (e1:gS s 1=some x) (hj:jmB (Go.bits .andNot .u16 l0 8)=true) (hd:jg s ⟨Go.bits .andNot .u16 l0 8,0,0,x⟩=some true) :
 Calls Try.prog 129 #[.pointer (some ⟨gs,0,none⟩),.pointer (some ⟨gb,n*8,none⟩)] w fun e w'=>e = .returned (.bool true)∧w'.heap[gb]?=some (.cells (bf (bs.set n (v0,⟨c,2,⟨0,0,0,0⟩,y,0⟩)) tl) 47 (0,0))∧Kp (fun k=>k=gb) w w':=by
 obtain ⟨b1,b2,-,-,-,-,-,-,-,-,-,-,-,-⟩:=rc8 hB hp
 have c1:=cY 2 hS e1
 have d1:=dY 3 hS e1
 have z2:=ah hB (n*8+2)
 have z3:=ah hB (n*8+3)
 have z4:=ah hB (n*8+4)
 have z5:=ah hB (n*8+5)
 obtain ⟨-,-,b3,b4,b5,b6,b7,-,-,-,-,-,-,-⟩:=rc8 hB hp
 have HS:=aa.mk hS
 have HB:=aa.mk hB
 have HP:=aa.mk hp
 have hlt:=ay hB
 have hlts:=ay hS
 clear hS hB hp
 go_enter Try.func129,Try.ntmps129
 have HJ:=aa.mk hj
 have HD:=aa.mk hd
 clear hj hd
 go_upto_region 8 with (fail)
 go_region
 go_upto_region 10 with (fail)
 have DR:Below w.heap.size w w.drew:=af (Below.refl _ _)
 have hne:=bF HB.out HS.out (by decide)
 refine forget (fun W=>W.heap[gs]?=some (.cells (aA s) 151 (0,0))∧∃ bs',bs'[n]?=some (v0,⟨c,f1,⟨Go.bits .andNot .u16 l0 8,0,0,x⟩,y,m⟩)∧(∀ q,bs'.set n q=bs.set n q)∧W.heap[gb]?=some (.cells (bf bs' tl) 47 (0,0))∧Kp (fun k=>k=gb) w W) ⟨?_,_,aG HP.out,fun q=>set_set,?_,?_⟩ ?_
 · exact qh HS.out (fun e=>hne e.symm)
 · have h:=bz (j:=5) (bz (j:=4) (bz (j:=3) (bz (j:=2) HB.out HP.out (v0,⟨c,f1,⟨(Go.bits .andNot .u16 l0 8),l1,l2,l3⟩,y,m⟩) (by omega) _ rfl) (aG HP.out) (v0,⟨c,f1,⟨(Go.bits .andNot .u16 l0 8),0,l2,l3⟩,y,m⟩) (by omega) _ rfl) (aG (aG HP.out)) (v0,⟨c,f1,⟨(Go.bits .andNot .u16 l0 8),0,0,l3⟩,y,m⟩) (by omega) _ rfl) (aG (aG (aG HP.out))) (v0,⟨c,f1,⟨(Go.bits .andNot .u16 l0 8),0,0,x⟩,y,m⟩) (by omega) _ rfl
   rw [set_set,set_set,set_set] at h
   exact h
 · exact (((((Kp.refl (fun k=>k=gb) w).set (.inl rfl) _ _).set (.inl rfl) _ _).set (.inl rfl) _ _).set (.inl rfl) _ _).below (af (Below.refl _ _))
 clear HS HB HP b1 b2 c1 d1 z2 z3 z4 z5 b3 b4 b5 hlt hlts DR hne
 rintro W ⟨hS,bs',hp,hset,hB,hk⟩
 obtain ⟨-,b2,b3,b4,b5,-,-,-,-,-,-,-,-,-⟩:=rc8 hB hp
 have HS:=aa.mk hS
 have HP:=aa.mk hp
 have HB:=aa.mk hB
 have HK:=aa.mk hk
 have HT:=aa.mk hset
 clear hS hp hset hB hk
 go_upto_region 15 with (go_at_call 161;refine (iw W gs s ⟨Go.bits .andNot .u16 l0 8,0,0,x⟩ HS.out hl HJ.out).mono ?_;rintro e w2 ⟨rfl,hb⟩;rw [HD.out];have HB2:=aa.mk (ak HB.out hb);have HK2:=aa.mk (HK.out.below hb);clear hb)
 clear HS HB HK b2 b3 b4 b5
 refine forget (fun V=>∃ bs2,bs2[n]?=some (v0,⟨c,f1,⟨Go.bits .andNot .u16 l0 8,0,0,x⟩,y,m⟩)∧(∀ q,bs2.set n q=bs.set n q)∧V.heap[gb]?=some (.cells (bf bs2 tl) 47 (0,0))∧Kp (fun k=>k=gb) w V) ⟨_,HP.out,HT.out,HB2.out,HK2.out⟩ ?_
 clear HP HT HB2 HK2
 rintro V ⟨bs2,hp,hset,hB,hk⟩
 obtain ⟨b1,b2,b3,b4,b5,-,b7,z1,z2,z3,z4,z5,-,z7⟩:=rc8 hB hp
 have HP:=aa.mk hp
 have HB:=aa.mk hB
 have HK:=aa.mk hk
 have HT:=aa.mk hset
 clear hp hset hB hk
 go_wp2
 go_ret
 have h:=bz (j:=7) (bz (j:=5) (bz (j:=4) (bz (j:=3) (bz (j:=2) (bz (j:=1) HB.out HP.out (v0,⟨c,2,⟨Go.bits .andNot .u16 l0 8,0,0,x⟩,y,m⟩) (by omega) _ rfl) (aG HP.out) (v0,⟨c,2,⟨0,0,0,x⟩,y,m⟩) (by omega) _ rfl) (aG (aG HP.out)) (v0,⟨c,2,⟨0,0,0,x⟩,y,m⟩) (by omega) _ rfl) (aG (aG (aG HP.out))) (v0,⟨c,2,⟨0,0,0,x⟩,y,m⟩) (by omega) _ rfl) (aG (aG (aG (aG HP.out)))) (v0,⟨c,2,⟨0,0,0,0⟩,y,m⟩) (by omega) _ rfl) (aG (aG (aG (aG (aG HP.out))))) (v0,⟨c,2,⟨0,0,0,0⟩,y,0⟩) (by omega) _ rfl
 rw [set_set,set_set,set_set,set_set,set_set,HT.out] at h
 exact ⟨rfl,h,(((((HK.out.set (.inl rfl) _ _).set (.inl rfl) _ _).set (.inl rfl) _ _).set (.inl rfl) _ _).set (.inl rfl) _ _).set (.inl rfl) _ _⟩
theorem end_xf (w:World) (gs gb n:Nat) (s:St) (bs:List (Value × S47)) (tl:List Value) (v0:Value) (c:List S45) (f1 l0 l1 l2 l3 y m:Int) (hS:w.heap[gs]?=some (.cells (aA s) 151 (0,0))) (hB:w.heap[gb]?=some (.cells (bf bs tl) 47 (0,0))) (hl:s.length=18) (hp:bs[n]?=some (v0,⟨c,f1,⟨l0,l1,l2,l3⟩,y,m⟩))
 (h1:(f1==1)=false) (h3:(f1 != 3)=false) (h8:(Go.bits .and .u16 l0 8 != 0)=true) (x:Int) (e1:gS s 1=some x) (hj:jmB (Go.bits .andNot .u16 l0 8)=true) (hd:jg s ⟨Go.bits .andNot .u16 l0 8,0,0,x⟩=some false) :
 Calls Try.prog 129 #[.pointer (some ⟨gs,0,none⟩),.pointer (some ⟨gb,n*8,none⟩)] w fun e w'=>e = .returned (.bool true)∧w'.heap[gb]?=some (.cells (bf (bs.set n (v0,⟨c,2,⟨0,0,0,0⟩,m,0⟩)) tl) 47 (0,0))∧Kp (fun k=>k=gb) w w':=by
 obtain ⟨b1,b2,-,-,-,-,-,-,-,-,-,-,-,-⟩:=rc8 hB hp
 have c1:=cY 2 hS e1
 have d1:=dY 3 hS e1
 have z2:=ah hB (n*8+2)
 have z3:=ah hB (n*8+3)
 have z4:=ah hB (n*8+4)
 have z5:=ah hB (n*8+5)
 obtain ⟨-,-,b3,b4,b5,b6,b7,-,-,-,-,-,-,-⟩:=rc8 hB hp
 have HS:=aa.mk hS
 have HB:=aa.mk hB
 have HP:=aa.mk hp
 have hlt:=ay hB
 have hlts:=ay hS
 clear hS hB hp
 go_enter Try.func129,Try.ntmps129
 have HJ:=aa.mk hj
 have HD:=aa.mk hd
 clear hj hd
 go_upto_region 8 with (fail)
 go_region
 go_upto_region 10 with (fail)
 have DR:Below w.heap.size w w.drew:=af (Below.refl _ _)
 have hne:=bF HB.out HS.out (by decide)
 refine forget (fun W=>W.heap[gs]?=some (.cells (aA s) 151 (0,0))∧∃ bs',bs'[n]?=some (v0,⟨c,f1,⟨Go.bits .andNot .u16 l0 8,0,0,x⟩,y,m⟩)∧(∀ q,bs'.set n q=bs.set n q)∧W.heap[gb]?=some (.cells (bf bs' tl) 47 (0,0))∧Kp (fun k=>k=gb) w W) ⟨?_,_,aG HP.out,fun q=>set_set,?_,?_⟩ ?_
 · exact qh HS.out (fun e=>hne e.symm)
 · have h:=bz (j:=5) (bz (j:=4) (bz (j:=3) (bz (j:=2) HB.out HP.out (v0,⟨c,f1,⟨(Go.bits .andNot .u16 l0 8),l1,l2,l3⟩,y,m⟩) (by omega) _ rfl) (aG HP.out) (v0,⟨c,f1,⟨(Go.bits .andNot .u16 l0 8),0,l2,l3⟩,y,m⟩) (by omega) _ rfl) (aG (aG HP.out)) (v0,⟨c,f1,⟨(Go.bits .andNot .u16 l0 8),0,0,l3⟩,y,m⟩) (by omega) _ rfl) (aG (aG (aG HP.out))) (v0,⟨c,f1,⟨(Go.bits .andNot .u16 l0 8),0,0,x⟩,y,m⟩) (by omega) _ rfl
   rw [set_set,set_set,set_set] at h
   exact h
 · exact (((((Kp.refl (fun k=>k=gb) w).set (.inl rfl) _ _).set (.inl rfl) _ _).set (.inl rfl) _ _).set (.inl rfl) _ _).below (af (Below.refl _ _))
 clear HS HB HP b1 b2 c1 d1 z2 z3 z4 z5 b3 b4 b5 hlt hlts DR hne
 rintro W ⟨hS,bs',hp,hset,hB,hk⟩
 obtain ⟨-,b2,b3,b4,b5,-,-,-,-,-,-,-,-,-⟩:=rc8 hB hp
 have HS:=aa.mk hS
 have HP:=aa.mk hp
 have HB:=aa.mk hB
 have HK:=aa.mk hk
 have HT:=aa.mk hset
 clear hS hp hset hB hk
 go_upto_region 14 with (go_at_call 161;refine (iw W gs s ⟨Go.bits .andNot .u16 l0 8,0,0,x⟩ HS.out hl HJ.out).mono ?_;rintro e w2 ⟨rfl,hb⟩;rw [HD.out];have HB2:=aa.mk (ak HB.out hb);have HK2:=aa.mk (HK.out.below hb);clear hb)
 clear HS HB HK b2 b3 b4 b5
 have g6:=(ae HB2.out (n*8+6)).trans (bO HP.out (by omega))
 have g7:w2.cell? ⟨gb,n*8+7,none⟩=some (.int .i64 m):=(ae HB2.out (n*8+7)).trans (bO HP.out (by omega))
 have y6:=ah HB2.out (n*8+6)
 go_upto_region 15 with (fail)
 refine forget (fun V=>∃ bs2,bs2[n]?=some (v0,⟨c,f1,⟨Go.bits .andNot .u16 l0 8,0,0,x⟩,m,m⟩)∧(∀ q,bs2.set n q=bs.set n q)∧V.heap[gb]?=some (.cells (bf bs2 tl) 47 (0,0))∧Kp (fun k=>k=gb) w V) ⟨_,aG HP.out,fun q=>set_set.trans (HT.out q),bz (j:=6) HB2.out HP.out (v0,⟨c,f1,⟨Go.bits .andNot .u16 l0 8,0,0,x⟩,m,m⟩) (by omega) _ rfl,HK2.out.set (.inl rfl) _ _⟩ ?_
 clear g6 g7 y6
 clear HP HT HB2 HK2
 rintro V ⟨bs2,hp,hset,hB,hk⟩
 obtain ⟨b1,b2,b3,b4,b5,-,b7,z1,z2,z3,z4,z5,-,z7⟩:=rc8 hB hp
 have HP:=aa.mk hp
 have HB:=aa.mk hB
 have HK:=aa.mk hk
 have HT:=aa.mk hset
 clear hp hset hB hk
 go_wp2
 go_ret
 have h:=bz (j:=7) (bz (j:=5) (bz (j:=4) (bz (j:=3) (bz (j:=2) (bz (j:=1) HB.out HP.out (v0,⟨c,2,⟨Go.bits .andNot .u16 l0 8,0,0,x⟩,m,m⟩) (by omega) _ rfl) (aG HP.out) (v0,⟨c,2,⟨0,0,0,x⟩,m,m⟩) (by omega) _ rfl) (aG (aG HP.out)) (v0,⟨c,2,⟨0,0,0,x⟩,m,m⟩) (by omega) _ rfl) (aG (aG (aG HP.out))) (v0,⟨c,2,⟨0,0,0,x⟩,m,m⟩) (by omega) _ rfl) (aG (aG (aG (aG HP.out)))) (v0,⟨c,2,⟨0,0,0,0⟩,m,m⟩) (by omega) _ rfl) (aG (aG (aG (aG (aG HP.out))))) (v0,⟨c,2,⟨0,0,0,0⟩,m,0⟩) (by omega) _ rfl
 rw [set_set,set_set,set_set,set_set,set_set,HT.out] at h
 exact ⟨rfl,h,(((((HK.out.set (.inl rfl) _ _).set (.inl rfl) _ _).set (.inl rfl) _ _).set (.inl rfl) _ _).set (.inl rfl) _ _).set (.inl rfl) _ _⟩
theorem end_un (w:World) (gs gb n:Nat) (s:St) (bs:List (Value × S47)) (tl:List Value) (v0:Value) (c:List S45) (f1 l0 l1 l2 l3 y m:Int) (hS:w.heap[gs]?=some (.cells (aA s) 151 (0,0))) (hB:w.heap[gb]?=some (.cells (bf bs tl) 47 (0,0))) (hl:s.length=18) (hp:bs[n]?=some (v0,⟨c,f1,⟨l0,l1,l2,l3⟩,y,m⟩))
 (h1:(f1==1)=false) (h3:(f1 != 3)=false) (h8:(Go.bits .and .u16 l0 8 != 0)=true) (e1:gS s 1=none) (hj:jmB l0=true) (hd:jg s ⟨l0,l1,l2,l3⟩=none) :
 Calls Try.prog 129 #[.pointer (some ⟨gs,0,none⟩),.pointer (some ⟨gb,n*8,none⟩)] w fun e w'=>e = .returned (.bool false)∧w'.heap[gb]?=some (.cells (bf (bs.set n (v0,⟨c,f1,⟨l0,l1,l2,l3⟩,y,m⟩)) tl) 47 (0,0))∧Kp (fun k=>k=gb) w w':=by
 obtain ⟨b1,b2,-,-,-,-,-,-,-,-,-,-,-,-⟩:=rc8 hB hp
 have c1:=cN 2 hS e1
 have z2:=ah hB (n*8+2)
 have z3:=ah hB (n*8+3)
 have z4:=ah hB (n*8+4)
 have z5:=ah hB (n*8+5)
 obtain ⟨-,-,b3,b4,b5,b6,b7,-,-,-,-,-,-,-⟩:=rc8 hB hp
 have HS:=aa.mk hS
 have HB:=aa.mk hB
 have HP:=aa.mk hp
 have hlt:=ay hB
 have hlts:=ay hS
 clear hS hB hp
 go_enter Try.func129,Try.ntmps129
 have HJ:=aa.mk hj
 have HD:=aa.mk hd
 clear hj hd
 go_upto_region 10 with (fail)
 refine forget (fun W=>W.heap[gs]?=some (.cells (aA s) 151 (0,0))∧∃ bs',bs'[n]?=some (v0,⟨c,f1,⟨l0,l1,l2,l3⟩,y,m⟩)∧(∀ q,bs'.set n q=bs.set n q)∧W.heap[gb]?=some (.cells (bf bs' tl) 47 (0,0))∧Kp (fun k=>k=gb) w W) ⟨HS.out,bs,HP.out,fun q=>rfl,HB.out,Kp.refl _ _⟩ ?_
 clear HS HB HP b1 b2 c1 z2 z3 z4 z5 b3 b4 b5 hlt hlts
 rintro W ⟨hS,bs',hp,hset,hB,hk⟩
 obtain ⟨-,b2,b3,b4,b5,-,-,-,-,-,-,-,-,-⟩:=rc8 hB hp
 have HS:=aa.mk hS
 have HP:=aa.mk hp
 have HB:=aa.mk hB
 have HK:=aa.mk hk
 have HT:=aa.mk hset
 clear hS hp hset hB hk
 go_wp2_with (go_at_call 161;refine (iw W gs s ⟨l0,l1,l2,l3⟩ HS.out hl HJ.out).mono ?_;rintro e w2 ⟨rfl,hb⟩;rw [HD.out];have HB2:=aa.mk (ak HB.out hb);have HK2:=aa.mk (HK.out.below hb);clear hb)
 go_ret
 exact ⟨rfl,by rw [←HT.out,set_self HP.out];exact HB2.out,HK2.out⟩
theorem end_kn (w:World) (gs gb n:Nat) (s:St) (bs:List (Value × S47)) (tl:List Value) (v0:Value) (c:List S45) (f1 l0 l1 l2 l3 y m:Int) (hS:w.heap[gs]?=some (.cells (aA s) 151 (0,0))) (hB:w.heap[gb]?=some (.cells (bf bs tl) 47 (0,0))) (hl:s.length=18) (hp:bs[n]?=some (v0,⟨c,f1,⟨l0,l1,l2,l3⟩,y,m⟩))
 (h1:(f1==1)=false) (h3:(f1 != 3)=false) (h8:(Go.bits .and .u16 l0 8 != 0)=false) (hj:jmB l0=true) (hd:jg s ⟨l0,l1,l2,l3⟩=none) :
 Calls Try.prog 129 #[.pointer (some ⟨gs,0,none⟩),.pointer (some ⟨gb,n*8,none⟩)] w fun e w'=>e = .returned (.bool false)∧w'.heap[gb]?=some (.cells (bf (bs.set n (v0,⟨c,f1,⟨l0,l1,l2,l3⟩,y,m⟩)) tl) 47 (0,0))∧Kp (fun k=>k=gb) w w':=by
 obtain ⟨b1,b2,b3,b4,b5,b6,b7,-,z2,z3,z4,z5,-,-⟩:=rc8 hB hp
 have HS:=aa.mk hS
 have HB:=aa.mk hB
 have HP:=aa.mk hp
 have hlt:=ay hB
 have hlts:=ay hS
 clear hS hB hp
 go_enter Try.func129,Try.ntmps129
 have HJ:=aa.mk hj
 have HD:=aa.mk hd
 clear hj hd
 go_upto_region 10 with (fail)
 refine forget (fun W=>W.heap[gs]?=some (.cells (aA s) 151 (0,0))∧∃ bs',bs'[n]?=some (v0,⟨c,f1,⟨l0,l1,l2,l3⟩,y,m⟩)∧(∀ q,bs'.set n q=bs.set n q)∧W.heap[gb]?=some (.cells (bf bs' tl) 47 (0,0))∧Kp (fun k=>k=gb) w W) ⟨HS.out,bs,HP.out,fun q=>rfl,HB.out,Kp.refl _ _⟩ ?_
 clear HS HB HP b1 b2  z2 z3 z4 z5 b3 b4 b5 hlt hlts
 rintro W ⟨hS,bs',hp,hset,hB,hk⟩
 obtain ⟨-,b2,b3,b4,b5,-,-,-,-,-,-,-,-,-⟩:=rc8 hB hp
 have HS:=aa.mk hS
 have HP:=aa.mk hp
 have HB:=aa.mk hB
 have HK:=aa.mk hk
 have HT:=aa.mk hset
 clear hS hp hset hB hk
 go_wp2_with (go_at_call 161;refine (iw W gs s ⟨l0,l1,l2,l3⟩ HS.out hl HJ.out).mono ?_;rintro e w2 ⟨rfl,hb⟩;rw [HD.out];have HB2:=aa.mk (ak HB.out hb);have HK2:=aa.mk (HK.out.below hb);clear hb)
 go_ret
 exact ⟨rfl,by rw [←HT.out,set_self HP.out];exact HB2.out,HK2.out⟩
theorem end_kt (w:World) (gs gb n:Nat) (s:St) (bs:List (Value × S47)) (tl:List Value) (v0:Value) (c:List S45) (f1 l0 l1 l2 l3 y m:Int) (hS:w.heap[gs]?=some (.cells (aA s) 151 (0,0))) (hB:w.heap[gb]?=some (.cells (bf bs tl) 47 (0,0))) (hl:s.length=18) (hp:bs[n]?=some (v0,⟨c,f1,⟨l0,l1,l2,l3⟩,y,m⟩))
 (h1:(f1==1)=false) (h3:(f1 != 3)=false) (h8:(Go.bits .and .u16 l0 8 != 0)=false) (hj:jmB l0=true) (hd:jg s ⟨l0,l1,l2,l3⟩=some true) :
 Calls Try.prog 129 #[.pointer (some ⟨gs,0,none⟩),.pointer (some ⟨gb,n*8,none⟩)] w fun e w'=>e = .returned (.bool true)∧w'.heap[gb]?=some (.cells (bf (bs.set n (v0,⟨c,2,⟨0,0,0,0⟩,y,0⟩)) tl) 47 (0,0))∧Kp (fun k=>k=gb) w w':=by
 obtain ⟨b1,b2,b3,b4,b5,b6,b7,-,z2,z3,z4,z5,-,-⟩:=rc8 hB hp
 have HS:=aa.mk hS
 have HB:=aa.mk hB
 have HP:=aa.mk hp
 have hlt:=ay hB
 have hlts:=ay hS
 clear hS hB hp
 go_enter Try.func129,Try.ntmps129
 have HJ:=aa.mk hj
 have HD:=aa.mk hd
 clear hj hd
 go_upto_region 10 with (fail)
 refine forget (fun W=>W.heap[gs]?=some (.cells (aA s) 151 (0,0))∧∃ bs',bs'[n]?=some (v0,⟨c,f1,⟨l0,l1,l2,l3⟩,y,m⟩)∧(∀ q,bs'.set n q=bs.set n q)∧W.heap[gb]?=some (.cells (bf bs' tl) 47 (0,0))∧Kp (fun k=>k=gb) w W) ⟨HS.out,bs,HP.out,fun q=>rfl,HB.out,Kp.refl _ _⟩ ?_
 clear HS HB HP b1 b2  z2 z3 z4 z5 b3 b4 b5 hlt hlts
 rintro W ⟨hS,bs',hp,hset,hB,hk⟩
 obtain ⟨-,b2,b3,b4,b5,-,-,-,-,-,-,-,-,-⟩:=rc8 hB hp
 have HS:=aa.mk hS
 have HP:=aa.mk hp
 have HB:=aa.mk hB
 have HK:=aa.mk hk
 have HT:=aa.mk hset
 clear hS hp hset hB hk
 go_upto_region 15 with (go_at_call 161;refine (iw W gs s ⟨l0,l1,l2,l3⟩ HS.out hl HJ.out).mono ?_;rintro e w2 ⟨rfl,hb⟩;rw [HD.out];have HB2:=aa.mk (ak HB.out hb);have HK2:=aa.mk (HK.out.below hb);clear hb)
 clear HS HB HK b2 b3 b4 b5
 refine forget (fun V=>∃ bs2,bs2[n]?=some (v0,⟨c,f1,⟨l0,l1,l2,l3⟩,y,m⟩)∧(∀ q,bs2.set n q=bs.set n q)∧V.heap[gb]?=some (.cells (bf bs2 tl) 47 (0,0))∧Kp (fun k=>k=gb) w V) ⟨_,HP.out,HT.out,HB2.out,HK2.out⟩ ?_
 clear HP HT HB2 HK2
 rintro V ⟨bs2,hp,hset,hB,hk⟩
 obtain ⟨b1,b2,b3,b4,b5,-,b7,z1,z2,z3,z4,z5,-,z7⟩:=rc8 hB hp
 have HP:=aa.mk hp
 have HB:=aa.mk hB
 have HK:=aa.mk hk
 have HT:=aa.mk hset
 clear hp hset hB hk
 go_wp2
 go_ret
 have h:=bz (j:=7) (bz (j:=5) (bz (j:=4) (bz (j:=3) (bz (j:=2) (bz (j:=1) HB.out HP.out (v0,⟨c,2,⟨l0,l1,l2,l3⟩,y,m⟩) (by omega) _ rfl) (aG HP.out) (v0,⟨c,2,⟨0,l1,l2,l3⟩,y,m⟩) (by omega) _ rfl) (aG (aG HP.out)) (v0,⟨c,2,⟨0,0,l2,l3⟩,y,m⟩) (by omega) _ rfl) (aG (aG (aG HP.out))) (v0,⟨c,2,⟨0,0,0,l3⟩,y,m⟩) (by omega) _ rfl) (aG (aG (aG (aG HP.out)))) (v0,⟨c,2,⟨0,0,0,0⟩,y,m⟩) (by omega) _ rfl) (aG (aG (aG (aG (aG HP.out))))) (v0,⟨c,2,⟨0,0,0,0⟩,y,0⟩) (by omega) _ rfl
 rw [set_set,set_set,set_set,set_set,set_set,HT.out] at h
 exact ⟨rfl,h,(((((HK.out.set (.inl rfl) _ _).set (.inl rfl) _ _).set (.inl rfl) _ _).set (.inl rfl) _ _).set (.inl rfl) _ _).set (.inl rfl) _ _⟩
theorem end_kf (w:World) (gs gb n:Nat) (s:St) (bs:List (Value × S47)) (tl:List Value) (v0:Value) (c:List S45) (f1 l0 l1 l2 l3 y m:Int) (hS:w.heap[gs]?=some (.cells (aA s) 151 (0,0))) (hB:w.heap[gb]?=some (.cells (bf bs tl) 47 (0,0))) (hl:s.length=18) (hp:bs[n]?=some (v0,⟨c,f1,⟨l0,l1,l2,l3⟩,y,m⟩))
 (h1:(f1==1)=false) (h3:(f1 != 3)=false) (h8:(Go.bits .and .u16 l0 8 != 0)=false) (hj:jmB l0=true) (hd:jg s ⟨l0,l1,l2,l3⟩=some false) :
 Calls Try.prog 129 #[.pointer (some ⟨gs,0,none⟩),.pointer (some ⟨gb,n*8,none⟩)] w fun e w'=>e = .returned (.bool true)∧w'.heap[gb]?=some (.cells (bf (bs.set n (v0,⟨c,2,⟨0,0,0,0⟩,m,0⟩)) tl) 47 (0,0))∧Kp (fun k=>k=gb) w w':=by
 obtain ⟨b1,b2,b3,b4,b5,b6,b7,-,z2,z3,z4,z5,-,-⟩:=rc8 hB hp
 have HS:=aa.mk hS
 have HB:=aa.mk hB
 have HP:=aa.mk hp
 have hlt:=ay hB
 have hlts:=ay hS
 clear hS hB hp
 go_enter Try.func129,Try.ntmps129
 have HJ:=aa.mk hj
 have HD:=aa.mk hd
 clear hj hd
 go_upto_region 10 with (fail)
 refine forget (fun W=>W.heap[gs]?=some (.cells (aA s) 151 (0,0))∧∃ bs',bs'[n]?=some (v0,⟨c,f1,⟨l0,l1,l2,l3⟩,y,m⟩)∧(∀ q,bs'.set n q=bs.set n q)∧W.heap[gb]?=some (.cells (bf bs' tl) 47 (0,0))∧Kp (fun k=>k=gb) w W) ⟨HS.out,bs,HP.out,fun q=>rfl,HB.out,Kp.refl _ _⟩ ?_
 clear HS HB HP b1 b2  z2 z3 z4 z5 b3 b4 b5 hlt hlts
 rintro W ⟨hS,bs',hp,hset,hB,hk⟩
 obtain ⟨-,b2,b3,b4,b5,-,-,-,-,-,-,-,-,-⟩:=rc8 hB hp
 have HS:=aa.mk hS
 have HP:=aa.mk hp
 have HB:=aa.mk hB
 have HK:=aa.mk hk
 have HT:=aa.mk hset
 clear hS hp hset hB hk
 go_upto_region 14 with (go_at_call 161;refine (iw W gs s ⟨l0,l1,l2,l3⟩ HS.out hl HJ.out).mono ?_;rintro e w2 ⟨rfl,hb⟩;rw [HD.out];have HB2:=aa.mk (ak HB.out hb);have HK2:=aa.mk (HK.out.below hb);clear hb)
 clear HS HB HK b2 b3 b4 b5
 have g6:=(ae HB2.out (n*8+6)).trans (bO HP.out (by omega))
 have g7:w2.cell? ⟨gb,n*8+7,none⟩=some (.int .i64 m):=(ae HB2.out (n*8+7)).trans (bO HP.out (by omega))
 have y6:=ah HB2.out (n*8+6)
 go_upto_region 15 with (fail)
 refine forget (fun V=>∃ bs2,bs2[n]?=some (v0,⟨c,f1,⟨l0,l1,l2,l3⟩,m,m⟩)∧(∀ q,bs2.set n q=bs.set n q)∧V.heap[gb]?=some (.cells (bf bs2 tl) 47 (0,0))∧Kp (fun k=>k=gb) w V) ⟨_,aG HP.out,fun q=>set_set.trans (HT.out q),bz (j:=6) HB2.out HP.out (v0,⟨c,f1,⟨l0,l1,l2,l3⟩,m,m⟩) (by omega) _ rfl,HK2.out.set (.inl rfl) _ _⟩ ?_
 clear g6 g7 y6
 clear HP HT HB2 HK2
 rintro V ⟨bs2,hp,hset,hB,hk⟩
 obtain ⟨b1,b2,b3,b4,b5,-,b7,z1,z2,z3,z4,z5,-,z7⟩:=rc8 hB hp
 have HP:=aa.mk hp
 have HB:=aa.mk hB
 have HK:=aa.mk hk
 have HT:=aa.mk hset
 clear hp hset hB hk
 go_wp2
 go_ret
 have h:=bz (j:=7) (bz (j:=5) (bz (j:=4) (bz (j:=3) (bz (j:=2) (bz (j:=1) HB.out HP.out (v0,⟨c,2,⟨l0,l1,l2,l3⟩,m,m⟩) (by omega) _ rfl) (aG HP.out) (v0,⟨c,2,⟨0,l1,l2,l3⟩,m,m⟩) (by omega) _ rfl) (aG (aG HP.out)) (v0,⟨c,2,⟨0,0,l2,l3⟩,m,m⟩) (by omega) _ rfl) (aG (aG (aG HP.out))) (v0,⟨c,2,⟨0,0,0,l3⟩,m,m⟩) (by omega) _ rfl) (aG (aG (aG (aG HP.out)))) (v0,⟨c,2,⟨0,0,0,0⟩,m,m⟩) (by omega) _ rfl) (aG (aG (aG (aG (aG HP.out))))) (v0,⟨c,2,⟨0,0,0,0⟩,m,0⟩) (by omega) _ rfl
 rw [set_set,set_set,set_set,set_set,set_set,HT.out] at h
 exact ⟨rfl,h,(((((HK.out.set (.inl rfl) _ _).set (.inl rfl) _ _).set (.inl rfl) _ _).set (.inl rfl) _ _).set (.inl rfl) _ _).set (.inl rfl) _ _⟩
theorem nU {w w':World} {gb n:Nat} {bs:List (Value × S47)} {tl:List Value} {p:Value × S47} {e:Ending} {r:Bool} (hB:w.heap[gb]?=some (.cells (bf bs tl) 47 (0,0))) (hp:bs[n]?=some p) (h:e = .returned (.bool r)∧w'=w) :
 e = .returned (.bool r)∧w'.heap[gb]?=some (.cells (bf (bs.set n p) tl) 47 (0,0))∧Kp (fun k=>k=gb) w w':=by
 obtain ⟨h1,rfl⟩:=h
 exact ⟨h1,by rw [set_self hp];exact hB,Kp.refl _ _⟩
theorem vI (w:World) (gs gb n:Nat) (s:St) (bs:List (Value × S47)) (tl:List Value) (v0:Value) (b:S47) (hS:w.heap[gs]?=some (.cells (aA s) 151 (0,0))) (hB:w.heap[gb]?=some (.cells (bf bs tl) 47 (0,0))) (hw:Wst s) (hp:bs[n]?=some (v0,b)) (he:iH b=true) (hr:Rg b.f2.f3) :
 Calls Try.prog 129 #[.pointer (some ⟨gs,0,none⟩),.pointer (some ⟨gb,n*8,none⟩)] w fun e w'=>e = .returned (.bool (enF s b).2)∧w'.heap[gb]?=some (.cells (bf (bs.set n (v0,(enF s b).1)) tl) 47 (0,0))∧Kp (fun k=>k=gb) w w':=by
 have hl:=hw.len
 obtain ⟨c,f1,⟨l0,l1,l2,l3⟩,y,m⟩:=b
 unfold enF
 dsimp only
 have hc:=eB he
 dsimp only at hc hr
 by_cases h1:f1=1
 · have h3:(f1 != 3)=true:=bne_iff_ne.mpr (by omega)
   by_cases h22:l0=22
   · rw [if_pos ⟨h1,h22⟩]
     cases e0:gS s 0 with
     | some v=>exact end_a w gs gb n s bs tl v0 c f1 l0 l1 l2 l3 y m hS hB hl hp (gL h1) (gL h22) v e0
     | none=>exact (end_b w gs gb n s bs tl v0 c f1 l0 l1 l2 l3 y m hS hB hl hp (gL h1) (gL h22) h3 e0).mono fun e w' h=>nU hB hp h
   rw [if_neg (fun h=>h22 h.2),if_pos (by omega)]
   exact (end_c w gs gb n s bs tl v0 c f1 l0 l1 l2 l3 y m hS hB hl hp (gL h1) (aX h22) h3).mono fun e w' h=>nU hB hp h
 rw [if_neg (fun h=>h1 h.1)]
 by_cases h3:f1=3
 · rw [if_neg (by omega)]
   have h3':(f1 != 3)=false:=bne_eq_false_iff_eq.mpr h3
   have hj:jmB l0=true:=by rcases hc with h | h | h;omega;omega;exact h.2.1
   have hm:l0∈([21,29,37,45,53,61,69,77]:List Int):=of_decide_eq_true hj
   unfold fV
   dsimp only
   by_cases hx:l0∈tX
   · have H8:∀ c∈tX,(Go.bits .and .u16 c 8 != 0)=true∧Go.bits .andNot .u16 c 8=c - 8∧jmB (c - 8)=true:=by decide +kernel
     obtain ⟨q1,q2,q3⟩:=H8 l0 hx
     rw [if_pos hx]
     cases e1:gS s 1 with
     | some x=>
      dsimp only
      rw [←q2]
      have q3':jmB (Go.bits .andNot .u16 l0 8)=true:=by rw [q2];exact q3
      cases e:jg s ⟨Go.bits .andNot .u16 l0 8,0,0,x⟩ with
      | none=>exact end_xn w gs gb n s bs tl v0 c f1 l0 l1 l2 l3 y m hS hB hl hp (aX h1) h3' q1 x e1 q3' e
      | some yy=>
       cases yy with
       | true=>exact end_xt w gs gb n s bs tl v0 c f1 l0 l1 l2 l3 y m hS hB hl hp (aX h1) h3' q1 x e1 q3' e
       | false=>exact end_xf w gs gb n s bs tl v0 c f1 l0 l1 l2 l3 y m hS hB hl hp (aX h1) h3' q1 x e1 q3' e
     | none=>
      dsimp only
      have e:jg s ⟨l0,l1,l2,l3⟩=none:=by unfold jg;rw [if_pos hx]
      rw [e]
      exact end_un w gs gb n s bs tl v0 c f1 l0 l1 l2 l3 y m hS hB hl hp (aX h1) h3' q1 e1 hj e
   rw [if_neg hx]
   have q1:(Go.bits .and .u16 l0 8 != 0)=false:=by
    simp only [tX,List.mem_cons,List.not_mem_nil,or_false] at hm hx
    have:l0=21∨l0=37∨l0=53∨l0=69:=by omega
    rcases this with rfl | rfl | rfl | rfl<;>decide +kernel
   dsimp only
   cases e:jg s ⟨l0,l1,l2,l3⟩ with
   | none=>exact end_kn w gs gb n s bs tl v0 c f1 l0 l1 l2 l3 y m hS hB hl hp (aX h1) h3' q1 hj e
   | some yy=>
    cases yy with
    | true=>exact end_kt w gs gb n s bs tl v0 c f1 l0 l1 l2 l3 y m hS hB hl hp (aX h1) h3' q1 hj e
    | false=>exact end_kf w gs gb n s bs tl v0 c f1 l0 l1 l2 l3 y m hS hB hl hp (aX h1) h3' q1 hj e
 rw [if_pos h3]
 exact (end_d w gs gb n s bs tl v0 c f1 l0 l1 l2 l3 y m hS hB hl hp (aX h1) (bne_iff_ne.mpr h3)).mono fun e w' h=>nU hB hp h
section
variable {α:Type} {f:α→List Value} {K:Nat}
theorem oM (hf:∀ a,(f a).length=K) (L:List α):(L.flatMap f).length=L.length*K:=by
 induction L with
 | nil=>simp
 | cons a r ih=>rw [List.flatMap_cons,List.length_append,ih,hf,List.length_cons,Nat.add_mul,Nat.one_mul,Nat.add_comm]
theorem uS (hf:∀ a,(f a).length=K):∀ (L:List α) (n:Nat),(L.flatMap f).drop (n*K)=(L.drop n).flatMap f:=by
 intro L
 induction L with
 | nil=>intro n;simp
 | cons a r ih=>
  intro n
  cases n with
  | zero=>simp
  | succ n=>
   rw [List.flatMap_cons,List.drop_succ_cons,←ih n,Nat.add_mul,Nat.one_mul,Nat.add_comm,List.drop_append,hf,List.drop_eq_nil_of_le (by rw [hf];omega),List.nil_append,Nat.add_sub_cancel_left]
theorem sg_take (hf:∀ a,(f a).length=K):∀ (L:List α) (n:Nat),(L.flatMap f).take (n*K)=(L.take n).flatMap f:=by
 intro L
 induction L with
 | nil=>intro n;simp
 | cons a r ih=>
  intro n
  cases n with
  | zero=>simp
  | succ n=>
   rw [List.flatMap_cons,List.take_succ_cons,List.flatMap_cons,←ih n,Nat.add_mul,Nat.one_mul,Nat.add_comm,List.take_append,hf,List.take_of_length_le (by rw [hf];omega),Nat.add_sub_cancel_left]
theorem oN (hf:∀ a,(f a).length=K) {w:World} {b:Nat} {L:List α} {T:TypeId} (hb:w.heap[b]?=some (.cells (L.flatMap f).toArray T (0,0))) {n:Nat} {x:α} (hx:L[n]?=some x):w.rangeAt b (n*K) (f x):=by
 intro j v hv
 have hj:j<K:=by have:=(List.getElem?_eq_some_iff.1 hv).1;rw [hf] at this;exact this
 rw [ae hb,List.getElem?_toArray]
 have h1:=uS hf L n
 rw [←List.getElem?_drop,h1]
 have h2:=(List.getElem?_eq_some_iff.1 hx).1
 rw [List.drop_eq_getElem_cons h2,List.flatMap_cons,List.getElem?_append_left (by rw [hf];exact hj)]
 rw [show L[n]=x from (List.getElem?_eq_some_iff.1 hx).2]
 exact hv
theorem pG {w:World} {b:Nat} {cs:Array Value} {T:TypeId} (hb:w.heap[b]?=some (.cells cs T (0,0))) {o n:Nat} (h:o+n≤cs.size):w.there b o n:=by
 intro j hj
 refine ⟨?_,ah hb _⟩
 rw [ae hb,Array.getElem?_eq_getElem (by omega)];rfl
theorem lW (hf:∀ a,(f a).length=K) {w:World} {b:Nat} {L:List α} {T:TypeId} (hb:w.heap[b]?=some (.cells (L.flatMap f).toArray T (0,0))) {n:Nat} (hn:n<L.length):w.there b (n*K) K:=by
 refine pG hb ?_
 rw [List.size_toArray,oM hf]
 have:=Nat.mul_le_mul_right K (show n+1≤L.length by omega)
 rw [Nat.add_mul,Nat.one_mul] at this
 exact this
theorem ui (hf:∀ a,(f a).length=K) {w:World} {b:Nat} {L:List α} {T:TypeId} (hb:w.heap[b]?=some (.cells (L.flatMap f).toArray T (0,0))) {n:Nat} (hn:n<L.length) (v:α) :
 (w.setCells b (n*K) (f v)).heap[b]?=some (.cells ((L.set n v).flatMap f).toArray T (0,0))∧Kp (fun k=>k=b) w (w.setCells b (n*K) (f v)):=by
 have hle:n*K+K≤L.length*K:=by
  have:=Nat.mul_le_mul_right K (show n+1≤L.length by omega)
  rw [Nat.add_mul,Nat.one_mul] at this
  exact this
 obtain ⟨cur',h3,h4,h5⟩:=kg (f v) (n*K) w (L.flatMap f).toArray hb (by rw [hf,List.size_toArray,oM hf];exact hle)
 have he:cur'=((L.set n v).flatMap f).toArray:=by
  apply Array.ext'
  rw [h5,hf]
  show (L.flatMap f).take (n*K)++f v++(L.flatMap f).drop (n*K+K)=(L.set n v).flatMap f
  rw [sg_take hf,show n*K+K=(n+1)*K by rw [Nat.add_mul,Nat.one_mul],uS hf,List.set_eq_take_append_cons_drop,if_pos hn,List.flatMap_append,List.flatMap_cons,List.append_assoc]
 rw [he] at h3
 have s:=iG b (f v) (n*K) w
 exact ⟨h3,s.1,s.2.1,s.2.2.1,Nat.le_of_eq s.2.2.2.symm,fun i _ hi=>ik (f v) (n*K) i hi⟩
theorem ek {P:Program} {ops:Array Oper} {rest:List Oper} {op:Oper} {a:Act} {w:World} {Q:Exit→Act→World→Prop} (hgd:op.guard=none) (hd:op.dst=none) (ty:TypeId) (x y:Operand) (ho:op.op = .store ty x y)
 (hf:∀ a,(f a).length=K) (hone:∀ a,∀ u∈f a,u.oneCell'=true) (b n:Nat) (L:List α) (v:α) (T:TypeId) (hx:a.eval x = .pointer (some ⟨b,n*K,none⟩)) (hy:a.eval y = .agg (f v).toArray)
 (hb:w.heap[b]?=some (.cells (L.flatMap f).toArray T (0,0))) (hn:n<L.length) (hi:(P.info? ty).map (·.size)=some K)
 (h:∀ w',w'.heap[b]?=some (.cells ((L.set n v).flatMap f).toArray T (0,0))→Kp (fun k=>k=b) w w'→wpList P ops Q rest a w'):wpList P ops Q (op :: rest) a w:=by
 have hs:(f v).toArray.size=K:=by rw [List.size_toArray,hf]
 refine wpList_store_mid hgd ty x y ho b (n*K) (f v).toArray hx hy (by rw [hs];exact lW hf hb hn) (by rw [hs];exact hi) (all_oneCell_toArray (hone v)) ?_
 have hp:=ui hf hb hn v
 have:=h _ hp.1 hp.2
 rw [hd]
 exact this
theorem iQ {P:Program} {ops:Array Oper} {rest:List Oper} {op:Oper} {a:Act} {w:World} {Q:Exit→Act→World→Prop} (hgd:op.guard=none) (ty:TypeId) (x:Operand) (ho:op.op = .load ty x)
 (hf:∀ a,(f a).length=K) (b n:Nat) (L:List α) (v:α) (T:TypeId) (hx:a.eval x = .pointer (some ⟨b,n*K,none⟩))
 (hb:w.heap[b]?=some (.cells (L.flatMap f).toArray T (0,0))) (hn:L[n]?=some v) (d:TypeDesc) (hu:P.underlying ty=some d) (hd:d.isRow=true) (hi:(P.info? ty).map (·.size)=some K)
 (h:wpList P ops Q rest (a.put op.dst (.agg (f v).toArray)) w):wpList P ops Q (op :: rest) a w:=
 wpList_load_mid hgd ty x ho b (n*K) hx (f v) d (oN hf hb hn) hu hd (by rw [hf];exact hi) h
end
def Fil (w:World) (gc cap k:Nat) (o r:List S45):Prop:=
 ∃ mid tl:List Value,w.heap[gc]?=some (.cells (o.flatMap i4++mid++r.flatMap i4++tl).toArray 45 (0,0))∧o.length*4+mid.length=k*4∧(o.flatMap i4++mid++r.flatMap i4++tl).length=cap*4
section
variable {w w':World} {gc cap k:Nat} {o r c:List S45} {i j:S45}
theorem Fil.of {tl:List Value} (h:CdA w gc cap c tl):Fil w gc cap 0 [] c:=⟨[],tl,by simpa using h.blk,rfl,by simpa using h.size⟩
theorem Fil.lt (h:Fil w gc cap k o r):gc<w.heap.size:=by obtain ⟨_,_,h1,_⟩:=h;exact ay h1
theorem Fil.le (h:Fil w gc cap k o r):o.length≤k∧k+r.length≤cap:=by
 obtain ⟨mid,tl,_,h2,h3⟩:=h
 rw [List.length_append,List.length_append,List.length_append,jX,jX] at h3
 omega
theorem Fil.move (h:Fil w gc cap k o r) (hm:w'.heap[gc]?=w.heap[gc]?):Fil w' gc cap k o r:=by
 obtain ⟨mid,tl,h1,h2⟩:=h
 exact ⟨mid,tl,hm.trans h1,h2⟩
theorem Fil.below (h:Fil w gc cap k o r) (hb:Below w.heap.size w w'):Fil w' gc cap k o r:=h.move (hb.block _ h.lt)
theorem Fil.kp {S:Nat→Prop} (h:Fil w gc cap k o r) (hk:Kp S w w') (hS:¬S gc):Fil w' gc cap k o r:=h.move (hk.block _ h.lt hS)
theorem Fil.get (h:Fil w gc cap k o (i :: r)) {q:Nat} (hq:q<4):w.cell? ⟨gc,k*4+q,none⟩=(i4 i)[q]?:=by
 obtain ⟨mid,tl,h1,h2,_⟩:=h
 rw [ae h1,List.getElem?_toArray]
 have hp:(o.flatMap i4++mid).length=k*4:=by rw [List.length_append,jX];exact h2
 rw [List.append_assoc (o.flatMap i4++mid),List.getElem?_append_right (by omega),hp,Nat.add_sub_cancel_left,List.flatMap_cons,List.append_assoc,List.getElem?_append_left (by exact hq)]
theorem Fil.skip (h:Fil w gc cap k o (i :: r)):Fil w gc cap (k+1) o r:=by
 obtain ⟨mid,tl,h1,h2,h3⟩:=h
 have e:o.flatMap i4++mid++(i :: r).flatMap i4++tl=o.flatMap i4++(mid++i4 i)++r.flatMap i4++tl:=by
  rw [List.flatMap_cons];simp only [List.append_assoc]
 rw [e] at h1 h3
 exact ⟨mid++i4 i,tl,h1,by rw [List.length_append];show _+(_+4)=_;omega,h3⟩
theorem Fil.write (h:Fil w gc cap k o (i :: r)):∃ cur:Array Value,w.heap[gc]?=some (.cells cur 45 (0,0))∧o.length*4+(i4 j).length≤cur.size ∧
 ∀ w':World,w'.heap[gc]?=some (.cells (cur.toList.take (o.length*4)++i4 j++cur.toList.drop (o.length*4+(i4 j).length)).toArray 45 (0,0))→Fil w' gc cap (k+1) (o++[j]) r:=by
 have hle:=h.le
 obtain ⟨mid,tl,h1,h2,h3⟩:=h
 have h4:(i4 j).length=4:=rfl
 have h5:(i4 i).length=4:=rfl
 refine ⟨_,h1,?_,fun w' hw=>?_⟩
 · rw [List.size_toArray,h3,h4];simp at hle;omega
 refine ⟨(mid++i4 i).drop 4,tl,?_,?_,?_⟩
 · rw [hw]
   congr 3
   have e:o.flatMap i4++mid++(i :: r).flatMap i4++tl=o.flatMap i4++((mid++i4 i)++(r.flatMap i4++tl)):=by rw [List.flatMap_cons];simp only [List.append_assoc]
   show ((o.flatMap i4++mid++(i :: r).flatMap i4++tl).take (o.length*4)++i4 j++(o.flatMap i4++mid++(i :: r).flatMap i4++tl).drop (o.length*4+(i4 j).length))=_
   rw [e,←jX o,List.take_left,List.drop_append,List.drop_eq_nil_of_le (Nat.le_add_right _ _),List.nil_append,Nat.add_sub_cancel_left,h4,List.drop_append_of_le_length (by rw [List.length_append,h5];omega),List.flatMap_append,List.flatMap_cons,List.flatMap_nil,List.append_nil]
   simp only [List.append_assoc]
 · rw [List.length_append,List.length_drop,List.length_append,h5];simp;omega
 rw [List.flatMap_cons] at h3
 simp only [List.length_append,List.flatMap_append,List.flatMap_cons,List.flatMap_nil,List.append_nil,List.length_drop,h4,h5] at h3 ⊢
 omega
theorem Fil.done (h:Fil w gc cap k o r) (hm:cap≤maxLen):Cd w (.slice (some ⟨gc,0,none⟩) o.length cap) o:=by
 have hle:=h.le
 obtain ⟨mid,tl,h1,h2,h3⟩:=h
 refine .inr ⟨gc,cap,mid++r.flatMap i4++tl,rfl,?_,by omega,hm,?_⟩
 · rw [h1];congr 2;simp only [List.append_assoc]
 rw [←h3];simp only [List.append_assoc]
end
theorem uK:(Try.prog.info? 45).map (fun i=>(i.zero,i.size,i.bytes))=some (some (.agg #[.int .u16 0,.int .u8 0,.int .u8 0,.int .u32 0]),4,8):=mh
theorem il (w:World) {ops:Array Oper} {rest:List Oper} {op:Oper} {a:Act} {Q:Exit→Act→World→Prop} (hg:op.guard=none) (s x:Operand)
 (hop:op.op=Op.call {callee:=Callee.builtin Builtin.append,args:=#[s,x],argTypes:=#[26,26]})
 {gc cap k:Nat} {o r:List S45} {i:S45} (hF:Fil w gc cap k o (i :: r)) (hs:a.eval s = .slice (some ⟨gc,0,none⟩) o.length cap) (j:S45) (ad:Addr) (hx:a.eval x = .slice (some ad) 1 1)
 (hnews:∀ q u,(i4 j)[q]?=some u→w.cell? (ad.add q)=some u)
 (hK:∀ w',Fil w' gc cap (k+1) (o++[j]) r→Kp (fun k=>k=gc) w w'→wpList Try.prog ops Q rest (a.put op.dst (.slice (some ⟨gc,0,none⟩) (o.length+1) cap)) w'):wpList Try.prog ops Q (op :: rest) a w:=by
 obtain ⟨cur,h1,h2,h3⟩:=Fil.write (j:=j) hF
 have hle:=hF.le
 exact lY w hg s x 26 hop 45 _ 4 8 Try.underlying26 uK gc o.length cap hs cur h1 ad 1 1 (i4 j) hx rfl hnews (by intro u hu;simp only [i4,List.mem_cons,List.not_mem_nil,or_false] at hu;rcases hu with rfl | rfl | rfl | rfl<;>rfl) (by simp at hle;omega) h2 (fun w' hw hk=>hK w' (h3 w' hw) hk)
theorem new3 (w:World) (o1 o2 o3:Obj):(((w.alloc o1).alloc o2).alloc o3).heap[w.heap.size]?=some o1∧(((w.alloc o1).alloc o2).alloc o3).heap[w.heap.size+1]?=some o2∧(((w.alloc o1).alloc o2).alloc o3).heap[w.heap.size+1+1]?=some o3∧Below w.heap.size w (((w.alloc o1).alloc o2).alloc o3):=by
 have h1:=heap_alloc_new w o1
 have h2:=heap_alloc_new (w.alloc o1) o2
 have h3:=heap_alloc_new ((w.alloc o1).alloc o2) o3
 rw [World.size_alloc] at h2
 rw [World.size_alloc,World.size_alloc] at h3
 refine ⟨?_,?_,h3,ai (ai (ai (Below.refl _ w) _) _) _⟩
 · rw [heap_alloc_old _ _ (by rw [World.size_alloc,World.size_alloc];omega),heap_alloc_old _ _ (by rw [World.size_alloc];omega)];exact h1
 rw [heap_alloc_old _ _ (by rw [World.size_alloc,World.size_alloc];omega)];exact h2
theorem Al (s:St):∀ u∈(aA s).toList,u.oneCell'=true:=by
 intro u hu
 obtain ⟨o,_,h⟩:=List.mem_flatMap.1 (show u∈s.flatMap iB from hu)
 simp only [iB,List.mem_cons,List.not_mem_nil,or_false] at h
 rcases h with rfl | rfl<;>rfl
theorem qP {s:St} (h:s.length=18):(aA s).size=36:=by
 unfold aA
 rw [List.size_toArray,oM (K:=2) (fun _=>rfl),h]
theorem cz:(Try.prog.info? 151).map (·.size)=some 36:=by kernel_rfl
def kW (s t:St) (k:Nat):St:=(kG s t).take k++s.drop k
theorem lQ {s t:St} (h1:s.length=18) (h2:t.length=18) (k:Nat):(kW s t k).length=18:=by
 unfold kW
 rw [List.length_append,List.length_take,List.length_drop,iV h1 h2,h1];omega
theorem metP_0 (s t:St):kW s t 0=s:=by unfold kW;rw [List.take_zero,List.drop_zero,List.nil_append]
theorem metP_18 {s t:St} (h1:s.length=18) (h2:t.length=18):kW s t 18=kG s t:=by
 unfold kW;rw [List.drop_eq_nil_of_le (by omega),List.append_nil,List.take_of_length_le (by rw [iV h1 h2];exact Nat.le_refl _)]
theorem qC {s t:St} {k:Nat} (h1:s.length=18) (h2:t.length=18) (hk:k<18):gS (kW s t k) k=gS s k:=by
 unfold kW gS
 rw [List.getD_eq_getElem?_getD,List.getD_eq_getElem?_getD,List.getElem?_append_right (by rw [List.length_take];omega),List.length_take,iV h1 h2,List.getElem?_drop,Nat.min_eq_left (by omega),Nat.sub_self,Nat.add_zero]
theorem met_at {s t:St} {k:Nat} (h1:s.length=18) (h2:t.length=18) (hk:k<18):(kG s t)[k]?=some (if gS s k=gS t k then gS s k else none):=by
 unfold kG gS
 rw [List.getElem?_zipWith,List.getD_eq_getElem?_getD,List.getD_eq_getElem?_getD,List.getElem?_eq_getElem (by omega),List.getElem?_eq_getElem (by omega)]
 rfl
theorem pQ {s t:St} {k:Nat} (h1:s.length=18) (h2:t.length=18) (hk:k<18):kW s t (k+1)=(kW s t k).set k (if gS s k=gS t k then gS s k else none):=by
 have hm:=met_at h1 h2 hk
 have hl:k<(kG s t).length:=by rw [iV h1 h2];exact hk
 unfold kW
 rw [List.take_succ_eq_append_getElem hl,List.set_append_right _ _ (by rw [List.length_take];omega),List.length_take,Nat.min_eq_left (by omega),Nat.sub_self,List.append_assoc,List.drop_eq_getElem_cons (show k<s.length by omega),List.set_cons_zero]
 rw [List.getElem?_eq_getElem hl] at hm
 injection hm with hm
 rw [hm];rfl
theorem metP_eq {s t:St} {k:Nat} (h1:s.length=18) (h2:t.length=18) (hk:k<18) (h:gS s k=gS t k):kW s t (k+1)=kW s t k:=by
 rw [pQ h1 h2 hk,if_pos h]
 apply List.ext_getElem?
 intro i
 rw [List.getElem?_set]
 split
 · rename_i e
   subst e
   have:=qC (s:=s) (t:=t) h1 h2 hk
   rw [if_pos (by rw [lQ h1 h2];exact hk),←this]
   unfold gS
   rw [List.getD_eq_getElem?_getD,List.getElem?_eq_getElem (by rw [lQ h1 h2];exact hk)]
   rfl
 rfl
structure MI1 (w wr:World) (g:Nat) (s t:St) (k:Nat):Prop where
 b:Below w.heap.size w wr
 eg:g=w.heap.size
 s:wr.heap[g]?=some (.cells (aA (kW s t k)) 151 (0,0))
 t:wr.heap[g+1]?=some (.cells (aA t) 151 (0,0))
 r:wr.heap[g+1+1]?=some (.cells (aA (List.replicate 18 none)) 151 (0,0))
theorem MI1.same {w wr:World} {g k:Nat} {s t:St} (h:MI1 w wr g s t k) (h1:s.length=18) (h2:t.length=18) (hk:k<18) (e:gS s k=gS t k) (n:Nat):MI1 w (wr.drewN n) g s t (k+1):=by
 have hb:=aj (Below.refl wr.heap.size wr) n
 exact ⟨au h.b hb,h.eg,by rw [metP_eq h1 h2 hk e];exact ak h.s hb,ak h.t hb,ak h.r hb⟩
theorem MI1.put {w wr:World} {g k:Nat} {s t:St} (h:MI1 w wr g s t k) (h1:s.length=18) (h2:t.length=18) (hk:k<18) (e:gS s k≠gS t k) (n:Nat) :
 MI1 w (((wr.drewN n).setCell ⟨g,k*2,none⟩ (.bool false)).setCell ⟨g,k*2+1,none⟩ (.int .u32 0)) g s t (k+1):=by
 have hb:=aj (Below.refl wr.heap.size wr) n
 have hg:=h.eg
 refine ⟨eY (eY (au h.b hb) (by omega)) (by omega),h.eg,?_,bN (bN (ak h.t hb) (by show g+1≠g;omega) _) (by show g+1≠g;omega) _,bN (bN (ak h.r hb) (by show g+1+1≠g;omega) _) (by show g+1+1≠g;omega) _⟩
 rw [pQ h1 h2 hk,if_neg e]
 exact aI (aI (ak h.s hb) (k*2) _ rfl) (k*2+1) _ (iF (i:=k) none (by rw [lQ h1 h2];exact hk))
theorem tF (w:World) (s t:St) (hs:s.length=18) (ht:t.length=18) :
 Calls Try.prog 127 #[.agg (aA s),.agg (aA t)] w fun e w'=>e = .returned (.agg (aA (kG s t)))∧Below w.heap.size w w':=by
 have HSL:=aa.mk (And.intro hs ht)
 clear hs ht
 go_enter Try.func127,Try.ntmps127
 go_upto_region 1 with (fail)
 refine forget (fun W=>∃ g,MI1 w W g s t 0) ⟨_,by have h:=new3 w (.cells (aA s) 151 (0,0)) (.cells (aA t) 151 (0,0)) (.cells (aA (List.replicate 18 none)) 151 (0,0));exact ⟨h.2.2.2,rfl,by rw [metP_0];exact h.1,h.2.1,h.2.2.1⟩⟩ ?_
 rintro W ⟨g,HM⟩
 rw [←HM.eg]
 have HM2:=aa.mk HM
 clear HM
 go_wp2
 go_loopw [6] (fun v6 wr=>∃ k:Nat,k≤18∧v6 = .int .i64 k∧aa (MI1 w wr g s t k)) (fun v6 _=>18 - (intOf v6).toNat)
 case atStart=>exact ⟨0,by omega,rfl,HM2⟩
 case round=>
  clear HM2
  obtain ⟨k,hk,rfl,HM⟩:=hrel
  by_cases hlt:k<18
  · have i0:(0:Int)≤(k:Int):=by omega
    have i1:(k:Int)<18:=by omega
    have hl:=lQ HSL.out.1 HSL.out.2 k
    have c0:wr.cell? ⟨g,k*2,none⟩=some (.bool (gS s k).isSome):=(ae HM.out.s (k*2)).trans ((bQ (s:=kW s t k) (i:=k) (by omega)).trans (by rw [qC HSL.out.1 HSL.out.2 hlt]))
    have c1:wr.cell? ⟨g,k*2+1,none⟩=some (.int .u32 ((gS s k).getD 0)):=(ae HM.out.s (k*2+1)).trans ((cu (s:=kW s t k) (i:=k) (by omega)).trans (by rw [qC HSL.out.1 HSL.out.2 hlt]))
    have d0:wr.cell? ⟨g+1,k*2,none⟩=some (.bool (gS t k).isSome):=(ae HM.out.t (k*2)).trans (bQ (s:=t) (i:=k) (by rw [HSL.out.2];omega))
    have d1:wr.cell? ⟨g+1,k*2+1,none⟩=some (.int .u32 ((gS t k).getD 0)):=(ae HM.out.t (k*2+1)).trans (cu (s:=t) (i:=k) (by rw [HSL.out.2];omega))
    have f0:=ah HM.out.s (k*2)
    have f1:=ah HM.out.s (k*2+1)
    have hlg:=ay HM.out.s
    have HE:aa (((gS s k).isSome=(gS t k).isSome∧(gS s k).getD 0=(gS t k).getD 0)↔gS s k=gS t k):=⟨by
     cases gS s k<;>cases gS t k<;>simp⟩
    generalize (gS s k).isSome=a1 at c0 HE
    generalize (gS s k).getD 0=a2 at c1 HE
    generalize (gS t k).isSome=b1 at d0 HE
    generalize (gS t k).getD 0=b2 at d1 HE
    clear hl
    cases a1<;>cases b1<;>by_cases e2:a2=b2
    all_goals
     try subst e2
     go_wp2
     go_quiet (fail)
     go_wp2
     go_roundw
     case rel=>
      first
       | exact ⟨k+1,by omega,by go_num,⟨HM.out.same HSL.out.1 HSL.out.2 hlt (HE.out.1 ⟨by trivial,by trivial⟩) _⟩⟩
       | exact ⟨k+1,by omega,by go_num,⟨HM.out.put HSL.out.1 HSL.out.2 hlt (fun e=>by obtain ⟨q1,q2⟩:=HE.out.2 e;first | exact e2 q2 | cases q1) _⟩⟩
     case measure=>simp [intOf];omega
  have hkl:k=18:=by omega
  subst hkl
  have HM2:aa (Below w.heap.size w wr∧g=w.heap.size∧wr.heap[g]?=some (.cells (aA (kG s t)) 151 (0,0))∧wr.heap[g+1+1]?=some (.cells (aA (List.replicate 18 none)) 151 (0,0))):=⟨HM.out.b,HM.out.eg,by rw [←metP_18 HSL.out.1 HSL.out.2];exact HM.out.s,HM.out.r⟩
  have HSZ:=aa.mk (qP (iV HSL.out.1 HSL.out.2))
  have HSR:=aa.mk (qP (s:=List.replicate 18 none) List.length_replicate)
  clear HM hlt hk
  go_wp2_with (first
   | (refine wpList_load_row rfl 151 (.tmp 2) rfl g rfl 151 (aA (kG s t)) (0,0) _ HM2.out.2.2.1 Try.underlying151 rfl (by rw [HSZ.out];exact cz) ?_)
   | (go_loud (refine iL rfl rfl rfl rfl HM2.out.2.2.2 rfl rfl (HSZ.out.trans HSR.out.symm) (by rw [HSR.out];exact cz) (Al _) ?_);intro w5 hr5 hk5 hb5;have HR5:=aa.mk hr5;have HB5:=aa.mk hb5;clear hr5 hk5 hb5))
  refine bodyPost_ret (results_cell_row rfl _ _ (g+1+1) 151 (aA (kG s t)) (0,0) _ rfl HR5.out Try.underlying151 rfl (by rw [HSZ.out];exact cz)) rfl ?_
  refine ⟨rfl,?_⟩
  have hg:=HM2.out.2.1
  exact qf HM2.out.1 (by omega) HB5.out
end Go.Proofs.Ytdkalnkplgfgoaa.Ln
