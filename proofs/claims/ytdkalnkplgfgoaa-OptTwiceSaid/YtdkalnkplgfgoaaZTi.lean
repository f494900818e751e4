/- Lemmas and walks for the statements of the texts ZTZ..: the declarations that they need, taken together by a program of this session. Conditions: as each says. -/
import Derived.Test.YtdkalnkplgfgoaaZTb
import Derived.Test.YtdkalnkplgfgoaaZTh
set_option maxHeartbeats 8000000
set_option maxRecDepth 100000
set_option linter.unusedVariables false
set_option linter.unusedSimpArgs false
namespace Go.Proofs.Ytdkalnkplgfgoaa.Ln
open Go.RowKit Go.Maps Go.Proofs.YtdkalnkplgfgoaaW.PrintWords Go.Proofs.YtdkalnkplgfgoaaW.PrintLast Go.Proofs.YtdkalnkplgfgoaaW.PrintMore Go.Proofs.Ytdkalnkplgfgoaa.PA
def bn (l:Lw):Array Value:=(l.map Value.bool).toArray
theorem kM {l:Lw} {j:Nat} (h:j<l.length):(bn l)[j]?=some (.bool (inW l j)):=by
 unfold bn inW
 rw [List.getElem?_toArray,List.getElem?_map,List.getD_eq_getElem?_getD,List.getElem?_eq_getElem h];rfl
theorem oU {l:Lw} {j:Nat} (b:Bool):(bn l).setIfInBounds j (.bool b)=bn (l.set j b):=by
 unfold bn
 rw [List.setIfInBounds_toArray,←List.map_set]
structure RI (w V:World) (gl gi:Nat) (l:Lw) (c i1 i2 k:Int):Prop where
 kp:Kp (fun x=>x=gl) w V
 l:V.heap[gl]?=some (.cells (bn l) 167 (0,0))
 i:V.heap[gi]?=some (.cells #[.int .u16 c,.int .u8 i1,.int .u8 i2,.int .u32 k] 45 (0,0))
 ne:gi≠gl
theorem RI.x {w V:World} {gl gi:Nat} {l:Lw} {c i1 i2 k:Int} (h:RI w V gl gi l c i1 i2 k) (j:Nat) (hj:j<l.length:=by (try simp only [List.length_set]);omega):V.cell? ⟨gl,j,none⟩=some (.bool (inW l j)):=(ae h.l j).trans (kM hj)
theorem RI.y {w V:World} {gl gi:Nat} {l:Lw} {c i1 i2 k:Int} (h:RI w V gl gi l c i1 i2 k):V.cell? ⟨gi,0,none⟩=some (.int .u16 c):=(ae h.i 0).trans rfl
theorem RI.new {w:World} {gl:Nat} {l:Lw} {c i1 i2 k:Int} (h:w.heap[gl]?=some (.cells (bn l) 167 (0,0))):∃ gi,gi=w.heap.size∧RI w (w.alloc (.cells #[.int .u16 c,.int .u8 i1,.int .u8 i2,.int .u32 k] 45)) gl gi l c i1 i2 k:=⟨_,rfl,(Kp.refl _ w).below (ai (Below.refl _ _) _),aH h _,heap_alloc_new _ _,by have:=ay h;omega⟩
theorem RI.below {w V V2:World} {gl gi:Nat} {l:Lw} {c i1 i2 k:Int} (h:RI w V gl gi l c i1 i2 k) (hb:Below V.heap.size V V2):RI w V2 gl gi l c i1 i2 k:=⟨h.kp.below hb,ak h.l hb,ak h.i hb,h.ne⟩
theorem RI.put {w V:World} {gl gi:Nat} {l:Lw} {c i1 i2 k:Int} (h:RI w V gl gi l c i1 i2 k) (j:Nat) (b:Bool):RI w (V.setCell ⟨gl,j,none⟩ (.bool b)) gl gi (l.set j b) c i1 i2 k:=
 ⟨h.kp.set (.inl rfl) _ _,aI h.l j _ (oU b),bN h.i h.ne _,h.ne⟩
theorem RI.drew {w V:World} {gl gi:Nat} {l:Lw} {c i1 i2 k:Int} (h:RI w V gl gi l c i1 i2 k):RI w V.drew gl gi l c i1 i2 k:=h.below (af (Below.refl _ _))
theorem zV (w:World) (gl:Nat) (l:Lw) (c i1 i2:Int) (k:Int) (hL:w.heap[gl]?=some (.cells (bn l) 167 (0,0))) (hl:l.length=18) (hcl:∃ n,aC.f n c=some (aJ c)) (n0:(aJ c==0)=true) (a1:inW l 1=true) (h96:(c==96)=false) (h97:(c==97)=false) :
 Calls Try.prog 134 #[.pointer (some ⟨gl,0,none⟩),.agg #[.int .u16 c,.int .u8 i1,.int .u8 i2,.int .u32 k]] w fun e w'=>e = .returned (.tuple #[])∧w'.heap[gl]?=some (.cells (bn ((l).set 1 (true))) 167 (0,0))∧Kp (fun x=>x=gl) w w':=by
 obtain ⟨nc,hcl⟩:=hcl
 have HC:=aa.mk (fun W=>aC.calls nc c (aJ c) W hcl)
 have HL:=aa.mk hL
 clear hL hcl
 go_enter Try.func134,Try.ntmps134
 go_upto_region 1 with (fail)
 refine forget (fun W=>∃ gi,gi=w.heap.size∧RI w W gl gi l c i1 i2 k) (RI.new HL.out) ?_
 rintro W ⟨gi,egi,hri⟩
 rw [←egi]
 have EG:=aa.mk egi
 have HR:=aa.mk hri
 have y0:=hri.y
 clear egi hri
 go_upto_region 3 with (go_at_call 99;refine (HC.out _).mono ?_;rintro e w' ⟨rfl,⟨nd,rfl⟩⟩;have HR2:=aa.mk (HR.out.below (aj (Below.refl W.heap.size W) nd)))
 refine forget (fun V=>RI w V gl gi l c i1 i2 k) HR2.out ?_
 clear HR HR2 y0
 rintro V0 hri
 have x0:=hri.x 1
 rw [a1] at x0
 have x1:=ah hri.l 1
 have y0:=hri.y
 have HR:=aa.mk hri
 clear hri
 go_region
 go_upto_region 17 with (fail)
 refine forget (fun V=>RI w V gl gi ((l).set 1 (true)) c i1 i2 k) (HR.out.drew.put 1 _) ?_
 clear HR x0 x1 y0
 rintro V1 hri
 have y0:=hri.y
 have HR:=aa.mk hri
 clear hri
 go_wp2
 go_end0
 exact ⟨rfl,HR.out.l,HR.out.kp⟩
theorem tY (w:World) (gl:Nat) (l:Lw) (i1 i2:Int) (k:Int) (hL:w.heap[gl]?=some (.cells (bn l) 167 (0,0))) (hl:l.length=18) (hcl:∃ n,aC.f n 64=some (aJ 64)) (n0:(aJ 64==0)=true) (a1:inW l 1=false) :
 Calls Try.prog 134 #[.pointer (some ⟨gl,0,none⟩),.agg #[.int .u16 64,.int .u8 i1,.int .u8 i2,.int .u32 k]] w fun e w'=>e = .returned (.tuple #[])∧w'.heap[gl]?=some (.cells (bn ((l).set 1 (true))) 167 (0,0))∧Kp (fun x=>x=gl) w w':=by
 obtain ⟨nc,hcl⟩:=hcl
 have HC:=aa.mk (fun W=>aC.calls nc 64 (aJ 64) W hcl)
 have HL:=aa.mk hL
 clear hL hcl
 go_enter Try.func134,Try.ntmps134
 go_upto_region 1 with (fail)
 refine forget (fun W=>∃ gi,gi=w.heap.size∧RI w W gl gi l 64 i1 i2 k) ⟨_,rfl,(Kp.refl _ w).below (ai (Below.refl _ _) _),aH HL.out _,heap_alloc_new _ _,by have:=ay HL.out;omega⟩ ?_
 rintro W ⟨gi,egi,hri⟩
 rw [←egi]
 have EG:=aa.mk egi
 have HR:=aa.mk hri
 have y0:=hri.y
 clear egi hri
 go_upto_region 3 with (go_at_call 99;refine (HC.out _).mono ?_;rintro e w' ⟨rfl,⟨nd,rfl⟩⟩;have HR2:=aa.mk (HR.out.below (aj (Below.refl W.heap.size W) nd)))
 refine forget (fun V=>RI w V gl gi l 64 i1 i2 k) HR2.out ?_
 clear HR HR2 y0
 rintro V0 hri
 have x0:=hri.x 1
 rw [a1] at x0
 have x1:=ah hri.l 1
 have y0:=hri.y
 have HR:=aa.mk hri
 clear hri
 go_region
 go_upto_region 17 with (fail)
 refine forget (fun V=>RI w V gl gi ((l).set 1 (true)) 64 i1 i2 k) (HR.out.drew.put 1 _) ?_
 clear HR x0 x1 y0
 rintro V1 hri
 have y0:=hri.y
 have HR:=aa.mk hri
 clear hri
 go_wp2
 go_end0
 exact ⟨rfl,HR.out.l,HR.out.kp⟩
theorem tZ (w:World) (gl:Nat) (l:Lw) (i1 i2:Int) (k:Int) (hL:w.heap[gl]?=some (.cells (bn l) 167 (0,0))) (hl:l.length=18) (hcl:∃ n,aC.f n 72=some (aJ 72)) (n0:(aJ 72==0)=true) (a1:inW l 1=false) :
 Calls Try.prog 134 #[.pointer (some ⟨gl,0,none⟩),.agg #[.int .u16 72,.int .u8 i1,.int .u8 i2,.int .u32 k]] w fun e w'=>e = .returned (.tuple #[])∧w'.heap[gl]?=some (.cells (bn ((l).set 1 (true))) 167 (0,0))∧Kp (fun x=>x=gl) w w':=by
 obtain ⟨nc,hcl⟩:=hcl
 have HC:=aa.mk (fun W=>aC.calls nc 72 (aJ 72) W hcl)
 have HL:=aa.mk hL
 clear hL hcl
 go_enter Try.func134,Try.ntmps134
 go_upto_region 1 with (fail)
 refine forget (fun W=>∃ gi,gi=w.heap.size∧RI w W gl gi l 72 i1 i2 k) ⟨_,rfl,(Kp.refl _ w).below (ai (Below.refl _ _) _),aH HL.out _,heap_alloc_new _ _,by have:=ay HL.out;omega⟩ ?_
 rintro W ⟨gi,egi,hri⟩
 rw [←egi]
 have EG:=aa.mk egi
 have HR:=aa.mk hri
 have y0:=hri.y
 clear egi hri
 go_upto_region 3 with (go_at_call 99;refine (HC.out _).mono ?_;rintro e w' ⟨rfl,⟨nd,rfl⟩⟩;have HR2:=aa.mk (HR.out.below (aj (Below.refl W.heap.size W) nd)))
 refine forget (fun V=>RI w V gl gi l 72 i1 i2 k) HR2.out ?_
 clear HR HR2 y0
 rintro V0 hri
 have x0:=hri.x 1
 rw [a1] at x0
 have x1:=ah hri.l 1
 have y0:=hri.y
 have HR:=aa.mk hri
 clear hri
 go_region
 go_upto_region 17 with (fail)
 refine forget (fun V=>RI w V gl gi ((l).set 1 (true)) 72 i1 i2 k) (HR.out.drew.put 1 _) ?_
 clear HR x0 x1 y0
 rintro V1 hri
 have y0:=hri.y
 have HR:=aa.mk hri
 clear hri
 go_wp2
 go_end0
 exact ⟨rfl,HR.out.l,HR.out.kp⟩
theorem uf (w:World) (gl:Nat) (l:Lw) (i1 i2:Int) (k:Int) (hL:w.heap[gl]?=some (.cells (bn l) 167 (0,0))) (hl:l.length=18) (hcl:∃ n,aC.f n 80=some (aJ 80)) (n0:(aJ 80==0)=true) (a1:inW l 1=false) :
 Calls Try.prog 134 #[.pointer (some ⟨gl,0,none⟩),.agg #[.int .u16 80,.int .u8 i1,.int .u8 i2,.int .u32 k]] w fun e w'=>e = .returned (.tuple #[])∧w'.heap[gl]?=some (.cells (bn ((l).set 1 (true))) 167 (0,0))∧Kp (fun x=>x=gl) w w':=by
 obtain ⟨nc,hcl⟩:=hcl
 have HC:=aa.mk (fun W=>aC.calls nc 80 (aJ 80) W hcl)
 have HL:=aa.mk hL
 clear hL hcl
 go_enter Try.func134,Try.ntmps134
 go_upto_region 1 with (fail)
 refine forget (fun W=>∃ gi,gi=w.heap.size∧RI w W gl gi l 80 i1 i2 k) ⟨_,rfl,(Kp.refl _ w).below (ai (Below.refl _ _) _),aH HL.out _,heap_alloc_new _ _,by have:=ay HL.out;omega⟩ ?_
 rintro W ⟨gi,egi,hri⟩
 rw [←egi]
 have EG:=aa.mk egi
 have HR:=aa.mk hri
 have y0:=hri.y
 clear egi hri
 go_upto_region 3 with (go_at_call 99;refine (HC.out _).mono ?_;rintro e w' ⟨rfl,⟨nd,rfl⟩⟩;have HR2:=aa.mk (HR.out.below (aj (Below.refl W.heap.size W) nd)))
 refine forget (fun V=>RI w V gl gi l 80 i1 i2 k) HR2.out ?_
 clear HR HR2 y0
 rintro V0 hri
 have x0:=hri.x 1
 rw [a1] at x0
 have x1:=ah hri.l 1
 have y0:=hri.y
 have HR:=aa.mk hri
 clear hri
 go_region
 go_upto_region 17 with (fail)
 refine forget (fun V=>RI w V gl gi ((l).set 1 (true)) 80 i1 i2 k) (HR.out.drew.put 1 _) ?_
 clear HR x0 x1 y0
 rintro V1 hri
 have y0:=hri.y
 have HR:=aa.mk hri
 clear hri
 go_wp2
 go_end0
 exact ⟨rfl,HR.out.l,HR.out.kp⟩
theorem zU (w:World) (gl:Nat) (l:Lw) (c i1 i2:Int) (k:Int) (hL:w.heap[gl]?=some (.cells (bn l) 167 (0,0))) (hl:l.length=18) (hcl:∃ n,aC.f n c=some (aJ c)) (n0:(aJ c==0)=true) (a1:inW l 1=false) (h96:(c==96)=false) (h97:(c==97)=false) (h64:(c==64)=false) (h72:(c==72)=false) (h80:(c==80)=false) :
 Calls Try.prog 134 #[.pointer (some ⟨gl,0,none⟩),.agg #[.int .u16 c,.int .u8 i1,.int .u8 i2,.int .u32 k]] w fun e w'=>e = .returned (.tuple #[])∧w'.heap[gl]?=some (.cells (bn ((l).set 1 (false))) 167 (0,0))∧Kp (fun x=>x=gl) w w':=by
 obtain ⟨nc,hcl⟩:=hcl
 have HC:=aa.mk (fun W=>aC.calls nc c (aJ c) W hcl)
 have HL:=aa.mk hL
 clear hL hcl
 go_enter Try.func134,Try.ntmps134
 go_upto_region 1 with (fail)
 refine forget (fun W=>∃ gi,gi=w.heap.size∧RI w W gl gi l c i1 i2 k) (RI.new HL.out) ?_
 rintro W ⟨gi,egi,hri⟩
 rw [←egi]
 have EG:=aa.mk egi
 have HR:=aa.mk hri
 have y0:=hri.y
 clear egi hri
 go_upto_region 3 with (go_at_call 99;refine (HC.out _).mono ?_;rintro e w' ⟨rfl,⟨nd,rfl⟩⟩;have HR2:=aa.mk (HR.out.below (aj (Below.refl W.heap.size W) nd)))
 refine forget (fun V=>RI w V gl gi l c i1 i2 k) HR2.out ?_
 clear HR HR2 y0
 rintro V0 hri
 have x0:=hri.x 1
 rw [a1] at x0
 have x1:=ah hri.l 1
 have y0:=hri.y
 have HR:=aa.mk hri
 clear hri
 go_region
 go_upto_region 17 with (fail)
 refine forget (fun V=>RI w V gl gi ((l).set 1 (false)) c i1 i2 k) (HR.out.drew.put 1 _) ?_
 clear HR x0 x1 y0
 rintro V1 hri
 have y0:=hri.y
 have HR:=aa.mk hri
 clear hri
 go_wp2
 go_end0
 exact ⟨rfl,HR.out.l,HR.out.kp⟩
theorem vZ (w:World) (gl:Nat) (l:Lw) (i1 i2:Int) (k:Nat) (hL:w.heap[gl]?=some (.cells (bn l) 167 (0,0))) (hl:l.length=18) (hcl:∃ n,aC.f n 96=some (aJ 96)) (n0:(aJ 96==0)=true) (a1:inW l 1=true) (hk:k<16) :
 Calls Try.prog 134 #[.pointer (some ⟨gl,0,none⟩),.agg #[.int .u16 96,.int .u8 i1,.int .u8 i2,.int .u32 (k:Int)]] w fun e w'=>e = .returned (.tuple #[])∧w'.heap[gl]?=some (.cells (bn (((l).set 1 (true)).set (2+k) true)) 167 (0,0))∧Kp (fun x=>x=gl) w w':=by
 obtain ⟨nc,hcl⟩:=hcl
 have HC:=aa.mk (fun W=>aC.calls nc 96 (aJ 96) W hcl)
 have HL:=aa.mk hL
 clear hL hcl
 go_enter Try.func134,Try.ntmps134
 go_upto_region 1 with (fail)
 refine forget (fun W=>∃ gi,gi=w.heap.size∧RI w W gl gi l 96 i1 i2 (k:Int)) ⟨_,rfl,(Kp.refl _ w).below (ai (Below.refl _ _) _),aH HL.out _,heap_alloc_new _ _,by have:=ay HL.out;omega⟩ ?_
 rintro W ⟨gi,egi,hri⟩
 rw [←egi]
 have EG:=aa.mk egi
 have HR:=aa.mk hri
 have y0:=hri.y
 clear egi hri
 go_upto_region 3 with (go_at_call 99;refine (HC.out _).mono ?_;rintro e w' ⟨rfl,⟨nd,rfl⟩⟩;have HR2:=aa.mk (HR.out.below (aj (Below.refl W.heap.size W) nd)))
 refine forget (fun V=>RI w V gl gi l 96 i1 i2 (k:Int)) HR2.out ?_
 clear HR HR2 y0
 rintro V0 hri
 have x0:=hri.x 1
 rw [a1] at x0
 have x1:=ah hri.l 1
 have y0:=hri.y
 have HR:=aa.mk hri
 clear hri
 go_region
 go_upto_region 17 with (fail)
 refine forget (fun V=>RI w V gl gi ((l).set 1 (true)) 96 i1 i2 (k:Int)) (HR.out.drew.put 1 _) ?_
 clear HR x0 x1 y0
 rintro V1 hri
 have y0:=hri.y
 have y3:=d9 hri.i 3
 have x0:V1.cell? ⟨gl,2+k,none⟩=some (.bool (inW ((l).set 1 (true)) (2+k))):=(ae hri.l (2+k)).trans (kM (by (try simp only [List.length_set]);omega))
 have x1:=ah hri.l (2+k)
 have HR:=aa.mk hri
 clear hri
 go_wp2
 go_region
 go_wp2
 go_end0
 exact ⟨rfl,(HR.out.drew.put (2+k) true).l,(HR.out.drew.put (2+k) true).kp⟩
theorem vY (w:World) (gl:Nat) (l:Lw) (i1 i2:Int) (k:Nat) (hL:w.heap[gl]?=some (.cells (bn l) 167 (0,0))) (hl:l.length=18) (hcl:∃ n,aC.f n 96=some (aJ 96)) (n0:(aJ 96==0)=true) (a1:inW l 1=false) (hk:k<16) :
 Calls Try.prog 134 #[.pointer (some ⟨gl,0,none⟩),.agg #[.int .u16 96,.int .u8 i1,.int .u8 i2,.int .u32 (k:Int)]] w fun e w'=>e = .returned (.tuple #[])∧w'.heap[gl]?=some (.cells (bn (((l).set 1 (false)).set (2+k) true)) 167 (0,0))∧Kp (fun x=>x=gl) w w':=by
 obtain ⟨nc,hcl⟩:=hcl
 have HC:=aa.mk (fun W=>aC.calls nc 96 (aJ 96) W hcl)
 have HL:=aa.mk hL
 clear hL hcl
 go_enter Try.func134,Try.ntmps134
 go_upto_region 1 with (fail)
 refine forget (fun W=>∃ gi,gi=w.heap.size∧RI w W gl gi l 96 i1 i2 (k:Int)) ⟨_,rfl,(Kp.refl _ w).below (ai (Below.refl _ _) _),aH HL.out _,heap_alloc_new _ _,by have:=ay HL.out;omega⟩ ?_
 rintro W ⟨gi,egi,hri⟩
 rw [←egi]
 have EG:=aa.mk egi
 have HR:=aa.mk hri
 have y0:=hri.y
 clear egi hri
 go_upto_region 3 with (go_at_call 99;refine (HC.out _).mono ?_;rintro e w' ⟨rfl,⟨nd,rfl⟩⟩;have HR2:=aa.mk (HR.out.below (aj (Below.refl W.heap.size W) nd)))
 refine forget (fun V=>RI w V gl gi l 96 i1 i2 (k:Int)) HR2.out ?_
 clear HR HR2 y0
 rintro V0 hri
 have x0:=hri.x 1
 rw [a1] at x0
 have x1:=ah hri.l 1
 have y0:=hri.y
 have HR:=aa.mk hri
 clear hri
 go_region
 go_upto_region 17 with (fail)
 refine forget (fun V=>RI w V gl gi ((l).set 1 (false)) 96 i1 i2 (k:Int)) (HR.out.drew.put 1 _) ?_
 clear HR x0 x1 y0
 rintro V1 hri
 have y0:=hri.y
 have y3:=d9 hri.i 3
 have x0:V1.cell? ⟨gl,2+k,none⟩=some (.bool (inW ((l).set 1 (false)) (2+k))):=(ae hri.l (2+k)).trans (kM (by (try simp only [List.length_set]);omega))
 have x1:=ah hri.l (2+k)
 have HR:=aa.mk hri
 clear hri
 go_wp2
 go_region
 go_wp2
 go_end0
 exact ⟨rfl,(HR.out.drew.put (2+k) true).l,(HR.out.drew.put (2+k) true).kp⟩
theorem reads_1 (w:World) (gl:Nat) (l:Lw) (c i1 i2:Int) (k:Int) (hL:w.heap[gl]?=some (.cells (bn l) 167 (0,0))) (hl:l.length=18) (hcl:∃ n,aC.f n c=some (aJ c)) (n0:(aJ c==0)=false) (n2:(aJ c==2)=false) (n3:(aJ c==3)=false) (n4:(aJ c==4)=false) (n5:(aJ c==5)=false) (n6:(aJ c==6)=false) (n7:(aJ c==7)=false) (h96:(c==96)=false) (h97:(c==97)=false) :
 Calls Try.prog 134 #[.pointer (some ⟨gl,0,none⟩),.agg #[.int .u16 c,.int .u8 i1,.int .u8 i2,.int .u32 k]] w fun e w'=>e = .returned (.tuple #[])∧w'.heap[gl]?=some (.cells (bn (l)) 167 (0,0))∧Kp (fun x=>x=gl) w w':=by
 obtain ⟨nc,hcl⟩:=hcl
 have HC:=aa.mk (fun W=>aC.calls nc c (aJ c) W hcl)
 have HL:=aa.mk hL
 clear hL hcl
 go_enter Try.func134,Try.ntmps134
 go_upto_region 1 with (fail)
 refine forget (fun W=>∃ gi,gi=w.heap.size∧RI w W gl gi l c i1 i2 k) (RI.new HL.out) ?_
 rintro W ⟨gi,egi,hri⟩
 rw [←egi]
 have EG:=aa.mk egi
 have HR:=aa.mk hri
 have y0:=hri.y
 clear egi hri
 go_upto_region 17 with (go_at_call 99;refine (HC.out _).mono ?_;rintro e w' ⟨rfl,⟨nd,rfl⟩⟩;have HR2:=aa.mk (HR.out.below (aj (Below.refl W.heap.size W) nd)))
 refine forget (fun V=>RI w V gl gi l c i1 i2 k) HR2.out ?_
 clear HR HR2 y0
 rintro V0 hri
 have y0:=hri.y
 have HR:=aa.mk hri
 clear hri
 go_wp2
 go_end0
 exact ⟨rfl,HR.out.l,HR.out.kp⟩
theorem Ad (w:World) (gl:Nat) (l:Lw) (i1 i2:Int) (k:Nat) (hL:w.heap[gl]?=some (.cells (bn l) 167 (0,0))) (hl:l.length=18) (hcl:∃ n,aC.f n 97=some (aJ 97)) (n0:(aJ 97==0)=false) (n2:(aJ 97==2)=false) (n3:(aJ 97==3)=false) (n4:(aJ 97==4)=false) (n5:(aJ 97==5)=false) (n6:(aJ 97==6)=false) (n7:(aJ 97==7)=false) (hk:k<16) :
 Calls Try.prog 134 #[.pointer (some ⟨gl,0,none⟩),.agg #[.int .u16 97,.int .u8 i1,.int .u8 i2,.int .u32 (k:Int)]] w fun e w'=>e = .returned (.tuple #[])∧w'.heap[gl]?=some (.cells (bn ((l).set (2+k) true)) 167 (0,0))∧Kp (fun x=>x=gl) w w':=by
 obtain ⟨nc,hcl⟩:=hcl
 have HC:=aa.mk (fun W=>aC.calls nc 97 (aJ 97) W hcl)
 have HL:=aa.mk hL
 clear hL hcl
 go_enter Try.func134,Try.ntmps134
 go_upto_region 1 with (fail)
 refine forget (fun W=>∃ gi,gi=w.heap.size∧RI w W gl gi l 97 i1 i2 (k:Int)) ⟨_,rfl,(Kp.refl _ w).below (ai (Below.refl _ _) _),aH HL.out _,heap_alloc_new _ _,by have:=ay HL.out;omega⟩ ?_
 rintro W ⟨gi,egi,hri⟩
 rw [←egi]
 have EG:=aa.mk egi
 have HR:=aa.mk hri
 have y0:=hri.y
 clear egi hri
 go_upto_region 17 with (go_at_call 99;refine (HC.out _).mono ?_;rintro e w' ⟨rfl,⟨nd,rfl⟩⟩;have HR2:=aa.mk (HR.out.below (aj (Below.refl W.heap.size W) nd)))
 refine forget (fun V=>RI w V gl gi l 97 i1 i2 (k:Int)) HR2.out ?_
 clear HR HR2 y0
 rintro V0 hri
 have y0:=hri.y
 have y3:=d9 hri.i 3
 have x0:V0.cell? ⟨gl,2+k,none⟩=some (.bool (inW (l) (2+k))):=(ae hri.l (2+k)).trans (kM (by (try simp only [List.length_set]);omega))
 have x1:=ah hri.l (2+k)
 have HR:=aa.mk hri
 clear hri
 go_wp2
 go_region
 go_wp2
 go_end0
 exact ⟨rfl,(HR.out.drew.put (2+k) true).l,(HR.out.drew.put (2+k) true).kp⟩
theorem reads_2 (w:World) (gl:Nat) (l:Lw) (c i1 i2:Int) (k:Int) (hL:w.heap[gl]?=some (.cells (bn l) 167 (0,0))) (hl:l.length=18) (hcl:∃ n,aC.f n c=some (aJ c)) (n0:(aJ c==0)=false) (n2:(aJ c==2)=true) (h96:(c==96)=false) (h97:(c==97)=false) :
 Calls Try.prog 134 #[.pointer (some ⟨gl,0,none⟩),.agg #[.int .u16 c,.int .u8 i1,.int .u8 i2,.int .u32 k]] w fun e w'=>e = .returned (.tuple #[])∧w'.heap[gl]?=some (.cells (bn ((l).set 0 (true))) 167 (0,0))∧Kp (fun x=>x=gl) w w':=by
 obtain ⟨nc,hcl⟩:=hcl
 have HC:=aa.mk (fun W=>aC.calls nc c (aJ c) W hcl)
 have HL:=aa.mk hL
 clear hL hcl
 go_enter Try.func134,Try.ntmps134
 go_upto_region 1 with (fail)
 refine forget (fun W=>∃ gi,gi=w.heap.size∧RI w W gl gi l c i1 i2 k) (RI.new HL.out) ?_
 rintro W ⟨gi,egi,hri⟩
 rw [←egi]
 have EG:=aa.mk egi
 have HR:=aa.mk hri
 have y0:=hri.y
 clear egi hri
 go_upto_region 5 with (go_at_call 99;refine (HC.out _).mono ?_;rintro e w' ⟨rfl,⟨nd,rfl⟩⟩;have HR2:=aa.mk (HR.out.below (aj (Below.refl W.heap.size W) nd)))
 refine forget (fun V=>RI w V gl gi l c i1 i2 k) HR2.out ?_
 clear HR HR2 y0
 rintro V0 hri
 have x0:=hri.x 0
 have x1:=ah hri.l 0
 have y0:=hri.y
 have HR:=aa.mk hri
 clear hri
 go_upto_region 17 with (fail)
 refine forget (fun V=>RI w V gl gi ((l).set 0 (true)) c i1 i2 k) (HR.out.put 0 _) ?_
 clear HR x0 x1 y0
 rintro V1 hri
 have y0:=hri.y
 have HR:=aa.mk hri
 clear hri
 go_wp2
 go_end0
 exact ⟨rfl,HR.out.l,HR.out.kp⟩
theorem reads_3 (w:World) (gl:Nat) (l:Lw) (c i1 i2:Int) (k:Int) (hL:w.heap[gl]?=some (.cells (bn l) 167 (0,0))) (hl:l.length=18) (hcl:∃ n,aC.f n c=some (aJ c)) (n0:(aJ c==0)=false) (n2:(aJ c==2)=false) (n3:(aJ c==3)=true) (h96:(c==96)=false) (h97:(c==97)=false) :
 Calls Try.prog 134 #[.pointer (some ⟨gl,0,none⟩),.agg #[.int .u16 c,.int .u8 i1,.int .u8 i2,.int .u32 k]] w fun e w'=>e = .returned (.tuple #[])∧w'.heap[gl]?=some (.cells (bn ((l).set 1 (true))) 167 (0,0))∧Kp (fun x=>x=gl) w w':=by
 obtain ⟨nc,hcl⟩:=hcl
 have HC:=aa.mk (fun W=>aC.calls nc c (aJ c) W hcl)
 have HL:=aa.mk hL
 clear hL hcl
 go_enter Try.func134,Try.ntmps134
 go_upto_region 1 with (fail)
 refine forget (fun W=>∃ gi,gi=w.heap.size∧RI w W gl gi l c i1 i2 k) (RI.new HL.out) ?_
 rintro W ⟨gi,egi,hri⟩
 rw [←egi]
 have EG:=aa.mk egi
 have HR:=aa.mk hri
 have y0:=hri.y
 clear egi hri
 go_upto_region 7 with (go_at_call 99;refine (HC.out _).mono ?_;rintro e w' ⟨rfl,⟨nd,rfl⟩⟩;have HR2:=aa.mk (HR.out.below (aj (Below.refl W.heap.size W) nd)))
 refine forget (fun V=>RI w V gl gi l c i1 i2 k) HR2.out ?_
 clear HR HR2 y0
 rintro V0 hri
 have x0:=hri.x 1
 have x1:=ah hri.l 1
 have y0:=hri.y
 have HR:=aa.mk hri
 clear hri
 go_upto_region 17 with (fail)
 refine forget (fun V=>RI w V gl gi ((l).set 1 (true)) c i1 i2 k) (HR.out.put 1 _) ?_
 clear HR x0 x1 y0
 rintro V1 hri
 have y0:=hri.y
 have HR:=aa.mk hri
 clear hri
 go_wp2
 go_end0
 exact ⟨rfl,HR.out.l,HR.out.kp⟩
theorem zX (w:World) (gl:Nat) (l:Lw) (c i1 i2:Int) (k:Int) (hL:w.heap[gl]?=some (.cells (bn l) 167 (0,0))) (hl:l.length=18) (hcl:∃ n,aC.f n c=some (aJ c)) (n0:(aJ c==0)=false) (n2:(aJ c==2)=false) (n3:(aJ c==3)=false) (n4:(aJ c==4)=true) (a1:inW ((l).set 0 (true)) 1=true) (h96:(c==96)=false) (h97:(c==97)=false) :
 Calls Try.prog 134 #[.pointer (some ⟨gl,0,none⟩),.agg #[.int .u16 c,.int .u8 i1,.int .u8 i2,.int .u32 k]] w fun e w'=>e = .returned (.tuple #[])∧w'.heap[gl]?=some (.cells (bn (((l).set 0 (true)).set 1 (true))) 167 (0,0))∧Kp (fun x=>x=gl) w w':=by
 obtain ⟨nc,hcl⟩:=hcl
 have HC:=aa.mk (fun W=>aC.calls nc c (aJ c) W hcl)
 have HL:=aa.mk hL
 clear hL hcl
 go_enter Try.func134,Try.ntmps134
 go_upto_region 1 with (fail)
 refine forget (fun W=>∃ gi,gi=w.heap.size∧RI w W gl gi l c i1 i2 k) (RI.new HL.out) ?_
 rintro W ⟨gi,egi,hri⟩
 rw [←egi]
 have EG:=aa.mk egi
 have HR:=aa.mk hri
 have y0:=hri.y
 clear egi hri
 go_upto_region 10 with (go_at_call 99;refine (HC.out _).mono ?_;rintro e w' ⟨rfl,⟨nd,rfl⟩⟩;have HR2:=aa.mk (HR.out.below (aj (Below.refl W.heap.size W) nd)))
 refine forget (fun V=>RI w V gl gi l c i1 i2 k) HR2.out ?_
 clear HR HR2 y0
 rintro V0 hri
 have x0:=hri.x 0
 have x1:=ah hri.l 0
 have y0:=hri.y
 have HR:=aa.mk hri
 clear hri
 go_upto_region 11 with (fail)
 refine forget (fun V=>RI w V gl gi ((l).set 0 (true)) c i1 i2 k) (HR.out.put 0 _) ?_
 clear HR x0 x1 y0
 rintro V1 hri
 have x0:=hri.x 1
 rw [a1] at x0
 have x1:=ah hri.l 1
 have y0:=hri.y
 have HR:=aa.mk hri
 clear hri
 go_region
 go_upto_region 17 with (fail)
 refine forget (fun V=>RI w V gl gi (((l).set 0 (true)).set 1 (true)) c i1 i2 k) (HR.out.drew.put 1 _) ?_
 clear HR x0 x1 y0
 rintro V2 hri
 have y0:=hri.y
 have HR:=aa.mk hri
 clear hri
 go_wp2
 go_end0
 exact ⟨rfl,HR.out.l,HR.out.kp⟩
theorem zW (w:World) (gl:Nat) (l:Lw) (c i1 i2:Int) (k:Int) (hL:w.heap[gl]?=some (.cells (bn l) 167 (0,0))) (hl:l.length=18) (hcl:∃ n,aC.f n c=some (aJ c)) (n0:(aJ c==0)=false) (n2:(aJ c==2)=false) (n3:(aJ c==3)=false) (n4:(aJ c==4)=true) (a1:inW ((l).set 0 (true)) 1=false) (h96:(c==96)=false) (h97:(c==97)=false) :
 Calls Try.prog 134 #[.pointer (some ⟨gl,0,none⟩),.agg #[.int .u16 c,.int .u8 i1,.int .u8 i2,.int .u32 k]] w fun e w'=>e = .returned (.tuple #[])∧w'.heap[gl]?=some (.cells (bn (((l).set 0 (true)).set 1 (Go.bits .and .u16 c 8 != 0))) 167 (0,0))∧Kp (fun x=>x=gl) w w':=by
 obtain ⟨nc,hcl⟩:=hcl
 have HC:=aa.mk (fun W=>aC.calls nc c (aJ c) W hcl)
 have HL:=aa.mk hL
 clear hL hcl
 go_enter Try.func134,Try.ntmps134
 go_upto_region 1 with (fail)
 refine forget (fun W=>∃ gi,gi=w.heap.size∧RI w W gl gi l c i1 i2 k) (RI.new HL.out) ?_
 rintro W ⟨gi,egi,hri⟩
 rw [←egi]
 have EG:=aa.mk egi
 have HR:=aa.mk hri
 have y0:=hri.y
 clear egi hri
 go_upto_region 10 with (go_at_call 99;refine (HC.out _).mono ?_;rintro e w' ⟨rfl,⟨nd,rfl⟩⟩;have HR2:=aa.mk (HR.out.below (aj (Below.refl W.heap.size W) nd)))
 refine forget (fun V=>RI w V gl gi l c i1 i2 k) HR2.out ?_
 clear HR HR2 y0
 rintro V0 hri
 have x0:=hri.x 0
 have x1:=ah hri.l 0
 have y0:=hri.y
 have HR:=aa.mk hri
 clear hri
 go_upto_region 11 with (fail)
 refine forget (fun V=>RI w V gl gi ((l).set 0 (true)) c i1 i2 k) (HR.out.put 0 _) ?_
 clear HR x0 x1 y0
 rintro V1 hri
 have x0:=hri.x 1
 rw [a1] at x0
 have x1:=ah hri.l 1
 have y0:=hri.y
 have HR:=aa.mk hri
 clear hri
 go_region
 go_upto_region 17 with (fail)
 refine forget (fun V=>RI w V gl gi (((l).set 0 (true)).set 1 (Go.bits .and .u16 c 8 != 0)) c i1 i2 k) (HR.out.drew.put 1 _) ?_
 clear HR x0 x1 y0
 rintro V2 hri
 have y0:=hri.y
 have HR:=aa.mk hri
 clear hri
 go_wp2
 go_end0
 exact ⟨rfl,HR.out.l,HR.out.kp⟩
theorem zZ (w:World) (gl:Nat) (l:Lw) (c i1 i2:Int) (k:Int) (hL:w.heap[gl]?=some (.cells (bn l) 167 (0,0))) (hl:l.length=18) (hcl:∃ n,aC.f n c=some (aJ c)) (n0:(aJ c==0)=false) (n2:(aJ c==2)=false) (n3:(aJ c==3)=false) (n4:(aJ c==4)=false) (n5:(aJ c==5)=true) (a1:inW ((l).set 0 (true)) 1=true) (h96:(c==96)=false) (h97:(c==97)=false) :
 Calls Try.prog 134 #[.pointer (some ⟨gl,0,none⟩),.agg #[.int .u16 c,.int .u8 i1,.int .u8 i2,.int .u32 k]] w fun e w'=>e = .returned (.tuple #[])∧w'.heap[gl]?=some (.cells (bn (((l).set 0 (true)).set 1 (true))) 167 (0,0))∧Kp (fun x=>x=gl) w w':=by
 obtain ⟨nc,hcl⟩:=hcl
 have HC:=aa.mk (fun W=>aC.calls nc c (aJ c) W hcl)
 have HL:=aa.mk hL
 clear hL hcl
 go_enter Try.func134,Try.ntmps134
 go_upto_region 1 with (fail)
 refine forget (fun W=>∃ gi,gi=w.heap.size∧RI w W gl gi l c i1 i2 k) (RI.new HL.out) ?_
 rintro W ⟨gi,egi,hri⟩
 rw [←egi]
 have EG:=aa.mk egi
 have HR:=aa.mk hri
 have y0:=hri.y
 clear egi hri
 go_upto_region 10 with (go_at_call 99;refine (HC.out _).mono ?_;rintro e w' ⟨rfl,⟨nd,rfl⟩⟩;have HR2:=aa.mk (HR.out.below (aj (Below.refl W.heap.size W) nd)))
 refine forget (fun V=>RI w V gl gi l c i1 i2 k) HR2.out ?_
 clear HR HR2 y0
 rintro V0 hri
 have x0:=hri.x 0
 have x1:=ah hri.l 0
 have y0:=hri.y
 have HR:=aa.mk hri
 clear hri
 go_upto_region 11 with (fail)
 refine forget (fun V=>RI w V gl gi ((l).set 0 (true)) c i1 i2 k) (HR.out.put 0 _) ?_
 clear HR x0 x1 y0
 rintro V1 hri
 have x0:=hri.x 1
 rw [a1] at x0
 have x1:=ah hri.l 1
 have y0:=hri.y
 have HR:=aa.mk hri
 clear hri
 go_region
 go_upto_region 17 with (fail)
 refine forget (fun V=>RI w V gl gi (((l).set 0 (true)).set 1 (true)) c i1 i2 k) (HR.out.drew.put 1 _) ?_
 clear HR x0 x1 y0
 rintro V2 hri
 have y0:=hri.y
 have HR:=aa.mk hri
 clear hri
 go_wp2
 go_end0
 exact ⟨rfl,HR.out.l,HR.out.kp⟩
theorem zY (w:World) (gl:Nat) (l:Lw) (c i1 i2:Int) (k:Int) (hL:w.heap[gl]?=some (.cells (bn l) 167 (0,0))) (hl:l.length=18) (hcl:∃ n,aC.f n c=some (aJ c)) (n0:(aJ c==0)=false) (n2:(aJ c==2)=false) (n3:(aJ c==3)=false) (n4:(aJ c==4)=false) (n5:(aJ c==5)=true) (a1:inW ((l).set 0 (true)) 1=false) (h96:(c==96)=false) (h97:(c==97)=false) :
 Calls Try.prog 134 #[.pointer (some ⟨gl,0,none⟩),.agg #[.int .u16 c,.int .u8 i1,.int .u8 i2,.int .u32 k]] w fun e w'=>e = .returned (.tuple #[])∧w'.heap[gl]?=some (.cells (bn (((l).set 0 (true)).set 1 (Go.bits .and .u16 c 8 != 0))) 167 (0,0))∧Kp (fun x=>x=gl) w w':=by
 obtain ⟨nc,hcl⟩:=hcl
 have HC:=aa.mk (fun W=>aC.calls nc c (aJ c) W hcl)
 have HL:=aa.mk hL
 clear hL hcl
 go_enter Try.func134,Try.ntmps134
 go_upto_region 1 with (fail)
 refine forget (fun W=>∃ gi,gi=w.heap.size∧RI w W gl gi l c i1 i2 k) (RI.new HL.out) ?_
 rintro W ⟨gi,egi,hri⟩
 rw [←egi]
 have EG:=aa.mk egi
 have HR:=aa.mk hri
 have y0:=hri.y
 clear egi hri
 go_upto_region 10 with (go_at_call 99;refine (HC.out _).mono ?_;rintro e w' ⟨rfl,⟨nd,rfl⟩⟩;have HR2:=aa.mk (HR.out.below (aj (Below.refl W.heap.size W) nd)))
 refine forget (fun V=>RI w V gl gi l c i1 i2 k) HR2.out ?_
 clear HR HR2 y0
 rintro V0 hri
 have x0:=hri.x 0
 have x1:=ah hri.l 0
 have y0:=hri.y
 have HR:=aa.mk hri
 clear hri
 go_upto_region 11 with (fail)
 refine forget (fun V=>RI w V gl gi ((l).set 0 (true)) c i1 i2 k) (HR.out.put 0 _) ?_
 clear HR x0 x1 y0
 rintro V1 hri
 have x0:=hri.x 1
 rw [a1] at x0
 have x1:=ah hri.l 1
 have y0:=hri.y
 have HR:=aa.mk hri
 clear hri
 go_region
 go_upto_region 17 with (fail)
 refine forget (fun V=>RI w V gl gi (((l).set 0 (true)).set 1 (Go.bits .and .u16 c 8 != 0)) c i1 i2 k) (HR.out.drew.put 1 _) ?_
 clear HR x0 x1 y0
 rintro V2 hri
 have y0:=hri.y
 have HR:=aa.mk hri
 clear hri
 go_wp2
 go_end0
 exact ⟨rfl,HR.out.l,HR.out.kp⟩
theorem Aa (w:World) (gl:Nat) (l:Lw) (c i1 i2:Int) (k:Int) (hL:w.heap[gl]?=some (.cells (bn l) 167 (0,0))) (hl:l.length=18) (hcl:∃ n,aC.f n c=some (aJ c)) (n0:(aJ c==0)=false) (n2:(aJ c==2)=false) (n3:(aJ c==3)=false) (n4:(aJ c==4)=false) (n5:(aJ c==5)=false) (n6:(aJ c==6)=true) (a0:inW l 0=true) (h96:(c==96)=false) (h97:(c==97)=false) :
 Calls Try.prog 134 #[.pointer (some ⟨gl,0,none⟩),.agg #[.int .u16 c,.int .u8 i1,.int .u8 i2,.int .u32 k]] w fun e w'=>e = .returned (.tuple #[])∧w'.heap[gl]?=some (.cells (bn ((l).set 0 (true))) 167 (0,0))∧Kp (fun x=>x=gl) w w':=by
 obtain ⟨nc,hcl⟩:=hcl
 have HC:=aa.mk (fun W=>aC.calls nc c (aJ c) W hcl)
 have HL:=aa.mk hL
 clear hL hcl
 go_enter Try.func134,Try.ntmps134
 go_upto_region 1 with (fail)
 refine forget (fun W=>∃ gi,gi=w.heap.size∧RI w W gl gi l c i1 i2 k) (RI.new HL.out) ?_
 rintro W ⟨gi,egi,hri⟩
 rw [←egi]
 have EG:=aa.mk egi
 have HR:=aa.mk hri
 have y0:=hri.y
 clear egi hri
 go_upto_region 13 with (go_at_call 99;refine (HC.out _).mono ?_;rintro e w' ⟨rfl,⟨nd,rfl⟩⟩;have HR2:=aa.mk (HR.out.below (aj (Below.refl W.heap.size W) nd)))
 refine forget (fun V=>RI w V gl gi l c i1 i2 k) HR2.out ?_
 clear HR HR2 y0
 rintro V0 hri
 have x0:=hri.x 0
 rw [a0] at x0
 have x1:=ah hri.l 0
 have y0:=hri.y
 have HR:=aa.mk hri
 clear hri
 go_region
 go_upto_region 17 with (fail)
 refine forget (fun V=>RI w V gl gi ((l).set 0 (true)) c i1 i2 k) (HR.out.drew.put 0 _) ?_
 clear HR x0 x1 y0
 rintro V1 hri
 have y0:=hri.y
 have HR:=aa.mk hri
 clear hri
 go_wp2
 go_end0
 exact ⟨rfl,HR.out.l,HR.out.kp⟩
theorem z8 (w:World) (gl:Nat) (l:Lw) (c i1 i2:Int) (k:Int) (hL:w.heap[gl]?=some (.cells (bn l) 167 (0,0))) (hl:l.length=18) (hcl:∃ n,aC.f n c=some (aJ c)) (n0:(aJ c==0)=false) (n2:(aJ c==2)=false) (n3:(aJ c==3)=false) (n4:(aJ c==4)=false) (n5:(aJ c==5)=false) (n6:(aJ c==6)=true) (a0:inW l 0=false) (h96:(c==96)=false) (h97:(c==97)=false) :
 Calls Try.prog 134 #[.pointer (some ⟨gl,0,none⟩),.agg #[.int .u16 c,.int .u8 i1,.int .u8 i2,.int .u32 k]] w fun e w'=>e = .returned (.tuple #[])∧w'.heap[gl]?=some (.cells (bn ((l).set 0 (c==22))) 167 (0,0))∧Kp (fun x=>x=gl) w w':=by
 obtain ⟨nc,hcl⟩:=hcl
 have HC:=aa.mk (fun W=>aC.calls nc c (aJ c) W hcl)
 have HL:=aa.mk hL
 clear hL hcl
 go_enter Try.func134,Try.ntmps134
 go_upto_region 1 with (fail)
 refine forget (fun W=>∃ gi,gi=w.heap.size∧RI w W gl gi l c i1 i2 k) (RI.new HL.out) ?_
 rintro W ⟨gi,egi,hri⟩
 rw [←egi]
 have EG:=aa.mk egi
 have HR:=aa.mk hri
 have y0:=hri.y
 clear egi hri
 go_upto_region 13 with (go_at_call 99;refine (HC.out _).mono ?_;rintro e w' ⟨rfl,⟨nd,rfl⟩⟩;have HR2:=aa.mk (HR.out.below (aj (Below.refl W.heap.size W) nd)))
 refine forget (fun V=>RI w V gl gi l c i1 i2 k) HR2.out ?_
 clear HR HR2 y0
 rintro V0 hri
 have x0:=hri.x 0
 rw [a0] at x0
 have x1:=ah hri.l 0
 have y0:=hri.y
 have HR:=aa.mk hri
 clear hri
 go_region
 go_upto_region 17 with (fail)
 refine forget (fun V=>RI w V gl gi ((l).set 0 (c==22)) c i1 i2 k) (HR.out.drew.put 0 _) ?_
 clear HR x0 x1 y0
 rintro V1 hri
 have y0:=hri.y
 have HR:=aa.mk hri
 clear hri
 go_wp2
 go_end0
 exact ⟨rfl,HR.out.l,HR.out.kp⟩
theorem vX (w:World) (gl:Nat) (l:Lw) (c i1 i2:Int) (k:Int) (hL:w.heap[gl]?=some (.cells (bn l) 167 (0,0))) (hl:l.length=18) (hcl:∃ n,aC.f n c=some (aJ c)) (n0:(aJ c==0)=false) (n2:(aJ c==2)=false) (n3:(aJ c==3)=false) (n4:(aJ c==4)=false) (n5:(aJ c==5)=false) (n6:(aJ c==6)=false) (n7:(aJ c==7)=true) (a0:inW l 0=true) (a1:inW ((l).set 0 (true)) 1=true) (h96:(c==96)=false) (h97:(c==97)=false) :
 Calls Try.prog 134 #[.pointer (some ⟨gl,0,none⟩),.agg #[.int .u16 c,.int .u8 i1,.int .u8 i2,.int .u32 k]] w fun e w'=>e = .returned (.tuple #[])∧w'.heap[gl]?=some (.cells (bn (((l).set 0 (true)).set 1 (true))) 167 (0,0))∧Kp (fun x=>x=gl) w w':=by
 obtain ⟨nc,hcl⟩:=hcl
 have HC:=aa.mk (fun W=>aC.calls nc c (aJ c) W hcl)
 have HL:=aa.mk hL
 clear hL hcl
 go_enter Try.func134,Try.ntmps134
 go_upto_region 1 with (fail)
 refine forget (fun W=>∃ gi,gi=w.heap.size∧RI w W gl gi l c i1 i2 k) (RI.new HL.out) ?_
 rintro W ⟨gi,egi,hri⟩
 rw [←egi]
 have EG:=aa.mk egi
 have HR:=aa.mk hri
 have y0:=hri.y
 clear egi hri
 go_upto_region 15 with (go_at_call 99;refine (HC.out _).mono ?_;rintro e w' ⟨rfl,⟨nd,rfl⟩⟩;have HR2:=aa.mk (HR.out.below (aj (Below.refl W.heap.size W) nd)))
 refine forget (fun V=>RI w V gl gi l c i1 i2 k) HR2.out ?_
 clear HR HR2 y0
 rintro V0 hri
 have x0:=hri.x 0
 rw [a0] at x0
 have x1:=ah hri.l 0
 have y0:=hri.y
 have HR:=aa.mk hri
 clear hri
 go_region
 go_upto_region 16 with (fail)
 refine forget (fun V=>RI w V gl gi ((l).set 0 (true)) c i1 i2 k) (HR.out.drew.put 0 _) ?_
 clear HR x0 x1 y0
 rintro V1 hri
 have x0:=hri.x 1
 rw [a1] at x0
 have x1:=ah hri.l 1
 have y0:=hri.y
 have HR:=aa.mk hri
 clear hri
 go_region
 go_upto_region 17 with (fail)
 refine forget (fun V=>RI w V gl gi (((l).set 0 (true)).set 1 (true)) c i1 i2 k) (HR.out.drew.put 1 _) ?_
 clear HR x0 x1 y0
 rintro V2 hri
 have y0:=hri.y
 have HR:=aa.mk hri
 clear hri
 go_wp2
 go_end0
 exact ⟨rfl,HR.out.l,HR.out.kp⟩
theorem vW (w:World) (gl:Nat) (l:Lw) (c i1 i2:Int) (k:Int) (hL:w.heap[gl]?=some (.cells (bn l) 167 (0,0))) (hl:l.length=18) (hcl:∃ n,aC.f n c=some (aJ c)) (n0:(aJ c==0)=false) (n2:(aJ c==2)=false) (n3:(aJ c==3)=false) (n4:(aJ c==4)=false) (n5:(aJ c==5)=false) (n6:(aJ c==6)=false) (n7:(aJ c==7)=true) (a0:inW l 0=true) (a1:inW ((l).set 0 (true)) 1=false) (h96:(c==96)=false) (h97:(c==97)=false) :
 Calls Try.prog 134 #[.pointer (some ⟨gl,0,none⟩),.agg #[.int .u16 c,.int .u8 i1,.int .u8 i2,.int .u32 k]] w fun e w'=>e = .returned (.tuple #[])∧w'.heap[gl]?=some (.cells (bn (((l).set 0 (true)).set 1 (c==135))) 167 (0,0))∧Kp (fun x=>x=gl) w w':=by
 obtain ⟨nc,hcl⟩:=hcl
 have HC:=aa.mk (fun W=>aC.calls nc c (aJ c) W hcl)
 have HL:=aa.mk hL
 clear hL hcl
 go_enter Try.func134,Try.ntmps134
 go_upto_region 1 with (fail)
 refine forget (fun W=>∃ gi,gi=w.heap.size∧RI w W gl gi l c i1 i2 k) (RI.new HL.out) ?_
 rintro W ⟨gi,egi,hri⟩
 rw [←egi]
 have EG:=aa.mk egi
 have HR:=aa.mk hri
 have y0:=hri.y
 clear egi hri
 go_upto_region 15 with (go_at_call 99;refine (HC.out _).mono ?_;rintro e w' ⟨rfl,⟨nd,rfl⟩⟩;have HR2:=aa.mk (HR.out.below (aj (Below.refl W.heap.size W) nd)))
 refine forget (fun V=>RI w V gl gi l c i1 i2 k) HR2.out ?_
 clear HR HR2 y0
 rintro V0 hri
 have x0:=hri.x 0
 rw [a0] at x0
 have x1:=ah hri.l 0
 have y0:=hri.y
 have HR:=aa.mk hri
 clear hri
 go_region
 go_upto_region 16 with (fail)
 refine forget (fun V=>RI w V gl gi ((l).set 0 (true)) c i1 i2 k) (HR.out.drew.put 0 _) ?_
 clear HR x0 x1 y0
 rintro V1 hri
 have x0:=hri.x 1
 rw [a1] at x0
 have x1:=ah hri.l 1
 have y0:=hri.y
 have HR:=aa.mk hri
 clear hri
 go_region
 go_upto_region 17 with (fail)
 refine forget (fun V=>RI w V gl gi (((l).set 0 (true)).set 1 (c==135)) c i1 i2 k) (HR.out.drew.put 1 _) ?_
 clear HR x0 x1 y0
 rintro V2 hri
 have y0:=hri.y
 have HR:=aa.mk hri
 clear hri
 go_wp2
 go_end0
 exact ⟨rfl,HR.out.l,HR.out.kp⟩
theorem vV (w:World) (gl:Nat) (l:Lw) (c i1 i2:Int) (k:Int) (hL:w.heap[gl]?=some (.cells (bn l) 167 (0,0))) (hl:l.length=18) (hcl:∃ n,aC.f n c=some (aJ c)) (n0:(aJ c==0)=false) (n2:(aJ c==2)=false) (n3:(aJ c==3)=false) (n4:(aJ c==4)=false) (n5:(aJ c==5)=false) (n6:(aJ c==6)=false) (n7:(aJ c==7)=true) (a0:inW l 0=false) (a1:inW ((l).set 0 (c==7)) 1=true) (h96:(c==96)=false) (h97:(c==97)=false) :
 Calls Try.prog 134 #[.pointer (some ⟨gl,0,none⟩),.agg #[.int .u16 c,.int .u8 i1,.int .u8 i2,.int .u32 k]] w fun e w'=>e = .returned (.tuple #[])∧w'.heap[gl]?=some (.cells (bn (((l).set 0 (c==7)).set 1 (true))) 167 (0,0))∧Kp (fun x=>x=gl) w w':=by
 obtain ⟨nc,hcl⟩:=hcl
 have HC:=aa.mk (fun W=>aC.calls nc c (aJ c) W hcl)
 have HL:=aa.mk hL
 clear hL hcl
 go_enter Try.func134,Try.ntmps134
 go_upto_region 1 with (fail)
 refine forget (fun W=>∃ gi,gi=w.heap.size∧RI w W gl gi l c i1 i2 k) (RI.new HL.out) ?_
 rintro W ⟨gi,egi,hri⟩
 rw [←egi]
 have EG:=aa.mk egi
 have HR:=aa.mk hri
 have y0:=hri.y
 clear egi hri
 go_upto_region 15 with (go_at_call 99;refine (HC.out _).mono ?_;rintro e w' ⟨rfl,⟨nd,rfl⟩⟩;have HR2:=aa.mk (HR.out.below (aj (Below.refl W.heap.size W) nd)))
 refine forget (fun V=>RI w V gl gi l c i1 i2 k) HR2.out ?_
 clear HR HR2 y0
 rintro V0 hri
 have x0:=hri.x 0
 rw [a0] at x0
 have x1:=ah hri.l 0
 have y0:=hri.y
 have HR:=aa.mk hri
 clear hri
 go_region
 go_upto_region 16 with (fail)
 refine forget (fun V=>RI w V gl gi ((l).set 0 (c==7)) c i1 i2 k) (HR.out.drew.put 0 _) ?_
 clear HR x0 x1 y0
 rintro V1 hri
 have x0:=hri.x 1
 rw [a1] at x0
 have x1:=ah hri.l 1
 have y0:=hri.y
 have HR:=aa.mk hri
 clear hri
 go_region
 go_upto_region 17 with (fail)
 refine forget (fun V=>RI w V gl gi (((l).set 0 (c==7)).set 1 (true)) c i1 i2 k) (HR.out.drew.put 1 _) ?_
 clear HR x0 x1 y0
 rintro V2 hri
 have y0:=hri.y
 have HR:=aa.mk hri
 clear hri
 go_wp2
 go_end0
 exact ⟨rfl,HR.out.l,HR.out.kp⟩
theorem vU (w:World) (gl:Nat) (l:Lw) (c i1 i2:Int) (k:Int) (hL:w.heap[gl]?=some (.cells (bn l) 167 (0,0))) (hl:l.length=18) (hcl:∃ n,aC.f n c=some (aJ c)) (n0:(aJ c==0)=false) (n2:(aJ c==2)=false) (n3:(aJ c==3)=false) (n4:(aJ c==4)=false) (n5:(aJ c==5)=false) (n6:(aJ c==6)=false) (n7:(aJ c==7)=true) (a0:inW l 0=false) (a1:inW ((l).set 0 (c==7)) 1=false) (h96:(c==96)=false) (h97:(c==97)=false) :
 Calls Try.prog 134 #[.pointer (some ⟨gl,0,none⟩),.agg #[.int .u16 c,.int .u8 i1,.int .u8 i2,.int .u32 k]] w fun e w'=>e = .returned (.tuple #[])∧w'.heap[gl]?=some (.cells (bn (((l).set 0 (c==7)).set 1 (c==135))) 167 (0,0))∧Kp (fun x=>x=gl) w w':=by
 obtain ⟨nc,hcl⟩:=hcl
 have HC:=aa.mk (fun W=>aC.calls nc c (aJ c) W hcl)
 have HL:=aa.mk hL
 clear hL hcl
 go_enter Try.func134,Try.ntmps134
 go_upto_region 1 with (fail)
 refine forget (fun W=>∃ gi,gi=w.heap.size∧RI w W gl gi l c i1 i2 k) (RI.new HL.out) ?_
 rintro W ⟨gi,egi,hri⟩
 rw [←egi]
 have EG:=aa.mk egi
 have HR:=aa.mk hri
 have y0:=hri.y
 clear egi hri
 go_upto_region 15 with (go_at_call 99;refine (HC.out _).mono ?_;rintro e w' ⟨rfl,⟨nd,rfl⟩⟩;have HR2:=aa.mk (HR.out.below (aj (Below.refl W.heap.size W) nd)))
 refine forget (fun V=>RI w V gl gi l c i1 i2 k) HR2.out ?_
 clear HR HR2 y0
 rintro V0 hri
 have x0:=hri.x 0
 rw [a0] at x0
 have x1:=ah hri.l 0
 have y0:=hri.y
 have HR:=aa.mk hri
 clear hri
 go_region
 go_upto_region 16 with (fail)
 refine forget (fun V=>RI w V gl gi ((l).set 0 (c==7)) c i1 i2 k) (HR.out.drew.put 0 _) ?_
 clear HR x0 x1 y0
 rintro V1 hri
 have x0:=hri.x 1
 rw [a1] at x0
 have x1:=ah hri.l 1
 have y0:=hri.y
 have HR:=aa.mk hri
 clear hri
 go_region
 go_upto_region 17 with (fail)
 refine forget (fun V=>RI w V gl gi (((l).set 0 (c==7)).set 1 (c==135)) c i1 i2 k) (HR.out.drew.put 1 _) ?_
 clear HR x0 x1 y0
 rintro V2 hri
 have y0:=hri.y
 have HR:=aa.mk hri
 clear hri
 go_wp2
 go_end0
 exact ⟨rfl,HR.out.l,HR.out.kp⟩
def p0B (c:Int):Bool:=decide (c=2∨c=132∨c∈dO∨c∈eZ∨c=7∨jmB c=true∨c=22)
def p1B (c:Int):Bool:=decide (c=64∨c=72∨c=80∨c=3∨c∈eZ∨c=135∨c∈tX)
def p2B (c:Int):Bool:=decide (c=96∨c=97)
theorem rdB_p (i:S45) (j:Nat):rdB i j=((decide (j=0)&&p0B i.f0)||(decide (j=1)&&p1B i.f0)||(decide (j=2+i.f3.toNat)&&p2B i.f0)):=rfl
theorem gH {l:Lw} {a:Nat} {b:Bool} (h:a<l.length) (j:Nat):inW (l.set a b) j=if a=j then b else inW l j:=dm h
theorem je {l l':Lw} {i:S45} (hl:l'.length=18) (h0:inW l' 0=(inW l 0||p0B i.f0)) (h1:inW l' 1=(inW l 1||p1B i.f0)) (h2:∀ j,2≤j→inW l' j=(inW l j||(decide (j=2+i.f3.toNat)&&p2B i.f0))):l'=rdF l i:=by
 have hr:(rdF l i).length=18:=by unfold rdF;rw [List.length_map,List.length_range]
 apply List.ext_getElem
 · rw [hl,hr]
 intro j a b
 have e1:l'[j]=inW l' j:=by unfold inW;rw [List.getD_eq_getElem?_getD,List.getElem?_eq_getElem a];rfl
 have e2:(rdF l i)[j]=(inW l j||rdB i j):=by
  have e3:(rdF l i)[j]=inW (rdF l i) j:=by unfold inW;rw [List.getD_eq_getElem?_getD,List.getElem?_eq_getElem b];rfl
  rw [e3]
  unfold rdF
  rw [ib,decide_eq_true (show j<18 by omega),Bool.true_and]
 rw [e1,e2,rdB_p]
 match j with
 | 0=>rw [h0];rw [show decide (0=2+i.f3.toNat)=false by rw [decide_eq_false];omega];simp
 | 1=>rw [h1];rw [show decide (1=2+i.f3.toNat)=false by rw [decide_eq_false];omega];simp
 | j+2=>rw [h2 (j+2) (by omega)];simp
theorem rd_ta:∀ c∈stL,(aJ c=0→p0B c=false∧p1B c=(c==64||c==72||c==80)∧p2B c=(c==96)∧(c==97)=false)∧(aJ c=1→p0B c=false∧p1B c=false∧p2B c=(c==97)∧(c==96)=false):=by decide +kernel
theorem rd_tb:∀ c∈stL,(aJ c=2→p0B c=true∧p1B c=false∧p2B c=false∧(c==96)=false∧(c==97)=false)∧(aJ c=3→p0B c=false∧p1B c=true∧p2B c=false∧(c==96)=false∧(c==97)=false):=by decide +kernel
theorem rd_tc:∀ c∈stL,(aJ c=4→p0B c=true∧p1B c=(Go.bits .and .u16 c 8 != 0)∧p2B c=false∧(c==96)=false∧(c==97)=false):=by decide +kernel
theorem rd_td:∀ c∈stL,(aJ c=7→p0B c=(c==7)∧p1B c=(c==135)∧p2B c=false∧(c==96)=false∧(c==97)=false)∧(aJ c=0∨aJ c=1∨aJ c=2∨aJ c=3∨aJ c=4∨aJ c=7):=by decide +kernel
theorem rd_tabj:∀ c∈([21,29,37,45,53,61,69,77]:List Int),aJ c=5∧p0B c=true∧p1B c=(Go.bits .and .u16 c 8 != 0)∧p2B c=false∧(c==96)=false∧(c==97)=false:=by decide +kernel
theorem rd_tabr:∀ c∈([6,22]:List Int),aJ c=6∧p0B c=(c==22)∧p1B c=false∧p2B c=false∧(c==96)=false∧(c==97)=false:=by decide +kernel
theorem dG {w w':World} {gl:Nat} {e:Ending} {l l1 l2:Lw} (h:l1=l2) (q:e = .returned (.tuple #[])∧w'.heap[gl]?=some (.cells (bn l1) 167 (0,0))∧Kp (fun x=>x=gl) w w') :
 e = .returned (.tuple #[])∧w'.heap[gl]?=some (.cells (bn l2) 167 (0,0))∧Kp (fun x=>x=gl) w w':=h ▸ q
theorem jF (w:World) (gl:Nat) (l:Lw) (i:S45) (hL:w.heap[gl]?=some (.cells (bn l) 167 (0,0))) (hl:l.length=18) (hk:Rg i.f3) (hc:stB i.f0 i.f3=true∨jmB i.f0=true∨reB i.f0=true) :
 Calls Try.prog 134 #[.pointer (some ⟨gl,0,none⟩),dQ i] w fun e w'=>e = .returned (.tuple #[])∧w'.heap[gl]?=some (.cells (bn (rdF l i)) 167 (0,0))∧Kp (fun x=>x=gl) w w':=by
 have hcl:∃ n,aC.f n i.f0=some (aJ i.f0):=⟨0+8,(fU i.f0 0).1⟩
 obtain ⟨c,i1,i2,k⟩:=i
 dsimp only at hk hc hcl
 have hk0:=hk.1
 have E0:∀ (b:Bool) (j:Nat),inW (l.set 0 b) j=if 0=j then b else inW l j:=fun b j=>gH (by omega) j
 have E1:∀ (b:Bool) (j:Nat),inW (l.set 1 b) j=if 1=j then b else inW l j:=fun b j=>gH (by omega) j
 have E01:∀ (a b:Bool) (j:Nat),inW ((l.set 0 a).set 1 b) j=if 1=j then b else if 0=j then a else inW l j:=fun a b j=>by rw [gH (by rw [List.length_set];omega),E0]
 have L1:∀ (a:Nat) (b:Bool),(l.set a b).length=18:=fun a b=>by rw [List.length_set];exact hl
 have L2:∀ (a:Nat) (b:Bool) (a':Nat) (b':Bool),((l.set a b).set a' b').length=18:=fun a b a' b'=>by rw [List.length_set,List.length_set];exact hl
 have N2:∀ (j:Nat),2≤j→(1=j)=False∧(0=j)=False:=fun j h=>⟨by simp;omega,by simp;omega⟩
 rcases hc with hc | hc | hc
 · obtain ⟨hm,h16,_⟩:=fM hc
   obtain ⟨t0,t1⟩:=rd_ta c hm
   obtain ⟨t2,t3⟩:=rd_tb c hm
   have t4:=rd_tc c hm
   obtain ⟨t7,tt⟩:=rd_td c hm
   rcases tt with h | h | h | h | h | h
   · obtain ⟨a,b,d,e⟩:=t0 h
     have n0:(aJ c==0)=true:=gL h
     cases v:inW l 1 with
     | true=>
      by_cases q:c=96
      · subst q
        have hk6:=h16 (by omega)
        obtain ⟨n,rfl⟩:∃ n:Nat,k=(n:Int):=⟨k.toNat,by omega⟩
        refine (vZ w gl l i1 i2 n hL hl hcl n0 v (by omega)).mono fun e w'=>dG (l:=l) (je (L2 _ _ _ _) ?_ ?_ ?_)
        · rw [gH (a:=2+n) (by rw [L1];omega),if_neg (by omega),E1,if_neg (by omega),a,Bool.or_false]
        · rw [gH (a:=2+n) (by rw [L1];omega),if_neg (by omega),E1,if_pos rfl,v];rfl
        intro j hj
        rw [gH (a:=2+n) (by rw [L1];omega),d];simp only [Int.toNat_natCast]
        by_cases q:2+n=j
        · rw [if_pos q,decide_eq_true q.symm];simp
        rw [if_neg q,decide_eq_false (fun h=>q h.symm),E1,if_neg (by omega)];simp
      refine (zV w gl l c i1 i2 k hL hl hcl n0 v (aX q) e).mono fun e w'=>dG (l:=l) (je (L1 _ _) ?_ ?_ ?_)
      · rw [E1,if_neg (by omega),a,Bool.or_false]
      · rw [E1,if_pos rfl,v];rfl
      intro j hj;rw [E1,if_neg (by omega),d,aX q];simp
     | false=>
      by_cases q:c=96
      · subst q
        have hk6:=h16 (by omega)
        obtain ⟨n,rfl⟩:∃ n:Nat,k=(n:Int):=⟨k.toNat,by omega⟩
        refine (vY w gl l i1 i2 n hL hl hcl n0 v (by omega)).mono fun e w'=>dG (l:=l) (je (L2 _ _ _ _) ?_ ?_ ?_)
        · rw [gH (a:=2+n) (by rw [L1];omega),if_neg (by omega),E1,if_neg (by omega),a,Bool.or_false]
        · rw [gH (a:=2+n) (by rw [L1];omega),if_neg (by omega),E1,if_pos rfl,v,b];rfl
        intro j hj
        rw [gH (a:=2+n) (by rw [L1];omega),d];simp only [Int.toNat_natCast]
        by_cases q:2+n=j
        · rw [if_pos q,decide_eq_true q.symm];simp
        rw [if_neg q,decide_eq_false (fun h=>q h.symm),E1,if_neg (by omega)];simp
      have F:∀ (r:Bool),p1B c=r→l.set 1 r=rdF l ⟨c,i1,i2,k⟩:=fun r hr=>je (L1 _ _) (by rw [E1,if_neg (by omega),a,Bool.or_false]) (by rw [E1,if_pos rfl,v,hr];rfl) (by intro j hj;rw [E1,if_neg (by omega),d,aX q];simp)
      by_cases q1:c=64
      · subst q1;exact (tY w gl l i1 i2 k hL hl hcl n0 v).mono fun e w'=>dG (l:=l) (F _ (by rw [b];rfl))
      by_cases q2:c=72
      · subst q2;exact (tZ w gl l i1 i2 k hL hl hcl n0 v).mono fun e w'=>dG (l:=l) (F _ (by rw [b];rfl))
      by_cases q3:c=80
      · subst q3;exact (uf w gl l i1 i2 k hL hl hcl n0 v).mono fun e w'=>dG (l:=l) (F _ (by rw [b];rfl))
      exact (zU w gl l c i1 i2 k hL hl hcl n0 v (aX q) e (aX q1) (aX q2) (aX q3)).mono fun e w'=>dG (l:=l) (F _ (by rw [b,aX q1,aX q2,aX q3];rfl))
   · obtain ⟨a,b,d,e⟩:=t1 h
     have n:=fun x (hx:(1:Int)≠x)=>show (aJ c==x)=false from aX (by rw [h];exact hx)
     by_cases q:c=97
     · subst q
       have hk6:=h16 (by omega)
       obtain ⟨m,rfl⟩:∃ n:Nat,k=(n:Int):=⟨k.toNat,by omega⟩
       refine (Ad w gl l i1 i2 m hL hl hcl (n _ (by decide)) (n _ (by decide)) (n _ (by decide)) (n _ (by decide)) (n _ (by decide)) (n _ (by decide)) (n _ (by decide)) (by omega)).mono fun e w'=>dG (l:=l) (je (L1 _ _) ?_ ?_ ?_)
       · rw [gH (by omega),if_neg (by omega),a,Bool.or_false]
       · rw [gH (by omega),if_neg (by omega),b,Bool.or_false]
       intro j hj;rw [gH (by omega),d];simp only [Int.toNat_natCast]
       by_cases q:2+m=j
       · rw [if_pos q,decide_eq_true q.symm];simp
       rw [if_neg q,decide_eq_false (fun h=>q h.symm)];simp
     refine (reads_1 w gl l c i1 i2 k hL hl hcl (n _ (by decide)) (n _ (by decide)) (n _ (by decide)) (n _ (by decide)) (n _ (by decide)) (n _ (by decide)) (n _ (by decide)) e (aX q)).mono fun e w'=>dG (l:=l) (je hl ?_ ?_ ?_)
     · rw [a,Bool.or_false]
     · rw [b,Bool.or_false]
     intro j hj;rw [d,aX q];simp
   · obtain ⟨a,b,d,e,f⟩:=t2 h
     refine (reads_2 w gl l c i1 i2 k hL hl hcl (aX (by omega)) (gL h) e f).mono fun e w'=>dG (l:=l) (je (L1 _ _) ?_ ?_ ?_)
     · rw [E0,if_pos rfl,a,Bool.or_true]
     · rw [E0,if_neg (by omega),b,Bool.or_false]
     intro j hj;rw [E0,if_neg (by omega),d];simp
   · obtain ⟨a,b,d,e,f⟩:=t3 h
     refine (reads_3 w gl l c i1 i2 k hL hl hcl (aX (by omega)) (aX (by omega)) (gL h) e f).mono fun e w'=>dG (l:=l) (je (L1 _ _) ?_ ?_ ?_)
     · rw [E1,if_neg (by omega),a,Bool.or_false]
     · rw [E1,if_pos rfl,b,Bool.or_true]
     intro j hj;rw [E1,if_neg (by omega),d];simp
   · obtain ⟨a,b,d,e,f⟩:=t4 h
     cases v:inW (l.set 0 true) 1 with
     | true=>
      have v':=v;rw [E0,if_neg (by omega)] at v'
      refine (zX w gl l c i1 i2 k hL hl hcl (aX (by omega)) (aX (by omega)) (aX (by omega)) (gL h) v e f).mono fun e w'=>dG (l:=l) (je (L2 _ _ _ _) ?_ ?_ ?_)
      · rw [E01,if_neg (by omega),if_pos rfl,a,Bool.or_true]
      · rw [E01,if_pos rfl,v'];rfl
      intro j hj;rw [E01,if_neg (by omega),if_neg (by omega),d];simp
     | false=>
      have v':=v;rw [E0,if_neg (by omega)] at v'
      refine (zW w gl l c i1 i2 k hL hl hcl (aX (by omega)) (aX (by omega)) (aX (by omega)) (gL h) v e f).mono fun e w'=>dG (l:=l) (je (L2 _ _ _ _) ?_ ?_ ?_)
      · rw [E01,if_neg (by omega),if_pos rfl,a,Bool.or_true]
      · rw [E01,if_pos rfl,v',b];rfl
      intro j hj;rw [E01,if_neg (by omega),if_neg (by omega),d];simp
   obtain ⟨a,b,d,e,f⟩:=t7 h
   have F:∀ (x0 x1:Bool),x0=(inW l 0||(c==7))→x1=(inW l 1||(c==135))→(l.set 0 x0).set 1 x1=rdF l ⟨c,i1,i2,k⟩:=fun x0 x1 h0 h1=>je (L2 _ _ _ _) (by rw [E01,if_neg (by omega),if_pos rfl,a];exact h0) (by rw [E01,if_pos rfl,b];exact h1) (by intro j hj;rw [E01,if_neg (by omega),if_neg (by omega),d];simp)
   cases u:inW l 0<;>cases v:inW l 1
   · exact (vU w gl l c i1 i2 k hL hl hcl (aX (by omega)) (aX (by omega)) (aX (by omega)) (aX (by omega)) (aX (by omega)) (aX (by omega)) (gL h) u (by rw [E0,if_neg (by omega)];exact v) e f).mono fun e w'=>dG (l:=l) (F _ _ (by rw [u];rfl) (by rw [v];rfl))
   · exact (vV w gl l c i1 i2 k hL hl hcl (aX (by omega)) (aX (by omega)) (aX (by omega)) (aX (by omega)) (aX (by omega)) (aX (by omega)) (gL h) u (by rw [E0,if_neg (by omega)];exact v) e f).mono fun e w'=>dG (l:=l) (F _ _ (by rw [u];rfl) (by rw [v];rfl))
   · exact (vW w gl l c i1 i2 k hL hl hcl (aX (by omega)) (aX (by omega)) (aX (by omega)) (aX (by omega)) (aX (by omega)) (aX (by omega)) (gL h) u (by rw [E0,if_neg (by omega)];exact v) e f).mono fun e w'=>dG (l:=l) (F _ _ (by rw [u];rfl) (by rw [v];rfl))
   exact (vX w gl l c i1 i2 k hL hl hcl (aX (by omega)) (aX (by omega)) (aX (by omega)) (aX (by omega)) (aX (by omega)) (aX (by omega)) (gL h) u (by rw [E0,if_neg (by omega)];exact v) e f).mono fun e w'=>dG (l:=l) (F _ _ (by rw [u];rfl) (by rw [v];rfl))
 · obtain ⟨h,a,b,d,e,f⟩:=rd_tabj c (of_decide_eq_true hc)
   cases v:inW (l.set 0 true) 1 with
   | true=>
    have v':=v;rw [E0,if_neg (by omega)] at v'
    refine (zZ w gl l c i1 i2 k hL hl hcl (aX (by omega)) (aX (by omega)) (aX (by omega)) (aX (by omega)) (gL h) v e f).mono fun e w'=>dG (l:=l) (je (L2 _ _ _ _) ?_ ?_ ?_)
    · rw [E01,if_neg (by omega),if_pos rfl,a,Bool.or_true]
    · rw [E01,if_pos rfl,v'];rfl
    intro j hj;rw [E01,if_neg (by omega),if_neg (by omega),d];simp
   | false=>
    have v':=v;rw [E0,if_neg (by omega)] at v'
    refine (zY w gl l c i1 i2 k hL hl hcl (aX (by omega)) (aX (by omega)) (aX (by omega)) (aX (by omega)) (gL h) v e f).mono fun e w'=>dG (l:=l) (je (L2 _ _ _ _) ?_ ?_ ?_)
    · rw [E01,if_neg (by omega),if_pos rfl,a,Bool.or_true]
    · rw [E01,if_pos rfl,v',b];rfl
    intro j hj;rw [E01,if_neg (by omega),if_neg (by omega),d];simp
 obtain ⟨h,a,b,d,e,f⟩:=rd_tabr c (by have:=of_decide_eq_true hc;simpa using this)
 cases u:inW l 0 with
 | true=>
  refine (Aa w gl l c i1 i2 k hL hl hcl (aX (by omega)) (aX (by omega)) (aX (by omega)) (aX (by omega)) (aX (by omega)) (gL h) u e f).mono fun e w'=>dG (l:=l) (je (L1 _ _) ?_ ?_ ?_)
  · rw [E0,if_pos rfl,u];rfl
  · rw [E0,if_neg (by omega),b,Bool.or_false]
  intro j hj;rw [E0,if_neg (by omega),d];simp
 | false=>
  refine (z8 w gl l c i1 i2 k hL hl hcl (aX (by omega)) (aX (by omega)) (aX (by omega)) (aX (by omega)) (aX (by omega)) (gL h) u e f).mono fun e w'=>dG (l:=l) (je (L1 _ _) ?_ ?_ ?_)
  · rw [E0,if_pos rfl,u,a];rfl
  · rw [E0,if_neg (by omega),b,Bool.or_false]
  intro j hj;rw [E0,if_neg (by omega),d];simp
theorem mR {w:World} {op:Oper} {a:Act} (s x:Operand) (hop:op.op=Op.call {callee:=Callee.builtin Builtin.append,args:=#[s,x],argTypes:=#[26,26]})
 {gc cap k:Nat} {o r:List S45} {i:S45} (hF:Fil w gc cap k o (i :: r)) (hs:a.eval s = .slice (some ⟨gc,0,none⟩) o.length cap) (j:S45) (ad:Addr) (hx:a.eval x = .slice (some ad) 1 1)
 (hnews:∀ q u,(i4 j)[q]?=some u→w.cell? (ad.add q)=some u) :
 ∃ w',(execOp a.eval op).run Try.prog w = .ok (.value (.slice (some ⟨gc,0,none⟩) (o.length+1) cap)) w'∧Fil w' gc cap (k+1) (o++[j]) r∧Kp (fun k=>k=gc) w w':=by
 obtain ⟨cur,h1,h2,h3⟩:=Fil.write (j:=j) hF
 have hle:=hF.le
 obtain ⟨i0,hi,hzz⟩:=Option.map_eq_some_iff.1 uK
 simp only [Prod.mk.injEq] at hzz
 obtain ⟨_,hs1,_⟩:=hzz
 have h4:(i4 j).length=1*i0.size:=by rw [hs1];rfl
 have hrun:=run_append_room (P:=Try.prog) w 26 op.type 45 i0 Try.underlying26 hi gc o.length cap cur h1 ad 1 1 (i4 j) h4 hnews (by intro u hu;simp only [i4,List.mem_cons,List.not_mem_nil,or_false] at hu;rcases hu with rfl | rfl | rfl | rfl<;>rfl) (by simp at hle;omega) (by rw [hs1];exact h2)
 rw [hs1] at hrun
 refine ⟨_,?_,h3 _ (setRow_heap w gc cur _ 45 _ h1),rfl,rfl,rfl,by simp [World.setRow],fun k _ hk=>setRow_other w gc k _ hk⟩
 unfold execOp
 simp [hop,resolve,invoke,builtin,hs,hx,hrun,Result.andThen]
theorem mV {ops:Array Oper} {w:World} {op:Oper} {a:Act} {K:Act→World→Prop} {Q:Exit→Act→World→Prop} (hg:op.guard=none) (s x:Operand) (hop:op.op=Op.call {callee:=Callee.builtin Builtin.append,args:=#[s,x],argTypes:=#[26,26]})
 {gc cap k:Nat} {o r:List S45} {i:S45} (hF:Fil w gc cap k o (i :: r)) (m:Nat) (ho:o.length=m) (hs:a.eval s = .slice (some ⟨gc,0,none⟩) m cap) (j:S45) (ad:Addr) (hx:a.eval x = .slice (some ad) 1 1)
 (hnews:∀ q u,(i4 j)[q]?=some u→w.cell? (ad.add q)=some u)
 (h:∀ w',Fil w' gc cap (k+1) (o++[j]) r→Kp (fun k=>k=gc) w w'→K (a.put op.dst (.slice (some ⟨gc,0,none⟩) (m+1) cap)) w') :
 if Region.wanted op (yielded ops a.tmps)=true then Oper.wp Try.prog op a w K Q else K (a.put op.dst undef) w:=by
 subst ho
 obtain ⟨w',hrun,hF',hk⟩:=mR s x hop hF hs j ad hx hnews
 rw [if_pos (by simp [Region.wanted,hg])]
 unfold Oper.wp
 rw [hrun]
 exact h w' hF' hk
theorem CdA.get {w:World} {g cap:Nat} {c:List S45} {tl:List Value} (h:CdA w g cap c tl) {q:Nat} {i:S45} (hq:c[q]?=some i) {j:Nat} (hj:j<4):w.cell? ⟨g,q*4+j,none⟩=(i4 i)[j]?:=by
 have:=(List.getElem?_eq_some_iff.1 hq).1
 rw [ae h.blk,List.getElem?_toArray,List.getElem?_append_left (by rw [jX];omega)]
 exact sQ c q i hq j hj
theorem uA {l:Lw} (hl:l.length=18) (c:List S45):(bkF l c).2.1.length=18:=sF l hl c
theorem uB (l:Lw):∀ c:List S45,(bkF l c).1.length≤c.length:=by
 intro c
 induction c with
 | nil=>exact Nat.le_refl _
 | cons i r ih=>
  rw [bkF]
  split
  · exact Nat.le_succ_of_le ih
  rw [List.length_cons,List.length_cons];omega
theorem xD (l:Lw):∀ c:List S45,(bkF l c).2.2=decide ((bkF l c).1.length<c.length):=by
 intro c
 induction c with
 | nil=>rfl
 | cons i r ih=>
  have:=uB l r
  rw [bkF]
  split
  · show true=_
    rw [eq_comm,decide_eq_true_eq,List.length_cons];show (bkF l r).1.length<_;omega
  show (bkF l r).2.2=_
  rw [ih,List.length_cons,List.length_cons]
  congr 1
  rw [eq_iff_iff];omega
structure BK (w wr:World) (gl:Nat) (l:Lw) (c:List S45) (j:Nat) (vk:Value):Prop where
 kp:Kp (fun x=>x=gl) w wr
 lv:wr.heap[gl]?=some (.cells (bn (bkF l (c.drop j)).2.1) 167 (0,0))
 kept:k45.R 45 wr w.heap.size (fun _=>True) vk (bkF l (c.drop j)).1.reverse
structure BL (w wr:World) (gl gb gc cap n:Nat) (l2:Lw) (bs:List (Value × S47)) (tl:List Value) (bb:S47) (c out:List S45) (vk:Value) (j:Nat):Prop where
 kp:Kp (fun x=>x=gl∨x=gb∨x=gc) w wr
 lv:wr.heap[gl]?=some (.cells (bn l2) 167 (0,0))
 row:wr.heap[gb]?=some (.cells (bf (bs.set n (.slice (some ⟨gc,0,none⟩) j cap,bb)) tl) 47 (0,0))
 fil:Fil wr gc cap j (out.take j) (c.drop j)
 kept:k45.R 45 wr w.heap.size (fun _=>True) vk out.reverse
theorem BK.below {w wr w2:World} {gl j:Nat} {l:Lw} {c:List S45} {vk:Value} (h:BK w wr gl l c j vk) (hb:Below wr.heap.size wr w2):BK w w2 gl l c j vk:=⟨h.kp.below hb,ak h.lv hb,Kd.gT h.kept hb⟩
theorem bk_skip {l:Lw} {i:S45} {r:List S45} (h1:inW (bkF l r).2.1 (wrF i)=false) (h2:decide (i.f0∈flL)=false):(bkF l (i :: r)).1=(bkF l r).1∧(bkF l (i :: r)).2.1=(bkF l r).2.1:=by
 rw [bkF,if_pos ⟨h1,of_decide_eq_false h2⟩];exact ⟨rfl,rfl⟩
theorem bk_keep {l:Lw} {i:S45} {r:List S45} (h:¬(inW (bkF l r).2.1 (wrF i)=false∧decide (i.f0∈flL)=false)):(bkF l (i :: r)).1=i :: (bkF l r).1∧(bkF l (i :: r)).2.1=rdF ((bkF l r).2.1.set (wrF i) false) i:=by
 rw [bkF,if_neg (fun q=>h ⟨q.1,decide_eq_false q.2⟩)];exact ⟨rfl,rfl⟩
theorem nO {w:World} {base:Nat} {ok:Nat→Prop} {v:Value} {xs:List S45} (h:k45.R 45 w base ok v xs):∀ g,v.ownBlock=some g→base≤g:=by
 obtain ⟨inner,ho⟩:=Kd.uq h
 exact fun g hg=>iJ ho g hg
theorem BK.skip {w wr:World} {gl q:Nat} {l:Lw} {c:List S45} {vk:Value} {i:S45} (h:BK w wr gl l c (q+1) vk) (hd:c.drop q=i :: c.drop (q+1)) (h1:inW (bkF l (c.drop (q+1))).2.1 (wrF i)=false) (h2:decide (i.f0∈flL)=false):BK w wr gl l c q vk:=by
 obtain ⟨e1,e2⟩:=bk_skip h1 h2
 exact ⟨h.kp,by rw [hd,e2];exact h.lv,by rw [hd,e1];exact h.kept⟩
theorem BK.keep {w wr w5:World} {gl q:Nat} {l:Lw} {c:List S45} {vk v1:Value} {i:S45} (hd:c.drop q=i :: c.drop (q+1)) (h:¬(inW (bkF l (c.drop (q+1))).2.1 (wrF i)=false∧decide (i.f0∈flL)=false)) (hgl:gl<w.heap.size)
 (kp:Kp (fun x=>x=gl) w wr) (hL:wr.heap[gl]?=some (.cells (bn (rdF ((bkF l (c.drop (q+1))).2.1.set (wrF i) false) i)) 167 (0,0))) (hk:k45.R 45 wr w.heap.size (fun _=>True) vk (bkF l (c.drop (q+1))).1.reverse)
 (ho:k45.R 45 w5 w.heap.size (fun _=>True) v1 ((bkF l (c.drop (q+1))).1.reverse++[i])) (hg:wr.grownBy w5 vk.ownBlock):BK w w5 gl l c q v1:=by
 obtain ⟨e1,e2⟩:=bk_keep h
 refine ⟨kp.grown hg (fun b hb => .inr (nO hk b hb)),?_,by rw [hd,e1,List.reverse_cons];exact ho⟩
 rw [hd,e2]
 exact pF hL hg (fun e=>by have:=nO hk gl e.symm;omega)
theorem vz (w:World) (gl gb gc cap n:Nat) (l:Lw) (bs:List (Value × S47)) (tl:List Value) (c:List S45) (tlc:List Value) (bb:S47) (hL:w.heap[gl]?=some (.cells (bn l) 167 (0,0))) (hl:l.length=18) (hB:w.heap[gb]?=some (.cells (bf bs tl) 47 (0,0)))
 (hp:bs[n]?=some (.slice (some ⟨gc,0,none⟩) c.length cap,bb)) (hC:CdA w gc cap c tlc) (hcode:fB c=true) (hk:∀ x∈c,Rg x.f3) (hn:c.length≤4096) :
 Calls Try.prog 135 #[.pointer (some ⟨gl,0,none⟩),.pointer (some ⟨gb,n*8,none⟩)] w fun e w'=>e = .returned (.bool (bkF l c).2.2)∧w'.heap[gl]?=some (.cells (bn (bkF l c).2.1) 167 (0,0)) ∧
  w'.heap[gb]?=some (.cells (bf (bs.set n (.slice (some ⟨gc,0,none⟩) (bkF l c).1.length cap,bb)) tl) 47 (0,0))∧Cd w' (.slice (some ⟨gc,0,none⟩) (bkF l c).1.length cap) (bkF l c).1∧Kp (fun x=>x=gl∨x=gb∨x=gc) w w':=by
 have b0:w.cell? ⟨gb,n*8,none⟩=some (.slice (some ⟨gc,0,none⟩) c.length cap):=(ae hB (n*8+0)).trans (bO hp (by omega))
 have hcap:cap≤9223372036854775807:=by have:=hC.max;unfold maxLen at *;omega
 have HNE:aa (gb≠gl∧gb≠gc∧gc≠gl):=⟨⟨bF hB hL (by decide),bF hB hC.blk (by decide),bF hC.blk hL (by decide)⟩⟩
 have HBK:aa (BK w w gl l c c.length (.slice none 0 0)):=⟨⟨Kp.refl _ _,by rw [List.drop_length];exact hL,by rw [List.drop_length];exact Kd.kX _ _ _ _ _⟩⟩
 have HL:=aa.mk (And.intro hL hl)
 have HB:=aa.mk hB
 have HP:=aa.mk hp
 have HC:=aa.mk hC
 have HK:=aa.mk (And.intro hcode hk)
 have HLT:=aa.mk (And.intro (ay hL) (And.intro (ay hB) (ay hC.blk)))
 clear hL hl hB hp hC hcode hk
 go_enter Try.func135,Try.ntmps135
 go_wp2
 go_loopw [5,6] (fun v5 v6 wr=>∃ (j:Nat) (z:Int),j≤c.length∧v6 = .int .i64 z∧aa (z=(j:Int) - 1)∧aa (BK w wr gl l c j v5)) (fun _ v6 _=>(intOf v6+1).toNat)
 case atStart=>exact ⟨c.length,_,Nat.le_refl _,rfl,⟨rfl⟩,HBK⟩
 case round=>
  clear HBK b0
  obtain ⟨j,z,hj,rfl,HZ,HBK⟩:=hrel
  cases j with
  | zero=>
   have hz:z = -1:=by have:=HZ.out;omega
   subst hz
   clear HZ hj
   obtain ⟨out,eout⟩:∃ out,out=(bkF l c).1:=⟨_,rfl⟩
   obtain ⟨l2,el2⟩:∃ l2,l2=(bkF l c).2.1:=⟨_,rfl⟩
   have hmle:out.length≤c.length:=by rw [eout];exact uB l c
   have HFD:=aa.mk (xD l c)
   have hR:k45.R 45 wr w.heap.size (fun _=>True) u5 out.reverse:=by have h:=HBK.out.kept;rw [List.drop_zero,←eout] at h;exact h
   have hlv:wr.heap[gl]?=some (.cells (bn l2) 167 (0,0)):=by have h:=HBK.out.lv;rw [List.drop_zero,←el2] at h;exact h
   rw [←eout] at HFD
   have EO:=aa.mk (And.intro eout el2)
   have HRR:=aa.mk hR
   have HLV:=aa.mk hlv
   have HMC:=aa.mk hmle
   clear eout el2 hlv
   have hrow:=(HBK.out.kp.block gb HLT.out.2.1 HNE.out.1).trans HB.out
   have b0:wr.cell? ⟨gb,n*8,none⟩=some (.slice (some ⟨gc,0,none⟩) c.length cap):=(ae hrow (n*8+0)).trans (bO HP.out (by omega))
   have z0:wr.frozen? ⟨gb,n*8,none⟩=false:=ah hrow (n*8+0)
   have HROW:=aa.mk (bz (j:=0) hrow HP.out (.slice (some ⟨gc,0,none⟩) 0 cap,bb) (by omega) (.slice (some ⟨gc,0,none⟩) 0 cap) rfl)
   have HKW:aa (Kp (fun x=>x=gl∨x=gb∨x=gc) w (wr.setCell ⟨gb,n*8,none⟩ (.slice (some ⟨gc,0,none⟩) 0 cap))):=⟨(Kp.mono HBK.out.kp (fun x e => .inl e)).set (.inl (.inr (.inl rfl))) _ _⟩
   have HC0:aa (CdA (wr.setCell ⟨gb,n*8,none⟩ (.slice (some ⟨gc,0,none⟩) 0 cap)) gc cap c tlc):=⟨⟨bN ((HBK.out.kp.block gc HLT.out.2.2 HNE.out.2.2).trans HC.out.blk) (fun e=>HNE.out.2.1 e.symm) _,HC.out.len,HC.out.max,HC.out.size⟩⟩
   have HBL0:aa (BL w (wr.setCell ⟨gb,n*8,none⟩ (.slice (some ⟨gc,0,none⟩) 0 cap)) gl gb gc cap n l2 bs tl bb c out u5 0):=⟨⟨HKW.out,bN HLV.out (fun e=>HNE.out.1 e.symm) _,HROW.out,by rw [List.take_zero,List.drop_zero];exact Fil.of HC0.out,R_kp HRR.out (S:=fun x=>x=gb) (by rintro x rfl;exact .inl ⟨_,_,_,hrow,by decide⟩) ((Kp.refl (fun x=>x=gb) wr).set (.inl rfl) _ _)⟩⟩
   clear hrow
   rcases lF hR with ⟨e5,hnil⟩ | ⟨gk,capk,tlk,e5,hck⟩
   · subst e5
     have hn0:out=[]:=List.reverse_eq_nil_iff.1 hnil
     subst hn0
     clear hR hnil
     go_wp2
     go_loopw [12] (fun v12 w5=>v12 = .int .i64 (-1)∧w5=wr.setCell ⟨gb,n*8,none⟩ (.slice (some ⟨gc,0,none⟩) 0 cap)) (fun _ _=>0)
     case atStart=>exact ⟨rfl,rfl⟩
     case round=>
      obtain ⟨rfl,rfl⟩:=hrel
      go_wp2
      go_ret
      refine ⟨congrArg (fun x=>Ending.returned (Value.bool x)) (HFD.out.symm),?_⟩
      rw [←EO.out.1,←EO.out.2]
      exact ⟨HBL0.out.lv,HBL0.out.row,by simpa using HBL0.out.fil.done HC.out.max,HBL0.out.kp⟩
   subst e5
   have hgk:gk≠gl∧gk≠gb∧gk≠gc∧w.heap.size≤gk:=by have:=nO hR gk rfl;have:=HLT.out;omega
   have HGK:=aa.mk hgk
   clear hR hck hgk
   go_wp2
   go_loopw [12] (fun v12 wr=>∃ (j:Nat) (z:Int),j≤out.length∧v12 = .int .i64 z∧aa (z=(out.length:Int) - (j:Int) - 1)∧aa (BL w wr gl gb gc cap n l2 bs tl bb c out (.slice (some ⟨gk,0,none⟩) out.reverse.length capk) j)) (fun v12 _=>(intOf v12+1).toNat)
   case atStart=>exact ⟨0,_,Nat.zero_le _,rfl,⟨by omega⟩,HBL0⟩
   case round=>
    clear HBL0 HC0 HKW HROW HLV HRR HBK b0 z0
    obtain ⟨j,z,hj,rfl,HZ,HBL⟩:=hrel
    by_cases hjm:j<out.length
    · obtain ⟨q,rfl⟩:∃ q:Nat,z=(q:Int):=⟨z.toNat,by have:=HZ.out;omega⟩
      have hqj:q=out.length - 1 - j:=by have:=HZ.out;omega
      have hgq:out.reverse[q]?=some out[j]:=by
       rw [List.getElem?_reverse (by omega),show out.length - 1 - q=j by omega,List.getElem?_eq_getElem hjm]
      have htk:out.take (j+1)=out.take j++[out[j]]:=List.take_succ_eq_append_getElem hjm
      have hcj:c.drop j=c[j]'(by have:=HMC.out;omega) :: c.drop (j+1):=List.drop_eq_getElem_cons (by have:=HMC.out;omega)
      generalize out[j]=i at hgq htk
      have hk0:Cd wr (.slice (some ⟨gk,0,none⟩) out.reverse.length capk) out.reverse:=lF HBL.out.kept
      have hcell:∀ jj,jj<4→wr.cell? ⟨gk,q*4+jj,none⟩=(i4 i)[jj]?:=by
       intro jj hjj
       rcases hk0 with ⟨e,_⟩ | ⟨g',c',t',e,hcd⟩
       · cases e
       cases e;exact hcd.get hgq hjj
      have k0:wr.cell? ⟨gk,q*4,none⟩=some (.int .u16 i.f0):=(hcell 0 (by omega)).trans rfl
      have k1:wr.cell? ⟨gk,q*4+1,none⟩=some (.int .u8 i.f1):=(hcell 1 (by omega)).trans rfl
      have k2:wr.cell? ⟨gk,q*4+2,none⟩=some (.int .u8 i.f2):=(hcell 2 (by omega)).trans rfl
      have k3:wr.cell? ⟨gk,q*4+3,none⟩=some (.int .u32 i.f3):=(hcell 3 (by omega)).trans rfl
      have c0:wr.cell? ⟨gb,n*8,none⟩=some (.slice (some ⟨gc,0,none⟩) j cap):=(ae HBL.out.row (n*8+0)).trans (bO (aG HP.out) (by omega))
      have cf:wr.frozen? ⟨gb,n*8,none⟩=false:=ah HBL.out.row (n*8+0)
      have i0:(0:Int)≤(q:Int):=by omega
      have i1:(q:Int)<(out.reverse.length:Int):=by rw [List.length_reverse];omega
      have i2:(q:Int)<(out.length:Int):=by omega
      have HTK:aa ((out.take j).length=j):=⟨by rw [List.length_take];omega⟩
      have HA9:aa (Below wr.heap.size wr ((wr.alloc (.cells (i4 i).toArray 45)).drew)):=⟨af (ai (Below.refl _ _) _)⟩
      have HFA:aa (Fil ((wr.alloc (.cells (i4 i).toArray 45)).drew) gc cap j (out.take j) (c[j]'(by have:=HMC.out;omega) :: c.drop (j+1))):=⟨by have h:=HBL.out.fil.below HA9.out;rw [hcj] at h;exact h⟩
      have HRA:=aa.mk (ak HBL.out.row HA9.out)
      have HNW:aa (∀ q u,(i4 i)[q]?=some u→((wr.alloc (.cells (i4 i).toArray 45)).drew).cell? ((⟨wr.heap.size,0,none⟩:Addr).add q)=some u):=⟨by
       intro q u hu
       rw [Go.WideShapes.add_plain,Nat.zero_add]
       have:=ae (aY (kQ wr (.cells (i4 i).toArray 45))) q
       rw [this,List.getElem?_toArray];exact hu⟩
      have HTT:=aa.mk htk
      have HQJ:=aa.mk hqj
      clear hgq htk hcj hk0 hcell hqj
      go_upto_region 16 with (fail)
      refine fF 14 (fun w'=>w'.cell? ⟨gb,n*8,none⟩=some (.slice (some ⟨gc,0,none⟩) j cap)∧w'.frozen? ⟨gb,n*8,none⟩=false∧w'.cell? ⟨gk,q*4,none⟩=some (.int .u16 i.f0)∧w'.cell? ⟨gk,q*4+1,none⟩=some (.int .u8 i.f1)∧w'.cell? ⟨gk,q*4+2,none⟩=some (.int .u8 i.f2)∧w'.cell? ⟨gk,q*4+3,none⟩=some (.int .u32 i.f3)) [10,13] ⟨c0,cf,k0,k1,k2,k3⟩ (fun hHeld=>?_)
      refine bi 0 83 ?_
      refine bi 1 84 ?_
      refine bi 2 85 ?_
      refine bi 3 86 ?_
      refine bi 5 88 ?_
      refine bi 6 89 ?_
      refine bi 7 90 ?_
      refine dn 4 87 hHeld ?_
      refine dn 8 91 hHeld ?_
      refine jD 9 (some 92) (fun K hK=>?_)
      refine AO (w1:=?_) (v:=?_) (by rfl) rfl ?_ ?_
      rotate_left 2
      · go_simp
        constructor
        · rfl
        rfl
      refine hK.out _ _ ⟨(ax (af (ai (Below.refl _ _) _)) c0),(ah (ak HBL.out.row (af (ai (Below.refl _ _) _))) _),(ax (af (ai (Below.refl _ _) _)) k0),(ax (af (ai (Below.refl _ _) _)) k1),(ax (af (ai (Below.refl _ _) _)) k2),(ax (af (ai (Below.refl _ _) _)) k3)⟩ (fun hHeld=>?_)
      clear hK K
      refine gF 92 ?_
      refine gD 10 (some 93) (fun K hK=>?_)
      refine mV (by rfl) (.tmp 87) (.tmp 92) (by rfl) HFA.out j HTK.out (by rfl) i ⟨wr.heap.size,0,none⟩ (by rfl) HNW.out ?_
      intro w7 hF7 hk7
      have HF7:=aa.mk hF7
      have HK7:=aa.mk hk7
      have HR7:=aa.mk ((hk7.block gb (ay HRA.out) HNE.out.2.1).trans HRA.out)
      have w70:w7.cell? ⟨gb,n*8,none⟩=some (.slice (some ⟨gc,0,none⟩) j cap):=(ae HR7.out (n*8+0)).trans (bO (aG HP.out) (by omega))
      have w7f:w7.frozen? ⟨gb,n*8,none⟩=false:=ah HR7.out (n*8+0)
      refine hK.out _ _ ?_
      clear hK K
      refine gF 93 ?_
      refine bi 11 94 ?_
      refine bi 12 95 ?_
      refine gD 13 none (fun K hK=>?_)
      refine iD ?_
      refine hK.out _ _ ?_
      clear hK K
      refine fO (by kernel_rfl) ?_
      have HEND:aa (BL w (w7.setCell ⟨gb,n*8,none⟩ (.slice (some ⟨gc,0,none⟩) (j+1) cap)) gl gb gc cap n l2 bs tl bb c out (.slice (some ⟨gk,0,none⟩) out.reverse.length capk) (j+1)):=⟨by
       have hkk:Kp (fun x=>x=gc∨x=gb) wr (w7.setCell ⟨gb,n*8,none⟩ (.slice (some ⟨gc,0,none⟩) (j+1) cap)):=(((Kp.refl (fun x=>x=gc∨x=gb) wr).below HA9.out).trans (Kp.mono HK7.out (fun x e => .inl e))).set (.inl (.inr rfl)) _ _
       refine ⟨HBL.out.kp.trans (Kp.mono hkk (fun x e=>by rcases e with e | e;exact .inr (.inr e);exact .inr (.inl e))),(hkk.block gl (ay HBL.out.lv) (by rintro (e | e);exact HNE.out.2.2 e.symm;exact HNE.out.1 e.symm)).trans HBL.out.lv,?_,?_,?_⟩
       · have h:=bz (j:=0) HR7.out (aG HP.out) (.slice (some ⟨gc,0,none⟩) (j+1) cap,bb) (by omega) (.slice (some ⟨gc,0,none⟩) (j+1) cap) rfl
         rw [set_set] at h;exact h
       · rw [HTT.out]
         exact HF7.out.kp ((Kp.refl (fun x=>x=gb) w7).set (.inl rfl) _ _) (fun e=>HNE.out.2.1 e.symm)
       refine Kd.gK (Kd.p8 (Kd.gK (ok':=fun x=>¬(x=gc∨x=gb)) (Kd.ut rfl HBL.out.kept) ?_) (fun x hok hlt=>hkk.block x hlt hok)) (fun _ _=>trivial)
       rintro x hx (e | e)
       · (have hx2:x=gk:=Option.some.inj hx;have:=HGK.out;omega)
       (have hx2:x=gk:=Option.some.inj hx;have:=HGK.out;omega)⟩
      go_wp2
      go_roundw
      case rel=>exact ⟨j+1,_,by omega,rfl,⟨by have:=HQJ.out;omega⟩,HEND⟩
      case measure=>simp [intOf]<;>omega
    have hjl:j=out.length:=by omega
    subst hjl
    have hz:z = -1:=by have:=HZ.out;omega
    subst hz
    have HE:aa (wr.heap[gl]?=some (.cells (bn l2) 167 (0,0))∧wr.heap[gb]?=some (.cells (bf (bs.set n (.slice (some ⟨gc,0,none⟩) out.length cap,bb)) tl) 47 (0,0))∧Cd wr (.slice (some ⟨gc,0,none⟩) out.length cap) out∧Kp (fun x=>x=gl∨x=gb∨x=gc) w wr):=⟨HBL.out.lv,HBL.out.row,by have h:=HBL.out.fil.done HC.out.max;rw [List.take_length] at h;exact h,HBL.out.kp⟩
    clear HBL HZ
    go_wp2
    go_ret
    refine ⟨congrArg (fun x=>Ending.returned (Value.bool x)) (HFD.out.symm),?_⟩
    rw [←EO.out.1,←EO.out.2]
    exact HE.out
  | succ q=>
   have hz:z=(q:Int):=by have:=HZ.out;omega
   subst hz
   clear HZ
   have hq:q<c.length:=hj
   have hd:c.drop q=c[q] :: c.drop (q+1):=List.drop_eq_getElem_cons hq
   have hgq:c[q]?=some c[q]:=List.getElem?_eq_getElem hq
   have hmem:c[q]∈c:=List.getElem_mem hq
   have hst:=List.all_eq_true.1 HK.out.1 _ hmem
   have hrg:=HK.out.2 _ hmem
   generalize c[q]=i at hd hmem hst hrg hgq
   have hC2:CdA wr gc cap c tlc:=⟨(HBK.out.kp.block gc HLT.out.2.2 (fun e=>HNE.out.2.2 e)).trans HC.out.blk,HC.out.len,HC.out.max,HC.out.size⟩
   have x0:wr.cell? ⟨gc,q*4,none⟩=some (.int .u16 i.f0):=(hC2.get hgq (j:=0) (by omega)).trans rfl
   have x1:wr.cell? ⟨gc,q*4+1,none⟩=some (.int .u8 i.f1):=(hC2.get hgq (j:=1) (by omega)).trans rfl
   have x2:wr.cell? ⟨gc,q*4+2,none⟩=some (.int .u8 i.f2):=(hC2.get hgq (j:=2) (by omega)).trans rfl
   have x3:wr.cell? ⟨gc,q*4+3,none⟩=some (.int .u32 i.f3):=(hC2.get hgq (j:=3) (by omega)).trans rfl
   have b0:wr.cell? ⟨gb,n*8,none⟩=some (.slice (some ⟨gc,0,none⟩) c.length cap):=(ae ((HBK.out.kp.block gb HLT.out.2.1 (fun e=>HNE.out.1 e)).trans HB.out) (n*8+0)).trans (bO HP.out (by omega))
   have i0:(0:Int)≤(q:Int):=by omega
   have i1:(q:Int)<(c.length:Int):=by omega
   have HD:=aa.mk hd
   have HST:=aa.mk (And.intro hst hrg)
   obtain ⟨R,eR⟩:∃ R,R=bkF l (c.drop (q+1)):=⟨_,rfl⟩
   have hRl:R.2.1.length=18:=by rw [eR];exact uA HL.out.2 _
   have ER:=aa.mk eR
   have HRL:=aa.mk hRl
   clear hd hmem hst hrg hgq hC2 eR hRl
   go_upto_region 6 with (fail)
   refine forget (fun W=>∃ gi,gi=wr.heap.size∧Below wr.heap.size wr W∧W.heap[gi]?=some (.cells #[.int .u16 i.f0,.int .u8 i.f1,.int .u8 i.f2,.int .u32 i.f3] 45 (0,0))) ⟨_,rfl,ai (Below.refl _ _) _,heap_alloc_new _ _⟩ ?_
   clear x0 x1 x2 x3 b0
   rintro W ⟨gi,egi,hb,hi⟩
   rw [←egi]
   have y0:=d9 hi 0
   have HGI:aa (gi≠gl∧w.heap.size≤gi):=⟨by have:=ay HBK.out.lv;have:=HBK.out.kp.size;omega⟩
   have HBW:=aa.mk (HBK.out.below hb)
   have HIW:=aa.mk hi
   clear hb hi egi
   obtain ⟨fu1,fu2,hfu⟩:=xS HST.out.1 10
   have HFU:=aa.mk hfu
   obtain ⟨flt,eflt⟩:∃ flt,flt=decide (i.f0∈flL):=⟨_,rfl⟩
   rw [←eflt] at HFU
   have EFL:=aa.mk eflt.symm
   clear hfu eflt
   go_upto_region 7 with (go_at_call 100;refine (dM.calls 18 i.f0 _ _ _ _ HFU.out).mono ?_;rintro e w' ⟨rfl,⟨nd,rfl⟩⟩;have HB2:=aa.mk (HBW.out.below (aj (Below.refl W.heap.size W) nd));have HI2:=aa.mk (ak HIW.out (aj (Below.refl W.heap.size W) nd)))
   refine forget (fun V=>BK w V gl l c (q+1) u5∧V.heap[gi]?=some (.cells #[.int .u16 i.f0,.int .u8 i.f1,.int .u8 i.f2,.int .u32 i.f3] 45 (0,0))) ⟨HB2.out,HI2.out⟩ ?_
   clear HB2 HI2 HBW HIW y0 HBK
   rintro V ⟨hbk,hi⟩
   have HBK:=aa.mk hbk
   have HIV:=aa.mk hi
   clear hbk hi
   have HWF:=aa.mk (sj HST.out.1 HST.out.2 10)
   have HWL:=aa.mk (Ln.u7 HST.out.1 HST.out.2)
   obtain ⟨tw,etw⟩:∃ tw,tw=wrF i:=⟨_,rfl⟩
   rw [←etw] at HWF HWL
   have hw0:(0:Int)≤(tw:Int):=by omega
   have hw1:(tw:Int)<18:=by have:=HWL.out;omega
   obtain ⟨lb,elb⟩:∃ lb,lb=inW R.2.1 tw:=⟨_,rfl⟩
   have HS7:aa (∀ Y,Below V.heap.size V Y→Y.cell? ⟨gi,0,none⟩=some (.int .u16 i.f0)∧Y.cell? ⟨gi,1,none⟩=some (.int .u8 i.f1)∧Y.cell? ⟨gi,2,none⟩=some (.int .u8 i.f2)∧Y.cell? ⟨gi,3,none⟩=some (.int .u32 i.f3)∧Y.cell? ⟨gl,tw,none⟩=some (.bool lb)):=⟨fun Y hY=>by
    have h:=ak HIV.out hY
    have h2:=ak HBK.out.lv hY
    rw [←ER.out] at h2
    exact ⟨(ae h 0).trans rfl,(ae h 1).trans rfl,(ae h 2).trans rfl,(ae h 3).trans rfl,by rw [elb];exact (ae h2 tw).trans (kM (by rw [HRL.out];exact HWL.out))⟩⟩
   have ELB:=aa.mk elb.symm
   have ETW:=aa.mk etw
   clear elb etw
   obtain ⟨y0,y1,y2,y3,y4⟩:=HS7.out V (Below.refl _ _)
   have HCASE:(lb=false∧flt=false)∨(lb=true)∨(lb=false∧flt=true):=by cases lb<;>cases flt<;>simp
   rcases HCASE with ⟨rfl,rfl⟩ | rfl | ⟨rfl,rfl⟩
   · skip
     go_region_held3 (fun w'=>w'.cell? ⟨gi,0,none⟩=some (.int .u16 i.f0)∧w'.cell? ⟨gi,1,none⟩=some (.int .u8 i.f1)∧w'.cell? ⟨gi,2,none⟩=some (.int .u8 i.f2)∧w'.cell? ⟨gi,3,none⟩=some (.int .u32 i.f3)∧w'.cell? ⟨gl,tw,none⟩=some (.bool false))
      (first | exact HS7.out _ (af (Below.refl _ _)) | exact HS7.out _ (au (af (Below.refl _ _)) hb3))
      ((go_at_call 133;refine (PA.bV.calls 18 i.f0 i.f1 i.f2 i.f3 _ V.drew HWF.out).mono ?_;rintro e w3 ⟨rfl,hb3⟩))
     have HB3:=aa.mk (au (af (Below.refl V.heap.size V)) hb3)
     clear hb3 y0 y1 y2 y3 y4 HS7
     have HEND:aa (BK w w3 gl l c q u5):=⟨(HBK.out.below HB3.out).skip HD.out (by rw [←ER.out,←ETW.out];exact ELB.out) EFL.out⟩
     go_wp2
     go_roundw
     case rel=>exact ⟨q,_,by omega,rfl,⟨rfl⟩,HEND⟩
     case measure=>simp [intOf]<;>omega
   · skip
     refine fF 11 (fun w'=>w'.cell? ⟨gi,0,none⟩=some (.int .u16 i.f0)∧w'.cell? ⟨gi,1,none⟩=some (.int .u8 i.f1)∧w'.cell? ⟨gi,2,none⟩=some (.int .u8 i.f2)∧w'.cell? ⟨gi,3,none⟩=some (.int .u32 i.f3)∧w'.cell? ⟨gl,tw,none⟩=some (.bool true)) [] (HS7.out _ (af (Below.refl _ _))) (fun hHeld=>?_)
     refine bi 0 37 ?_
     refine bi 3 40 ?_
     refine dn 1 38 hHeld ?_
     refine jD 2 (some 39) (fun K hK=>?_)
     refine iN Try.func133 #[.agg #[.int .u16 i.f0,.int .u8 i.f1,.int .u8 i.f2,.int .u32 i.f3]] ?_
     with_reducible refine (PA.bV.calls 18 i.f0 i.f1 i.f2 i.f3 _ V.drew HWF.out).mono ?_
     rintro e w3 ⟨rfl,hb3⟩
     refine ⟨_,rfl,?_⟩
     refine hK.out _ _ (HS7.out _ (au (af (Below.refl _ _)) hb3)) (fun hHeld=>?_)
     clear hK K
     refine gF 39 ?_
     refine bi 4 41 ?_
     refine dn 5 42 hHeld ?_
     refine bi 6 43 ?_
     refine bi 7 44 ?_
     refine bG (i:=8) (N:=some 45) (v:=undef) (a':=?_) #[true,true,true,true,true,true,true,true,true,false,false] rfl rfl (by kernel_rfl) (fun _ _ _ h=>h) (Or.inr ⟨by rfl,rfl⟩) ?_ ?_
     rotate_left
     · simp only [Act.put,List.setIfInBounds_toArray,List.set_cons_zero,List.set_cons_succ,aQ,aN]
       rfl
     refine bG (i:=9) (N:=some 46) (v:=undef) (a':=?_) #[true,true,true,true,true,true,true,true,true,true,false] rfl rfl (by kernel_rfl) (fun _ _ _ h=>h) (Or.inr ⟨by rfl,rfl⟩) ?_ ?_
     rotate_left
     · simp only [Act.put,List.setIfInBounds_toArray,List.set_cons_zero,List.set_cons_succ,aQ,aN]
       rfl
     refine bi 10 47 ?_
     refine fO (by kernel_rfl) ?_
     have HB3:=aa.mk (au (af (Below.refl V.heap.size V)) hb3)
     clear hb3 y0 y1 y2 y3 y4 HS7
     go_upto_region 8 with (fail)
     refine forget (fun V=>BK w V gl l c (q+1) u5∧V.heap[gi]?=some (.cells #[.int .u16 i.f0,.int .u8 i.f1,.int .u8 i.f2,.int .u32 i.f3] 45 (0,0))) ⟨HBK.out.below HB3.out,ak HIV.out HB3.out⟩ ?_
     clear HBK HIV HB3
     rintro V ⟨hbk,hi⟩
     have HBK:=aa.mk hbk
     have HIV:=aa.mk hi
     clear hbk hi
     have HLV:aa (V.heap[gl]?=some (.cells (bn R.2.1) 167 (0,0))):=⟨by rw [ER.out];exact HBK.out.lv⟩
     have HS8:aa (∀ Y l',Y.heap[gi]?=some (.cells #[.int .u16 i.f0,.int .u8 i.f1,.int .u8 i.f2,.int .u32 i.f3] 45 (0,0))→Y.heap[gl]?=some (.cells (bn l') 167 (0,0))→l'.length=18→Y.cell? ⟨gi,0,none⟩=some (.int .u16 i.f0)∧Y.cell? ⟨gi,1,none⟩=some (.int .u8 i.f1)∧Y.cell? ⟨gi,2,none⟩=some (.int .u8 i.f2)∧Y.cell? ⟨gi,3,none⟩=some (.int .u32 i.f3)∧Y.cell? ⟨gl,tw,none⟩=some (cellV Y ⟨gl,tw,none⟩)∧Y.frozen? ⟨gl,tw,none⟩=false):=⟨fun Y l' h h2 h3=>⟨(ae h 0).trans rfl,(ae h 1).trans rfl,(ae h 2).trans rfl,(ae h 3).trans rfl,ky ((ae h2 tw).trans (kM (by rw [h3];exact HWL.out))),ah h2 tw⟩⟩
     obtain ⟨y0,y1,y2,y3,y4,y5⟩:=HS8.out V _ HIV.out HLV.out HRL.out
     have HPT:aa (∀ Y,Below V.heap.size V Y→(Y.setCell ⟨gl,tw,none⟩ (.bool false)).heap[gl]?=some (.cells (bn (R.2.1.set tw false)) 167 (0,0))∧(Y.setCell ⟨gl,tw,none⟩ (.bool false)).heap[gi]?=some (.cells #[.int .u16 i.f0,.int .u8 i.f1,.int .u8 i.f2,.int .u32 i.f3] 45 (0,0))∧Kp (fun x=>x=gl) V (Y.setCell ⟨gl,tw,none⟩ (.bool false))):=⟨fun Y hY=>⟨aI (ak HLV.out hY) tw _ (oU false),bN (ak HIV.out hY) HGI.out.1 _,((Kp.refl (fun x=>x=gl) V).below hY).set (.inl rfl) _ _⟩⟩
     go_region_held3 (fun w'=>w'.cell? ⟨gi,0,none⟩=some (.int .u16 i.f0)∧w'.cell? ⟨gi,1,none⟩=some (.int .u8 i.f1)∧w'.cell? ⟨gi,2,none⟩=some (.int .u8 i.f2)∧w'.cell? ⟨gi,3,none⟩=some (.int .u32 i.f3)∧w'.cell? ⟨gl,tw,none⟩=some (cellV w' ⟨gl,tw,none⟩)∧w'.frozen? ⟨gl,tw,none⟩=false)
      (first | exact HS8.out _ _ (ak HIV.out (af (Below.refl _ _))) (ak HLV.out (af (Below.refl _ _))) HRL.out | exact HS8.out _ _ (ak HIV.out (au (af (Below.refl _ _)) hb3)) (ak HLV.out (au (af (Below.refl _ _)) hb3)) HRL.out | exact HS8.out _ _ (HPT.out _ (au (af (Below.refl _ _)) hb3)).2.1 (HPT.out _ (au (af (Below.refl _ _)) hb3)).1 (by rw [List.length_set];exact HRL.out))
      ((go_at_call 133;refine (PA.bV.calls 18 i.f0 i.f1 i.f2 i.f3 _ V.drew HWF.out).mono ?_;rintro e w3 ⟨rfl,hb3⟩))
     have HB3:=aa.mk (au (af (Below.refl V.heap.size V)) hb3)
     clear hb3 y0 y1 y2 y3 y4 y5 HS8
     go_upto_region 9 with (fail)
     refine forget (fun U=>Kp (fun x=>x=gl) V U∧U.heap[gl]?=some (.cells (bn (R.2.1.set tw false)) 167 (0,0))∧U.heap[gi]?=some (.cells #[.int .u16 i.f0,.int .u8 i.f1,.int .u8 i.f2,.int .u32 i.f3] 45 (0,0))) ⟨(HPT.out _ HB3.out).2.2,(HPT.out _ HB3.out).1,(HPT.out _ HB3.out).2.1⟩ ?_
     clear HPT HB3
     rintro U ⟨hku,hlu,hiu⟩
     obtain ⟨y0,y1,y2,y3,-,-,-,-⟩:=cz4 ⟨hiu⟩
     have HRD:=aa.mk (jF U gl (R.2.1.set tw false) i hlu (by rw [List.length_set];exact HRL.out) HST.out.2 (.inl HST.out.1))
     unfold dQ at HRD
     have HU:=aa.mk (And.intro hku hiu)
     clear hku hlu hiu
     go_upto_region 10 with (go_at_call 134;refine HRD.out.mono ?_;rintro e X ⟨rfl,hlx,hkx⟩;have HX:=aa.mk (And.intro hlx (And.intro (HU.out.1.trans hkx) ((hkx.block gi (ay HU.out.2) HGI.out.1).trans HU.out.2)));clear hlx hkx)
     obtain ⟨z0,z1,z2,z3,-,-,-,-⟩:=cz4 ⟨HX.out.2.2⟩
     have HKX:aa (k45.R 45 X w.heap.size (fun _=>True) u5 R.1.reverse):=⟨by
      have h:=HBK.out.kept
      rw [←ER.out] at h
      exact R_kp h (by rintro x rfl;exact .inl ⟨_,_,_,HLV.out,by decide⟩) HX.out.2.1⟩
     have HSZ:aa (w.heap.size≤X.heap.size∧(R.1.reverse.length+1)*8≤140737488355328):=⟨by
      have h1:=HBK.out.kp.size
      have h2:=HX.out.2.1.size
      have h3:=uB l (c.drop (q+1))
      rw [←ER.out,List.length_drop] at h3
      rw [List.length_reverse]
      omega⟩
     clear y0 y1 y2 y3 HRD
     go_wp2_with (at_builtin;go_loud ((refine Kd.jL k45 (w0:=X) (W:=X) w.heap.size rfl (.tmp 56) (.tmp 58) 26 45 (.agg #[.int .u16 0,.int .u8 0,.int .u8 0,.int .u32 0]) 8 rfl Try.underlying26 mh rfl (by decide) (by decide) _ _ i (i4 i) (fun _=>True) (fun _=>False) rfl rfl (kR _ _ _ i) (fun _ h=>h.elim) (fun _ _=>trivial) HKX.out (Below.refl _ _) HSZ.out.1 HSZ.out.2 ?_);intro v1 w5 ho hb5 hg hat;have HN:=aa.mk (And.intro ho hg);clear ho hb5 hg hat))
     have HEND:aa (BK w w5 gl l c q v1):=⟨by
      have h1:=HX.out.1
      have h2:=HKX.out
      have h3:=HN.out.1
      have h4:=HBK.out.kp.trans HX.out.2.1
      rw [ETW.out] at h1
      rw [ER.out] at h1 h2 h3
      refine BK.keep HD.out ?_ HLT.out.1 h4 h1 h2 h3 HN.out.2
      rw [←ER.out,←ETW.out]
      rintro ⟨h5,h6⟩
      rw [ELB.out] at h5;cases h5⟩
     clear HN HKX HX HU HBK
     go_roundw
     case rel=>exact ⟨q,_,by omega,rfl,⟨rfl⟩,HEND⟩
     case measure=>simp [intOf]<;>omega
   skip
   go_region_held3 (fun w'=>w'.cell? ⟨gi,0,none⟩=some (.int .u16 i.f0)∧w'.cell? ⟨gi,1,none⟩=some (.int .u8 i.f1)∧w'.cell? ⟨gi,2,none⟩=some (.int .u8 i.f2)∧w'.cell? ⟨gi,3,none⟩=some (.int .u32 i.f3)∧w'.cell? ⟨gl,tw,none⟩=some (.bool false))
    (first | exact HS7.out _ (af (Below.refl _ _)) | exact HS7.out _ (au (af (Below.refl _ _)) hb3))
    ((go_at_call 133;refine (PA.bV.calls 18 i.f0 i.f1 i.f2 i.f3 _ V.drew HWF.out).mono ?_;rintro e w3 ⟨rfl,hb3⟩))
   have HB3:=aa.mk (au (af (Below.refl V.heap.size V)) hb3)
   clear hb3 y0 y1 y2 y3 y4 HS7
   go_upto_region 8 with (fail)
   refine forget (fun V=>BK w V gl l c (q+1) u5∧V.heap[gi]?=some (.cells #[.int .u16 i.f0,.int .u8 i.f1,.int .u8 i.f2,.int .u32 i.f3] 45 (0,0))) ⟨HBK.out.below HB3.out,ak HIV.out HB3.out⟩ ?_
   clear HBK HIV HB3
   rintro V ⟨hbk,hi⟩
   have HBK:=aa.mk hbk
   have HIV:=aa.mk hi
   clear hbk hi
   have HLV:aa (V.heap[gl]?=some (.cells (bn R.2.1) 167 (0,0))):=⟨by rw [ER.out];exact HBK.out.lv⟩
   have HS8:aa (∀ Y l',Y.heap[gi]?=some (.cells #[.int .u16 i.f0,.int .u8 i.f1,.int .u8 i.f2,.int .u32 i.f3] 45 (0,0))→Y.heap[gl]?=some (.cells (bn l') 167 (0,0))→l'.length=18→Y.cell? ⟨gi,0,none⟩=some (.int .u16 i.f0)∧Y.cell? ⟨gi,1,none⟩=some (.int .u8 i.f1)∧Y.cell? ⟨gi,2,none⟩=some (.int .u8 i.f2)∧Y.cell? ⟨gi,3,none⟩=some (.int .u32 i.f3)∧Y.cell? ⟨gl,tw,none⟩=some (cellV Y ⟨gl,tw,none⟩)∧Y.frozen? ⟨gl,tw,none⟩=false):=⟨fun Y l' h h2 h3=>⟨(ae h 0).trans rfl,(ae h 1).trans rfl,(ae h 2).trans rfl,(ae h 3).trans rfl,ky ((ae h2 tw).trans (kM (by rw [h3];exact HWL.out))),ah h2 tw⟩⟩
   obtain ⟨y0,y1,y2,y3,y4,y5⟩:=HS8.out V _ HIV.out HLV.out HRL.out
   have HPT:aa (∀ Y,Below V.heap.size V Y→(Y.setCell ⟨gl,tw,none⟩ (.bool false)).heap[gl]?=some (.cells (bn (R.2.1.set tw false)) 167 (0,0))∧(Y.setCell ⟨gl,tw,none⟩ (.bool false)).heap[gi]?=some (.cells #[.int .u16 i.f0,.int .u8 i.f1,.int .u8 i.f2,.int .u32 i.f3] 45 (0,0))∧Kp (fun x=>x=gl) V (Y.setCell ⟨gl,tw,none⟩ (.bool false))):=⟨fun Y hY=>⟨aI (ak HLV.out hY) tw _ (oU false),bN (ak HIV.out hY) HGI.out.1 _,((Kp.refl (fun x=>x=gl) V).below hY).set (.inl rfl) _ _⟩⟩
   go_region_held3 (fun w'=>w'.cell? ⟨gi,0,none⟩=some (.int .u16 i.f0)∧w'.cell? ⟨gi,1,none⟩=some (.int .u8 i.f1)∧w'.cell? ⟨gi,2,none⟩=some (.int .u8 i.f2)∧w'.cell? ⟨gi,3,none⟩=some (.int .u32 i.f3)∧w'.cell? ⟨gl,tw,none⟩=some (cellV w' ⟨gl,tw,none⟩)∧w'.frozen? ⟨gl,tw,none⟩=false)
    (first | exact HS8.out _ _ (ak HIV.out (af (Below.refl _ _))) (ak HLV.out (af (Below.refl _ _))) HRL.out | exact HS8.out _ _ (ak HIV.out (au (af (Below.refl _ _)) hb3)) (ak HLV.out (au (af (Below.refl _ _)) hb3)) HRL.out | exact HS8.out _ _ (HPT.out _ (au (af (Below.refl _ _)) hb3)).2.1 (HPT.out _ (au (af (Below.refl _ _)) hb3)).1 (by rw [List.length_set];exact HRL.out))
    ((go_at_call 133;refine (PA.bV.calls 18 i.f0 i.f1 i.f2 i.f3 _ V.drew HWF.out).mono ?_;rintro e w3 ⟨rfl,hb3⟩))
   have HB3:=aa.mk (au (af (Below.refl V.heap.size V)) hb3)
   clear hb3 y0 y1 y2 y3 y4 y5 HS8
   go_upto_region 9 with (fail)
   refine forget (fun U=>Kp (fun x=>x=gl) V U∧U.heap[gl]?=some (.cells (bn (R.2.1.set tw false)) 167 (0,0))∧U.heap[gi]?=some (.cells #[.int .u16 i.f0,.int .u8 i.f1,.int .u8 i.f2,.int .u32 i.f3] 45 (0,0))) ⟨(HPT.out _ HB3.out).2.2,(HPT.out _ HB3.out).1,(HPT.out _ HB3.out).2.1⟩ ?_
   clear HPT HB3
   rintro U ⟨hku,hlu,hiu⟩
   obtain ⟨y0,y1,y2,y3,-,-,-,-⟩:=cz4 ⟨hiu⟩
   have HRD:=aa.mk (jF U gl (R.2.1.set tw false) i hlu (by rw [List.length_set];exact HRL.out) HST.out.2 (.inl HST.out.1))
   unfold dQ at HRD
   have HU:=aa.mk (And.intro hku hiu)
   clear hku hlu hiu
   go_upto_region 10 with (go_at_call 134;refine HRD.out.mono ?_;rintro e X ⟨rfl,hlx,hkx⟩;have HX:=aa.mk (And.intro hlx (And.intro (HU.out.1.trans hkx) ((hkx.block gi (ay HU.out.2) HGI.out.1).trans HU.out.2)));clear hlx hkx)
   obtain ⟨z0,z1,z2,z3,-,-,-,-⟩:=cz4 ⟨HX.out.2.2⟩
   have HKX:aa (k45.R 45 X w.heap.size (fun _=>True) u5 R.1.reverse):=⟨by
    have h:=HBK.out.kept
    rw [←ER.out] at h
    exact R_kp h (by rintro x rfl;exact .inl ⟨_,_,_,HLV.out,by decide⟩) HX.out.2.1⟩
   have HSZ:aa (w.heap.size≤X.heap.size∧(R.1.reverse.length+1)*8≤140737488355328):=⟨by
    have h1:=HBK.out.kp.size
    have h2:=HX.out.2.1.size
    have h3:=uB l (c.drop (q+1))
    rw [←ER.out,List.length_drop] at h3
    rw [List.length_reverse]
    omega⟩
   clear y0 y1 y2 y3 HRD
   go_wp2_with (at_builtin;go_loud ((refine Kd.jL k45 (w0:=X) (W:=X) w.heap.size rfl (.tmp 56) (.tmp 58) 26 45 (.agg #[.int .u16 0,.int .u8 0,.int .u8 0,.int .u32 0]) 8 rfl Try.underlying26 mh rfl (by decide) (by decide) _ _ i (i4 i) (fun _=>True) (fun _=>False) rfl rfl (kR _ _ _ i) (fun _ h=>h.elim) (fun _ _=>trivial) HKX.out (Below.refl _ _) HSZ.out.1 HSZ.out.2 ?_);intro v1 w5 ho hb5 hg hat;have HN:=aa.mk (And.intro ho hg);clear ho hb5 hg hat))
   have HEND:aa (BK w w5 gl l c q v1):=⟨by
    have h1:=HX.out.1
    have h2:=HKX.out
    have h3:=HN.out.1
    have h4:=HBK.out.kp.trans HX.out.2.1
    rw [ETW.out] at h1
    rw [ER.out] at h1 h2 h3
    refine BK.keep HD.out ?_ HLT.out.1 h4 h1 h2 h3 HN.out.2
    rw [←ER.out,←ETW.out]
    rintro ⟨h5,h6⟩
    rw [EFL.out] at h6;cases h6⟩
   clear HN HKX HX HU HBK
   go_roundw
   case rel=>exact ⟨q,_,by omega,rfl,⟨rfl⟩,HEND⟩
   case measure=>simp [intOf]<;>omega
theorem xA (w:World) (gl gb n:Nat) (bs:List (Value × S47)) (tl:List Value) (bb:S47) (hB:w.heap[gb]?=some (.cells (bf bs tl) 47 (0,0))) (hp:bs[n]?=some (.slice none 0 0,bb)) :
 Calls Try.prog 135 #[.pointer (some ⟨gl,0,none⟩),.pointer (some ⟨gb,n*8,none⟩)] w fun e w'=>e = .returned (.bool false)∧w'.heap[gb]?=some (.cells (bf bs tl) 47 (0,0))∧Kp (fun x=>x=gb) w w':=by
 have b0:w.cell? ⟨gb,n*8,none⟩=some (.slice none 0 0):=(ae hB (n*8+0)).trans (bO hp (by omega))
 have z0:w.frozen? ⟨gb,n*8,none⟩=false:=ah hB (n*8+0)
 have HROW:=aa.mk (by have h:=bz (j:=0) hB hp (.slice none 0 0,bb) (by omega) (.slice none 0 0) rfl;rw [set_self hp] at h;exact h)
 have HKR:=aa.mk ((Kp.refl (fun x=>x=gb) w).set (.inl rfl) (n*8) (.slice none 0 0))
 clear hB hp
 go_enter Try.func135,Try.ntmps135
 go_wp2
 go_loopw [5,6] (fun v5 v6 w5=>v5 = .slice none 0 0∧v6 = .int .i64 (-1)∧w5=w) (fun _ _ _=>0)
 case atStart=>exact ⟨rfl,rfl,rfl⟩
 case round=>
  obtain ⟨rfl,rfl,rfl⟩:=hrel
  go_wp2
  go_loopw [12] (fun v12 w5=>v12 = .int .i64 (-1)∧w5=wr.setCell ⟨gb,n*8,none⟩ (.slice none 0 0)) (fun _ _=>0)
  case atStart=>exact ⟨rfl,rfl⟩
  case round=>
   obtain ⟨rfl,rfl⟩:=hrel
   go_wp2
   go_ret
   exact ⟨rfl,HROW.out,HKR.out⟩
theorem lh (w:World) (gl gb n:Nat) (l:Lw) (bs:List (Value × S47)) (tl:List Value) (v:Value) (c:List S45) (bb:S47) (hL:w.heap[gl]?=some (.cells (bn l) 167 (0,0))) (hl:l.length=18) (hB:w.heap[gb]?=some (.cells (bf bs tl) 47 (0,0)))
 (hp:bs[n]?=some (v,bb)) (hC:Cd w v c) (hcode:fB c=true) (hk:∀ x∈c,Rg x.f3) (hn:c.length≤4096) :
 Calls Try.prog 135 #[.pointer (some ⟨gl,0,none⟩),.pointer (some ⟨gb,n*8,none⟩)] w fun e w'=>e = .returned (.bool (bkF l c).2.2)∧w'.heap[gl]?=some (.cells (bn (bkF l c).2.1) 167 (0,0)) ∧
  (∃ v',v'.ownBlock=v.ownBlock∧w'.heap[gb]?=some (.cells (bf (bs.set n (v',bb)) tl) 47 (0,0))∧Cd w' v' (bkF l c).1)∧Kp (fun x=>x=gl∨x=gb∨some x=v.ownBlock) w w':=by
 rcases hC with ⟨rfl,rfl⟩ | ⟨g,cap,tlc,rfl,hC⟩
 · refine (xA w gl gb n bs tl bb hB hp).mono ?_
   rintro e w' ⟨he,hb,hk⟩
   refine ⟨he,(hk.block gl (ay hL) (fun e=>bF hB hL (by decide) e.symm)).trans hL,⟨_,rfl,by rw [set_self hp];exact hb,.inl ⟨rfl,rfl⟩⟩,Kp.mono hk (fun x h => .inr (.inl h))⟩
 refine (vz w gl gb g cap n l bs tl c tlc bb hL hl hB hp hC hcode hk hn).mono ?_
 rintro e w' ⟨he,hs,hb,hc,hk⟩
 exact ⟨he,hs,⟨.slice (some ⟨g,0,none⟩) (bkF l c).1.length cap,rfl,hb,hc⟩,Kp.mono hk (fun x h=>by rcases h with h | h | h;exact .inl h;exact .inr (.inl h);exact .inr (.inr (by rw [h];rfl)))⟩
def f18 (l:Lw):List Value:=(List.range 18).map fun j => .bool (inW l j)
theorem eO (l:Lw):(f18 l).length=18:=by unfold f18;rw [List.length_map,List.length_range]
theorem jw (l:Lw):∀ u∈f18 l,u.oneCell'=true:=by
 intro u hu
 obtain ⟨o,_,rfl⟩:=List.mem_map.1 hu
 rfl
theorem nW {l:Lw} (h:l.length=18):bn l=(f18 l).toArray:=by
 unfold bn f18
 congr 1
 apply List.ext_getElem?
 intro i
 rw [List.getElem?_map,List.getElem?_map]
 by_cases hi:i<18
 · rw [List.getElem?_range hi,List.getElem?_eq_getElem (by omega)]
   unfold inW
   rw [Option.map_some,Option.map_some,List.getD_eq_getElem?_getD,List.getElem?_eq_getElem (by omega)];rfl
 rw [List.getElem?_eq_none (by omega),List.getElem?_eq_none (by rw [List.length_range];omega)];rfl
theorem u6 {l:Lw} (h:l.length=18):(bn l).size=18:=by unfold bn;rw [List.size_toArray,List.length_map];exact h
theorem info_wo:(Try.prog.info? 167).map (fun i=>(i.zero,i.size,i.bytes))=some (some (.agg (f18 noW).toArray),18,18):=by kernel_rfl
theorem dh:(Try.prog.info? 167).map (·.size)=some 18:=by kernel_rfl
theorem tC (L:Nat) (hL:L≤4096) (W:World):(Instr.makeSlice 165 (.int .i64 (L:Int)) (.int .i64 (L:Int))).run Try.prog W = .ok (.slice (some ⟨W.heap.size,0,none⟩) L L) (W.alloc (.cells ((List.replicate L noW).flatMap f18).toArray 167)):=by
 obtain ⟨i,hi,hzz⟩:=Option.map_eq_some_iff.1 info_wo
 simp only [Prod.mk.injEq] at hzz
 obtain ⟨hz,hs,hb⟩:=hzz
 have h:=run_make (P:=Try.prog) W 165 167 i _ Try.underlying165 hi hz .i64 .i64 L L (by omega) (Int.le_refl _) (by rw [hb];omega) (by omega)
 rw [Int.toNat_natCast,hs] at h
 have e:=kS f18 noW 18 (eO _) L
 refine h.trans ?_
 show Result.ok _ (World.alloc W (.cells (madeCells (f18 noW).toArray (L*18)) 167))=_
 rw [e]
structure PD (w wr:World) (B:Bs) (gw gb cap:Nat) (tl:List Value) (L:Nat) (G:List S47) (ga:Nat) (j:Nat) (f:Bool) (bs:List (Value × S47)) (A:List Lw):Prop where
 wk:Wk wr B gw gb cap bs tl
 low:Below B.n w wr
 len:bs.length=L
 pre:(bs.map (·.2)).take j=G.take j
 post:(bs.map (·.2)).drop j=(ddL (G.drop j) j).1
 at_:wr.heap[ga]?=some (.cells (A.flatMap f18).toArray 167 (0,0))
 al:A.length=L
 ad:A.drop j=(ddL (G.drop j) j).2.1
 fnd:f=(ddL (G.drop j) j).2.2
 lo:B.n≤ga
section
variable {w wr w2:World} {B:Bs} {gw gb cap L j ga:Nat} {tl:List Value} {G:List S47} {f:Bool} {bs:List (Value × S47)} {A:List Lw}
theorem PD.get (h:PD w wr B gw gb cap tl L G ga (j+1) f bs A) (hj:j<L) (hG:G.length=L):∃ v b,bs[j]?=some (v,b)∧G[j]?=some b∧G.drop j=b :: G.drop (j+1):=by
 have h1:j<bs.length:=by rw [h.len];exact hj
 have h2:((bs.map (·.2)).take (j+1))[j]?=(G.take (j+1))[j]?:=by rw [h.pre]
 rw [List.getElem?_take,List.getElem?_take,if_pos (by omega),if_pos (by omega),List.getElem?_map,List.getElem?_eq_getElem h1,Option.map_some] at h2
 obtain ⟨h4,h5⟩:=List.getElem?_eq_some_iff.1 h2.symm
 exact ⟨bs[j].1,bs[j].2,List.getElem?_eq_getElem h1,h2.symm,by rw [List.drop_eq_getElem_cons h4,h5]⟩
theorem PD.below (h:PD w wr B gw gb cap tl L G ga j f bs A) (hb:Below wr.heap.size wr w2):PD w w2 B gw gb cap tl L G ga j f bs A:=
 ⟨h.wk.below hb,h.low.trans ⟨hb.os,hb.tape,hb.output,hb.size,fun i hi=>hb.block i (by have:=ay h.wk.me;have:=h.wk.lo;omega)⟩,h.len,h.pre,h.post,ak h.at_ hb,h.al,h.ad,h.fnd,h.lo⟩
theorem PD.kp {gl:Nat} {cs:Array Value} (h:PD w wr B gw gb cap tl L G ga j f bs A) (hk:Kp (fun x=>x=gl) wr w2) (hl:wr.heap[gl]?=some (.cells cs 167 (0,0))) (hne:gl≠ga) (hB:B.n≤gl):PD w w2 B gw gb cap tl L G ga j f bs A:=
 ⟨h.wk.kp hk (by rintro x rfl;exact ⟨_,_,_,hl,by decide,by decide,by decide⟩),Kp.gW h.low hk (by have:=ay h.wk.me;have:=h.wk.lo;omega) (by rintro x rfl;exact hB),h.len,h.pre,h.post,(hk.block ga (ay h.at_) (fun e=>hne e.symm)).trans h.at_,h.al,h.ad,h.fnd,h.lo⟩
theorem PD.lv (h:PD w wr B gw gb cap tl L G ga (j+1) f bs A) {y:Int} (h1:(j:Int)<y) (h2:y<L):(ddL (G.drop (j+1)) (j+1)).2.1.getD (y.toNat - (j+1)) noW=A.getD y.toNat noW:=by
 rw [←h.ad,List.getD_eq_getElem?_getD,List.getD_eq_getElem?_getD,List.getElem?_drop]
 congr 2;omega
theorem PD.next {l:Lw} {v v':Value} {b:S47} {f2:Bool} (h:PD w wr B gw gb cap tl L G ga (j+1) f bs A) (hb:bs[j]?=some (v,b)) (hG:G.drop j=b :: G.drop (j+1)) (hl:l=lvF b ((ddL (G.drop (j+1)) (j+1)).2.1.getD (b.f3.toNat - (j+1)) noW) ((ddL (G.drop (j+1)) (j+1)).2.1.getD (b.f4.toNat - (j+1)) noW))
 (hwk:Wk w2 B gw gb cap (bs.set j (v',⟨(bkF l b.f0).1,b.f1,b.f2,b.f3,b.f4⟩)) tl) (hlow:Below B.n w w2) (hat:w2.heap[ga]?=some (.cells ((A.set j (bkF l b.f0).2.1).flatMap f18).toArray 167 (0,0))) (hf:f2=((bkF l b.f0).2.2||f)) :
 PD w w2 B gw gb cap tl L G ga j f2 (bs.set j (v',⟨(bkF l b.f0).1,b.f1,b.f2,b.f3,b.f4⟩)) (A.set j (bkF l b.f0).2.1):=by
 have hj:=lT hb
 have hjA:j<A.length:=by rw [h.al,←h.len];exact hj
 have hd:ddL (G.drop j) j=(⟨(bkF l b.f0).1,b.f1,b.f2,b.f3,b.f4⟩ :: (ddL (G.drop (j+1)) (j+1)).1,(bkF l b.f0).2.1 :: (ddL (G.drop (j+1)) (j+1)).2.1,(bkF l b.f0).2.2||(ddL (G.drop (j+1)) (j+1)).2.2):=by
  rw [hG,ddL,hl]
 refine ⟨hwk,hlow,by rw [List.length_set];exact h.len,?_,?_,hat,by rw [List.length_set];exact h.al,?_,?_,h.lo⟩
 · rw [List.map_set,List.take_set_of_le (Nat.le_refl _)]
   have:=congrArg (List.take j) h.pre
   rw [List.take_take,List.take_take,Nat.min_eq_left (by omega)] at this
   exact this
 · have hl2:j<((bs.set j (v',⟨(bkF l b.f0).1,b.f1,b.f2,b.f3,b.f4⟩)).map (·.2)).length:=by rw [List.length_map,List.length_set];exact hj
   rw [hd,List.drop_eq_getElem_cons hl2]
   have e1:((bs.set j (v',⟨(bkF l b.f0).1,b.f1,b.f2,b.f3,b.f4⟩)).map (·.2))[j]=⟨(bkF l b.f0).1,b.f1,b.f2,b.f3,b.f4⟩:=by
    have:=List.getElem?_eq_getElem hl2
    rw [List.getElem?_map,aG hb] at this
    exact (Option.some.inj this).symm
   rw [e1,List.map_set,List.drop_set_of_lt (by omega),h.post]
 · have hl2:j<(A.set j (bkF l b.f0).2.1).length:=by rw [List.length_set];exact hjA
   rw [hd,List.drop_eq_getElem_cons hl2,List.getElem_set_self,List.drop_set_of_lt (by omega),h.ad]
 rw [hf,hd,←h.fnd]
end
def orP (y m:Lw) (k:Nat):Lw:=(List.range 18).map (fun j=>inW y j||(decide (j<k)&&inW m j))
theorem kT (y m:Lw) (k:Nat):(orP y m k).length=18:=by unfold orP;rw [List.length_map,List.length_range]
theorem oD {y m:Lw} {k j:Nat} (hj:j<18):inW (orP y m k) j=(inW y j||(decide (j<k)&&inW m j)):=by unfold orP;rw [ib,decide_eq_true hj,Bool.true_and]
theorem tu {a b:Lw} (ha:a.length=18) (hb:b.length=18) (h:∀ j,j<18→inW a j=inW b j):a=b:=by
 apply List.ext_getElem
 · rw [ha,hb]
 intro j h1 h2
 have:=h j (by omega)
 unfold inW at this
 rw [List.getD_eq_getElem?_getD,List.getD_eq_getElem?_getD,List.getElem?_eq_getElem h1,List.getElem?_eq_getElem h2] at this
 exact this
theorem orP_0 {y:Lw} (m:Lw) (hy:y.length=18):orP y m 0=y:=tu (kT _ _ _) hy (fun j hj=>by rw [oD hj,decide_eq_false (by omega)];simp)
theorem zJ {y m:Lw} {k:Nat} (hk:k<18):(orP y m k).set k (inW y k||inW m k)=orP y m (k+1):=by
 refine tu (by rw [List.length_set];exact kT _ _ _) (kT _ _ _) (fun j hj=>?_)
 rw [gH (by rw [kT];exact hk),oD (k:=k+1) hj]
 by_cases e:k=j
 · subst e;rw [if_pos rfl,decide_eq_true (by omega),Bool.true_and]
 rw [if_neg e,oD hj]
 congr 2
 by_cases q:j<k
 · rw [decide_eq_true q,decide_eq_true (by omega)]
 rw [decide_eq_false q,decide_eq_false (by omega)]
theorem orP_18 (y m:Lw):orP y m 18=(List.range 18).map (fun j=>inW y j||inW m j):=by
 refine tu (kT _ _ _) (by rw [List.length_map,List.length_range]) (fun j hj=>?_)
 rw [oD hj,ib,decide_eq_true hj];simp
end Go.Proofs.Ytdkalnkplgfgoaa.Ln
