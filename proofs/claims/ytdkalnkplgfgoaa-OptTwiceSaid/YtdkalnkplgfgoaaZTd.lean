/- Lemmas and walks for the statements of the texts ZTZ..: the declarations that they need, taken together by a program of this session. Conditions: as each says. -/
import Derived.Laws.EntriesVeiled
import Derived.Test.YtdkalnkplgfgoaaZTa
import Derived.Test.YtdkalnkplgfgoaaZTb
import Derived.Test.YtdkalnkplgfgoaaZTc
set_option maxHeartbeats 4000000
set_option maxRecDepth 100000
set_option linter.unusedVariables false
set_option linter.unusedSimpArgs false
namespace Go.Proofs.Ytdkalnkplgfgoaa.Ln
open Go.RowKit Go.Maps Go.Proofs.YtdkalnkplgfgoaaW.PrintWords Go.Proofs.YtdkalnkplgfgoaaW.PrintLast Go.Proofs.YtdkalnkplgfgoaaW.PrintMore Go.Proofs.Ytdkalnkplgfgoaa.PA
def tbB:List (Nat × Nat):=[(0,101),(32,102),(40,103),(48,104),(64,105),(72,106),(80,107),(96,108),(128,109),(1,110),(97,111),(129,112),(177,113),(2,114),(3,115),(132,116),(7,117),(135,118)]
def tbC:List Nat:=[4,20,36,52,68,84,100,116,148,164]
def fnV (k:Nat):Value := .func (.func k) #[] #[]
structure TB (arr:Array Value) (n:Nat):Prop where
  size:arr.size=256
  base:∀ p∈tbB,arr[p.1]?=some (fnV p.2)
  alu:∀ i,i<n→arr[tbC.getD i 0]?=some (fnV 119)∧arr[tbC.getD i 0+8]?=some (fnV 119)
theorem uk:∀ j<10,tbC.getD j 0<200∧(∀ p∈tbB,p.1≠tbC.getD j 0∧p.1≠tbC.getD j 0+8)∧∀ i<10,i≠j→tbC.getD i 0≠tbC.getD j 0∧tbC.getD i 0≠tbC.getD j 0+8∧tbC.getD i 0+8≠tbC.getD j 0:=by decide
theorem tb_or:∀ j<10,Go.bits .or .u16 (tbC.getD j 0:Int) 8=(tbC.getD j 0:Int)+8:=by
  intro j hj
  have:j=0∨j=1∨j=2∨j=3∨j=4∨j=5∨j=6∨j=7∨j=8∨j=9:=by omega
  rcases this with rfl | rfl | rfl | rfl | rfl | rfl | rfl | rfl | rfl | rfl<;>decide +kernel
theorem TB.next {arr:Array Value} {j:Nat} (h:TB arr j) (hj:j<10):TB ((arr.setIfInBounds (tbC.getD j 0) (fnV 119)).setIfInBounds (tbC.getD j 0+8) (fnV 119)) (j+1):=by
  obtain ⟨f0,f1,f2⟩:=uk j hj
  have hs:=h.size
  refine ⟨by simp [hs],fun p hp=>?_,fun i hi=>?_⟩
  · have:=f1 p hp
    rw [Array.getElem?_setIfInBounds_ne (by omega),Array.getElem?_setIfInBounds_ne (by omega)]
    exact h.base p hp
  · by_cases e:i=j
    · subst e
      rw [Array.getElem?_setIfInBounds_ne (by omega),Array.getElem?_setIfInBounds_self_of_lt (by rw [hs];omega),Array.getElem?_setIfInBounds_self_of_lt (by rw [Array.size_setIfInBounds,hs];omega)]
      exact ⟨rfl,rfl⟩
    · have:=f2 i (by omega) e
      rw [Array.getElem?_setIfInBounds_ne (by omega),Array.getElem?_setIfInBounds_ne (by omega),Array.getElem?_setIfInBounds_ne (by omega),Array.getElem?_setIfInBounds_ne (by omega)]
      exact h.alu i (by omega)
def tcC:Array Value:=(tbC.map (fun c:Nat=>Value.int .u16 (c:Int))).toArray
structure TI (w wr:World) (gd gs j:Nat):Prop where
  d:∃ arr,wr.heap[gd]?=some (.cells arr 143 (0,0))∧TB arr j
  s:wr.heap[gs]?=some (.cells tcC 43 (0,0))
  low:Below w.heap.size w wr
theorem si (w:World):Calls Try.prog 69 #[] w fun e w'=>∃ gd arr,e = .returned (.pointer (some ⟨gd,0,none⟩))∧w'.heap[gd]?=some (.cells arr 143 (0,0))∧w.heap.size≤gd∧TB arr 10∧Below w.heap.size w w':=by
  go_enter Try.func69,Try.ntmps69
  go_upto_region 2 with (fail)
  refine forget (fun X=>∃ gd arr,gd=w.heap.size∧X.heap[gd]?=some (.cells arr 143 (0,0))∧TB arr 0∧Below w.heap.size w X) ⟨_,_,rfl,heap_alloc_new _ _,⟨by kernel_rfl,fun p hp=>by
    simp only [tbB,List.mem_cons,List.not_mem_nil,or_false] at hp
    rcases hp with rfl | rfl | rfl | rfl | rfl | rfl | rfl | rfl | rfl | rfl | rfl | rfl | rfl | rfl | rfl | rfl | rfl | rfl<;>kernel_rfl,fun i h=>absurd h (Nat.not_lt_zero _)⟩,ai (Below.refl _ _) _⟩ ?_
  rintro X ⟨gd,arr,egd,hd,ht,hb⟩
  rw [←egd]
  have HX:=aa.mk (And.intro hd (And.intro ht (And.intro hb egd)))
  clear hd ht hb egd
  go_upto_block 0 with (fail)
  refine forget (fun Y=>∃ gs,gs=X.heap.size∧(∃ arr,Y.heap[gd]?=some (.cells arr 143 (0,0))∧TB arr 0)∧Y.heap[gs]?=some (.cells tcC 43 (0,0))∧Below w.heap.size w Y∧gd<gs) ⟨_,rfl,⟨arr,ak HX.out.1 (ai (Below.refl _ _) _),HX.out.2.1⟩,heap_alloc_new _ _,ai HX.out.2.2.1 _,ay HX.out.1⟩ ?_
  rintro Y ⟨gs,egs,ha,hs,hb,hlt⟩
  rw [←egs]
  have HGD:=aa.mk (show w.heap.size≤gd by rw [HX.out.2.2.2];exact Nat.le_refl _)
  have HY:=aa.mk (TI.mk (w:=w) (wr:=Y) (gd:=gd) (gs:=gs) (j:=0) ha hs hb)
  have HLT:=aa.mk hlt
  clear ha hs hb egs hlt HX
  go_wp2
  go_loopw [8] (fun v8 wr=>∃ j:Nat,j≤10∧v8 = .int .i64 j∧aa (TI w wr gd gs j)) (fun v8 _=>10 - (intOf v8).toNat)
  case atStart=>exact ⟨0,by omega,rfl,HY⟩
  case round=>
    clear HY
    obtain ⟨j,hj,rfl,HY⟩:=hrel
    by_cases hlt:j<10
    · obtain ⟨q,eq⟩:∃ q,q=tbC.getD j 0:=⟨_,rfl⟩
      have hor:=tb_or j hlt
      have hfar:=(uk j hlt).1
      have i0:(0:Int)≤(j:Int):=by omega
      have i1:(j:Int)<10:=by omega
      have cs:wr.cell? ⟨gs,j,none⟩=some (.int .u16 (tbC.getD j 0:Nat)):=(ae HY.out.s j).trans (by unfold tcC;rw [List.getElem?_toArray,List.getElem?_map,List.getD_eq_getElem?_getD,List.getElem?_eq_getElem (by exact hlt)];rfl)
      obtain ⟨arr,hd,ht⟩:=HY.out.d
      have hf2:=uk j hlt
      obtain ⟨v1,hv1⟩:∃ v,arr[tbC.getD j 0]?=some v:=⟨_,Array.getElem?_eq_getElem (by rw [ht.size];omega)⟩
      obtain ⟨v2,hv2⟩:∃ v,arr[tbC.getD j 0+8]?=some v:=⟨_,Array.getElem?_eq_getElem (by rw [ht.size];omega)⟩
      have c1:=(ae hd (tbC.getD j 0)).trans hv1
      have c2:=(ae hd (tbC.getD j 0+8)).trans hv2
      have f1:=ah hd (tbC.getD j 0)
      have f2:=ah hd (tbC.getD j 0+8)
      have HT:=aa.mk (And.intro hd (ht.next hlt))
      rw [←eq] at hor hfar cs c1 c2 f1 f2 HT
      have q0:(0:Int)≤(q:Int):=by omega
      have q1:(q:Int)<256:=by omega
      have q2:(q:Int)+8<256:=by omega
      clear eq hd ht hv1 hv2 hf2 hfar
      go_upto_region 5 with (fail)
      go_region
      have HN:aa (TI w (((wr.setCell ⟨gd,q,none⟩ (fnV 119)).setCell ⟨gd,q+8,none⟩ (fnV 119)).drew) gd gs (j+1)):=
        ⟨⟨_,ak (aI (aI HT.out.1 q _ rfl) (q+8) _ rfl) (af (Below.refl _ _)),HT.out.2⟩,ak (bN (bN HY.out.s (by have:=HLT.out;show gs≠gd;omega) _) (by have:=HLT.out;show gs≠gd;omega) _) (af (Below.refl _ _)),af (eY (eY HY.out.low HGD.out) HGD.out)⟩
      clear hor cs c1 c2 f1 f2 HY HT
      go_wp2
      go_roundw
      case rel=>exact ⟨j+1,by omega,by go_num,HN⟩
      case measure=>simp [intOf];omega
    · have hj2:j=10:=by omega
      subst hj2
      obtain ⟨arr,hd,ht⟩:=HY.out.d
      have HE:=aa.mk (And.intro hd ht)
      clear hd ht
      go_wp2
      go_ret
      exact ⟨gd,arr,rfl,HE.out.1,HGD.out,HE.out.2,HY.out.low⟩
section
variable {P:Program} {ops:Array Oper} {o:Oper} {a:Act} {Q:Exit→Act→World→Prop} {Kc:Act→World→Prop} {α:Type}
theorem o6 (d:Kd α) {w0 W:World} (base:Nat) (s x:Operand) (t e:TypeId) (z:Value) (bytes:Nat) (hg:o.guard=none)
 (ho:o.op = .call {callee := .builtin .append,args:=#[s,x],argTypes:=#[t,t]})
 (ht:P.underlying t=some (.slice e)) (hinfo:(P.info? e).map (fun i=>(i.zero,i.size,i.bytes))=some (some z,d.sz,bytes)) (hz:z.cells.size=d.sz) (hs0:0<d.sz) (hb0:0<bytes)
 (v:Value) (xs:List α) (p:α) (cs:List Value) (hs:a.eval s=v) (hx:a.eval x = .slice (some ⟨W.heap.size,0,none⟩) 1 1) (hp:d.M W base (fun _=>False) p cs)
 (HO:d.R e W base (fun _=>True) v xs) (HB:Below base w0 W) (hbase:base≤W.heap.size) (hl:(xs.length+1)*bytes≤140737488355328)
 (h:∀ v1 w1,d.R e w1 base (fun _=>True) v1 (xs++[p])→Below base w0 w1→W.drew.grownBy w1 v.ownBlock→Kc (a.put o.dst v1) w1) :
 if Region.wanted o (yielded ops a.tmps)=true then Oper.wp P o a ((W.alloc (.cells cs.toArray e)).drew) Kc Q else Kc (a.put o.dst undef) ((W.alloc (.cells cs.toArray e)).drew):=
 Kd.o7 (w0:=w0) (W:=W.drew) d base (by simp [Region.wanted,hg]) s x t e z bytes ho ht hinfo hz hs0 hb0 v xs p cs (fun _=>True) (fun _=>False) hs hx (d.M_move (w:=W) (w1:=W.drew) (fun _ _=>rfl) hp) (fun _ h=>h.elim) (fun _ _=>trivial) (Kd.jH HO) (af HB) hbase hl (fun v1 w1 r b g _=>h v1 w1 r b g)
end
def hoP (i:S45) (a x:Int):Bool:=(dF.f 10 i.f0 i.f1 i.f2 i.f3 a x).getD false
def z16:bg:=⟨0,0,List.replicate 16 0⟩
def Rg (v:Int):Prop:=0≤v∧v<4294967296
structure MB (M:bg):Prop where
 a:Rg M.a
 x:Rg M.x
 m:∀ j,Rg (M.m.getD j 0)
 len:M.m.length=16
theorem Rg.z:Rg 0:=⟨Int.le_refl 0,by decide⟩
theorem j5 (n:Int):Rg (IntKind.u32.wrap n):=by rw [IntKind.wrap_u32];unfold Rg;omega
theorem nJ (op:BinOp) (x y:Int):Rg (bits op .u32 x y):=j5 _
theorem rV {v:Int} (h:Rg v):IntKind.u32.wrap v=v:=by rw [IntKind.wrap_u32];unfold Rg at h;omega
theorem get_rg (p:List Int) (a s:Int):∀ (k:Nat) (x i:Int) (r:Int × Bool),Rg x→bu.l0 k p a s x i=some r→Rg r.1:=by
 intro k
 induction k with
 | zero=>intro x i r _ h;simp [bu.l0] at h
 | succ k ih=>
  intro x i r hx h
  unfold bu.l0 at h
  split at h
  · split at h
    · split at h
      · exact ih _ _ r (nJ _ _ _) h
      cases h
    cases h
  obtain rfl:=Option.some.inj h;exact hx
theorem getf_rg (p:List Int) (a s:Int) (r:Int × Bool) (h:bu.f 10 p a s=some r):Rg r.1:=by
 have hj:∀ b r,bu.j0 (9+1) p a s b=some r→Rg r.1:=by
  intro b r h
  simp only [bu.j0] at h
  split at h
  · obtain rfl:=Option.some.inj h;exact Rg.z
  exact get_rg p a s 9 0 0 r Rg.z h
 have hb:∀ (q:Option Bool) r,(q.bind fun t=>bu.j0 10 p a s (!t))=some r→Rg r.1:=by
  intro q r h
  obtain ⟨t,_,h⟩:=Option.bind_eq_some_iff.1 h
  exact hj _ _ h
 unfold bu.f at h
 split at h
 · exact hb _ _ h
 split at h
 · exact hb _ _ h
 split at h
 · exact hb _ _ h
 exact hj _ _ h
theorem zS (p:List Int) (a s:Int):Rg (rdP p a s).1:=by
 unfold rdP
 cases h:gU.f 10 p a s with
 | none=>exact Rg.z
 | some r=>
  unfold gU.f at h
  split at h
  · obtain rfl:=Option.some.inj h;exact Rg.z
  obtain ⟨t,ht,h⟩:=Option.bind_eq_some_iff.1 h
  split at h
  · obtain rfl:=Option.some.inj h;exact getf_rg _ _ _ _ ht
  obtain rfl:=Option.some.inj h;exact Rg.z
theorem Ar (a b:Int) (l:Bool) (r:Int) (ha:Rg a) (h:bP.f a b l=some r):Rg r:=by
 unfold bP.f at h
 split at h
 · obtain rfl:=Option.some.inj h;exact Rg.z
 split at h
 · split at h
   · obtain rfl:=Option.some.inj h;exact j5 _
   cases h
 split at h
 · obtain rfl:=Option.some.inj h
   have h2:(0:Int)<2 ^ min b.toNat (IntKind.u32.bits):=Int.pow_pos (by decide)
   refine ⟨Int.ediv_nonneg ha.1 (by omega),?_⟩
   show a / _<_
   have:a / 2 ^ min b.toNat (IntKind.u32.bits)≤a:=Int.ediv_le_self _ ha.1
   have:=ha.2
   omega
 cases h
theorem qO (n:Int):Rg (n % 4294967296):=by unfold Rg;omega
theorem zF (c a b:Int) (ha:Rg a) (hb:Rg b):Rg (opP c a b).1:=by
 unfold opP
 cases h:eH.f c a b with
 | none=>exact Rg.z
 | some r=>
  show Rg r.1
  unfold eH.f at h
  have one:∀ x:Int × Int,some x=some r→Rg x.1→Rg r.1:=fun x e hx=>by rw [←Option.some.inj e];exact hx
  have sh:∀ l,(bP.f a b l).bind (fun t=>some (t,(0:Int)))=some r→Rg r.1:=by
   intro l h
   obtain ⟨t,ht,h⟩:=Option.bind_eq_some_iff.1 h
   exact one _ h (Ar a b l t ha ht)
  split at h
  · exact one _ h (qO _)
  split at h
  · exact one _ h (qO _)
  split at h
  · exact one _ h (qO _)
  split at h
  · exact one _ h (show Rg (bits .or .u32 a b) from nJ .or a b)
  split at h
  · exact one _ h (show Rg (bits .and .u32 a b) from nJ .and a b)
  split at h
  · exact one _ h (show Rg (bits .xor .u32 a b) from nJ .xor a b)
  split at h
  · exact sh _ h
  split at h
  · exact sh _ h
  split at h
  · exact one _ h Rg.z
  split at h
  · exact one _ h (qO _)
  refine one _ h ⟨Int.tmod_nonneg _ ha.1,?_⟩
  have h1:=ha.1
  have h2:=ha.2
  show Int.tmod a b<_
  rw [Int.tmod_eq_emod_of_nonneg h1]
  rcases Int.lt_or_eq_of_le hb.1 with hp | hp
  · have:=Int.emod_lt_of_pos a hp
    have:=hb.2
    omega
  rw [←hp,Int.emod_zero];exact h2
theorem Am (l:List Int) (h:∀ j,Rg (l.getD j 0)) (n:Nat) (v:Int) (hv:Rg v):∀ j,Rg ((l.set n v).getD j 0):=by
 intro j
 have:=h j
 rw [List.getD_eq_getElem?_getD] at this ⊢
 rw [List.getElem?_set]
 split
 · split
   · exact hv
   exact Rg.z
 exact this
theorem jS (i:S45) (pk:List Int) (M:bg) (h:MB M) (hk:Rg i.f3):MB (bH i pk M).1:=by
 have hl:=wB i pk M
 have H:(fun s:bg × Int=>Rg s.1.a∧Rg s.1.x∧∀ j,Rg (s.1.m.getD j 0)) (bH i pk M):=by
  obtain ⟨ha,hx,hm,_⟩:=h
  unfold bH
  dsimp only
  refine gB (P:=fun s:bg × Int=>Rg s.1.a∧Rg s.1.x∧∀ j,Rg (s.1.m.getD j 0)) (fun _=>⟨hk,hx,hm⟩) (fun _=>?_)
  refine gB (P:=fun s:bg × Int=>Rg s.1.a∧Rg s.1.x∧∀ j,Rg (s.1.m.getD j 0)) (fun _=>⟨zS _ _ _,hx,hm⟩) (fun _=>?_)
  refine gB (P:=fun s:bg × Int=>Rg s.1.a∧Rg s.1.x∧∀ j,Rg (s.1.m.getD j 0)) (fun _=>⟨zS _ _ _,hx,hm⟩) (fun _=>?_)
  refine gB (P:=fun s:bg × Int=>Rg s.1.a∧Rg s.1.x∧∀ j,Rg (s.1.m.getD j 0)) (fun _=>⟨hm _,hx,hm⟩) (fun _=>?_)
  refine gB (P:=fun s:bg × Int=>Rg s.1.a∧Rg s.1.x∧∀ j,Rg (s.1.m.getD j 0)) (fun _=>⟨j5 _,hx,hm⟩) (fun _=>?_)
  refine gB (P:=fun s:bg × Int=>Rg s.1.a∧Rg s.1.x∧∀ j,Rg (s.1.m.getD j 0)) (fun _=>⟨ha,hk,hm⟩) (fun _=>?_)
  refine gB (P:=fun s:bg × Int=>Rg s.1.a∧Rg s.1.x∧∀ j,Rg (s.1.m.getD j 0)) (fun _=>⟨ha,hm _,hm⟩) (fun _=>?_)
  refine gB (P:=fun s:bg × Int=>Rg s.1.a∧Rg s.1.x∧∀ j,Rg (s.1.m.getD j 0)) (fun _=>⟨ha,j5 _,hm⟩) (fun _=>?_)
  refine gB (P:=fun s:bg × Int=>Rg s.1.a∧Rg s.1.x∧∀ j,Rg (s.1.m.getD j 0)) (fun _=>⟨ha,j5 _,hm⟩) (fun _=>?_)
  refine gB (P:=fun s:bg × Int=>Rg s.1.a∧Rg s.1.x∧∀ j,Rg (s.1.m.getD j 0)) (fun _=>⟨ha,hx,Am _ hm _ _ ha⟩) (fun _=>?_)
  refine gB (P:=fun s:bg × Int=>Rg s.1.a∧Rg s.1.x∧∀ j,Rg (s.1.m.getD j 0)) (fun _=>⟨ha,hx,Am _ hm _ _ hx⟩) (fun _=>?_)
  refine gB (P:=fun s:bg × Int=>Rg s.1.a∧Rg s.1.x∧∀ j,Rg (s.1.m.getD j 0)) (fun _=>⟨j5 _,hx,hm⟩) (fun _=>?_)
  refine gB (P:=fun s:bg × Int=>Rg s.1.a∧Rg s.1.x∧∀ j,Rg (s.1.m.getD j 0)) (fun _=>⟨ha,ha,hm⟩) (fun _=>?_)
  refine gB (P:=fun s:bg × Int=>Rg s.1.a∧Rg s.1.x∧∀ j,Rg (s.1.m.getD j 0)) (fun _=>⟨hx,hx,hm⟩) (fun _=>?_)
  exact ⟨zF _ _ _ ha (by split<;>assumption),hx,hm⟩
 exact ⟨H.1,H.2.1,H.2.2,hl.trans h.len⟩
theorem MB_z:MB z16:=⟨Rg.z,Rg.z,fun j=>by
 have:∀ n:Nat,(List.replicate n (0:Int)).getD j 0=0:=fun n=>by
  rw [List.getD_eq_getElem?_getD,List.getElem?_replicate];split<;>rfl
 show Rg ((List.replicate 16 (0:Int)).getD j 0)
 rw [this];exact Rg.z,rfl⟩
def knL:List Int:=[0,32,40,48,64,72,80,96,128,1,97,129,177,2,3,132,6,22,7,135,5,21,29,37,45,53,61,69,77,4,12,20,28,36,44,52,60,68,76,84,92,100,108,116,124,148,156,164,172]
def kn (c:Int):Bool:=decide (c∈knL)
def jmB (c:Int):Bool:=decide (c∈([21,29,37,45,53,61,69,77]:List Int))
def reB (c:Int):Bool:=decide (c=6∨c=22)
def usK (c:Int):Bool:=kn c&&!decide (c∈([128,129,132,22,7,135,12,28,44,60,76,92,108,124,156,172,29,45,61,77]:List Int))
def aJ (c:Int):Int:=if kn c then wrap64 (Go.bits .and .u16 c 7) else -1
def stB (c K:Int):Bool:=kn c&&!jmB c&&!reB c&&!decide (c=5)&&(!decide (c=2∨c=3∨c=96∨c=97)||decide (K<16))&&(!decide (c=52∨c=148)||decide (K≠0))&&(!decide (c=100∨c=116)||decide (K≤31))
theorem zb {c:Int} {P:Int→Prop} (h:kn c=true) (H:∀ x∈knL,P x):P c:=H c (of_decide_eq_true h)
theorem kn_no {c:Int} (h:kn c=false):∀ x∈knL,c≠x:=fun x hx e=>by
 have:=of_decide_eq_false h
 exact this (e ▸ hx)
theorem rD {c:Int} (h:kn c=false) (k:Nat):aD.f (k+8) c=some false∧aK.f (k+8) c=some false∧bK.f (k+8) c=some false∧aT.f (k+8) c=some false∧dE.f c=some false∧aW.f (k+8) c=some false∧ig.f c=some false:=by
 have H:=kn_no h
 simp only [knL,List.forall_mem_cons] at H
 obtain ⟨h0,h1,h2,h3,h4,h5,h6,h7,h8,h9,h10,h11,h12,h13,h14,h15,h16,h17,h18,h19,h20,h21,h22,h23,h24,h25,h26,h27,h28,h29,h30,h31,h32,h33,h34,h35,h36,h37,h38,h39,h40,h41,h42,h43,h44,h45,h46,h47,h48,-⟩:=H
 refine ⟨?_,?_,?_,?_,?_,?_,?_⟩
 · simp [aD.f,aD.j0,aD.j1,aD.j2,aT.f,aT.j0,aT.j1,bK.f,bK.j0, *]
 · simp [aK.f,aK.j0,aK.j1,dE.f,aW.f,aW.j0, *]
 · simp [bK.f,bK.j0, *]
 · simp [aT.f,aT.j0,aT.j1, *]
 · simp [dE.f, *]
 · simp [aW.f,aW.j0, *]
 simp [ig.f, *]
theorem pM (k:Nat):∀ c∈knL,aD.f (k+8) c=some true∧aK.f (k+8) c=some true∧bK.f (k+8) c=some (jmB c)∧dE.f c=some (jmB c)∧ig.f c=some (reB c)∧(∃ u2 u3,dM.f (k+8) c=some (usK c,u2,u3))∧(∃ u2 u3,cO.f (k+8) c=some (usK c,u2,u3)):=by
 simp only [knL,List.forall_mem_cons]
 refine ⟨?_,?_,?_,?_,?_,?_,?_,?_,?_,?_,?_,?_,?_,?_,?_,?_,?_,?_,?_,?_,?_,?_,?_,?_,?_,?_,?_,?_,?_,?_,?_,?_,?_,?_,?_,?_,?_,?_,?_,?_,?_,?_,?_,?_,?_,?_,?_,?_,?_,by simp⟩
 all_goals exact ⟨rfl,rfl,rfl,rfl,rfl,⟨_,_,rfl⟩,⟨_,_,rfl⟩⟩
theorem lN (c:Int) (k:Nat):aD.f (k+8) c=some (kn c)∧aK.f (k+8) c=some (kn c):=by
 cases h:kn c
 · exact ⟨(rD h k).1,(rD h k).2.1⟩
 have:=pM k c (of_decide_eq_true h)
 exact ⟨this.1,this.2.1⟩
theorem yY {c:Int} (h:kn c=false):jmB c=false∧reB c=false∧usK c=false:=by
 refine ⟨?_,?_,by unfold usK;rw [h];rfl⟩
 · unfold jmB
   refine decide_eq_false fun hc=>?_
   simp only [List.mem_cons,List.not_mem_nil,or_false] at hc
   rcases hc with rfl | rfl | rfl | rfl | rfl | rfl | rfl | rfl<;>exact absurd h (by decide)
 unfold reB
 refine decide_eq_false fun hc=>?_
 rcases hc with rfl | rfl<;>exact absurd h (by decide)
theorem fU (c:Int) (k:Nat):aC.f (k+8) c=some (aJ c)∧jR.f (k+8) c=some (aJ c):=by
 unfold aC.f jR.f
 rw [(lN c k).1,(lN c k).2]
 unfold aJ
 rw [Option.bind_some]
 constructor<;>split<;>rfl
theorem AL (c:Int) (k:Nat):(∃ u2 u3,dM.f (k+8) c=some (usK c,u2,u3))∧(∃ u2 u3,cO.f (k+8) c=some (usK c,u2,u3)):=by
 cases h:kn c
 · rw [(yY h).2.2]
   unfold dM.f cO.f
   rw [(lN c k).1,(lN c k).2,h]
   exact ⟨⟨_,_,rfl⟩,⟨_,_,rfl⟩⟩
 exact (pM k c (of_decide_eq_true h)).2.2.2.2.2
theorem lH:∀ c∈knL,aJ c ≠ -1∧¬aJ c<0∧(aJ c=5↔c=5∨jmB c=true)∧(aJ c=6↔reB c=true):=by
 decide +kernel
theorem ql {c:Int} (h:kn c=false):aJ c = -1:=by unfold aJ;rw [h];rfl
theorem nu (c:Int):aJ c=6↔reB c=true:=by
 cases h:kn c
 · rw [ql h,(yY h).2.1];decide
 exact (lH c (of_decide_eq_true h)).2.2.2
theorem lG (c:Int):aJ c=5↔c=5∨jmB c=true:=by
 cases h:kn c
 · rw [ql h,(yY h).1]
   have:=kn_no h 5 (by decide)
   constructor
   · intro h;exact absurd h (by decide)
   rintro (h | h)
   · exact absurd h this
   exact absurd h (by decide)
 exact (lH c (of_decide_eq_true h)).2.2.1
def flF (c K:Int):Int:=if kn c then (if (c=2∨c=3∨c=96∨c=97)∧K≥16 then 43 else if (c=52∨c=148)∧K=0 then 44 else if (c=100∨c=116)∧K>31 then 45 else 0) else 42
theorem nL (c K:Int):stB c K=(!decide (aJ c<0)&&!decide (aJ c=5)&&!decide (aJ c=6)&&decide (flF c K=0)):=by
 cases h:kn c
 · rw [ql h];unfold stB;rw [h];rfl
 have h1:=(lH c (of_decide_eq_true h)).2.1
 have e5:decide (aJ c=5)=(decide (c=5)||jmB c):=by
  rw [Bool.eq_iff_iff];simp only [decide_eq_true_eq,Bool.or_eq_true];exact lG c
 have e6:decide (aJ c=6)=reB c:=by
  rw [Bool.eq_iff_iff];simp only [decide_eq_true_eq];exact nu c
 rw [e5,e6,decide_eq_false h1]
 unfold stB flF
 rw [h]
 by_cases a:c=2∨c=3∨c=96∨c=97<;>by_cases a1:c=52∨c=148<;>by_cases a2:c=100∨c=116<;>by_cases b1:K≥16<;>by_cases b2:K=0<;>by_cases b3:K>31<;>simp [a,a1,a2,b1,b2,b3]<;>first | omega | (cases jmB c<;>cases reB c<;>cases decide (c=5)<;>simp<;>omega)
theorem uj (c jt jf K:Int) (k:Nat):aM.f (k+8) c jt jf K=some (stB c K):=by
 unfold aM.f
 rw [(fU c k).1]
 simp only [Option.bind_some]
 cases h:kn c
 · rw [ql h,if_pos rfl];unfold stB;rw [h];rfl
 have h1:=(lH c (of_decide_eq_true h)).1
 rw [if_neg h1]
 by_cases h5:aJ c=5
 · rw [if_pos h5,nL,h5];simp
 rw [if_neg h5]
 by_cases h6:aJ c=6
 · rw [if_pos h6,nL,h6];simp
 rw [if_neg h6]
 have h0:=(lH c (of_decide_eq_true h)).2.1
 have es:stB c K=decide (flF c K=0):=by rw [nL];simp [h0,h5,h6]
 rw [es]
 unfold flF
 rw [h]
 by_cases a:c=2∨c=3∨c=96∨c=97
 · rcases a with rfl | rfl | rfl | rfl<;>by_cases b:K≥16<;>simp [aM.j0,aM.j1,b]<;>omega
 have a1:c≠2:=fun e=>a (.inl e)
 have a2:c≠3:=fun e=>a (.inr (.inl e))
 have a3:c≠96:=fun e=>a (.inr (.inr (.inl e)))
 have a4:c≠97:=fun e=>a (.inr (.inr (.inr e)))
 by_cases b:c=52∨c=148
 · rcases b with rfl | rfl<;>by_cases d:K=0<;>simp [aM.j0,aM.j1,d]
 have b1:c≠52:=fun e=>b (.inl e)
 have b2:c≠148:=fun e=>b (.inr e)
 by_cases d:c=100∨c=116
 · rcases d with rfl | rfl<;>by_cases e:K>31<;>simp [aM.j0,aM.j1,e]<;>omega
 have d1:c≠100:=fun e=>d (.inl e)
 have d2:c≠116:=fun e=>d (.inr e)
 simp [aM.j0,aM.j1,a1,a2,a3,a4,b1,b2,d1,d2]
theorem stB_not {c K:Int} (h:stB c K=true):c≠6∧c≠22∧c≠5∧jmB c=false∧flF c K=0:=by
 have h2:=h
 rw [nL] at h2
 simp only [Bool.and_eq_true,Bool.not_eq_true',decide_eq_false_iff_not,decide_eq_true_eq] at h2
 have e6:=mt (nu c).2 h2.1.2
 have e5:=mt (lG c).2 h2.1.1.2
 unfold reB at e6
 simp only [decide_eq_true_eq,not_or] at e6 e5
 refine ⟨e6.1,e6.2,e5.1,by simpa using e5.2,h2.2⟩
theorem w64 {n:Int} (h0 : -9223372036854775808≤n) (h1:n<9223372036854775808):wrap64 n=n:=by
 unfold wrap64;omega
def fB (c:List S45):Bool:=c.all (fun i=>stB i.f0 i.f3)
def lu (i:S45):Bool:=decide (i.f1=0)&&decide (i.f2=0)&&(usK i.f0||decide (i.f3=0))
def iH (b:S47):Bool:=
 if b.f1=1 then reB b.f2.f0&&lu b.f2&&decide (b.f3=0)&&decide (b.f4=0)
 else if b.f1=2 then decide (b.f2.f0=0∧b.f2.f1=0∧b.f2.f2=0∧b.f2.f3=0)&&decide (b.f4=0)
 else if b.f1=3 then jmB b.f2.f0&&lu b.f2 else false
def gI (b:S47) (at_ n:Int):Bool:=(decide (b.f1=1)||decide (at_<b.f3∧b.f3<n))&&(!decide (b.f1=3)||decide (at_<b.f4∧b.f4<n))
def tkL (n:Int):List S47→Int→Int→Bool
 | [],_,_=>true
 | b :: r,i,left=>decide ((b.f0.length:Int)≤left)&&fB b.f0&&iH b&&gI b i n&&tkL n r (i+1) (left - b.f0.length)
def TkB (g:List S47):Bool:=decide (0<g.length)&&decide (g.length≤4096)&&tkL g.length g 0 4096
def msL:List S47→Int
 | []=>0
 | b :: r=>(b.f0.length:Int)+1+(if b.f1=3 then 2 else 0)+msL r
def Fit (g:List S47):Prop:=∀ b∈g,(b.f0.length:Int)≤140737488351232
theorem zR {c:List S45} {j:Nat} (h:j<c.length):bX c (j:Int)=c[j]:=by
 unfold bX
 rw [Int.toNat_natCast,List.getD_eq_getElem?_getD,List.getElem?_eq_getElem h]
 rfl
theorem j4 {g:List S47} {j:Nat} (h:j<g.length):av g (j:Int)=g[j]:=by
 unfold av
 rw [Int.toNat_natCast,List.getD_eq_getElem?_getD,List.getElem?_eq_getElem h]
 rfl
theorem bare_f (i:S45) (k:Nat):dP.f (k+8) i.f0 i.f1 i.f2 i.f3=some (lu i):=by
 obtain ⟨u2,u3,e⟩:=(AL i.f0 k).1
 unfold dP.f lu
 rw [e,Option.bind_some]
 by_cases q1:i.f1=0<;>by_cases q2:i.f2=0<;>cases u:usK i.f0<;>by_cases q3:i.f3=0<;>simp [q1,q2,q3]
theorem ended_f (b:S47) (k:Nat):gq.f (k+8) b.f0 b.f1 b.f2.f0 b.f2.f1 b.f2.f2 b.f2.f3 b.f3 b.f4=some (iH b):=by
 unfold gq.f iH
 rw [(fU _ k).1,bare_f]
 simp only [Option.bind_some]
 by_cases e1:b.f1=1
 · rw [if_pos e1,if_pos e1]
   cases r:reB b.f2.f0
   · rw [if_neg (fun h=>by have:=(nu _).1 h;rw [r] at this;cases this)];rfl
   rw [if_pos ((nu _).2 r)]
   cases lu b.f2
   · rfl
   rw [if_pos rfl]
   by_cases e3:b.f3=0
   · rw [if_pos e3];simp [e3];exact rfl
   rw [if_neg e3];simp [e3]
 rw [if_neg e1,if_neg e1]
 by_cases e2:b.f1=2
 · rw [if_pos e2,if_pos e2]
   by_cases q:b.f2.f0=0∧b.f2.f1=0∧b.f2.f2=0∧b.f2.f3=0
   · rw [if_pos (by simp [q]),decide_eq_true q];simp;exact rfl
   rw [if_neg (by simpa using q),decide_eq_false q];rfl
 rw [if_neg e2,if_neg e2]
 by_cases e3:b.f1=3
 · rw [if_pos e3,if_pos e3]
   by_cases c5:b.f2.f0=5
   · rw [if_pos ((lG _).2 (.inl c5)),if_pos c5,c5];rfl
   cases j:jmB b.f2.f0
   · rw [if_neg (fun h=>by rcases (lG _).1 h with h | h;exact c5 h;rw [j] at h;cases h)];rfl
   rw [if_pos ((lG _).2 (.inr j)),if_neg c5];rfl
 rw [if_neg e3,if_neg e3]
theorem yB (i n:Int) (gs:List Int) (hl:gs.length≤4):∀ (d j:Nat),gs.length - j=d→j≤gs.length→∀ k,d+1≤k→bS.l1 k i n gs (gs.length:Int) (j:Int)=some (if (gs.drop j).all (fun x=>decide (i<x∧x<n)) then 0 else 154):=by
 intro d
 induction d with
 | zero=>
  intro j hd hj k hk
  obtain ⟨k,rfl⟩:∃ m,k=m+1:=⟨k - 1,by omega⟩
  rw [bS.l1,if_neg (by omega),List.drop_of_length_le (by omega)]
  rfl
 | succ d ih=>
  intro j hd hj k hk
  obtain ⟨k,rfl⟩:∃ m,k=m+1:=⟨k - 1,by omega⟩
  have hlt:j<gs.length:=by omega
  have hrd:rd gs (j:Int)=gs[j]:=by
   unfold rd
   rw [Int.toNat_natCast,List.getD_eq_getElem?_getD,List.getElem?_eq_getElem hlt]
   rfl
  rw [bS.l1,if_pos (by omega),if_pos (by omega),if_pos (by omega),hrd,w64 (n:=(j:Int)+1) (by omega) (by omega),List.drop_eq_getElem_cons hlt,List.all_cons]
  by_cases a:gs[j]≤i
  · rw [if_pos a,decide_eq_false (by omega:¬(i<gs[j]∧gs[j]<n))];rfl
  rw [if_neg a]
  by_cases c:gs[j]≥n
  · rw [if_pos c,decide_eq_false (by omega:¬(i<gs[j]∧gs[j]<n))];rfl
  rw [if_neg c,decide_eq_true (by omega:i<gs[j]∧gs[j]<n),Bool.true_and]
  have:=ih (j+1) (by omega) (by omega) k (by omega)
  rw [show ((j+1:Nat):Int)=(j:Int)+1 by omega] at this
  exact this
theorem gone_l1 (b:S47) (i n:Int) (h:iH b=true) (k:Nat) (gs:List Int) (hgs:fH.f b.f0 b.f1 b.f2.f0 b.f2.f1 b.f2.f2 b.f2.f3 b.f3 b.f4=some gs):bS.l1 (k+4) i n gs (gs.length:Int) 0=some (if gI b i n then 0 else 154):=by
 have H:gs.length≤2∧(gs.all (fun x=>decide (i<x∧x<n)))=gI b i n:=by
  unfold fH.f at hgs
  unfold gI
  by_cases e1:b.f1=1
  · rw [if_neg (by omega),if_neg (by omega)] at hgs
    obtain rfl:[]=gs:=by simpa using hgs
    simp [e1]
  by_cases e2:b.f1=2
  · rw [if_pos e2] at hgs
    obtain rfl:[b.f3]=gs:=by simpa using hgs
    simp [e1,e2]
  by_cases e3:b.f1=3
  · rw [if_neg e2,if_pos e3] at hgs
    obtain rfl:[b.f3,b.f4]=gs:=by simpa using hgs
    simp [e1,e3]
  unfold iH at h
  rw [if_neg e1,if_neg e2,if_neg e3] at h
  cases h
 have:=yB i n gs (by omega) gs.length 0 rfl (by omega) (k+4) (by omega)
 rw [List.drop_zero,H.2] at this
 exact this
theorem gone_l (b:S47) (hl:(b.f0.length:Int)≤140737488351232) (i n:Int):∀ (d j:Nat),b.f0.length - j=d→j≤b.f0.length→∀ k,d+9≤k →
 ∃ e:Int,bS.l0 k i n b.f0 (b.f0.length:Int) (j:Int) b.f0 b.f1 b.f2.f0 b.f2.f1 b.f2.f2 b.f2.f3 b.f3 b.f4=some e∧(e=0↔((b.f0.drop j).all (fun i=>stB i.f0 i.f3)&&iH b&&gI b i n)=true):=by
 intro d
 induction d with
 | zero=>
  intro j hd hj k hk
  obtain ⟨k,rfl⟩:∃ m,k=m+9:=⟨k - 9,by omega⟩
  rw [bS.l0,if_neg (by omega),ended_f,Option.bind_some,List.drop_of_length_le (by omega)]
  cases he:iH b
  · rw [if_neg (by decide)];exact ⟨_,rfl,by simp⟩
  rw [if_pos rfl]
  obtain ⟨gs,hgs⟩:∃ gs,fH.f b.f0 b.f1 b.f2.f0 b.f2.f1 b.f2.f2 b.f2.f3 b.f3 b.f4=some gs:=by
   unfold fH.f
   split
   · exact ⟨_,rfl⟩
   split<;>exact ⟨_,rfl⟩
  rw [hgs,Option.bind_some,gone_l1 b i n he (k+4) gs hgs]
  refine ⟨_,rfl,?_⟩
  cases gI b i n<;>simp
 | succ d ih=>
  intro j hd hj k hk
  obtain ⟨k,rfl⟩:∃ m,k=m+9:=⟨k - 9,by omega⟩
  have hlt:j<b.f0.length:=by omega
  rw [bS.l0,if_pos (by omega),if_pos (by omega),if_pos (by omega),zR hlt,uj,Option.bind_some,List.drop_eq_getElem_cons hlt,List.all_cons]
  cases hs:stB (b.f0[j]).f0 (b.f0[j]).f3
  · rw [if_neg (by decide)];exact ⟨_,rfl,by simp⟩
  rw [if_pos rfl,w64 (n:=(j:Int)+1) (by omega) (by omega)]
  obtain ⟨e,h1,h2⟩:=ih (j+1) (by omega) (by omega) (k+8) (by omega)
  rw [show ((j+1:Nat):Int)=(j:Int)+1 by omega] at h1
  exact ⟨e,h1,by simpa using h2⟩
theorem gck_l (g:List S47) (hg:g.length≤4096) (hF:Fit g):∀ (d j:Nat),g.length - j=d→j≤g.length→∀ left:Int,0≤left→left≤4096→∀ k,d+5000≤k →
 ∃ r:Int × Int,bJ.l0 k g (4096 - left) g (g.length:Int) (j:Int)=some r∧(r.2=0↔tkL g.length (g.drop j) (j:Int) left=true):=by
 intro d
 induction d with
 | zero=>
  intro j hd hj left h0 h1 k hk
  obtain ⟨k,rfl⟩:∃ m,k=m+1:=⟨k - 1,by omega⟩
  rw [bJ.l0,if_neg (by omega),List.drop_of_length_le (by omega)]
  exact ⟨_,rfl,by simp [tkL]⟩
 | succ d ih=>
  intro j hd hj left h0 h1 k hk
  obtain ⟨k,rfl⟩:∃ m,k=m+9:=⟨k - 9,by omega⟩
  have hlt:j<g.length:=by omega
  have hf:=hF (g[j]) (List.getElem_mem hlt)
  rw [bJ.l0,if_pos (by omega),if_pos (by omega),if_pos (by omega),j4 hlt,List.drop_eq_getElem_cons hlt,tkL,w64 (n:=4096 - left+((g[j]).f0.length:Int)) (by omega) (by omega)]
  unfold bS.f
  by_cases a:((g[j]).f0.length:Int)>left
  · rw [if_pos (by omega),decide_eq_false (by omega:¬((g[j]).f0.length:Int)≤left),Option.bind_some,if_neg (by decide)]
    exact ⟨_,rfl,by simp⟩
  obtain ⟨e,h2,h3⟩:=gone_l (g[j]) hf (j:Int) (g.length:Int) _ 0 rfl (by omega) (k+8) (by omega)
  rw [show ((0:Nat):Int)=0 from rfl] at h2
  rw [if_neg (by omega),decide_eq_true (by omega:((g[j]).f0.length:Int)≤left),h2,Option.bind_some]
  rw [List.drop_zero] at h3
  by_cases e0:e=0
  · rw [if_pos e0]
    have h4:=h3.1 e0
    simp only [Bool.and_eq_true] at h4
    obtain ⟨r,e1,h5⟩:=ih (j+1) (by omega) (by omega) (left - ((g[j]).f0.length:Int)) (by omega) (by omega) (k+8) (by omega)
    rw [show ((j+1:Nat):Int)=(j:Int)+1 by omega] at e1 h5
    rw [w64 (n:=(j:Int)+1) (by omega) (by omega),show 4096 - left+((g[j]).f0.length:Int)=4096 - (left - ((g[j]).f0.length:Int)) by omega]
    refine ⟨r,e1,h5.trans ?_⟩
    rw [show fB (g[j]).f0=true from h4.1.1,h4.1.2,h4.2]
    simp
  rw [if_neg e0]
  refine ⟨_,rfl,?_⟩
  constructor
  · intro h;exact absurd h e0
  intro h
  simp only [Bool.and_eq_true] at h
  exact absurd (h3.2 (by rw [show (g[j]).f0.all (fun i=>stB i.f0 i.f3)=true from h.1.1.1.2,h.1.1.2,h.1.2];rfl)) e0
theorem gtaken (g:List S47) (hF:Fit g) (k:Nat) (hk:10000≤k):dI.f k g=some (if TkB g then 0 else 155):=by
 unfold dI.f bJ.f TkB
 by_cases a:(g.length:Int)=0
 · rw [if_pos a,decide_eq_false (by omega:¬0<g.length)];rfl
 rw [if_neg a,decide_eq_true (by omega:0<g.length)]
 by_cases b:(g.length:Int)>4096
 · rw [if_pos b,decide_eq_false (by omega:¬g.length≤4096)];rfl
 rw [if_neg b,decide_eq_true (by omega:g.length≤4096)]
 obtain ⟨r,e,h⟩:=gck_l g (by omega) hF g.length 0 rfl (by omega) 4096 (by omega) (by omega) k (by omega)
 rw [show ((0:Nat):Int)=0 from rfl] at e h
 rw [show (4096:Int) - 4096=0 from rfl] at e
 rw [e,Option.bind_some]
 rw [List.drop_zero] at h
 simp only [Bool.true_and]
 by_cases e0:r.2=0
 · rw [if_pos e0,if_pos (h.1 e0)]
 rw [if_neg e0,if_neg (fun x=>e0 (h.2 x))]
theorem AJ (n:Int):∀ (g:List S47) (i left:Int),tkL n g i left=true→0≤left→∀ (j:Nat) (h:j<g.length),(g[j].f0.length:Int)≤left∧fB g[j].f0=true∧iH g[j]=true∧gI g[j] (i+j) n=true
 | [],i,left,h,hl,j,hj=>absurd hj (Nat.not_lt_zero _)
 | b :: r,i,left,h,hl,0,hj=>by
  simp only [tkL,Bool.and_eq_true,decide_eq_true_eq] at h
  refine ⟨h.1.1.1.1,h.1.1.1.2,h.1.1.2,?_⟩
  rw [show i+((0:Nat):Int)=i by omega]
  exact h.1.2
 | b :: r,i,left,h,hl,j+1,hj=>by
  simp only [tkL,Bool.and_eq_true,decide_eq_true_eq] at h
  have:=AJ n r (i+1) _ h.2 (by omega) j (by simpa using hj)
  rw [show i+1+(j:Int)=i+((j+1:Nat):Int) by omega] at this
  exact ⟨by have:=this.1;rw [List.getElem_cons_succ];omega,this.2⟩
theorem xP {b:S47} (h:iH b=true):b.f1=1∨b.f1=2∨b.f1=3:=by
 unfold iH at h
 by_cases e1:b.f1=1
 · exact .inl e1
 by_cases e2:b.f1=2
 · exact .inr (.inl e2)
 by_cases e3:b.f1=3
 · exact .inr (.inr e3)
 rw [if_neg e1,if_neg e2,if_neg e3] at h
 cases h
theorem zA (n:Int):∀ (g:List S47) (i left:Int),tkL n g i left=true→0≤left→0≤msL g∧msL g≤left+3*g.length
 | [],i,left,h,hl=>by simp [msL];omega
 | b :: r,i,left,h,hl=>by
  simp only [tkL,Bool.and_eq_true,decide_eq_true_eq] at h
  have:=zA n r (i+1) _ h.2 (by omega)
  unfold msL
  rw [List.length_cons]
  split<;>omega
theorem gms_l (g:List S47) (hn:g.length≤4096) (hk3:∀ b∈g,b.f1=1∨b.f1=2∨b.f1=3) (hm:0≤msL g) (hM:msL g≤100000):∀ (d j:Nat),g.length - j=d→j≤g.length→∀ acc:Int,acc+msL (g.drop j)=msL g→0≤acc→∀ k,d+2≤k→bB.l0 k 1 1 3 acc g (g.length:Int) (j:Int)=some (msL g,0):=by
 have hnn:∀ l:List S47,0≤msL l:=by
  intro l
  induction l with
  | nil=>exact Int.le_refl _
  | cons b r ih=>unfold msL;split<;>omega
 intro d
 induction d with
 | zero=>
  intro j hd hj acc ha h0 k hk
  obtain ⟨k,rfl⟩:∃ m,k=m+1:=⟨k - 1,by omega⟩
  rw [bB.l0,if_neg (by omega)]
  rw [List.drop_of_length_le (by omega)] at ha
  simp only [msL] at ha
  rw [show acc=msL g by omega]
 | succ d ih=>
  intro j hd hj acc ha h0 k hk
  obtain ⟨k,rfl⟩:∃ m,k=m+1:=⟨k - 1,by omega⟩
  have hlt:j<g.length:=by omega
  rw [List.drop_eq_getElem_cons hlt,msL] at ha
  have hd2:=hnn (g.drop (j+1))
  have hkk:=hk3 (g[j]) (List.getElem_mem hlt)
  rw [bB.l0,if_pos (by omega),if_pos (by omega),if_pos (by omega),j4 hlt,w64 (n:=(j:Int)+1) (by omega) (by omega)]
  have hl0:(0:Int)≤((g[j]).f0.length:Int):=by omega
  by_cases e1:(g[j]).f1=1
  · rw [if_neg (by omega)] at ha
    rw [if_pos e1,w64 (n:=acc+((g[j]).f0.length:Int)) (by omega) (by omega),w64 (n:=acc+((g[j]).f0.length:Int)+1) (by omega) (by omega)]
    have:=ih (j+1) (by omega) (by omega) (acc+((g[j]).f0.length:Int)+1) (by omega) (by omega) k (by omega)
    rw [show ((j+1:Nat):Int)=(j:Int)+1 by omega] at this
    exact this
  rw [if_neg e1]
  by_cases e2:(g[j]).f1=2
  · rw [if_neg (by omega)] at ha
    rw [if_pos e2,w64 (n:=acc+((g[j]).f0.length:Int)) (by omega) (by omega),w64 (n:=acc+((g[j]).f0.length:Int)+1) (by omega) (by omega)]
    have:=ih (j+1) (by omega) (by omega) (acc+((g[j]).f0.length:Int)+1) (by omega) (by omega) k (by omega)
    rw [show ((j+1:Nat):Int)=(j:Int)+1 by omega] at this
    exact this
  rw [if_neg e2]
  have e3:(g[j]).f1=3:=by omega
  rw [if_pos e3] at ha
  rw [w64 (n:=acc+((g[j]).f0.length:Int)) (by omega) (by omega),w64 (n:=acc+((g[j]).f0.length:Int)+3) (by omega) (by omega)]
  have:=ih (j+1) (by omega) (by omega) (acc+((g[j]).f0.length:Int)+3) (by omega) (by omega) k (by omega)
  rw [show ((j+1:Nat):Int)=(j:Int)+1 by omega] at this
  exact this
theorem oQ {g:List S47} (h:TkB g=true):0<g.length∧g.length≤4096∧tkL g.length g 0 4096=true:=by
 unfold TkB at h
 simp only [Bool.and_eq_true,decide_eq_true_eq] at h
 exact ⟨h.1.1,h.1.2,h.2⟩
theorem tk_mem {g:List S47} (h:TkB g=true) {b:S47} (hb:b∈g):(b.f0.length:Int)≤4096∧fB b.f0=true∧iH b=true:=by
 obtain ⟨j,hj,rfl⟩:=List.getElem_of_mem hb
 have:=AJ _ g 0 4096 (oQ h).2.2 (by omega) j hj
 exact ⟨this.1,this.2.1,this.2.2.1⟩
theorem tk_ms {g:List S47} (h:TkB g=true):0≤msL g∧msL g≤100000:=by
 have:=zA _ g 0 4096 (oQ h).2.2 (by omega)
 have h2:=(oQ h).2.1
 omega
theorem ry {g:List S47} (hF:Fit g) (h:TkB g=true) (k:Nat) (hk:10000≤k):dX.f k g=some (msL g,0):=by
 have:=gms_l g (oQ h).2.1 (fun b hb=>xP (tk_mem h hb).2.2) (tk_ms h).1 (tk_ms h).2 g.length 0 rfl (by omega) 0 (by rw [List.drop_zero];omega) (by omega) k (by have:=(oQ h).2.1;omega)
 rw [show ((0:Nat):Int)=0 from rfl] at this
 unfold dX.f bB.f
 rw [gtaken g hF k hk,h,Option.bind_some,if_pos rfl]
 rw [if_pos rfl,this,Option.bind_some]
def gZ (pk:List Int):List S45→bg→Int→bg × Int × Int
 | [],M,s=>(M,s,0)
 | i :: r,M,s=>if (bH i pk M).2=0 then gZ pk r (bH i pk M).1 (wrap64 (s+1)) else ((bH i pk M).1,wrap64 (s+1),(bH i pk M).2)
def lL (g:List S47) (pk:List Int):Nat→Int→bg→Int→Option (Int × Int × Int)
 | 0,_,_,_=>none
 | n+1,at_,M,s=>
  if 0≤at_∧at_<(g.length:Int) then
   let b:=av g at_
   let q:=gZ pk b.f0 M s
   if q.2.2=0 then
    (if b.f1=1 then (if b.f2.f0=6 then some (b.f2.f3,0,wrap64 (q.2.1+1)) else some (q.1.a,0,wrap64 (q.2.1+1)))
    else if b.f1=2 then lL g pk n b.f3 q.1 q.2.1
    else if hoP b.f2 q.1.a q.1.x=true then lL g pk n b.f3 q.1 (wrap64 (q.2.1+1))
    else lL g pk n b.f4 q.1 (wrap64 (q.2.1+1)))
   else some (0,q.2.2,q.2.1)
  else none
theorem tT {p:List S47} {i:Int} (h0:0≤i) (h1:i<p.length):av p i∈p:=by
 unfold av
 rw [List.getD_eq_getElem?_getD,List.getElem?_eq_getElem (by omega)]
 exact List.getElem_mem _
def bq (pk:List Int):List S45→bg→bg × Int × Nat
 | [],M=>(M,0,0)
 | i :: r,M=>if (bH i pk M).2=0 then ((bq pk r (bH i pk M).1).1,(bq pk r (bH i pk M).1).2.1,(bq pk r (bH i pk M).1).2.2+1)
  else ((bH i pk M).1,(bH i pk M).2,1)
inductive Out where
 | fin (v f:Int) (s:Nat)
 | go (j:Nat) (M:bg) (s:Nat)
def eP (b:S47) (M:bg) (s:Nat):Out:=
 if b.f1=1 then .fin (if b.f2.f0=6 then b.f2.f3 else M.a) 0 (s+1)
 else if b.f1=2 then .go b.f3.toNat M s
 else .go (if hoP b.f2 M.a M.x=true then b.f3.toNat else b.f4.toNat) M (s+1)
def eD (pk:List Int) (b:S47) (M:bg):Out:=
 if (bq pk b.f0 M).2.1=0 then eP b (bq pk b.f0 M).1 (bq pk b.f0 M).2.2
 else .fin 0 (bq pk b.f0 M).2.1 (bq pk b.f0 M).2.2
inductive Rn (g:List S47) (pk:List Int):Nat→bg→Int→Int→Nat→Prop
 | fin {j:Nat} {M:bg} {b:S47} {v f:Int} {s:Nat}:g[j]?=some b→eD pk b M = .fin v f s→Rn g pk j M v f s
 | go {j:Nat} {M:bg} {b:S47} {j1:Nat} {M1:bg} {s:Nat} {v f:Int} {t:Nat}:g[j]?=some b→eD pk b M = .go j1 M1 s→Rn g pk j1 M1 v f t→Rn g pk j M v f (s+t)
structure BOk (b:S47) (i n:Int):Prop where
 code:fB b.f0=true
 ends:iH b=true
 goal:gI b i n=true
 rg:∀ x∈b.f0,Rg x.f3
 rl:Rg b.f2.f3
structure GOk (g:List S47):Prop where
 some_:0<g.length
 few:g.length≤4096
 all:∀ (j:Nat) (b:S47),g[j]?=some b→BOk b j g.length
 sum:(g.map (fun b=>b.f0.length)).sum≤4096
theorem eB {b:S47} (h:iH b=true):(b.f1=1∧reB b.f2.f0=true∧lu b.f2=true∧b.f3=0∧b.f4=0)∨(b.f1=2∧b.f2=⟨0,0,0,0⟩∧b.f4=0)∨(b.f1=3∧jmB b.f2.f0=true∧lu b.f2=true):=by
 unfold iH at h
 by_cases e1:b.f1=1
 · rw [if_pos e1] at h
   simp only [Bool.and_eq_true,decide_eq_true_eq] at h
   exact .inl ⟨e1,h.1.1.1,h.1.1.2,h.1.2,h.2⟩
 rw [if_neg e1] at h
 by_cases e2:b.f1=2
 · rw [if_pos e2] at h
   simp only [Bool.and_eq_true,decide_eq_true_eq] at h
   refine .inr (.inl ⟨e2,?_,h.2⟩)
   obtain ⟨⟨a,b,c,d⟩,_⟩:=h
   cases hq:(‹S47›:S47).f2
   simp_all
 rw [if_neg e2] at h
 by_cases e3:b.f1=3
 · rw [if_pos e3] at h
   simp only [Bool.and_eq_true] at h
   exact .inr (.inr ⟨e3,h.1,h.2⟩)
 rw [if_neg e3] at h;cases h
theorem bE {b:S47} {i n:Int} (h:gI b i n=true) (h1:b.f1≠1):i<b.f3∧b.f3<n:=by
 unfold gI at h
 simp only [Bool.and_eq_true,Bool.or_eq_true,decide_eq_true_eq] at h
 rcases h.1 with h | h
 · exact absurd h h1
 exact h
theorem dw {b:S47} {i n:Int} (h:gI b i n=true) (h1:b.f1=3):i<b.f4∧b.f4<n:=by
 unfold gI at h
 simp only [Bool.and_eq_true,Bool.or_eq_true,decide_eq_true_eq,Bool.not_eq_true',decide_eq_false_iff_not] at h
 rcases h.2 with h | h
 · exact absurd h1 h
 exact h
theorem jZ (pk:List Int):∀ (c:List S45) (M:bg),(bq pk c M).2.2≤c.length:=by
 intro c
 induction c with
 | nil=>intro M;exact Nat.le_refl 0
 | cons i r ih=>
  intro M
  unfold bq
  split
  · exact Nat.succ_le_succ (ih _)
  exact Nat.succ_le_succ (Nat.zero_le _)
theorem lM (pk:List Int):∀ (c:List S45) (M:bg),MB M→(∀ x∈c,Rg x.f3)→MB (bq pk c M).1:=by
 intro c
 induction c with
 | nil=>intro M h _;exact h
 | cons i r ih=>
  intro M h hc
  have h1:=jS i pk M h (hc i (List.mem_cons_self ..))
  unfold bq
  split
  · exact ih _ h1 (fun x hx=>hc x (List.mem_cons_of_mem _ hx))
  exact h1
theorem rC (pk:List Int):∀ (c:List S45) (M:bg) (s:Nat),(s:Int)+c.length<9223372036854775808→gZ pk c M s=((bq pk c M).1,((s+(bq pk c M).2.2:Nat):Int),(bq pk c M).2.1):=by
 intro c
 induction c with
 | nil=>intro M s _;rfl
 | cons i r ih=>
  intro M s hs
  rw [List.length_cons] at hs
  have e:wrap64 ((s:Int)+1)=((s+1:Nat):Int):=by rw [w64 (by omega) (by omega)];omega
  unfold gZ bq
  by_cases h:(bH i pk M).2=0
  · rw [if_pos h,if_pos h,e,ih _ _ (by omega)]
    simp only [Prod.mk.injEq,true_and,and_true]
    omega
  rw [if_neg h,if_neg h,e]
theorem GOk.at_ {g:List S47} (h:GOk g) {j:Nat} (hj:j<g.length):∃ b,g[j]?=some b∧BOk b j g.length:=
 ⟨g[j],List.getElem?_eq_getElem hj,h.all j _ (List.getElem?_eq_getElem hj)⟩
theorem uV {l:List Nat} {x:Nat} (h:x∈l):x≤l.sum:=by
 induction l with
 | nil=>cases h
 | cons a r ih=>
  rw [List.sum_cons]
  rcases List.mem_cons.1 h with rfl | h
  · omega
  have:=ih h;omega
theorem GOk.len {g:List S47} (h:GOk g) {j:Nat} {b:S47} (hb:g[j]?=some b):b.f0.length≤4096:=by
 have h1:=h.sum
 have:=uV (List.mem_map_of_mem (f:=fun b:S47=>b.f0.length) (List.mem_of_getElem? hb))
 omega
theorem jE {pk:List Int} {b:S47} {M M1:bg} {i n:Int} {j s:Nat} (h:BOk b i n) (hi:0≤i) (e:eD pk b M = .go j M1 s) :
 (bq pk b.f0 M).2.1=0∧M1=(bq pk b.f0 M).1∧i<j∧(j:Int)<n∧((b.f1=2∧(j:Int)=b.f3∧s=(bq pk b.f0 M).2.2)∨(b.f1=3∧(j:Int)=(if hoP b.f2 M1.a M1.x=true then b.f3 else b.f4)∧s=(bq pk b.f0 M).2.2+1)):=by
 unfold eD at e
 by_cases h0:(bq pk b.f0 M).2.1=0
 · rw [if_pos h0] at e
   unfold eP at e
   rcases eB h.ends with ⟨e1,_⟩ | ⟨e2,_⟩ | ⟨e3,_⟩
   · rw [if_pos e1] at e;cases e
   · have hy:=bE h.goal (by omega)
     rw [if_neg (by omega),if_pos e2] at e
     injection e with a1 a2 a3
     refine ⟨h0,a2.symm,by omega,by omega,.inl ⟨e2,by omega,a3.symm⟩⟩
   have hy:=bE h.goal (by omega)
   have hn:=dw h.goal e3
   rw [if_neg (by omega),if_neg (by omega)] at e
   injection e with a1 a2 a3
   subst a2
   by_cases ho:hoP b.f2 (bq pk b.f0 M).1.a (bq pk b.f0 M).1.x=true
   · rw [if_pos ho] at a1
     refine ⟨h0,rfl,by omega,by omega,.inr ⟨e3,by rw [if_pos ho];omega,a3.symm⟩⟩
   rw [if_neg ho] at a1
   refine ⟨h0,rfl,by omega,by omega,.inr ⟨e3,by rw [if_neg ho];omega,a3.symm⟩⟩
 rw [if_neg h0] at e;cases e
theorem zK {pk:List Int} {b:S47} {M:bg} {v f:Int} {s:Nat} (e:eD pk b M = .fin v f s):s≤b.f0.length+1:=by
 have hs:=jZ pk b.f0 M
 unfold eD at e
 split at e
 · unfold eP at e
   split at e
   · injection e with a1 a2 a3;omega
   split at e<;>cases e
 injection e with a1 a2 a3;omega
theorem wD:∀ (m:List Nat) (d:Nat),(m.drop d).sum≤m.sum:=by
 intro m
 induction m with
 | nil=>intro d;simp
 | cons a r ih=>
  intro d
  cases d with
  | zero=>exact Nat.le_refl _
  | succ d=>rw [List.drop_succ_cons,List.sum_cons];exact Nat.le_trans (ih d) (Nat.le_add_left _ _)
theorem AA (l:List Nat) (i j:Nat) (hij:i≤j):(l.drop j).sum≤(l.drop i).sum:=by
 obtain ⟨d,rfl⟩:∃ d,j=i+d:=⟨j - i,by omega⟩
 rw [←List.drop_drop]
 exact wD _ d
def kK (g:List S47):List Nat:=g.map (fun b=>b.f0.length+1)
theorem rn_all {g:List S47} (h:GOk g) (pk:List Int):∀ (d j:Nat) (M:bg),g.length - j≤d→j<g.length→∃ v f t,Rn g pk j M v f t∧t≤((kK g).drop j).sum:=by
 intro d
 induction d with
 | zero=>intro j M hd hj;omega
 | succ d ih=>
  intro j M hd hj
  obtain ⟨b,hb,hok⟩:=h.at_ hj
  have hr:((kK g).drop j).sum=b.f0.length+1+((kK g).drop (j+1)).sum:=by
   have hl:j<(kK g).length:=by unfold kK;rw [List.length_map];exact hj
   rw [List.drop_eq_getElem_cons hl,List.sum_cons]
   have:(kK g)[j]=b.f0.length+1:=by
    have e2:(kK g)[j]?=some (b.f0.length+1):=by unfold kK;rw [List.getElem?_map,hb];rfl
    rw [List.getElem?_eq_getElem hl] at e2
    exact Option.some.inj e2
   rw [this]
  cases e:eD pk b M with
  | fin v f s=>exact ⟨v,f,s,.fin hb e,by have:=zK e;omega⟩
  | go j1 M1 s=>
   obtain ⟨h0,rfl,a1,a2,a3⟩:=jE hok (by omega) e
   obtain ⟨v,f,t,hr1,ht⟩:=ih j1 (bq pk b.f0 M).1 (by omega) (by omega)
   refine ⟨v,f,s+t,.go hb e hr1,?_⟩
   have hs:=jZ pk b.f0 M
   have:=AA (kK g) (j+1) j1 (by omega)
   rcases a3 with ⟨_,_,rfl⟩ | ⟨_,_,rfl⟩<;>omega
theorem uQ {g:List S47} (h:GOk g) {pk:List Int} {j:Nat} {M:bg} {v f:Int} {t:Nat} (hr:Rn g pk j M v f t) :
 ∃ n,∀ s:Nat,(s:Int)+t+8192<9223372036854775808→lL g pk n j M s=some (v,f,((s+t:Nat):Int)):=by
 induction hr with
 | @fin j M b v f t hb e=>
  refine ⟨1,fun s hs=>?_⟩
  have hj:j<g.length:=(List.getElem?_eq_some_iff.1 hb).1
  have hgb:g[j]=b:=(List.getElem?_eq_some_iff.1 hb).2
  have hlen:=h.len hb
  unfold lL
  rw [if_pos ⟨by omega,by omega⟩,j4 hj,hgb]
  dsimp only
  rw [rC pk b.f0 M s (by omega)]
  have hst:=jZ pk b.f0 M
  unfold eD at e
  by_cases h0:(bq pk b.f0 M).2.1=0
  · rw [if_pos h0] at e ⊢
    unfold eP at e
    by_cases e1:b.f1=1
    · rw [if_pos e1] at e ⊢
      injection e with a1 a2 a3
      subst a1 a2 a3
      dsimp only
      rw [w64 (by omega) (by omega)]
      by_cases e6:b.f2.f0=6
      · rw [if_pos e6,if_pos e6];congr 3
      rw [if_neg e6,if_neg e6];congr 3
    rw [if_neg e1] at e;split at e<;>cases e
  rw [if_neg h0] at e ⊢
  injection e with a1 a2 a3
  subst a1 a2 a3
  rfl
 | @go j M b j1 M1 s1 v f t hb e _ ih=>
  obtain ⟨n,ih⟩:=ih
  refine ⟨n+1,fun s hs=>?_⟩
  have hj:j<g.length:=(List.getElem?_eq_some_iff.1 hb).1
  have hgb:g[j]=b:=(List.getElem?_eq_some_iff.1 hb).2
  have hlen:=h.len hb
  have hok:=h.all j b hb
  obtain ⟨h0,rfl,a1,a2,a3⟩:=jE hok (by omega) e
  unfold lL
  rw [if_pos ⟨by omega,by omega⟩,j4 hj,hgb]
  dsimp only
  rw [rC pk b.f0 M s (by omega)]
  dsimp only
  rw [if_pos h0]
  have hst:=jZ pk b.f0 M
  rcases a3 with ⟨e2,ej,rfl⟩ | ⟨e3,ej,rfl⟩
  · rw [if_neg (by omega),if_pos e2,←ej,ih _ (by omega),Nat.add_assoc]
  rw [if_neg (by omega),if_neg (by omega),w64 (by omega) (by omega)]
  have:=ih (s+(bq pk b.f0 M).2.2+1) (by omega)
  rw [show ((s+(bq pk b.f0 M).2.2+1:Nat):Int)=((s+(bq pk b.f0 M).2.2:Nat):Int)+1 by omega,ej] at this
  rw [show s+((bq pk b.f0 M).2.2+1+t)=s+(bq pk b.f0 M).2.2+1+t by omega]
  split
  · rename_i ho;rw [if_pos ho] at this;exact this
  rename_i ho;rw [if_neg ho] at this;exact this
theorem uZ (n:Int):∀ (l:List S47) (i left:Int),tkL n l i left=true ↔
 ((∀ (j:Nat) (b:S47),l[j]?=some b→fB b.f0=true∧iH b=true∧gI b (i+j) n=true)∧(l=[]∨(((l.map (fun b=>b.f0.length)).sum:Nat):Int)≤left)):=by
 intro l
 induction l with
 | nil=>intro i left;exact ⟨fun _=>⟨fun j b h=>by simp at h,.inl rfl⟩,fun _=>rfl⟩
 | cons a r ih=>
  intro i left
  unfold tkL
  simp only [Bool.and_eq_true,decide_eq_true_eq]
  rw [ih]
  constructor
  · rintro ⟨⟨⟨⟨h1,h2⟩,h3⟩,h4⟩,h5,h6⟩
    refine ⟨?_,.inr ?_⟩
    · intro j b hb
      cases j with
      | zero=>cases hb;exact ⟨h2,h3,by simpa using h4⟩
      | succ j=>
       have:=h5 j b hb
       rw [show i+((j+1:Nat):Int)=i+1+(j:Int) by omega]
       exact this
    rw [List.map_cons,List.sum_cons]
    rcases h6 with rfl | h6
    · simpa using h1
    omega
  rintro ⟨h1,h2⟩
  have h0:=h1 0 a rfl
  rcases h2 with h2 | h2
  · cases h2
  rw [List.map_cons,List.sum_cons] at h2
  refine ⟨⟨⟨⟨by omega,h0.1⟩,h0.2.1⟩,by simpa using h0.2.2⟩,?_,.inr (by omega)⟩
  intro j b hb
  have:=h1 (j+1) b hb
  rw [show i+((j+1:Nat):Int)=i+1+(j:Int) by omega] at this
  exact this
def KR (g:List S47):Prop:=∀ b∈g,(∀ x∈b.f0,Rg x.f3)∧Rg b.f2.f3
theorem yA {g:List S47} (h:TkB g=true) (hk:KR g):GOk g:=by
 unfold TkB at h
 simp only [Bool.and_eq_true,decide_eq_true_eq] at h
 obtain ⟨⟨h1,h2⟩,h3⟩:=h
 obtain ⟨h4,h5⟩:=(uZ _ _ _ _).1 h3
 refine ⟨h1,h2,?_,?_⟩
 · intro j b hb
   obtain ⟨a1,a2,a3⟩:=h4 j b hb
   have:=hk b (List.mem_of_getElem? hb)
   exact ⟨a1,a2,by simpa using a3,this.1,this.2⟩
 rcases h5 with rfl | h5
 · exact absurd h1 (by simp)
 omega
theorem GOk.tk {g:List S47} (h:GOk g):TkB g=true:=by
 unfold TkB
 simp only [Bool.and_eq_true,decide_eq_true_eq]
 refine ⟨⟨h.some_,h.few⟩,(uZ _ _ _ _).2 ⟨?_,.inr (by have:=h.sum;omega)⟩⟩
 intro j b hb
 have:=h.all j b hb
 exact ⟨this.code,this.ends,by simpa using this.goal⟩
def msB (b:S47):Nat:=b.f0.length+1+(if b.f1=3 then 2 else 0)
theorem zz:∀ g:List S47,msL g=(((g.map msB).sum:Nat):Int):=by
 intro g
 induction g with
 | nil=>rfl
 | cons b r ih=>
  unfold msL
  rw [ih,List.map_cons,List.sum_cons]
  unfold msB
  split<;>omega
theorem gok_run {g:List S47} (h:GOk g) (pk:List Int):∃ v f t n,Rn g pk 0 z16 v f t∧t≤8192∧lL g pk n 0 z16 0=some (v,f,(t:Int)):=by
 obtain ⟨v,f,t,hr,ht⟩:=rn_all h pk g.length 0 z16 (by omega) h.some_
 obtain ⟨n,hn⟩:=uQ h hr
 have hs:(kK g).sum=(g.map (fun b=>b.f0.length)).sum+g.length:=by
  unfold kK
  clear hr ht hn h
  induction g with
  | nil=>rfl
  | cons b r ih=>rw [List.map_cons,List.sum_cons,List.map_cons,List.sum_cons,List.length_cons,ih];omega
 have h1:=h.sum
 have h2:=h.few
 rw [List.drop_zero] at ht
 have:=hn 0 (by omega)
 rw [Nat.zero_add] at this
 exact ⟨v,f,t,n,hr,by omega,this⟩
theorem xG {a:Int} (h:Rg a):((BitVec.ofInt 32 a).toNat:Int)=a:=by
 rw [BitVec.toNat_ofInt]
 have h1:=h.1
 have h2:=h.2
 have:(2 ^ 32:Nat)=4294967296:=by decide
 rw [this]
 omega
theorem or_z {a:Int} (h:Rg a):Go.bits .or .u32 a 0=a:=by
 show IntKind.u32.wrap ((BitVec.ofInt 32 a ||| BitVec.ofInt 32 0).toNat:Int)=a
 rw [show BitVec.ofInt 32 0=0#32 from rfl,BitVec.or_zero,xG h,rV h]
theorem xor_z {a:Int} (h:Rg a):Go.bits .xor .u32 a 0=a:=by
 show IntKind.u32.wrap ((BitVec.ofInt 32 a ^^^ BitVec.ofInt 32 0).toNat:Int)=a
 rw [show BitVec.ofInt 32 0=0#32 from rfl,BitVec.xor_zero,xG h,rV h]
theorem and_z (a:Int):Go.bits .and .u32 a 0=0:=by
 show IntKind.u32.wrap ((BitVec.ofInt 32 a &&& BitVec.ofInt 32 0).toNat:Int)=0
 rw [show BitVec.ofInt 32 0=0#32 from rfl,BitVec.and_zero]
 rfl
theorem and_o {a:Int} (h:Rg a):Go.bits .and .u32 a 4294967295=a:=by
 show IntKind.u32.wrap ((BitVec.ofInt 32 a &&& BitVec.ofInt 32 4294967295).toNat:Int)=a
 rw [show BitVec.ofInt 32 4294967295=BitVec.allOnes 32 from by decide,BitVec.and_allOnes,xG h,rV h]
theorem tK {c d:Int} (h:Go.bits .andNot .u16 c 8=Go.bits .andNot .u16 d 8) (a b:Int):opP c a b=opP d a b:=by
 unfold opP eH.f
 rw [h]
theorem op_4 (a b:Int):opP 4 a b=((a+b) % 4294967296,0):=rfl
theorem op_20 (a b:Int):opP 20 a b=((a - b) % 4294967296,0):=rfl
theorem op_36 (a b:Int):opP 36 a b=((a*b) % 4294967296,0):=rfl
theorem op_68 (a b:Int):opP 68 a b=(Go.bits .or .u32 a b,0):=rfl
theorem op_84 (a b:Int):opP 84 a b=(Go.bits .and .u32 a b,0):=rfl
theorem op_164 (a b:Int):opP 164 a b=(Go.bits .xor .u32 a b,0):=rfl
theorem qG {a b:Int} (hb:0≤b):opP 100 a b=(if b>31 then 0 else shl .u32 a b,0):=by
 show ((bP.f a b true).bind fun t=>some (t,(0:Int))).getD (0,0)=_
 unfold bP.f
 by_cases h:b>31
 · rw [if_pos h,if_pos h];rfl
 rw [if_neg h,if_neg h,if_pos rfl,if_pos hb];rfl
theorem qH {a b:Int} (hb:0≤b):opP 116 a b=(if b>31 then 0 else shr .u32 a b,0):=by
 show ((bP.f a b false).bind fun t=>some (t,(0:Int))).getD (0,0)=_
 unfold bP.f
 by_cases h:b>31
 · rw [if_pos h,if_pos h];rfl
 rw [if_neg h,if_neg h,if_neg (by decide),if_pos hb];rfl
theorem zH (a b:Int):opP 52 a b=(if b=0 then (0,2) else ((Int.tdiv a b) % 4294967296,0)):=by
 show (if b=0 then some ((0:Int),(2:Int)) else some ((Int.tdiv a b) % 4294967296,0)).getD (0,0)=_
 by_cases h:b=0
 · rw [if_pos h,if_pos h];rfl
 rw [if_neg h,if_neg h];rfl
theorem zG (a b:Int):opP 148 a b=(if b=0 then (0,2) else (Int.tmod a b,0)):=by
 show (if b=0 then some ((0:Int),(2:Int)) else some (Int.tmod a b,0)).getD (0,0)=_
 by_cases h:b=0
 · rw [if_pos h,if_pos h];rfl
 rw [if_neg h,if_neg h];rfl
def dO:List Int:=[4,20,36,52,68,84,100,116,148,164]
def eZ:List Int:=[12,28,44,60,76,92,108,124,156,172]
theorem tL {c a b:Int} (hc:c∈dO) (hb:0≤b) (h:(c=52∨c=148)→b≠0):(opP c a b).2=0:=by
 simp only [dO,List.mem_cons,List.not_mem_nil,or_false] at hc
 rcases hc with rfl | rfl | rfl | rfl | rfl | rfl | rfl | rfl | rfl | rfl
 · rfl
 · rfl
 · rfl
 · rw [zH,if_neg (h (.inl rfl))]
 · rfl
 · rfl
 · rw [qG hb]
 · rw [qH hb]
 · rw [zG,if_neg (h (.inr rfl))]
 rfl
theorem op_idle {c a k:Int} (ha:Rg a) (h:((c=4∨c=20∨c=68∨c=164∨c=100∨c=116)∧k=0)∨((c=36∨c=52)∧k=1)∨(c=84∧k=4294967295)):opP c a k=(a,0):=by
 have h1:=ha.1
 have h2:=ha.2
 rcases h with ⟨h,rfl⟩ | ⟨h,rfl⟩ | ⟨rfl,rfl⟩
 · rcases h with rfl | rfl | rfl | rfl | rfl | rfl
   · rw [op_4,Int.add_zero,Int.emod_eq_of_lt h1 h2]
   · rw [op_20,Int.sub_zero,Int.emod_eq_of_lt h1 h2]
   · rw [op_68,or_z ha]
   · rw [op_164,xor_z ha]
   · rw [qG (Int.le_refl 0),if_neg (by decide)]
     have:shl .u32 a 0=IntKind.u32.wrap (a*1):=rfl
     rw [this,Int.mul_one,rV ha]
   rw [qH (Int.le_refl 0),if_neg (by decide)]
   have:shr .u32 a 0=a / 1:=rfl
   rw [this,Int.ediv_one]
 · rcases h with rfl | rfl
   · rw [op_36,Int.mul_one,Int.emod_eq_of_lt h1 h2]
   rw [zH,if_neg (by decide),Int.tdiv_one,Int.emod_eq_of_lt h1 h2]
 rw [op_84,and_o ha]
theorem pR (a:Int):opP 84 a 0=(0,0)∧opP 36 a 0=(0,0):=by
 rw [op_84,op_36,and_z,Int.mul_zero];exact ⟨rfl,rfl⟩
theorem zI {a y:Int} (h:y>31):opP 108 a y=(0,0)∧opP 124 a y=(0,0):=by
 rw [tK (c:=108) (d:=100) (by decide),tK (c:=124) (d:=116) (by decide),qG (by omega),qH (by omega),if_pos h]
 exact ⟨rfl,by rw [if_pos h]⟩
abbrev St:=List (Option Int)
def gS (s:St) (i:Nat):Option Int:=s.getD i none
def wd (M:bg):Nat→Int
 | 0=>M.a
 | 1=>M.x
 | n+2=>M.m.getD n 0
structure Snd (s:St) (M:bg):Prop where
 len:s.length=18
 wd:∀ i v,gS s i=some v→wd M i=v
def ldL:List Int:=[0,32,40,48,64,72,80,96,128,1,97,129,177]
def stL:List Int:=[0,32,40,48,64,72,80,96,128,1,97,129,177,2,3,132,7,135,4,20,36,52,68,84,100,116,148,164,12,28,44,60,76,92,108,124,156,172]
def mI (s:St) (i:S45):S45:=
 if i.f0=96 then (match gS s (2+i.f3.toNat) with | some v=>⟨0,0,0,v⟩ | none=>i)
 else if i.f0=97 then (match gS s (2+i.f3.toNat) with | some v=>⟨1,0,0,v⟩ | none=>i)
 else if i.f0=64∨i.f0=72∨i.f0=80 then (match gS s 1 with | some x=>if x+i.f3≤4294967295 then ⟨i.f0 - 32,0,0,x+i.f3⟩ else i | none=>i)
 else i
def iX (s:St) (i:S45):S45:=
 match gS s 0 with
 | some a=>⟨0,0,0,(opP i.f0 a i.f3).1⟩
 | none=>if i.f3=0∧(i.f0=84∨i.f0=36) then ⟨0,0,0,0⟩ else i
def sw (s:St) (i:S45):S45:=
 if i.f0=132 then (match gS s 0 with | some a=>⟨0,0,0,IntKind.u32.wrap (-a)⟩ | none=>i)
 else if i.f0∈eZ then (match gS s 1 with
  | none=>i
  | some y=>if (i.f0=108∨i.f0=124)∧y>31 then ⟨0,0,0,0⟩ else if y=0∧(i.f0=60∨i.f0=156) then i else iX s ⟨i.f0 - 8,0,0,y⟩)
 else iX s i
def mK (s:St) (i:S45):S45:=
 if i.f0=7 then (match gS s 0 with | some a=>⟨1,0,0,a⟩ | none=>i)
 else (match gS s 1 with | some x=>⟨0,0,0,x⟩ | none=>i)
def bW (s:St) (i:S45):S45:=
 if i.f0∈ldL then mI s i
 else if i.f0=7∨i.f0=135 then mK s i
 else if i.f0=132∨i.f0∈dO∨i.f0∈eZ then sw s i
 else i
def gN (s:St) (i:S45):Bool:=
 if i.f0=0 then decide (gS s 0=some i.f3)
 else if i.f0=1 then decide (gS s 1=some i.f3)
 else if i.f0=2 then (gS s 0).isSome&&decide (gS s (2+i.f3.toNat)=gS s 0)
 else if i.f0=3 then (gS s 1).isSome&&decide (gS s (2+i.f3.toNat)=gS s 1)
 else if i.f0=4∨i.f0=20∨i.f0=68∨i.f0=164∨i.f0=100∨i.f0=116 then decide (i.f3=0)
 else if i.f0=36∨i.f0=52 then decide (i.f3=1)
 else if i.f0=84 then decide (i.f3=4294967295)
 else false
def dW (s:St) (i:S45):St:=
 if i.f0=0 then s.set 0 (some i.f3)
 else if i.f0=1 then s.set 1 (some i.f3)
 else if i.f0=2 then s.set (2+i.f3.toNat) (gS s 0)
 else if i.f0=3 then s.set (2+i.f3.toNat) (gS s 1)
 else if i.f0=7 then s.set 1 (gS s 0)
 else if i.f0=135 then s.set 0 (gS s 1)
 else if i.f0=97∨i.f0=129∨i.f0=177 then s.set 1 none
 else s.set 0 none
theorem fM {c K:Int} (h:stB c K=true):c∈stL∧((c=2∨c=3∨c=96∨c=97)→K<16)∧((c=52∨c=148)→K≠0)∧((c=100∨c=116)→K≤31):=by
 have hn:=stB_not h
 unfold stB at h
 simp only [Bool.and_eq_true,Bool.or_eq_true,Bool.not_eq_true',decide_eq_true_eq,decide_eq_false_iff_not] at h
 obtain ⟨⟨⟨⟨⟨⟨h1,h2⟩,h3⟩,h4⟩,h5⟩,h6⟩,h7⟩:=h
 refine ⟨?_,?_,?_,?_⟩
 · have H:∀ x∈knL,x=6∨x=22∨x=5∨jmB x=true∨x∈stL:=by decide
   rcases zb (P:=fun x=>x=6∨x=22∨x=5∨jmB x=true∨x∈stL) h1 H with e | e | e | e | e
   · exact absurd e hn.1
   · exact absurd e hn.2.1
   · exact absurd e hn.2.2.1
   · rw [h2] at e;cases e
   exact e
 · intro e;rcases h5 with h5 | h5
   · exact absurd e h5
   exact h5
 · intro e;rcases h6 with h6 | h6
   · exact absurd e h6
   exact h6
 intro e;rcases h7 with h7 | h7
 · exact absurd e h7
 exact h7
theorem kr {c K:Int} (hm:c∈stL) (h1:(c=2∨c=3∨c=96∨c=97)→K<16) (h2:(c=52∨c=148)→K≠0) (h3:(c=100∨c=116)→K≤31):stB c K=true:=by
 have H:∀ x∈stL,kn x=true∧jmB x=false∧reB x=false∧x≠5:=by decide
 obtain ⟨a,b,d,e⟩:=H c hm
 have e5:decide (c=5)=false:=decide_eq_false e
 have e6:(!decide (c=2∨c=3∨c=96∨c=97)||decide (K<16))=true:=by
  by_cases q:c=2∨c=3∨c=96∨c=97
  · rw [decide_eq_true (h1 q),Bool.or_true]
  rw [decide_eq_false q];rfl
 have e7:(!decide (c=52∨c=148)||decide (K≠0))=true:=by
  by_cases q:c=52∨c=148
  · rw [decide_eq_true (h2 q),Bool.or_true]
  rw [decide_eq_false q];rfl
 have e8:(!decide (c=100∨c=116)||decide (K≤31))=true:=by
  by_cases q:c=100∨c=116
  · rw [decide_eq_true (h3 q),Bool.or_true]
  rw [decide_eq_false q];rfl
 unfold stB
 rw [a,b,d,e5,e6,e7,e8]
 rfl
theorem jO {k:Int} (h0:0≤k) (h1:k<16):ix k=k.toNat:=by
 have:k=0∨k=1∨k=2∨k=3∨k=4∨k=5∨k=6∨k=7∨k=8∨k=9∨k=10∨k=11∨k=12∨k=13∨k=14∨k=15:=by omega
 rcases this with rfl | rfl | rfl | rfl | rfl | rfl | rfl | rfl | rfl | rfl | rfl | rfl | rfl | rfl | rfl | rfl<;>decide
theorem oO (c jt jf k:Int) (hc:c∈dO∨c∈eZ) (pk:List Int) (M:bg):bH ⟨c,jt,jf,k⟩ pk M=({M with a:=(opP c M.a (if byX c then M.x else k)).1},(opP c M.a (if byX c then M.x else k)).2):=by
 simp only [dO,eZ,List.mem_cons,List.not_mem_nil,or_false] at hc
 rcases hc with h | h<;>rcases h with rfl | rfl | rfl | rfl | rfl | rfl | rfl | rfl | rfl | rfl<;>rfl
theorem rZ (c jt jf k:Int) (hc:c∈dO) (pk:List Int) (M:bg):bH ⟨c,jt,jf,k⟩ pk M=({M with a:=(opP c M.a k).1},(opP c M.a k).2):=by
 have H:∀ x∈dO,byX x=false:=by decide +kernel
 rw [oO c jt jf k (.inl hc),H c hc]
 rfl
theorem stepX (c jt jf k:Int) (hc:c∈eZ) (pk:List Int) (M:bg):bH ⟨c,jt,jf,k⟩ pk M=({M with a:=(opP (c - 8) M.a M.x).1},(opP (c - 8) M.a M.x).2)∧c - 8∈dO∧(c=60∨c=156∨(c - 8≠52∧c - 8≠148))∧opP c M.a M.x=opP (c - 8) M.a M.x:=by
 have H:∀ x∈eZ,byX x=true∧Go.bits .andNot .u16 x 8=Go.bits .andNot .u16 (x - 8) 8∧x - 8∈dO∧(x=60∨x=156∨(x - 8≠52∧x - 8≠148)):=by decide +kernel
 obtain ⟨h1,h2,h3,h4⟩:=H c hc
 rw [oO c jt jf k (.inr hc),h1,if_pos rfl,tK h2]
 exact ⟨rfl,h3,h4,rfl⟩
theorem Snd.at0 {s:St} {M:bg} (h:Snd s M) {v:Int} (e:gS s 0=some v):M.a=v:=h.wd 0 v e
theorem Snd.at1 {s:St} {M:bg} (h:Snd s M) {v:Int} (e:gS s 1=some v):M.x=v:=h.wd 1 v e
theorem Snd.atM {s:St} {M:bg} (h:Snd s M) {n:Nat} {v:Int} (e:gS s (2+n)=some v):M.m.getD n 0=v:=by
 rw [Nat.add_comm] at e;exact h.wd (n+2) v e
theorem nP (s:St) (M:bg) (i:S45) (pk:List Int) (hs:Snd s M) (hM:MB M) (hc:i.f0∈dO) (hk:Rg i.f3) (h52:(i.f0=52∨i.f0=148)→i.f3≠0) (h31:(i.f0=100∨i.f0=116)→i.f3≤31) :
 bH (iX s i) pk M=bH i pk M∧stB (iX s i).f0 (iX s i).f3=true∧Rg (iX s i).f3:=by
 obtain ⟨c,jt,jf,k⟩:=i
 dsimp only at hc hk h52 h31
 have hsub:c∈stL∧c≠2∧c≠3∧c≠96∧c≠97:=by
  have:∀ x∈dO,x∈stL∧x≠2∧x≠3∧x≠96∧x≠97:=by decide
  exact this c hc
 rw [rZ c jt jf k hc]
 unfold iX
 cases e:gS s 0 with
 | some a=>
  have ha:=hs.at0 e
  subst ha
  dsimp only
  refine ⟨?_,kr (by decide) (by omega) (by omega) (by omega),zF c _ k hM.a hk⟩
  rw [tL hc hk.1 h52]
  rfl
 | none=>
  dsimp only
  by_cases q:k=0∧(c=84∨c=36)
  · rw [if_pos q]
    obtain ⟨rfl,q⟩:=q
    refine ⟨?_,kr (by decide) (by decide) (by decide) (by decide),Rg.z⟩
    rcases q with rfl | rfl
    · rw [(pR M.a).1];rfl
    rw [(pR M.a).2];rfl
  rw [if_neg q]
  refine ⟨rZ c jt jf k hc pk M,kr hsub.1 (fun h=>by rcases h with h | h | h | h<;>simp_all) h52 h31,hk⟩
theorem pW (s:St) (M:bg) (i:S45) (pk:List Int) (hs:Snd s M) (hM:MB M) (hc:stB i.f0 i.f3=true) (hk:Rg i.f3) :
 bH (bW s i) pk M=bH i pk M∧stB (bW s i).f0 (bW s i).f3=true∧Rg (bW s i).f3:=by
 obtain ⟨hm,h16,h52,h31⟩:=fM hc
 have same:bH i pk M=bH i pk M∧stB i.f0 i.f3=true∧Rg i.f3:=⟨rfl,hc,hk⟩
 unfold bW
 by_cases q1:i.f0∈ldL
 · rw [if_pos q1]
   unfold mI
   by_cases c1:i.f0=96
   · rw [if_pos c1]
     cases e:gS s (2+i.f3.toNat) with
     | none=>exact same
     | some v=>
      have hv:=hs.atM e
      obtain ⟨c,jt,jf,k⟩:=i
      dsimp only at c1 hk h16 hv ⊢
      subst c1
      have hix:=jO hk.1 (h16 (by omega))
      refine ⟨?_,kr (by decide) (by omega) (by omega) (by omega),hv ▸ hM.m _⟩
      show ({M with a:=v},(0:Int))=({M with a:=M.m.getD (ix k) 0},0)
      rw [hix,hv]
   rw [if_neg c1]
   by_cases c2:i.f0=97
   · rw [if_pos c2]
     cases e:gS s (2+i.f3.toNat) with
     | none=>exact same
     | some v=>
      have hv:=hs.atM e
      obtain ⟨c,jt,jf,k⟩:=i
      dsimp only at c2 hk h16 hv ⊢
      subst c2
      have hix:=jO hk.1 (h16 (by omega))
      refine ⟨?_,kr (by decide) (by omega) (by omega) (by omega),hv ▸ hM.m _⟩
      show ({M with x:=v},(0:Int))=({M with x:=M.m.getD (ix k) 0},0)
      rw [hix,hv]
   rw [if_neg c2]
   by_cases c3:i.f0=64∨i.f0=72∨i.f0=80
   · rw [if_pos c3]
     cases e:gS s 1 with
     | none=>exact same
     | some x=>
      have hv:=hs.at1 e
      subst hv
      dsimp only
      by_cases q:M.x+i.f3≤4294967295
      · rw [if_pos q]
        obtain ⟨c,jt,jf,k⟩:=i
        dsimp only at c3 hk q ⊢
        have hx:=hM.x
        have hr:Rg (M.x+k):=⟨by have:=hx.1;have:=hk.1;omega,by omega⟩
        have hw:IntKind.u64.wrap (IntKind.u64.wrap k+IntKind.u64.wrap M.x)=IntKind.u64.wrap (M.x+k):=by
         simp only [IntKind.wrap_u64];omega
        rcases c3 with rfl | rfl | rfl
        · refine ⟨?_,kr (by decide) (by omega) (by omega) (by omega),hr⟩
          show ({M with a:=(rdP pk (IntKind.u64.wrap (M.x+k)) (szP 32)).1},(rdP pk (IntKind.u64.wrap (M.x+k)) (szP 32)).2)=({M with a:=(rdP pk (IntKind.u64.wrap (IntKind.u64.wrap k+IntKind.u64.wrap M.x)) (szP 64)).1},(rdP pk (IntKind.u64.wrap (IntKind.u64.wrap k+IntKind.u64.wrap M.x)) (szP 64)).2)
          rw [hw,show szP 32=szP 64 from rfl]
        · refine ⟨?_,kr (by decide) (by omega) (by omega) (by omega),hr⟩
          show ({M with a:=(rdP pk (IntKind.u64.wrap (M.x+k)) (szP 40)).1},(rdP pk (IntKind.u64.wrap (M.x+k)) (szP 40)).2)=({M with a:=(rdP pk (IntKind.u64.wrap (IntKind.u64.wrap k+IntKind.u64.wrap M.x)) (szP 72)).1},(rdP pk (IntKind.u64.wrap (IntKind.u64.wrap k+IntKind.u64.wrap M.x)) (szP 72)).2)
          rw [hw,show szP 40=szP 72 from rfl]
        refine ⟨?_,kr (by decide) (by omega) (by omega) (by omega),hr⟩
        show ({M with a:=(rdP pk (IntKind.u64.wrap (M.x+k)) (szP 48)).1},(rdP pk (IntKind.u64.wrap (M.x+k)) (szP 48)).2)=({M with a:=(rdP pk (IntKind.u64.wrap (IntKind.u64.wrap k+IntKind.u64.wrap M.x)) (szP 80)).1},(rdP pk (IntKind.u64.wrap (IntKind.u64.wrap k+IntKind.u64.wrap M.x)) (szP 80)).2)
        rw [hw,show szP 48=szP 80 from rfl]
      rw [if_neg q];exact same
   rw [if_neg c3]
   exact same
 rw [if_neg q1]
 by_cases q2:i.f0=7∨i.f0=135
 · rw [if_pos q2]
   unfold mK
   by_cases c1:i.f0=7
   · rw [if_pos c1]
     cases e:gS s 0 with
     | none=>exact same
     | some v=>
      have hv:=hs.at0 e
      subst hv
      obtain ⟨c,jt,jf,k⟩:=i
      dsimp only at c1 ⊢
      subst c1
      exact ⟨rfl,kr (by decide) (by omega) (by omega) (by omega),hM.a⟩
   rw [if_neg c1]
   cases e:gS s 1 with
   | none=>exact same
   | some v=>
    have hv:=hs.at1 e
    subst hv
    obtain ⟨c,jt,jf,k⟩:=i
    dsimp only at c1 q2 ⊢
    obtain rfl:=q2.resolve_left c1
    exact ⟨rfl,kr (by decide) (by omega) (by omega) (by omega),hM.x⟩
 rw [if_neg q2]
 by_cases q3:i.f0=132∨i.f0∈dO∨i.f0∈eZ
 · rw [if_pos q3]
   unfold sw
   by_cases c1:i.f0=132
   · rw [if_pos c1]
     cases e:gS s 0 with
     | none=>exact same
     | some v=>
      have hv:=hs.at0 e
      subst hv
      obtain ⟨c,jt,jf,k⟩:=i
      dsimp only at c1 ⊢
      subst c1
      exact ⟨rfl,kr (by decide) (by omega) (by omega) (by omega),j5 _⟩
   rw [if_neg c1]
   by_cases c2:i.f0∈eZ
   · rw [if_pos c2]
     cases e:gS s 1 with
     | none=>exact same
     | some y=>
      have hv:=hs.at1 e
      subst hv
      obtain ⟨c,jt,jf,k⟩:=i
      dsimp only at c2 ⊢
      obtain ⟨sx,s8,s5,so⟩:=stepX c jt jf k c2 pk M
      by_cases d1:(c=108∨c=124)∧M.x>31
      · rw [if_pos d1,sx]
        refine ⟨?_,kr (by decide) (by decide) (by decide) (by decide),Rg.z⟩
        rw [←so]
        rcases d1 with ⟨rfl | rfl,d⟩
        · rw [(zI d).1];rfl
        rw [(zI d).2];rfl
      rw [if_neg d1]
      by_cases d2:M.x=0∧(c=60∨c=156)
      · rw [if_pos d2];exact same
      rw [if_neg d2]
      have:=nP s M ⟨c - 8,0,0,M.x⟩ pk hs hM s8 hM.x (fun h h0=>d2 ⟨h0,by dsimp only at h;omega⟩) (fun h=>by dsimp only at h ⊢;omega)
      rw [this.1,sx,rZ _ _ _ _ s8]
      exact ⟨rfl,this.2⟩
   rw [if_neg c2]
   exact nP s M i pk hs hM ((q3.resolve_left c1).resolve_right c2) hk h52 h31
 rw [if_neg q3];exact same
theorem yw (p:List Int) (a s:Int) (h0:0≤a) (h1:a+s≤p.length) (h4:s≤4) (hl:p.length<2 ^ 62):∀ (n:Nat) (k:Nat) (x i:Int),(s - i).toNat=n→0≤i→i≤s→n<k →
    bu.l0 k p a s x i=some ((((p.drop (a+i).toNat).take n).foldl (fun x b=>Go.bits .or .u32 ((x*256) % 4294967296) (b % 4294967296)) x),true):=by
  intro n
  induction n with
  | zero=>
    intro k x i hn hi hs hk
    obtain ⟨k,rfl⟩:∃ m,k=m+1:=⟨k - 1,by omega⟩
    rw [bu.l0,if_neg (by omega)];rfl
  | succ n ih=>
    intro k x i hn hi hs hk
    obtain ⟨k,rfl⟩:∃ m,k=m+1:=⟨k - 1,by omega⟩
    have hw:wrap64 (a+i)=a+i:=w64 (by omega) (by omega)
    have hlt:(a+i).toNat<p.length:=by omega
    rw [bu.l0,if_pos (by omega),hw,if_pos (by omega),if_pos (by omega),w64 (n:=i+1) (by omega) (by omega),ih k _ (i+1) (by omega) (by omega) (by omega) (by omega),List.drop_eq_getElem_cons hlt,List.take_succ_cons,List.foldl_cons,show (a+(i+1)).toNat=(a+i).toNat+1 by omega]
    unfold rd
    rw [List.getD_eq_getElem?_getD,List.getElem?_eq_getElem hlt];rfl
theorem oI (p:List Int) (k s:Int) (h0:0≤k) (h1:k<2 ^ 62) (hl:p.length<2 ^ 62) (hs:s=1∨s=2∨s=4):rdP p (IntKind.u64.wrap k) s=((rdG p k s).1,okF (rdG p k s).2):=by
  have hk:IntKind.u64.wrap k=k:=by rw [IntKind.wrap_u64];omega
  have hL:IntKind.u64.wrap (p.length:Int)=p.length:=by rw [IntKind.wrap_u64];omega
  unfold rdP gU.f
  rw [hk,hL,w64 (n:=k) (by omega) (by omega)]
  by_cases hb:k>(p.length:Int)
  · rw [if_pos hb]
    have:rdG p k s=(0,false):=by unfold rdG;rw [if_neg (by omega)]
    rw [this];rfl
  rw [if_neg hb]
  have hin:gQ.f (p.length:Int) k s=some (decide (k+s≤p.length)):=by
    unfold gQ.f
    rw [if_pos h0,if_pos (by omega)]
    by_cases h2:s≤(p.length:Int)
    · rw [if_pos h2,w64 (n:=(p.length:Int) - s) (by omega) (by omega)]
      exact congrArg some (decide_eq_decide.2 (by omega))
    · rw [if_neg h2,decide_eq_false (by omega)]
  have hget:bu.f 10 p k s=some (rdG p k s):=by
    have hj:bu.j0 10 p k s (!decide (k+s≤(p.length:Int)))=some (rdG p k s):=by
      rw [bu.j0]
      unfold rdG
      by_cases h:k+s≤(p.length:Int)
      · rw [decide_eq_true h,if_pos h,if_neg (by decide),yw p k s h0 h (by omega) hl (s - 0).toNat 9 0 0 rfl (by omega) (by omega) (by omega)]
        unfold be4
        rw [List.drop_take,show (k+0).toNat=k.toNat by omega,show (k+s).toNat - k.toNat=(s - 0).toNat by omega]
      · rw [decide_eq_false h,if_neg h];rfl
    unfold bu.f
    rw [hin]
    rcases hs with rfl | rfl | rfl
    · exact hj
    · exact hj
    · exact hj
  rw [hget]
  cases h:(rdG p k s).2
  · have:(rdG p k s).1=0:=by
      unfold rdG at h ⊢
      split
      · rename_i hc;rw [if_pos hc] at h;cases h
      · rfl
    show (if (rdG p k s).2=true then some ((rdG p k s).1,(0:Int)) else some ((0:Int),(1:Int))).getD (0,0)=_
    rw [h,this];rfl
  · show (if (rdG p k s).2=true then some ((rdG p k s).1,(0:Int)) else some ((0:Int),(1:Int))).getD (0,0)=_
    rw [h];rfl
theorem wh (c a b:Int) (ha:Rg a) (hb:Rg b):aZ.f c a b=some ((opP c a b).1,decide ((opP c a b).2=0))∧((opP c a b).2=0∨(opP c a b).2=2):=by
  have hs1:bP.f a b true=some (shl .u32 a b):=by
    unfold bP.f
    by_cases h:b>31
    · rw [if_pos h]
      unfold shl
      rw [show min b.toNat IntKind.u32.bits=32 from by show min b.toNat 32=32;omega,IntKind.wrap_u32]
      exact congrArg some (by omega)
    · rw [if_neg h,if_pos rfl,if_pos hb.1]
  have hs2:bP.f a b false=some (shr .u32 a b):=by
    unfold bP.f
    by_cases h:b>31
    · rw [if_pos h]
      unfold shr
      rw [show min b.toNat IntKind.u32.bits=32 from by show min b.toNat 32=32;omega]
      exact congrArg some (by have:=ha.1;have:=ha.2;omega)
    · rw [if_neg h,if_neg (by decide),if_pos hb.1]
  unfold opP aZ.f eH.f
  rw [hs1,hs2]
  generalize Go.bits .andNot .u16 c 8=d
  by_cases c1:d=4
  · rw [if_pos c1,if_pos c1];exact ⟨rfl,.inl rfl⟩
  rw [if_neg c1,if_neg c1]
  by_cases c2:d=20
  · rw [if_pos c2,if_pos c2];exact ⟨rfl,.inl rfl⟩
  rw [if_neg c2,if_neg c2]
  by_cases c3:d=36
  · rw [if_pos c3,if_pos c3];exact ⟨rfl,.inl rfl⟩
  rw [if_neg c3,if_neg c3]
  by_cases c4:d=68
  · rw [if_pos c4,if_pos c4];exact ⟨rfl,.inl rfl⟩
  rw [if_neg c4,if_neg c4]
  by_cases c5:d=84
  · rw [if_pos c5,if_pos c5];exact ⟨rfl,.inl rfl⟩
  rw [if_neg c5,if_neg c5]
  by_cases c6:d=164
  · rw [if_pos c6,if_pos c6];exact ⟨rfl,.inl rfl⟩
  rw [if_neg c6,if_neg c6]
  by_cases c7:d=100
  · rw [if_pos c7,if_pos c7,if_pos hb.1];exact ⟨rfl,.inl rfl⟩
  rw [if_neg c7,if_neg c7]
  by_cases c8:d=116
  · rw [if_pos c8,if_pos c8,if_pos hb.1];exact ⟨rfl,.inl rfl⟩
  rw [if_neg c8,if_neg c8]
  by_cases c9:b=0
  · rw [if_pos c9,if_pos c9];exact ⟨rfl,.inr rfl⟩
  rw [if_neg c9,if_neg c9]
  by_cases ca:d=52
  · rw [if_pos ca,if_pos ca];exact ⟨rfl,.inl rfl⟩
  rw [if_neg ca,if_neg ca];exact ⟨rfl,.inl rfl⟩
def GP (w:World) (gm T:Nat) (M:bg) (i:S45) (pk:List Int) (P:Value) (R:List Value):Ending→World→Prop:=fun e w'=>e = .returned (.tuple #[])∧Kp (fun k=>k=gm) w w'∧∃ M1,PM w' gm T M1 P (bH i pk M).2 R∧((bH i pk M).2=0→M1=(bH i pk M).1)
theorem jB {w:World} {gm T:Nat} {M M1:bg} {i:S45} {pk:List Int} {P:Value} {R:List Value} {e:Ending} {w':World} {f:Int} (h:SP w gm T M1 P f R e w') (hf:(bH i pk M).2=f) (hm:f=0→M1=(bH i pk M).1):GP w gm T M i pk P R e w':=
  ⟨h.1,h.2.2,M1,by rw [hf];exact h.2.1,fun h0=>hm (by rw [←hf];exact h0)⟩
theorem mg {w:World} {gm T:Nat} {M:bg} {i:S45} {pk:List Int} {P:Value} {R:List Value} {e:Ending} {w':World} {r:Int × Bool} (h:SP w gm T (ldA M r) P (okF r.2) R e w') (hq:bH i pk M=({M with a:=r.1},okF r.2)):GP w gm T M i pk P R e w':=
  jB h (by rw [hq]) (fun h0=>by
    rw [hq]
    obtain ⟨v,ok⟩:=r
    cases ok
    · cases h0
    · rfl)
def wS (fk:Nat) (i:S45):Prop:=∀ (w:World) (gm T:Nat) (M:bg) (p:List Int) (A:Option Addr) (c:Nat) (R:List Value),PM w gm T M (.slice A p.length c) 0 R→Kd.C (Kd.int .u8) w A p.length p→p.length≤c→p.length<2 ^ 62→MB M →
  Calls Try.prog fk #[.pointer (some ⟨gm,0,none⟩),.agg #[.int .u16 i.f0,.int .u8 i.f1,.int .u8 i.f2,.int .u32 i.f3]] w (GP w gm T M i p (.slice A p.length c) R)
structure wJ (f:Nat):Prop where
  ok:∃ fn,Try.prog.funcs[f]?=some fn∧(fn.name == "runtime.NumGoroutine")=false∧fn.body.isSome=true
theorem fn_ok:wJ 119∧∀ p∈tbB,wJ p.2:=by
  refine ⟨⟨_,Try.func119,by kernel_rfl,rfl⟩,fun p hp=>?_⟩
  simp only [tbB,List.mem_cons,List.not_mem_nil,or_false] at hp
  rcases hp with rfl | rfl | rfl | rfl | rfl | rfl | rfl | rfl | rfl | rfl | rfl | rfl | rfl | rfl | rfl | rfl | rfl | rfl
  · exact ⟨_,Try.func101,by kernel_rfl,rfl⟩
  · exact ⟨_,Try.func102,by kernel_rfl,rfl⟩
  · exact ⟨_,Try.func103,by kernel_rfl,rfl⟩
  · exact ⟨_,Try.func104,by kernel_rfl,rfl⟩
  · exact ⟨_,Try.func105,by kernel_rfl,rfl⟩
  · exact ⟨_,Try.func106,by kernel_rfl,rfl⟩
  · exact ⟨_,Try.func107,by kernel_rfl,rfl⟩
  · exact ⟨_,Try.func108,by kernel_rfl,rfl⟩
  · exact ⟨_,Try.func109,by kernel_rfl,rfl⟩
  · exact ⟨_,Try.func110,by kernel_rfl,rfl⟩
  · exact ⟨_,Try.func111,by kernel_rfl,rfl⟩
  · exact ⟨_,Try.func112,by kernel_rfl,rfl⟩
  · exact ⟨_,Try.func113,by kernel_rfl,rfl⟩
  · exact ⟨_,Try.func114,by kernel_rfl,rfl⟩
  · exact ⟨_,Try.func115,by kernel_rfl,rfl⟩
  · exact ⟨_,Try.func116,by kernel_rfl,rfl⟩
  · exact ⟨_,Try.func117,by kernel_rfl,rfl⟩
  · exact ⟨_,Try.func118,by kernel_rfl,rfl⟩
theorem Au (c i1 i2 k:Int) (hc:c∈dO∨c∈eZ) (hk:Rg k):wS 119 ⟨c,i1,i2,k⟩:=by
  intro w gm T M p A c0 R h hP hcc hl hM
  have hbx:byX c=(Go.bits .and .u16 c 8 != 0):=by
    have H:∀ x∈dO++eZ,byX x=(Go.bits .and .u16 x 8 != 0):=by decide +kernel
    exact H c (List.mem_append.2 hc)
  have hst:=oO c i1 i2 k hc p M
  rw [hbx] at hst
  have hy:Rg (if (Go.bits .and .u16 c 8 != 0)=true then M.x else k):=by split;exact hM.x;exact hk
  obtain ⟨h1,h2⟩:=wh c M.a _ hM.a hy
  refine (g_alu w gm T M c i1 i2 k _ _ _ R h h1).mono (fun e w' hh=>jB hh ?_ ?_)
  · rw [hst]
    dsimp only
    rcases h2 with h2 | h2
    · rw [h2];rfl
    · rw [h2];rfl
  · rw [hst]
    dsimp only
    rcases h2 with h2 | h2
    · rw [h2];exact fun _=>rfl
    · rw [h2];intro h;cases h
theorem step_g (i:S45) (arr:Array Value) (hT:TB arr 10) (hs:stB i.f0 i.f3=true) (hk:Rg i.f3):∃ fk,arr[i.f0.toNat]?=some (fnV fk)∧wJ fk∧wS fk i∧0≤i.f0∧i.f0<256:=by
  obtain ⟨c,i1,i2,k⟩:=i
  obtain ⟨hm,h16,-,-⟩:=fM hs
  dsimp only at hs hk hm h16 ⊢
  have hrg:0≤c∧c<256:=by
    have H:∀ x∈stL,0≤x∧x<256:=by decide
    exact H c hm
  suffices hh:∃ fk,arr[c.toNat]?=some (fnV fk)∧wJ fk∧wS fk ⟨c,i1,i2,k⟩ by
    obtain ⟨fk,h1,h2,h3⟩:=hh
    exact ⟨fk,h1,h2,h3,hrg⟩
  by_cases ha:c∈dO∨c∈eZ
  · refine ⟨_,?_,fn_ok.1,Au c i1 i2 k ha hk⟩
    have H:∀ x∈dO++eZ,∃ j<10,x.toNat=tbC.getD j 0∨x.toNat=tbC.getD j 0+8:=by decide
    obtain ⟨j,hj,e⟩:=H c (List.mem_append.2 ha)
    rcases e with e | e
    · rw [e];exact (hT.alu j hj).1
    · rw [e];exact (hT.alu j hj).2
  have hk1:k<4294967296:=hk.2
  have hx:∀ M:bg,MB M→0≤M.x∧M.x<4294967296:=fun M h=>h.x
  have hb:∀ n fk,(n,fk)∈tbB→arr[n]?=some (fnV fk):=fun n fk h=>hT.base _ h
  have ho:∀ n fk,(n,fk)∈tbB→wJ fk:=fun n fk h=>fn_ok.2 _ h
  have hix:∀ {q:Int},q<16→0≤q→ix q=q.toNat:=fun h1 h0=>jO h0 h1
  have hu:∀ (M:bg),MB M→IntKind.u64.wrap (IntKind.u64.wrap k+IntKind.u64.wrap M.x)=IntKind.u64.wrap (M.x+k):=fun M h=>by
    have:=hx M h;have:=hk.1
    simp only [IntKind.wrap_u64];omega
  simp only [stL,List.mem_cons,List.not_mem_nil,or_false] at hm
  rcases hm with rfl | rfl | rfl | rfl | rfl | rfl | rfl | rfl | rfl | rfl | rfl | rfl | rfl | rfl | rfl | rfl | rfl | rfl | hm
  · exact ⟨_,hb 0 _ (by decide),ho 0 _ (by decide),fun w gm T M p A c0 R h hP hcc hl hM=>(g_ldImm w gm T M 0 i1 i2 k p A c0 R h).mono (fun e w' hh=>jB hh rfl (fun _=>rfl))⟩
  · exact ⟨_,hb 32 _ (by decide),ho 32 _ (by decide),fun w gm T M p A c0 R h hP hcc hl hM=>(yg w gm T M 32 i1 i2 k p A c0 R h hP hcc hl hk.1 hk1).mono (fun e w' hh=>mg hh (by show ({M with a:=(rdP p (IntKind.u64.wrap k) 4).1},(rdP p (IntKind.u64.wrap k) 4).2)=_;rw [oI p k 4 hk.1 (by omega) hl (by decide)]))⟩
  · exact ⟨_,hb 40 _ (by decide),ho 40 _ (by decide),fun w gm T M p A c0 R h hP hcc hl hM=>(yf w gm T M 40 i1 i2 k p A c0 R h hP hcc hl hk.1 hk1).mono (fun e w' hh=>mg hh (by show ({M with a:=(rdP p (IntKind.u64.wrap k) 2).1},(rdP p (IntKind.u64.wrap k) 2).2)=_;rw [oI p k 2 hk.1 (by omega) hl (by decide)]))⟩
  · exact ⟨_,hb 48 _ (by decide),ho 48 _ (by decide),fun w gm T M p A c0 R h hP hcc hl hM=>(yc w gm T M 48 i1 i2 k p A c0 R h hP hcc hl hk.1 hk1).mono (fun e w' hh=>mg hh (by show ({M with a:=(rdP p (IntKind.u64.wrap k) 1).1},(rdP p (IntKind.u64.wrap k) 1).2)=_;rw [oI p k 1 hk.1 (by omega) hl (by decide)]))⟩
  · exact ⟨_,hb 64 _ (by decide),ho 64 _ (by decide),fun w gm T M p A c0 R h hP hcc hl hM=>(yl w gm T M 64 i1 i2 k p A c0 R h hP hcc hl hk.1 hk1 (hx M hM).1 (hx M hM).2).mono (fun e w' hh=>mg hh (by show ({M with a:=(rdP p (IntKind.u64.wrap (IntKind.u64.wrap k+IntKind.u64.wrap M.x)) 4).1},(rdP p (IntKind.u64.wrap (IntKind.u64.wrap k+IntKind.u64.wrap M.x)) 4).2)=_;rw [hu M hM,oI p (M.x+k) 4 (by have:=hx M hM;have:=hk.1;omega) (by have:=hx M hM;omega) hl (by decide)]))⟩
  · exact ⟨_,hb 72 _ (by decide),ho 72 _ (by decide),fun w gm T M p A c0 R h hP hcc hl hM=>(yj w gm T M 72 i1 i2 k p A c0 R h hP hcc hl hk.1 hk1 (hx M hM).1 (hx M hM).2).mono (fun e w' hh=>mg hh (by show ({M with a:=(rdP p (IntKind.u64.wrap (IntKind.u64.wrap k+IntKind.u64.wrap M.x)) 2).1},(rdP p (IntKind.u64.wrap (IntKind.u64.wrap k+IntKind.u64.wrap M.x)) 2).2)=_;rw [hu M hM,oI p (M.x+k) 2 (by have:=hx M hM;have:=hk.1;omega) (by have:=hx M hM;omega) hl (by decide)]))⟩
  · exact ⟨_,hb 80 _ (by decide),ho 80 _ (by decide),fun w gm T M p A c0 R h hP hcc hl hM=>(yh w gm T M 80 i1 i2 k p A c0 R h hP hcc hl hk.1 hk1 (hx M hM).1 (hx M hM).2).mono (fun e w' hh=>mg hh (by show ({M with a:=(rdP p (IntKind.u64.wrap (IntKind.u64.wrap k+IntKind.u64.wrap M.x)) 1).1},(rdP p (IntKind.u64.wrap (IntKind.u64.wrap k+IntKind.u64.wrap M.x)) 1).2)=_;rw [hu M hM,oI p (M.x+k) 1 (by have:=hx M hM;have:=hk.1;omega) (by have:=hx M hM;omega) hl (by decide)]))⟩
  · exact ⟨_,hb 96 _ (by decide),ho 96 _ (by decide),fun w gm T M p A c0 R h hP hcc hl hM=>(g_ldMem w gm T M 96 i1 i2 k _ p A c0 R h rfl hk.1 (h16 (by omega))).mono (fun e w' hh=>jB hh rfl (fun _=>by show _=({M with a:=M.m.getD (ix k) 0}:bg);rw [hix (h16 (by omega)) hk.1]))⟩
  · exact ⟨_,hb 128 _ (by decide),ho 128 _ (by decide),fun w gm T M p A c0 R h hP hcc hl hM=>(g_ldLen w gm T M 128 i1 i2 k p A c0 R h).mono (fun e w' hh=>jB hh rfl (fun _=>by show _=({M with a:=IntKind.u32.wrap (p.length:Int)}:bg);rw [IntKind.wrap_u32]))⟩
  · exact ⟨_,hb 1 _ (by decide),ho 1 _ (by decide),fun w gm T M p A c0 R h hP hcc hl hM=>(ym w gm T M 1 i1 i2 k p A c0 R h).mono (fun e w' hh=>jB hh rfl (fun _=>rfl))⟩
  · exact ⟨_,hb 97 _ (by decide),ho 97 _ (by decide),fun w gm T M p A c0 R h hP hcc hl hM=>(yt w gm T M 97 i1 i2 k _ p A c0 R h rfl hk.1 (h16 (by omega))).mono (fun e w' hh=>jB hh rfl (fun _=>by show _=({M with x:=M.m.getD (ix k) 0}:bg);rw [hix (h16 (by omega)) hk.1]))⟩
  · exact ⟨_,hb 129 _ (by decide),ho 129 _ (by decide),fun w gm T M p A c0 R h hP hcc hl hM=>(yo w gm T M 129 i1 i2 k p A c0 R h).mono (fun e w' hh=>jB hh rfl (fun _=>by show _=({M with x:=IntKind.u32.wrap (p.length:Int)}:bg);rw [IntKind.wrap_u32]))⟩
  · refine ⟨_,hb 177 _ (by decide),ho 177 _ (by decide),fun w gm T M p A c0 R h hP hcc hl hM=>(yu w gm T M 177 i1 i2 k p A c0 R h hP hcc hl hk.1 hk1).mono (fun e w' hh=>?_)⟩
    have hq:bH ⟨177,i1,i2,k⟩ p M=({M with x:=IntKind.u32.wrap (4*Go.bits .and .u32 (rdG p k 1).1 15)},okF (rdG p k 1).2):=by
      show ({M with x:=IntKind.u32.wrap (4*Go.bits .and .u32 (rdP p (IntKind.u64.wrap k) 1).1 15)},(rdP p (IntKind.u64.wrap k) 1).2)=_
      rw [oI p k 1 hk.1 (by omega) hl (by decide)]
    refine jB hh (by rw [hq]) (fun h0=>?_)
    rw [hq]
    generalize rdG p k 1=r at *
    obtain ⟨v,ok⟩:=r
    cases ok
    · cases h0
    · show ({M with x:=4*Go.bits .and .u32 v 15 % 4294967296}:bg)={M with x:=IntKind.u32.wrap (4*Go.bits .and .u32 v 15)}
      rw [IntKind.wrap_u32]
  · exact ⟨_,hb 2 _ (by decide),ho 2 _ (by decide),fun w gm T M p A c0 R h hP hcc hl hM=>(g_st w gm T M 2 i1 i2 k _ p A c0 R h rfl hk.1 (h16 (by omega))).mono (fun e w' hh=>jB hh rfl (fun _=>by show _=({M with m:=M.m.set (ix k) M.a}:bg);rw [hix (h16 (by omega)) hk.1]))⟩
  · exact ⟨_,hb 3 _ (by decide),ho 3 _ (by decide),fun w gm T M p A c0 R h hP hcc hl hM=>(g_stx w gm T M 3 i1 i2 k _ p A c0 R h rfl hk.1 (h16 (by omega))).mono (fun e w' hh=>jB hh rfl (fun _=>by show _=({M with m:=M.m.set (ix k) M.x}:bg);rw [hix (h16 (by omega)) hk.1]))⟩
  · exact ⟨_,hb 132 _ (by decide),ho 132 _ (by decide),fun w gm T M p A c0 R h hP hcc hl hM=>(g_neg w gm T M 132 i1 i2 k p A c0 R h).mono (fun e w' hh=>jB hh rfl (fun _=>by show _=({M with a:=IntKind.u32.wrap (-M.a)}:bg);rw [IntKind.wrap_u32]))⟩
  · exact ⟨_,hb 7 _ (by decide),ho 7 _ (by decide),fun w gm T M p A c0 R h hP hcc hl hM=>(g_tax w gm T M 7 i1 i2 k p A c0 R h).mono (fun e w' hh=>jB hh rfl (fun _=>rfl))⟩
  · exact ⟨_,hb 135 _ (by decide),ho 135 _ (by decide),fun w gm T M p A c0 R h hP hcc hl hM=>(g_txa w gm T M 135 i1 i2 k p A c0 R h).mono (fun e w' hh=>jB hh rfl (fun _=>rfl))⟩
  · exact absurd (by rcases hm with h | h | h | h | h | h | h | h | h | h | h | h | h | h | h | h | h | h | h | h<;>subst h<;>decide) ha
theorem goesV_ {P:Program} {ops:Array Oper} {Q:Exit→Act→World→Prop} {oi:Oper} {N:Option Tmp} {a:Act} {w:World} {K:Act→World→Prop} {f:FuncId} {fn:Func} {az:Array Operand} {ts:Array TypeId} (t:Tmp) (hf:P.funcs[f]?=some fn) (hname:(fn.name == "runtime.NumGoroutine")=false) (hb:fn.body.isSome=true) (args:Array Value)
    (hw:Region.wanted oi (yielded ops a.tmps)=true) (hN:oi.dst=N) (hop:oi.op = .call {callee := .value (.tmp t),args:=az,argTypes:=ts}) (hv:a.eval (.tmp t) = .func (.func f) #[] #[]) (hargs:az.map a.eval=args)
    (h:Calls P f args w fun e w'=>∃ v,e = .returned v∧K (a.put N v) w'):if Region.wanted oi (yielded ops a.tmps)=true then Oper.wp P oi a w K Q else K (a.put N undef) w:=by
  refine call_ f args hw hN ?_ h
  have he:=uI hf hname hb args w
  unfold execOp
  simp [hop,resolve,Deferred.ofValue,invoke,hv,hargs,he]
structure RR (w0 w:World) (gr gd:Nat) (arr:Array Value) (M:bg) (P:Value) (f s v:Int):Prop where
  m:PM w gr 106 M P f [.int .i64 s,.int .u32 v]
  t:w.heap[gd]?=some (.cells arr 143 (0,0))
  low:Below w0.heap.size w0 w
  gr:w0.heap.size≤gr
section
variable {w0 w w1:World} {gr gd:Nat} {arr:Array Value} {M M1:bg} {P:Value} {f f1 s s1 v v1:Int}
theorem RR.below (h:RR w0 w gr gd arr M P f s v) (hb:Below w.heap.size w w1):RR w0 w1 gr gd arr M P f s v:=⟨h.m.below hb,ak h.t hb,au h.low hb,h.gr⟩
theorem RR.kp (h:RR w0 w gr gd arr M P f s v) (hk:Kp (fun k=>k=gr) w w1) (hm:PM w1 gr 106 M1 P f1 [.int .i64 s1,.int .u32 v1]):RR w0 w1 gr gd arr M1 P f1 s1 v1:=
  ⟨hm,(hk.block gd (ay h.t) (bF h.t h.m.me (by decide))).trans h.t,hk.gW h.low h.low.size (fun k e=>e ▸ h.gr),h.gr⟩
end
structure SR (w0 w wr:World) (gr gd:Nat) (arr:Array Value) (pk:List Int) (P:Value) (c:List S45) (M:bg) (s0 v:Int) (M2:bg) (f s:Int) (j:Nat):Prop where
  r:RR w0 wr gr gd arr M2 P f s v
  k:Kp (fun k=>k=gr) w wr
  go:f=0→gZ pk (c.drop j) M2 s=gZ pk c M s0∧MB M2
  no:f≠0→(gZ pk c M s0).2=(s,f)
theorem mW (w0 w:World) (gr gd:Nat) (arr:Array Value) (M:bg) (s0 v:Int) (c:List S45) (A:Option Addr) (cap:Nat) (pk:List Int) (Ap:Option Addr) (cp:Nat) (hT:TB arr 10) (hR:RR w0 w gr gd arr M (.slice Ap pk.length cp) 0 s0 v) (hM:MB M)
    (hC:Kd.C k45 w0 A c.length c) (hcl:c.length≤4096) (hP:Kd.C (Kd.int .u8) w0 Ap pk.length pk) (hcp:pk.length≤cp) (hpl:pk.length<2 ^ 62) (hst:∀ i∈c,stB i.f0 i.f3=true∧Rg i.f3) :
    Calls Try.prog 70 #[.pointer (some ⟨gr,0,none⟩),.slice A c.length cap,.pointer (some ⟨gd,0,none⟩)] w fun e w'=>e = .returned (.tuple #[])∧Kp (fun k=>k=gr) w w'∧∃ M1,RR w0 w' gr gd arr M1 (.slice Ap pk.length cp) (gZ pk c M s0).2.2 (gZ pk c M s0).2.1 v∧((gZ pk c M s0).2.2=0→M1=(gZ pk c M s0).1∧MB M1):=by
  have HS0:aa (SR w0 w w gr gd arr pk (.slice Ap pk.length cp) c M s0 v M 0 s0 0):=⟨⟨hR,Kp.refl _ _,fun _=>⟨rfl,hM⟩,fun h=>absurd rfl h⟩⟩
  have HC:=aa.mk hC
  have HPK:=aa.mk (And.intro hP (And.intro hcp hpl))
  have HST:=aa.mk hst
  have HT:=aa.mk hT
  clear hT hR hM hC hP hcp hpl hst
  go_enter Try.func70,Try.ntmps70
  go_wp2
  go_loopw [10] (fun v10 wr=>∃ (j:Nat) (M2:bg) (f s:Int),j≤c.length∧v10 = .int .i64 j∧aa (SR w0 w wr gr gd arr pk (.slice Ap pk.length cp) c M s0 v M2 f s j)) (fun v10 _=>c.length - (intOf v10).toNat)
  case atStart=>exact ⟨0,M,0,s0,Nat.zero_le _,rfl,HS0⟩
  case round=>
    clear HS0
    obtain ⟨j,M2,f,s,hj,rfl,HS⟩:=hrel
    obtain ⟨X,rfl⟩:∃ X:World,X=wr:=⟨_,rfl⟩
    by_cases hlt:j<c.length
    · obtain ⟨i,hi⟩:∃ i,c[j]?=some i:=⟨_,List.getElem?_eq_getElem hlt⟩
      have hrd:bX c (j:Int)=i:=by
        obtain ⟨h1,h2⟩:=List.getElem?_eq_some_iff.1 hi
        rw [zR h1,h2]
      have hdr:c.drop j=i :: c.drop (j+1):=by
        obtain ⟨h1,h2⟩:=List.getElem?_eq_some_iff.1 hi
        rw [List.drop_eq_getElem_cons h1,h2]
      have i0:(0:Int)≤(j:Int):=by omega
      have j1:(j:Int)<(c.length:Int):=by omega
      have HB:aa (Below w0.heap.size w0 X):=⟨HS.out.r.low⟩
      obtain ⟨ad,rfl,x0,x1,x2,x3,-,-⟩:=zP HC HB (j:Int) (decide_eq_true i0) (decide_eq_true j1)
      rw [hrd,Int.toNat_natCast] at x0 x1 x2 x3
      obtain ⟨fk,hfk,hok,hsc,hc0,hc1⟩:=step_g i arr HT.out (HST.out i (List.mem_of_getElem? hi)).1 (HST.out i (List.mem_of_getElem? hi)).2
      have HFN:=aa.mk hok
      have HD:=aa.mk (And.intro hdr (HST.out i (List.mem_of_getElem? hi)).2)
      obtain ⟨cc,i1,i2,k⟩:=i
      dsimp only at x0 x1 x2 x3 hfk hc0 hc1
      have HFK:=aa.mk hfk
      have HSG:=aa.mk hsc
      clear hi hrd hdr hfk hok hsc
      have cf:=(ae HS.out.r.m.me 19).trans (vS M2 _ _ _ HS.out.r.m.len)
      go_upto_region 3 with (fail)
      refine forget (fun Y=>∃ gi,gi=X.heap.size∧Below X.heap.size X Y∧BX Y gi gr 106 cc i1 i2 k (cB M2 (.slice Ap pk.length cp) f [.int .i64 s,.int .u32 v])) ⟨_,rfl,ai (Below.refl _ _) _,heap_alloc_new _ _,(HS.out.r.m.below (ai (Below.refl _ _) _)).me⟩ ?_
      clear x0 x1 x2 x3 HB cf
      rintro Y ⟨gi,egi,hb,hx⟩
      rw [←egi]
      have HG:=aa.mk (show gr≠gi by have:=ay HS.out.r.m.me;omega)
      have HR:=aa.mk (And.intro (HS.out.r.below hb) (And.intro (HS.out.k.below hb) hx.ci))
      have cf:=(ae (HS.out.r.below hb).m.me 19).trans (vS M2 _ _ _ HS.out.r.m.len)
      have cs:=(ae (HS.out.r.below hb).m.me 20).trans (vT M2 _ _ _ HS.out.r.m.len 0)
      have fs:=ah (HS.out.r.below hb).m.me 20
      dsimp only [List.getElem?_cons_zero] at cs
      clear egi hb hx
      by_cases hf:f=0
      · subst hf
        go_upto_region 5 with (fail)
        refine forget (fun Z=>BX Z gi gr 106 cc i1 i2 k (cB M2 (.slice Ap pk.length cp) 0 [.int .i64 (wrap64 (s+1)),.int .u32 v])∧RR w0 Z gr gd arr M2 (.slice Ap pk.length cp) 0 (wrap64 (s+1)) v∧Kp (fun k=>k=gr) w Z)
          ⟨⟨bN HR.out.2.2 (by exact HG.out.symm) _,(HR.out.1.m.Ao 0 (.int .i64 (wrap64 (s+1)))).me⟩,HR.out.1.kp (Kp.set (S:=fun k=>k=gr) (g:=gr) (Kp.refl _ Y) (.inl rfl) 20 _) (HR.out.1.m.Ao 0 (.int .i64 (wrap64 (s+1)))),Kp.set (S:=fun k=>k=gr) (g:=gr) HR.out.2.1 (.inl rfl) 20 _⟩ ?_
        clear cf cs fs HR
        rintro Z ⟨hx,hr,hk⟩
        have HX:=aa.mk hx
        have HXM:=aa.mk hr.m
        have HXB:=aa.mk hr.low
        have HZ:=aa.mk (And.intro hr hk)
        have hfn:Z.cell? ⟨gd,cc.toNat,none⟩=some (.func (.func fk) #[] #[]):=(ae hr.t cc.toNat).trans HFK.out
        have HGO:=aa.mk (HS.out.go rfl)
        have HSC:=aa.mk (fun (W:World) (h1:PM W gr 106 M2 (.slice Ap pk.length cp) 0 [.int .i64 (wrap64 (s+1)),.int .u32 v]) (h2:Below w0.heap.size w0 W)=>HSG.out W gr 106 M2 pk Ap cp _ h1 (Kd.bY HPK.out.1 h2) HPK.out.2.1 HPK.out.2.2 HGO.out.2)
        clear hx hr hk HSG HFK
        refine jK (n:=11) (S:=fun w'=>w'.cell? ⟨gi,0,none⟩=some (.int .u16 cc)∧w'.cell? ⟨gi,1,none⟩=some (.int .u8 i1)∧w'.cell? ⟨gi,2,none⟩=some (.int .u8 i2)∧w'.cell? ⟨gi,3,none⟩=some (.int .u32 k)∧w'.cell? ⟨gd,cc.toNat,none⟩=some (.func (.func fk) #[] #[])) (ds:=[10]) #[false,false,false,false,false,false,false,false,false,false,false] (by kernel_rfl) rfl rfl ⟨(HX.out.below (by repeat (first | (with_reducible exact Below.refl _ _) | apply aj | apply af))).k0,(HX.out.below (by repeat (first | (with_reducible exact Below.refl _ _) | apply aj | apply af))).k1,(HX.out.below (by repeat (first | (with_reducible exact Below.refl _ _) | apply aj | apply af))).k2,(HX.out.below (by repeat (first | (with_reducible exact Below.refl _ _) | apply aj | apply af))).k3,(ax (by repeat (first | (with_reducible exact Below.refl _ _) | apply aj | apply af)) hfn)⟩ (fun hHeld=>?_)
        refine bG (i:=0) (N:=some 27) (v:=?_) (a':=?_) #[true,false,false,false,false,false,false,false,false,false,false] rfl rfl (by kernel_rfl) (fun _ _ _ h=>h) (Or.inl ⟨by rfl,?_⟩) ?_ ?_
        rotate_left
        · intro w'
          go_simp
          with_reducible rfl
        rotate_left
        · simp only [Act.put,List.setIfInBounds_toArray,List.set_cons_zero,List.set_cons_succ,aQ,aN]
          rfl
        refine bG (i:=1) (N:=some 28) (v:=?_) (a':=?_) #[true,true,false,false,false,false,false,false,false,false,false] rfl rfl (by kernel_rfl) (fun _ _ _ h=>h) (Or.inl ⟨by rfl,?_⟩) ?_ ?_
        rotate_left
        · intro w'
          go_simp
          with_reducible rfl
        rotate_left
        · simp only [Act.put,List.setIfInBounds_toArray,List.set_cons_zero,List.set_cons_succ,aQ,aN]
          rfl
        refine bG (i:=3) (N:=some 30) (v:=?_) (a':=?_) #[true,true,false,true,false,false,false,false,false,false,false] rfl rfl (by kernel_rfl) (fun _ _ _ h=>h) (Or.inl ⟨by rfl,?_⟩) ?_ ?_
        rotate_left
        · intro w'
          go_simp
          with_reducible rfl
        rotate_left
        · simp only [Act.put,List.setIfInBounds_toArray,List.set_cons_zero,List.set_cons_succ,aQ,aN]
          rfl
        refine bG (i:=6) (N:=some 33) (v:=?_) (a':=?_) #[true,true,false,true,false,false,true,false,false,false,false] rfl rfl (by kernel_rfl) (fun _ _ _ h=>h) (Or.inl ⟨by rfl,?_⟩) ?_ ?_
        rotate_left
        · intro w'
          go_simp
          with_reducible rfl
        rotate_left
        · simp only [Act.put,List.setIfInBounds_toArray,List.set_cons_zero,List.set_cons_succ,aQ,aN]
          rfl
        refine bG (i:=7) (N:=some 34) (v:=?_) (a':=?_) #[true,true,false,true,false,false,true,true,false,false,false] rfl rfl (by kernel_rfl) (fun _ _ _ h=>h) (Or.inl ⟨by rfl,?_⟩) ?_ ?_
        rotate_left
        · intro w'
          go_simp
          with_reducible rfl
        rotate_left
        · simp only [Act.put,List.setIfInBounds_toArray,List.set_cons_zero,List.set_cons_succ,aQ,aN]
          rfl
        refine bG (i:=8) (N:=some 35) (v:=?_) (a':=?_) #[true,true,false,true,false,false,true,true,true,false,false] rfl rfl (by kernel_rfl) (fun _ _ _ h=>h) (Or.inl ⟨by rfl,?_⟩) ?_ ?_
        rotate_left
        · intro w'
          go_simp
          with_reducible rfl
        rotate_left
        · simp only [Act.put,List.setIfInBounds_toArray,List.set_cons_zero,List.set_cons_succ,aQ,aN]
          rfl
        refine fI (i:=2) (N:=some 29) (v:=?_) (a':=?_) #[true,true,true,true,false,false,true,true,true,false,false] rfl rfl (by kernel_rfl) (fun _ _ _ h=>h) (Or.inl ⟨by rfl,?_⟩) hHeld ?_ ?_
        rotate_left
        · rintro w' ⟨s0,s1,s2,s3,s4⟩
          go_simp
          with_reducible rfl
        rotate_left
        · simp only [Act.put,List.setIfInBounds_toArray,List.set_cons_zero,List.set_cons_succ,aQ,aN]
          rfl
        refine bG (i:=4) (N:=some 31) (v:=?_) (a':=?_) #[true,true,true,true,true,false,true,true,true,false,false] rfl rfl (by kernel_rfl) (fun _ _ _ h=>h) (Or.inl ⟨by rfl,?_⟩) ?_ ?_
        rotate_left
        · intro w'
          go_simp
          with_reducible rfl
        rotate_left
        · simp only [Act.put,List.setIfInBounds_toArray,List.set_cons_zero,List.set_cons_succ,aQ,aN]
          rfl
        refine fI (i:=5) (N:=some 32) (v:=?_) (a':=?_) #[true,true,true,true,true,true,true,true,true,false,false] rfl rfl (by kernel_rfl) (fun _ _ _ h=>h) (Or.inl ⟨by rfl,?_⟩) hHeld ?_ ?_
        rotate_left
        · rintro w' ⟨s0,s1,s2,s3,s4⟩
          go_simp
          with_reducible rfl
        rotate_left
        · simp only [Act.put,List.setIfInBounds_toArray,List.set_cons_zero,List.set_cons_succ,aQ,aN]
          rfl
        refine fI (i:=9) (N:=some 36) (v:=?_) (a':=?_) #[true,true,true,true,true,true,true,true,true,true,false] rfl rfl (by kernel_rfl) (fun _ _ _ h=>h) (Or.inl ⟨by rfl,?_⟩) hHeld ?_ ?_
        rotate_left
        · rintro w' ⟨s0,s1,s2,s3,s4⟩
          go_simp
          with_reducible rfl
        rotate_left
        · simp only [Act.put,List.setIfInBounds_toArray,List.set_cons_zero,List.set_cons_succ,aQ,aN]
          rfl
        refine oq (i:=10) (N:=some 37) #[true,true,true,true,true,true,true,true,true,true,true] rfl rfl (by kernel_rfl) (by decide) (fun K hK=>?_)
        obtain ⟨fn,hf1,hf2,hf3⟩:=HFN.out.ok
        refine goesV_ 32 hf1 hf2 hf3 #[.pointer (some ⟨gr,0,none⟩),.agg #[.int .u16 cc,.int .u8 i1,.int .u8 i2,.int .u32 k]] (by rfl) rfl rfl rfl (by simp only [List.map_toArray,List.map_cons,List.map_nil];rfl) ?_
        refine (HSC.out _ (HXM.out.below (by repeat (first | (with_reducible exact Below.refl _ _) | apply aj | apply af))) (au HXB.out (by repeat (first | (with_reducible exact Below.refl _ _) | apply aj | apply af)))).mono ?_
        rintro e w3 ⟨rfl,hK,M3,hM3,hM0⟩
        have H3:=aa.mk (And.intro hK (And.intro hM3 hM0))
        clear hK hM3 hM0
        refine ⟨_,rfl,?_⟩
        refine hK.out _ _ ?_
        clear hK K
        refine kI (a':=?_) ?_ ?_
        rotate_left
        · show Act.put _ (some 37) _=_
          simp only [Act.put,List.setIfInBounds_toArray,List.set_cons_zero,List.set_cons_succ,aQ,aN]
          rfl
        refine fO (by kernel_rfl) ?_
        have HN:∃ M4 f4,aa (SR w0 w w3 gr gd arr pk (.slice Ap pk.length cp) c M s0 v M4 f4 (wrap64 (s+1)) (j+1)):=by
          have hr4:=(HZ.out.1.below (af (Below.refl _ _))).kp H3.out.1 H3.out.2.1
          refine ⟨M3,(bH ⟨cc,i1,i2,k⟩ pk M2).2,⟨hr4,(HZ.out.2.below (af (Below.refl _ _))).trans H3.out.1,fun h0=>?_,fun hn=>?_⟩⟩
          · rw [H3.out.2.2 h0]
            refine ⟨?_,jS _ _ _ HGO.out.2 HD.out.2⟩
            rw [←HGO.out.1,HD.out.1]
            show _=if (bH ⟨cc,i1,i2,k⟩ pk M2).2=0 then _ else _
            rw [if_pos h0]
          · rw [←HGO.out.1,HD.out.1]
            show (if (bH ⟨cc,i1,i2,k⟩ pk M2).2=0 then _ else _:bg × Int × Int).2=_
            rw [if_neg hn]
        obtain ⟨M4,f4,HN⟩:=HN
        clear hfn HX HXM HXB HZ HSC H3 HGO
        go_wp2
        go_roundw
        case rel=>exact ⟨j+1,M4,f4,_,by omega,by go_num,HN⟩
        case measure=>simp [intOf];omega
      · have hfb:(f != 0)=true:=bne_iff_ne.mpr hf
        have HNO:=aa.mk (HS.out.no hf)
        have HF:=aa.mk hf
        clear hf
        go_wp2
        refine bodyPost_ret (results_none (by rfl) _ _ _) rfl ?_
        refine ⟨rfl,HR.out.2.1,M2,?_,fun h0=>?_⟩
        · rw [HNO.out];exact HR.out.1
        · rw [HNO.out] at h0;exact absurd h0 HF.out
    · go_wp2
      go_end0
      have hjl:j=c.length:=by omega
      refine ⟨rfl,HS.out.k,M2,?_⟩
      by_cases hf:f=0
      · subst hf
        obtain ⟨h1,h2⟩:=HS.out.go rfl
        rw [hjl,List.drop_length] at h1
        rw [←h1]
        exact ⟨HS.out.r,fun _=>⟨rfl,h2⟩⟩
      · rw [HS.out.no hf]
        exact ⟨HS.out.r,fun h0=>absurd h0 hf⟩
theorem qw {s:St} {i j:Nat} {o:Option Int} (hi:i<s.length):gS (s.set i o) j=if i=j then o else gS s j:=by
 unfold gS
 rw [List.getD_eq_getElem?_getD,List.getElem?_set]
 by_cases h:i=j
 · subst h;rw [if_pos rfl,if_pos hi,if_pos rfl];rfl
 rw [if_neg h,if_neg h,List.getD_eq_getElem?_getD]
theorem Snd.setA {s:St} {M:bg} (h:Snd s M) {o:Option Int} {v:Int} (ho:∀ x,o=some x→v=x):Snd (s.set 0 o) {M with a:=v}:=by
 have hl:=h.len
 refine ⟨by rw [List.length_set];exact hl,fun i x e=>?_⟩
 rw [qw (by omega)] at e
 by_cases q:0=i
 · subst q;rw [if_pos rfl] at e;exact ho x e
 rw [if_neg q] at e
 have:=h.wd i x e
 match i,q with
 | 1,_=>exact this
 | n+2,_=>exact this
theorem Snd.setX {s:St} {M:bg} (h:Snd s M) {o:Option Int} {v:Int} (ho:∀ x,o=some x→v=x):Snd (s.set 1 o) {M with x:=v}:=by
 have hl:=h.len
 refine ⟨by rw [List.length_set];exact hl,fun i x e=>?_⟩
 rw [qw (by omega)] at e
 by_cases q:1=i
 · subst q;rw [if_pos rfl] at e;exact ho x e
 rw [if_neg q] at e
 have:=h.wd i x e
 match i,q with
 | 0,_=>exact this
 | n+2,_=>exact this
theorem Snd.setM {s:St} {M:bg} (h:Snd s M) {o:Option Int} {v:Int} {n:Nat} (hn:n<16) (hm:M.m.length=16) (ho:∀ x,o=some x→v=x):Snd (s.set (2+n) o) {M with m:=M.m.set n v}:=by
 have hl:=h.len
 refine ⟨by rw [List.length_set];exact hl,fun i x e=>?_⟩
 rw [qw (by omega)] at e
 by_cases q:2+n=i
 · subst q
   rw [if_pos rfl] at e
   have:=ho x e
   rw [Nat.add_comm]
   show (M.m.set n v).getD n 0=x
   rw [List.getD_eq_getElem?_getD,List.getElem?_set,if_pos rfl,if_pos (by omega)]
   exact this
 rw [if_neg q] at e
 have:=h.wd i x e
 match i,q with
 | 0,_=>exact this
 | 1,_=>exact this
 | j+2,q=>
  show (M.m.set n v).getD j 0=x
  rw [List.getD_eq_getElem?_getD,List.getElem?_set,if_neg (by omega),←List.getD_eq_getElem?_getD]
  exact this
structure Wst (s:St):Prop where
 len:s.length=18
 rg:∀ i v,gS s i=some v→Rg v
theorem Wst.set {s:St} (h:Wst s) (i:Nat) {o:Option Int} (ho:∀ v,o=some v→Rg v):Wst (s.set i o):=by
 refine ⟨by rw [List.length_set];exact h.len,fun j v e=>?_⟩
 by_cases hi:i<s.length
 · rw [qw hi] at e
   by_cases q:i=j
   · rw [if_pos q] at e;exact ho v e
   rw [if_neg q] at e;exact h.rg j v e
 rw [List.set_eq_of_length_le (by omega)] at e;exact h.rg j v e
def mkM (s:St):bg:=⟨(gS s 0).getD 0,(gS s 1).getD 0,(List.range 16).map (fun i=>(gS s (i+2)).getD 0)⟩
theorem Wst.get {s:St} (h:Wst s) (i:Nat):Rg ((gS s i).getD 0):=by
 cases e:gS s i with
 | none=>exact Rg.z
 | some v=>exact h.rg i v e
theorem mkM_m (s:St) (j:Nat) (hj:j<16):(mkM s).m.getD j 0=(gS s (j+2)).getD 0:=by
 unfold mkM
 rw [List.getD_eq_getElem?_getD,List.getElem?_map,List.getElem?_range hj]
 rfl
theorem Wst.mb {s:St} (h:Wst s):MB (mkM s):=by
 refine ⟨h.get 0,h.get 1,fun j=>?_,by unfold mkM;rw [List.length_map,List.length_range]⟩
 by_cases hj:j<16
 · rw [mkM_m s j hj];exact h.get _
 have:(mkM s).m.length=16:=by unfold mkM;rw [List.length_map,List.length_range]
 rw [List.getD_eq_getElem?_getD,List.getElem?_eq_none (by omega)]
 exact Rg.z
theorem Wst.snd {s:St} (h:Wst s):Snd s (mkM s):=by
 refine ⟨h.len,fun i v e=>?_⟩
 match i with
 | 0=>show (gS s 0).getD 0=v;rw [e];rfl
 | 1=>show (gS s 1).getD 0=v;rw [e];rfl
 | j+2=>
  have hj:j<16:=by
   refine Nat.lt_of_not_le fun hj=>?_
   have hl:=h.len
   unfold gS at e
   rw [List.getD_eq_getElem?_getD,List.getElem?_eq_none (by omega)] at e
   cases e
  show (mkM s).m.getD j 0=v
  rw [mkM_m s j hj,e];rfl
theorem nK {s:St} (h:Wst s) {i:S45} (hc:stB i.f0 i.f3=true) (hk:Rg i.f3):stB (bW s i).f0 (bW s i).f3=true∧Rg (bW s i).f3:=
 (pW s (mkM s) i [] h.snd h.mb hc hk).2
theorem l5 {s:St} (h:Wst s) {i:S45} (hk:Rg i.f3):Wst (dW s i):=by
 have H:∀ n v,gS s n=some v→Rg v:=h.rg
 unfold dW
 refine gB (fun _=>h.set _ (fun v e=>by cases e;exact hk)) (fun _=>?_)
 refine gB (fun _=>h.set _ (fun v e=>by cases e;exact hk)) (fun _=>?_)
 refine gB (fun _=>h.set _ (fun v e=>H _ _ e)) (fun _=>?_)
 refine gB (fun _=>h.set _ (fun v e=>H _ _ e)) (fun _=>?_)
 refine gB (fun _=>h.set _ (fun v e=>H _ _ e)) (fun _=>?_)
 refine gB (fun _=>h.set _ (fun v e=>H _ _ e)) (fun _=>?_)
 exact gB (fun _=>h.set _ (fun v e=>by cases e)) (fun _=>h.set _ (fun v e=>by cases e))
theorem vo {s:St} {M:bg} (hs:Snd s M) (hM:MB M) {i:S45} (pk:List Int) (hc:stB i.f0 i.f3=true) (hk:Rg i.f3):Snd (dW s i) (bH i pk M).1:=by
 obtain ⟨hm,h16,h52,h31⟩:=fM hc
 obtain ⟨c,jt,jf,k⟩:=i
 dsimp only at hm h16 hk
 have nA:∀ v:Int,Snd (s.set 0 none) {M with a:=v}:=fun v=>hs.setA (fun x e=>by cases e)
 have nX:∀ v:Int,Snd (s.set 1 none) {M with x:=v}:=fun v=>hs.setX (fun x e=>by cases e)
 have al:∀ c,c∈dO∨c∈eZ→Snd (dW s ⟨c,jt,jf,k⟩) (bH ⟨c,jt,jf,k⟩ pk M).1:=by
  intro c h
  have e:dW s ⟨c,jt,jf,k⟩=s.set 0 none:=by
   simp only [dO,eZ,List.mem_cons,List.not_mem_nil,or_false] at h
   rcases h with h | h<;>rcases h with rfl | rfl | rfl | rfl | rfl | rfl | rfl | rfl | rfl | rfl<;>rfl
  rw [oO c jt jf k h,e]
  exact nA _
 simp only [stL,List.mem_cons,List.not_mem_nil,or_false] at hm
 rcases hm with rfl | rfl | rfl | rfl | rfl | rfl | rfl | rfl | rfl | rfl | rfl | rfl | rfl | rfl | rfl | rfl | rfl | rfl | hm
 · exact hs.setA (fun x e=>by cases e;rfl)
 · exact nA _
 · exact nA _
 · exact nA _
 · exact nA _
 · exact nA _
 · exact nA _
 · exact nA _
 · exact nA _
 · exact hs.setX (fun x e=>by cases e;rfl)
 · exact nX _
 · exact nX _
 · exact nX _
 · show Snd (s.set (2+k.toNat) (gS s 0)) {M with m:=M.m.set (ix k) M.a}
   have:=h16 (by omega)
   rw [jO hk.1 this]
   exact hs.setM (by omega) hM.len (fun x e=>hs.at0 e)
 · show Snd (s.set (2+k.toNat) (gS s 1)) {M with m:=M.m.set (ix k) M.x}
   have:=h16 (by omega)
   rw [jO hk.1 this]
   exact hs.setM (by omega) hM.len (fun x e=>hs.at1 e)
 · exact nA _
 · exact hs.setX (fun x e=>hs.at0 e)
 · exact hs.setA (fun x e=>hs.at1 e)
 refine al c ?_
 simp only [dO,eZ,List.mem_cons,List.not_mem_nil,or_false]
 omega
theorem lV {l:List Int} {n:Nat} {v:Int} (hn:n<l.length) (h:l.getD n 0=v):l.set n v=l:=by
 have:l[n]=v:=by
  rw [List.getD_eq_getElem?_getD,List.getElem?_eq_getElem hn] at h;exact h
 rw [←this,List.set_getElem_self]
theorem idle_ok {s:St} {M:bg} (hs:Snd s M) (hM:MB M) {i:S45} (pk:List Int) (hc:stB i.f0 i.f3=true) (hk:Rg i.f3) (h:gN s i=true):bH i pk M=(M,0):=by
 obtain ⟨hm,h16,h52,h31⟩:=fM hc
 have hlen:=hM.len
 obtain ⟨c,jt,jf,k⟩:=i
 dsimp only at hm h16 hk
 unfold gN at h
 dsimp only at h
 by_cases c0:c=0
 · subst c0
   rw [if_pos rfl] at h
   have:=hs.at0 (of_decide_eq_true h)
   subst this;rfl
 rw [if_neg c0] at h
 by_cases c1:c=1
 · subst c1
   rw [if_pos rfl] at h
   have:=hs.at1 (of_decide_eq_true h)
   subst this;rfl
 rw [if_neg c1] at h
 by_cases c2:c=2
 · subst c2
   rw [if_pos rfl] at h
   simp only [Bool.and_eq_true,decide_eq_true_eq] at h
   have hk6:=h16 (by omega)
   obtain ⟨v,hv⟩:=Option.isSome_iff_exists.1 h.1
   have ha:=hs.at0 hv
   have hmm:=hs.atM (h.2.trans hv)
   show ({M with m:=M.m.set (ix k) M.a},(0:Int))=(M,0)
   rw [jO hk.1 hk6,lV (by omega) (hmm.trans ha.symm)]
 rw [if_neg c2] at h
 by_cases c3:c=3
 · subst c3
   rw [if_pos rfl] at h
   simp only [Bool.and_eq_true,decide_eq_true_eq] at h
   have hk6:=h16 (by omega)
   obtain ⟨v,hv⟩:=Option.isSome_iff_exists.1 h.1
   have ha:=hs.at1 hv
   have hmm:=hs.atM (h.2.trans hv)
   show ({M with m:=M.m.set (ix k) M.x},(0:Int))=(M,0)
   rw [jO hk.1 hk6,lV (by omega) (hmm.trans ha.symm)]
 rw [if_neg c3] at h
 have al:c∈dO→((c=4∨c=20∨c=68∨c=164∨c=100∨c=116)∧k=0)∨((c=36∨c=52)∧k=1)∨(c=84∧k=4294967295)→bH ⟨c,jt,jf,k⟩ pk M=(M,0):=by
  intro hc h
  rw [rZ c jt jf k hc,op_idle hM.a h]
 by_cases c4:c=4∨c=20∨c=68∨c=164∨c=100∨c=116
 · rw [if_pos c4] at h
   refine al ?_ (.inl ⟨c4,of_decide_eq_true h⟩)
   simp only [dO,List.mem_cons,List.not_mem_nil,or_false];omega
 rw [if_neg c4] at h
 by_cases c5:c=36∨c=52
 · rw [if_pos c5] at h
   refine al ?_ (.inr (.inl ⟨c5,of_decide_eq_true h⟩))
   simp only [dO,List.mem_cons,List.not_mem_nil,or_false];omega
 rw [if_neg c5] at h
 by_cases c6:c=84
 · rw [if_pos c6] at h
   refine al ?_ (.inr (.inr ⟨c6,of_decide_eq_true h⟩))
   simp only [dO,List.mem_cons,List.not_mem_nil,or_false];omega
 rw [if_neg c6] at h
 cases h
def neI (a b:S45):Bool:=!(decide (a.f0=b.f0)&&decide (a.f1=b.f1)&&decide (a.f2=b.f2)&&decide (a.f3=b.f3))
theorem neI_eq {a b:S45} (h:neI a b=false):a=b:=by
 unfold neI at h
 simp only [Bool.not_eq_false',Bool.and_eq_true,decide_eq_true_eq] at h
 obtain ⟨a0,a1,a2,a3⟩:=a
 obtain ⟨b0,b1,b2,b3⟩:=b
 obtain ⟨⟨⟨rfl,rfl⟩,rfl⟩,rfl⟩:=h
 rfl
def bR:St→List S45→List S45 × St × Bool
 | s,[]=>([],s,false)
 | s,i :: r=>
  if gN s (bW s i)=true then ((bR s r).1,(bR s r).2.1,true)
  else (bW s i :: (bR (dW s (bW s i)) r).1,(bR (dW s (bW s i)) r).2.1,neI (bW s i) i||(bR (dW s (bW s i)) r).2.2)
theorem kU:∀ (c:List S45) (s:St),Wst s→fB c=true→(∀ x∈c,Rg x.f3)→fB (bR s c).1=true∧(∀ x∈(bR s c).1,Rg x.f3)∧Wst (bR s c).2.1∧(bR s c).1.length≤c.length:=by
 intro c
 induction c with
 | nil=>intro s h _ _;exact ⟨rfl,(fun x hx=>absurd hx List.not_mem_nil),h,Nat.le_refl _⟩
 | cons i r ih=>
  intro s h hc hk
  unfold fB at hc
  rw [List.all_cons,Bool.and_eq_true] at hc
  have hk1:=hk i (List.mem_cons_self ..)
  have hk2:∀ x∈r,Rg x.f3:=fun x hx=>hk x (List.mem_cons_of_mem _ hx)
  have hj:=nK h hc.1 hk1
  unfold bR
  by_cases q:gN s (bW s i)=true
  · rw [if_pos q]
    obtain ⟨a,b,d,e⟩:=ih s h hc.2 hk2
    exact ⟨a,b,d,Nat.le_succ_of_le e⟩
  rw [if_neg q]
  obtain ⟨a,b,d,e⟩:=ih _ (l5 h hj.2) hc.2 hk2
  refine ⟨?_,?_,d,Nat.succ_le_succ e⟩
  · unfold fB
    rw [List.all_cons,Bool.and_eq_true]
    exact ⟨hj.1,a⟩
  intro x hx
  rcases List.mem_cons.1 hx with rfl | hx
  · exact hj.2
  exact b x hx
theorem Az:∀ (c:List S45) (s:St),(bR s c).2.2=false→(bR s c).1=c:=by
 intro c
 induction c with
 | nil=>intro s _;rfl
 | cons i r ih=>
  intro s h
  unfold bR at h ⊢
  by_cases q:gN s (bW s i)=true
  · rw [if_pos q] at h;cases h
  rw [if_neg q] at h ⊢
  simp only [Bool.or_eq_false_iff] at h
  rw [ih _ h.2,neI_eq h.1]
theorem str_run (pk:List Int):∀ (c:List S45) (s:St) (M:bg),Snd s M→MB M→fB c=true→(∀ x∈c,Rg x.f3) →
 (bq pk (bR s c).1 M).2.1=(bq pk c M).2.1∧(bq pk (bR s c).1 M).2.2≤(bq pk c M).2.2∧((bq pk c M).2.1=0→(bq pk (bR s c).1 M).1=(bq pk c M).1∧Snd (bR s c).2.1 (bq pk c M).1):=by
 intro c
 induction c with
 | nil=>intro s M hs _ _ _;exact ⟨rfl,Nat.le_refl _,fun _=>⟨rfl,hs⟩⟩
 | cons i r ih=>
  intro s M hs hM hc hk
  unfold fB at hc
  rw [List.all_cons,Bool.and_eq_true] at hc
  have hk1:=hk i (List.mem_cons_self ..)
  have hk2:∀ x∈r,Rg x.f3:=fun x hx=>hk x (List.mem_cons_of_mem _ hx)
  obtain ⟨j1,j2,j3⟩:=pW s M i pk hs hM hc.1 hk1
  have hM1:=jS i pk M hM hk1
  have hs1:=vo hs hM pk j2 j3
  rw [j1] at hs1
  unfold bR
  by_cases q:gN s (bW s i)=true
  · rw [if_pos q]
    have hi:=idle_ok hs hM pk j2 j3 q
    rw [j1] at hi
    obtain ⟨a,b,d⟩:=ih s M hs hM hc.2 hk2
    show (bq pk (bR s r).1 M).2.1=_∧(bq pk (bR s r).1 M).2.2≤_∧(_→(bq pk (bR s r).1 M).1=_∧Snd (bR s r).2.1 _)
    rw [show bq pk (i :: r) M=((bq pk r M).1,(bq pk r M).2.1,(bq pk r M).2.2+1) by
     show (if (bH i pk M).2=0 then _ else _)=_
     rw [hi];exact if_pos rfl]
    exact ⟨a,Nat.le_succ_of_le b,d⟩
  rw [if_neg q]
  obtain ⟨a,b,d⟩:=ih (dW s (bW s i)) (bH i pk M).1 hs1 hM1 hc.2 hk2
  show (bq pk (bW s i :: (bR (dW s (bW s i)) r).1) M).2.1=_∧(bq pk (bW s i :: (bR (dW s (bW s i)) r).1) M).2.2≤_∧(_→(bq pk (bW s i :: (bR (dW s (bW s i)) r).1) M).1=_∧Snd (bR (dW s (bW s i)) r).2.1 _)
  unfold bq
  rw [j1]
  by_cases f:(bH i pk M).2=0
  · rw [if_pos f,if_pos f]
    exact ⟨a,Nat.succ_le_succ b,d⟩
  rw [if_neg f,if_neg f]
  exact ⟨rfl,Nat.le_refl _,fun h=>absurd h f⟩
end Go.Proofs.Ytdkalnkplgfgoaa.Ln
