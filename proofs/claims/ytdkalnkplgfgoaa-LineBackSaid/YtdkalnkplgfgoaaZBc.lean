/- Lemmas and walks for the statements of the texts ZBZ..: the declarations that they need, taken together by a program of this session. Conditions: as each says. -/
import Derived.Deep.RegionHeld3
import Derived.BigRegion
import Derived.Test.YtdkalnkplgfgoaaProg
import Derived.Below
import Derived.Deep.Draws
import Derived.Deep.AppendLies
import Derived.Maps.AppendAt
import Derived.OwnWalk
import Derived.Laws.BytesArg
import Derived.Laws.MakeOwn
import Derived.Laws.OwnMore
import Derived.Deep.OwnRows
import Derived.Tactics
import Derived.Lib.ConvBytes
import Derived.Laws.Slices
import Derived.WalkKit
import Derived.KernelRfl
import Derived.RowKit3
import Derived.Deep.LoopGhost
import Derived.Deep.QuietTactic
import Derived.BigQuiet
import Derived.WideLaws
import Derived.Deep.DeepCutAuto
import Derived.Deep.CutBlock
import Derived.Laws.Rows
import Derived.Lib.AppendStr
import Derived.ArgAppend
import Derived.Laws.IdiomCopy
import Derived.OrdersHeld
import Derived.Laws.BitsLemmas
import Derived.RowKit
import Derived.Test.YtdkalnkplgfgoaaZBa
import Derived.Test.YtdkalnkplgfgoaaZBb
set_option maxHeartbeats 8000000
set_option maxRecDepth 100000
set_option linter.unusedVariables false
set_option linter.unusedSimpArgs false
namespace Go.Proofs.Ytdkalnkplgfgoaa.Ln
open Go.RowKit Go.Maps Go.Proofs.YtdkalnkplgfgoaaW.PrintWords Go.Proofs.YtdkalnkplgfgoaaW.PrintLast Go.Proofs.YtdkalnkplgfgoaaW.PrintMore Go.Proofs.Ytdkalnkplgfgoaa.PA
structure Kp (S:Nat→Prop) (w w1:World):Prop where
 os:w1.os=w.os
 tape:w1.tape=w.tape
 output:w1.output=w.output
 size:w.heap.size≤w1.heap.size
 block:∀ k,k<w.heap.size→¬S k→w1.heap[k]?=w.heap[k]?
theorem Kp.refl (S:Nat→Prop) (w:World):Kp S w w:=⟨rfl,rfl,rfl,Nat.le_refl _,fun _ _ _=>rfl⟩
theorem Kp.trans {S:Nat→Prop} {w w1 w2:World} (h:Kp S w w1) (k:Kp S w1 w2):Kp S w w2:=
 ⟨k.os.trans h.os,k.tape.trans h.tape,k.output.trans h.output,Nat.le_trans h.size k.size,fun i hi hS=>(k.block i (Nat.lt_of_lt_of_le hi h.size) hS).trans (h.block i hi hS)⟩
theorem Kp.below {S:Nat→Prop} {w w1 w2:World} (h:Kp S w w1) (k:Below w1.heap.size w1 w2):Kp S w w2:=
 ⟨k.os.trans h.os,k.tape.trans h.tape,k.output.trans h.output,Nat.le_trans h.size k.size,fun i hi hS=>(k.block i (Nat.lt_of_lt_of_le hi h.size)).trans (h.block i hi hS)⟩
theorem Kp.grown {S:Nat→Prop} {w w1 w2:World} {r:Option Nat} (h:Kp S w w1) (k:w1.grownBy w2 r) (hr:∀ b,r=some b→S b∨w.heap.size≤b):Kp S w w2:=
 ⟨k.os.trans h.os,k.tape.trans h.tape,k.output.trans h.output,Nat.le_trans h.size k.size,fun i hi hS=>(k.block i (Nat.lt_of_lt_of_le hi h.size) (fun e=>by rcases hr i e.symm with h1 | h1;exact hS h1;omega)).trans (h.block i hi hS)⟩
theorem Kp.set {S:Nat→Prop} {w w1:World} {g:Nat} (h:Kp S w w1) (hg:S g∨w.heap.size≤g) (j:Nat) (u:Value):Kp S w (w1.setCell ⟨g,j,none⟩ u):=by
 have b:=(Below.refl g w1).setCell (Nat.le_refl g) (p:=⟨g,j,none⟩) u
 refine ⟨b.os.trans h.os,b.tape.trans h.tape,b.output.trans h.output,Nat.le_trans h.size b.size,fun i hi hS=>?_⟩
 have hne:i≠g:=fun e=>by subst e;rcases hg with h1 | h1;exact hS h1;omega
 exact (Below.heap_setCell w1 ⟨g,j,none⟩ u i hne).trans (h.block i hi hS)
theorem Kp.il {S:Nat→Prop} {w0 w w1:World} {B:Nat} (hb:Below B w0 w) (h:Kp S w w1) (hB:B≤w.heap.size) (hS:∀ k,S k→B≤k):Below B w0 w1:=
 ⟨h.os.trans hb.os,h.tape.trans hb.tape,h.output.trans hb.output,Nat.le_trans hb.size h.size,fun i hi=>(h.block i (by omega) (fun s=>by have:=hS i s;omega)).trans (hb.block i hi)⟩
def iF (g:List S47) (after:Int→Int) (fars:Int→Bool × Bool):List Int→Int→(Int→Int)→(Int→Int)
 | [],_,p=>p
 | i :: r,n,p=>iF g after fars r (wrap64 (n+wrap64 (((ah g i).f0.length:Int)+eD (ah g i) (after i) (fars i)))) (upd p i n)
def gU (b:S47) (pl:Int→Int) (i:Int) (f:Bool × Bool):Bool × Bool:=
 (f.1||decide (wrap64 (wrap64 (pl b.f3 - wrap64 (pl i+(b.f0.length:Int))) - 1)>255),f.2||decide (wrap64 (wrap64 (pl b.f4 - wrap64 (pl i+(b.f0.length:Int))) - 1)>255))
def fJ (g:List S47) (pl:Int→Int):List Int→(Int→Bool × Bool)→Bool→(Int→Bool × Bool) × Bool
 | [],f,b=>(f,b)
 | i :: r,f,b=>if (ah g i).f1=3 then (if gU (ah g i) pl i (f i)=f i then fJ g pl r f b else fJ g pl r (upd f i (gU (ah g i) pl i (f i))) true) else fJ g pl r f b
structure Wr (w0 w:World) (g:List S47) (A:Option Addr) (c B:Nat) (vc vo vp:Value) (order:List Int) (bA bF nA nF:Nat) (after:Int→Int) (fars:Int→Bool × Bool):Prop where
 below:Below w0.heap.size w0 w
 blk:w.heap[B]?=some (.cells #[vc,.slice A g.length c,vo,.map (some bA),vp,.map (some bF)] 72 (0,0))
 graph:Kd.C k47 w0 A g.length g
 ord:(Kd.int .i64).R 3 w w0.heap.size (fun _=>True) vo order
 ordin:∀ i,i∈order→0≤i∧i<(g.length:Int)
 goin:∀ i,i∈order→(Lit.int .i64 (ah g i).f3).wf=true∧(Lit.int .i64 (ah g i).f4).wf=true
 mA:MI w bA nA after
 mF:MF w bF nF fars
 hB:w0.heap.size≤B
 hA:w0.heap.size≤bA
 hF:w0.heap.size≤bF
 ne:bA≠bF
theorem rH {α:Type} {d:Kd α} {e:Nat} {w wr:World} {base:Nat} {v:Value} {xs:List α} {S:Nat→Prop} (h:d.R e w base (fun _=>True) v xs)
 (hS:∀ k,S k→(∃ cs t fr,w.heap[k]?=some (.cells cs t fr)∧∀ q,q∈e :: d.E→q≠t)∨(∃ es c,w.heap[k]?=some (.map es c))) (kp:Kp S w wr):d.R e wr base (fun _=>True) v xs:=by
 refine Kd.eG (Kd.nz (Kd.eG (ok':=fun k=>¬S k) (Kd.fu h) ?_) (fun k hok hlt=>kp.block k hlt hok)) (fun _ _=>trivial)
 rintro k ⟨_,_,_,q,hq,cells,hc⟩ hs
 rcases hS k hs with ⟨cs,t,fr,h1,h2⟩ | ⟨es,c,h1⟩
 · rw [hc] at h1
   injection h1 with h1
   injection h1 with _ h1
   exact h2 q hq h1
 rw [hc] at h1
 cases h1
section
variable {w0 w wr:World} {g:List S47} {A:Option Addr} {c B:Nat} {vc vo vp vp':Value} {order:List Int} {bA bF nA nF nF':Nat} {after:Int→Int} {fars fars':Int→Bool × Bool}
theorem Wr.kinds (H:Wr w0 w g A c B vc vo vp order bA bF nA nF after fars) {E:List Nat} (hE:∀ q,q∈E→q≠72) :
 ∀ k,(k=B∨k=bF)→(∃ cs t fr,w.heap[k]?=some (.cells cs t fr)∧∀ q,q∈E→q≠t)∨(∃ es c,w.heap[k]?=some (.map es c)):=by
 rintro k (rfl | rfl)
 · exact .inl ⟨_,_,_,H.blk,hE⟩
 exact .inr H.mF.iD
theorem Wr.mA_ne (H:Wr w0 w g A c B vc vo vp order bA bF nA nF after fars):bA≠B:=by
 obtain ⟨es,c,h⟩:=H.mA.iD
 rintro rfl
 rw [H.blk] at h
 cases h
theorem Wr.move (H:Wr w0 w g A c B vc vo vp order bA bF nA nF after fars) (kp:Kp (fun k=>k=B∨k=bF) w wr)
 (blk:wr.heap[B]?=some (.cells #[vc,.slice A g.length c,vo,.map (some bA),vp',.map (some bF)] 72 (0,0))) (mF:MF wr bF nF' fars'):Wr w0 wr g A c B vc vo vp' order bA bF nA nF' after fars' where
 below:=kp.il H.below H.below.size (by rintro k (rfl | rfl);exact H.hB;exact H.hF)
 blk:=blk
 graph:=H.graph
 ord:=rH H.ord (H.kinds (by decide)) kp
 ordin:=H.ordin
 goin:=H.goin
 mA:=H.mA.move (kp.block bA H.mA.lt (by rintro (h | h);exact H.mA_ne h;exact H.ne h))
 mF:=mF
 hB:=H.hB
 hA:=H.hA
 hF:=H.hF
 ne:=H.ne
theorem Wr.stay (H:Wr w0 w g A c B vc vo vp order bA bF nA nF after fars) (hb:Below w.heap.size w wr):Wr w0 wr g A c B vc vo vp order bA bF nA nF after fars:=
 H.move ((Kp.refl _ w).below hb) (au H.blk hb) (H.mF.below hb)
theorem kp1 {w w1:World} {B bF:Nat} (h:Kp (fun k=>k=B) w w1):Kp (fun k=>k=B∨k=bF) w w1:=
 ⟨h.os,h.tape,h.output,h.size,fun k hk hS=>h.block k hk (fun e=>hS (.inl e))⟩
theorem Wr.qZ (H:Wr w0 w g A c B vc vo vp order bA bF nA nF after fars):¬bF=B:=by
 obtain ⟨es,c,h⟩:=H.mF.iD
 rintro rfl
 rw [H.blk] at h
 cases h
theorem Wr.tail (H:Wr w0 w g A c B vc vo vp order bA bF nA nF after fars) (i:Int) (hi:i∈order) :
 Calls Try.prog 77 #[.pointer (some ⟨B,0,none⟩),.int .i64 i] w fun e w'=>e = .returned (.int .i64 (eD (ah g i) (after i) (fars i)))∧Below w.heap.size w w':=
 qD g B c A vc vo vp bA bF nA nF after fars i w H.blk (Kd.bJ H.graph H.below) (H.ordin i hi).1 (H.ordin i hi).2 H.mA H.mF
end
theorem rD (p:Int→Int) (a v:Int):upd (fun x=>Value.int .i64 (p x)) a (.int .i64 v)=fun x=>Value.int .i64 (upd p a v x):=by
 funext x
 unfold upd
 split<;>rfl
theorem upd_far (p:Int→Bool × Bool) (a:Int) (v:Bool × Bool):upd (fun x=>oF (p x)) a (oF v)=fun x=>oF (upd p a v x):=by
 funext x
 unfold upd
 split<;>rfl
theorem lU {l:List Int} {k:Nat} (h:k<l.length):rd l (k:Int)∈l:=by
 unfold rd
 rw [Int.toNat_natCast,List.getD_eq_getElem?_getD,List.getElem?_eq_getElem h]
 exact List.getElem_mem h
theorem nX {l:List Int} {k:Nat} (h:k<l.length):l.drop k=rd l (k:Int) :: l.drop (k+1):=by
 unfold rd
 rw [Int.toNat_natCast,List.getD_eq_getElem?_getD,List.getElem?_eq_getElem h]
 exact List.drop_eq_getElem_cons h
structure St2 (w0 w wr:World) (g:List S47) (A:Option Addr) (c B P k:Nat) (vc vo:Value) (order:List Int) (bA bF nA nF:Nat) (after PL:Int→Int) (f:Int→Bool × Bool):Prop where
 me:Wr w0 wr g A c B vc vo (.map (some P)) order bA bF nA (nF+k) after f
 mP:MI wr P order.length PL
 kp:Kp (fun k=>k=B∨k=bF) w wr
 pne:P≠B∧P≠bF
theorem Wr.mono {w0 w:World} {g:List S47} {A:Option Addr} {c B:Nat} {vc vo vp:Value} {order:List Int} {bA bF nA nF nF':Nat} {after:Int→Int} {fars:Int→Bool × Bool}
 (H:Wr w0 w g A c B vc vo vp order bA bF nA nF after fars) (hn:nF≤nF'):Wr w0 w g A c B vc vo vp order bA bF nA nF' after fars:=
 ⟨H.below,H.blk,H.graph,H.ord,H.ordin,H.goin,H.mA,eX.mono H.mF hn,H.hB,H.hA,H.hF,H.ne⟩
theorem St2.same {w0 w wr wr':World} {g:List S47} {A:Option Addr} {c B P k:Nat} {vc vo:Value} {order:List Int} {bA bF nA nF:Nat} {after PL:Int→Int} {f:Int→Bool × Bool}
 (H:St2 w0 w wr g A c B P k vc vo order bA bF nA nF after PL f) (hb:Below wr.heap.size wr wr'):St2 w0 w wr' g A c B P (k+1) vc vo order bA bF nA nF after PL f:=
 ⟨(H.me.stay hb).mono (by omega),H.mP.below hb,H.kp.below hb,H.pne⟩
theorem forget {P:Program} {code:Code} {Q:Exit→Act→World→Prop} {a:Act} {W:World} (F:World→Prop) (h:F W) (k:∀ W',F W'→code.wp P Q a W'):code.wp P Q a W:=k W h
theorem rM {w w1:World} (h:Below w.heap.size w w1):Below w.heap.size w w1:=h
theorem St2.step {w0 w wr W w11:World} {g:List S47} {A:Option Addr} {c B P k:Nat} {vc vo:Value} {order:List Int} {bA bF nA nF:Nat} {after PL:Int→Int} {f:Int→Bool × Bool} {i:Int} {v:Bool × Bool}
 (H:St2 w0 w wr g A c B P k vc vo order bA bF nA nF after PL f) (hb:Below wr.heap.size wr W) (hm:eX Try.prog 3 (.agg #[.bool false,.bool false]) w11 bF (nF+k+1) (upd (fun x=>oF (f x)) i (oF v))) (hg:W.drew.grownBy w11 (some bF)) :
 St2 w0 w w11 g A c B P (k+1) vc vo order bA bF nA nF after PL (upd f i v):=by
 have h1:Below wr.heap.size wr W.drew:=ae hb
 have h2:=H.me.stay h1
 rw [upd_far] at hm
 have kp:Kp (fun k=>k=B∨k=bF) W.drew w11:=(Kp.refl _ _).grown hg (by intro b e;injection e with e;exact .inl (.inr e.symm))
 refine ⟨h2.move kp (fw h2.blk hg (by intro e;injection e with e;exact h2.qZ e.symm)) hm,(H.mP.below h1).kept hg (by intro e;injection e with e;exact H.pne.2 e),(H.kp.below h1).trans ?_,H.pne⟩
 exact kp
theorem rT {g:List S47} {pl:Int→Int} {b:Bool} {r:List Int} {i:Int} {blk:S47} {f:Int→Bool × Bool} {q:Bool × Bool} (hb:ah g i=blk) (h3:blk.f1=3) (hf:f i=q) (hN:q=gU blk pl i q) :
 fJ g pl (i :: r) f b=fJ g pl r f b:=by
 show (if (ah g i).f1=3 then (if gU (ah g i) pl i (f i)=f i then _ else _) else _)=_
 rw [hb,if_pos h3,hf,←hN,if_pos rfl]
theorem mK {g:List S47} {pl:Int→Int} {b:Bool} {r:List Int} {i:Int} {blk:S47} {f:Int→Bool × Bool} {q n:Bool × Bool} (hb:ah g i=blk) (h3:blk.f1=3) (hf:f i=q) (hN:n=gU blk pl i q) (hne:¬n=q) :
 fJ g pl (i :: r) f b=fJ g pl r (upd f i n) true:=by
 show (if (ah g i).f1=3 then (if gU (ah g i) pl i (f i)=f i then _ else fJ g pl r (upd f i (gU (ah g i) pl i (f i))) true) else _)=_
 rw [hb,if_pos h3,hf,←hN,if_neg hne]
structure St1 (w wr:World) (B P k:Nat) (cs:Array Value) (p:Int→Int):Prop where
 blk:wr.heap[B]?=some (.cells cs 72 (0,0))
 mP:MI wr P k p
 kp:Kp (fun k=>k=B) w wr
theorem oU (w0 w:World) (g:List S47) (A:Option Addr) (c B:Nat) (vc vo vp:Value) (order:List Int) (bA bF nA nF:Nat) (after:Int→Int) (fars:Int→Bool × Bool)
 (H:Wr w0 w g A c B vc vo vp order bA bF nA nF after fars) (hn:nF+order.length<maxLen) :
 Calls Try.prog 45 #[.pointer (some ⟨B,0,none⟩)] w fun e w'=>
  e = .returned (.bool (fJ g (iF g after fars order 0 (fun _=>0)) order fars false).2) ∧
  Wr w0 w' g A c B vc vo (.map (some w.heap.size)) order bA bF nA (nF+order.length) after (fJ g (iF g after fars order 0 (fun _=>0)) order fars false).1 ∧
  MI w' w.heap.size order.length (iF g after fars order 0 (fun _=>0))∧Kp (fun k=>k=B∨k=bF) w w':=by
 have hmm:=@run_makeMap Try.prog
 obtain ⟨Ao,co,rfl,hoc,HO⟩:=Kd.fP H.ord
 have b0:w.cell? ⟨B,0,none⟩=some vc:=(ag H.blk 0).trans rfl
 have b1:=fQ H.blk 1
 have b2:=fQ H.blk 2
 have b4:w.cell? ⟨B,4,none⟩=some vp:=(ag H.blk 4).trans rfl
 have f4:=aj H.blk 4
 have hBl:=aZ H.blk
 have HH:=aa.mk H
 clear H
 go_enter Try.func45,Try.ntmps45
 go_wp2
 have hW1:aa (St1 w ((w.setCell ⟨B,4,none⟩ (.map (some w.heap.size))).alloc (.map #[] 0)) B w.heap.size 0 #[vc,.slice A g.length c,.slice Ao order.length co,.map (some bA),.map (some w.heap.size),.map (some bF)] (fun _=>0)):=by
  have hs:(w.setCell ⟨B,4,none⟩ (.map (some w.heap.size))).heap.size=w.heap.size:=by simp [World.setCell]
  refine ⟨⟨aV (aJ HH.out.blk 4 _ rfl) _,?_,((Kp.refl (fun k=>k=B) w).set (.inl rfl) 4 _).below (ai (Below.refl _ _) _)⟩⟩
  have:=eX.made (w.setCell ⟨B,4,none⟩ (.map (some w.heap.size))) Try.prog 3 (.int .i64 0)
  rw [hs] at this
  exact this
 have hlen:order.length≤9223372036854775807:=Kd.kI HO
 go_loopw [3,21] (fun v3 v21 wr=>∃ (k:Nat) (n:Int) (p:Int→Int),k≤order.length∧v21 = .int .i64 k∧v3 = .int .i64 n∧aa (iF g after fars (order.drop k) n p=iF g after fars order 0 (fun _=>0))∧aa (St1 w wr B w.heap.size k #[vc,.slice A g.length c,.slice Ao order.length co,.map (some bA),.map (some w.heap.size),.map (some bF)] p)) (fun _ v21 _=>order.length - (intOf v21).toNat)
 case atStart=>exact ⟨0,0,fun _=>0,Nat.zero_le _,rfl,rfl,⟨rfl⟩,hW1⟩
 case round=>
  obtain ⟨k,n,p,hk,rfl,rfl,HP,HS⟩:=hrel
  by_cases hlt:k<order.length
  · have HW:aa (Wr w0 wr g A c B vc (.slice Ao order.length co) (.map (some w.heap.size)) order bA bF nA nF after fars):=⟨HH.out.move (kp1 HS.out.kp) HS.out.blk (HH.out.mF.move (HS.out.kp.block bF HH.out.mF.lt HH.out.qZ))⟩
    obtain ⟨ado,rfl,hco⟩:=Kd.iw (Kd.dO HW.out.ord).2.2 (k:Int) (by omega) (by omega)
    rw [Int.toNat_natCast] at hco
    have hmem:=lU hlt
    have hdr:=nX hlt
    generalize hi:rd order (k:Int)=i at *
    clear hi
    obtain ⟨hi0,hi1⟩:=HW.out.ordin i hmem
    have hwf:(Lit.int .i64 i).wf=true:=WalkArith.wf_i64 (by have:=Kd.kI HH.out.graph;omega)
    rw [hdr] at HP
    have Hmem:=aa.mk hmem
    clear hdr hmem
    have c0:wr.cell? ⟨B,0,none⟩=some vc:=(ag HS.out.blk 0).trans rfl
    have c1:=fQ HS.out.blk 1
    have c4:=fQ HS.out.blk 4
    go_wp2_with (first | (at_mapUpdate;refine jF _ rfl _ _ _ 66 rfl 3 3 rW Try.underlying3 Try.underlying66 (.int .i64 0) w.heap.size k (fun x => .int .i64 (p x)) rfl HS.out.mP (by unfold maxLen;omega) i (.int .i64 n) rfl rfl hwf ?_;intro w2 hm2 hg2;rw [rD] at hm2))
    have HS2:aa (St1 w w2 B w.heap.size (k+1) #[vc,.slice A g.length c,.slice (some ado) order.length co,.map (some bA),.map (some w.heap.size),.map (some bF)] (upd p i n)):=
     ⟨fw HS.out.blk hg2 (by intro e;injection e with e;omega),hm2,HS.out.kp.grown hg2 (by intro b e;injection e with e;exact .inr (by omega))⟩
    have HW2:aa (Wr w0 w2 g A c B vc (.slice (some ado) order.length co) (.map (some w.heap.size)) order bA bF nA nF after fars):=⟨HH.out.move (kp1 HS2.out.kp) HS2.out.blk (HH.out.mF.move (HS2.out.kp.block bF HH.out.mF.lt HH.out.qZ))⟩
    have hP2:w.heap.size<w2.heap.size:=hm2.lt
    clear hm2 hg2 hco c0 c1 c4 HW HS
    obtain ⟨ad,A0,c0,rfl,x0,x1,x2,x3,x4,x5,x6,x7,hl,hi⟩:=iJ (Kd.bJ HW2.out.graph HW2.out.below) i hi0 hi1
    clear x1 x2 x3 x4 x5 x6 x7 hl hi
    have c1:=fQ HS2.out.blk 1
    go_region_held3 (fun w'=>Below w2.heap.size w2 w'∧w'.cell? ⟨B,1,none⟩=some (.slice (some ad) g.length c)∧w'.cell? (ad.add (i.toNat*8))=some (.slice A0 (ah g i).f0.length c0))
     (first
       | exact ⟨ae (Below.refl _ _),c1,x0⟩
       | exact ⟨ak (ae (Below.refl _ _)) hb,aI hb c1,aI hb x0⟩)
     ((go_at_call 77;refine (Wr.tail (HW2.out.stay (ae (Below.refl _ _))) i Hmem.out).mono ?_;rintro e w' ⟨rfl,hb⟩))
    go_wp2
    have hb':Below w2.heap.size w2 w':=ak (ae (Below.refl _ _)) hb
    have HS3:aa (St1 w w' B w.heap.size (k+1) #[vc,.slice (some ad) g.length c,.slice (some ado) order.length co,.map (some bA),.map (some w.heap.size),.map (some bF)] (upd p i n)):=
     ⟨au HS2.out.blk hb',HS2.out.mP.below hb',HS2.out.kp.below hb'⟩
    clear hb hb' HS2 HW2 HH hmm hW1
    go_roundw
    case rel=>exact ⟨k+1,_,upd p i n,by omega,by go_num,rfl,⟨by simp only [ax];exact HP.out⟩,HS3⟩
    case measure=>simp [intOf];omega
  have hkl:k=order.length:=by omega
  subst hkl
  clear hlt hk
  have hp:p=iF g after fars order 0 (fun _=>0):=by have:=HP.out;rw [List.drop_length] at this;exact this
  have HPL:=aa.mk hp
  clear HP hp
  have HW:aa (Wr w0 wr g A c B vc (.slice Ao order.length co) (.map (some w.heap.size)) order bA bF nA nF after fars):=⟨HH.out.move (kp1 HS.out.kp) HS.out.blk (HH.out.mF.move (HS.out.kp.block bF HH.out.mF.lt HH.out.qZ))⟩
  have hPB:w.heap.size≠B∧w.heap.size≠bF:=⟨by omega,by have:=HH.out.mF.lt;omega⟩
  have HS2:aa (St2 w0 w wr g A c B w.heap.size 0 vc (.slice Ao order.length co) order bA bF nA nF after p fars):=⟨⟨HW.out,HS.out.mP,kp1 HS.out.kp,hPB⟩⟩
  have c2:=fQ HS.out.blk 2
  clear hW1 HS HW b0 b1 b2 b4 f4 hBl
  go_wp2
  go_loopw [6,52] (fun v6 v52 wq=>∃ (k:Nat) (f:Int→Bool × Bool) (b:Bool),k≤order.length∧v52 = .int .i64 k∧v6 = .bool b∧aa (fJ g p (order.drop k) f b=fJ g p order fars false)∧aa (St2 w0 w wq g A c B w.heap.size k vc (.slice Ao order.length co) order bA bF nA nF after p f)) (fun _ v52 _=>order.length - (intOf v52).toNat)
  case atStart=>exact ⟨0,fars,false,Nat.zero_le _,rfl,rfl,⟨rfl⟩,HS2⟩
  case round=>
   clear HS2 c2
   obtain ⟨k,f,b,hk,rfl,rfl,HP,HS⟩:=hrel
   by_cases hlt:k<order.length
   · obtain ⟨ado,rfl,hco⟩:=Kd.iw (Kd.dO HS.out.me.ord).2.2 (k:Int) (by omega) (by omega)
     rw [Int.toNat_natCast] at hco
     have hmem:=lU hlt
     have hdr:=nX hlt
     generalize hi:rd order (k:Int)=i at *
     clear hi
     obtain ⟨hi0,hi1⟩:=HS.out.me.ordin i hmem
     obtain ⟨hwy,hwn⟩:=HS.out.me.goin i hmem
     have hwf:(Lit.int .i64 i).wf=true:=WalkArith.wf_i64 (by have:=Kd.kI HH.out.graph;omega)
     rw [hdr] at HP
     clear hdr hmem
     obtain ⟨ad,A0,c0,rfl,x0,x1,x2,x3,x4,x5,x6,x7,hl,hi⟩:=iJ (Kd.bJ HS.out.me.graph HS.out.me.below) i hi0 hi1
     clear hl hi
     have d1:=fQ HS.out.me.blk 1
     have d4:=fQ HS.out.me.blk 4
     have d5:=fQ HS.out.me.blk 5
     have hBq:B<wr.heap.size:=aZ HS.out.me.blk
     generalize hblk:ah g i=blk at *
     have Hblk:=aa.mk hblk
     clear hblk
     have hlP:∀ o m,(Instr.lookup 66 (.map (some w.heap.size)) (.int .i64 i) false).run Try.prog ((wr.alloc o).drewN m) = .ok (.int .i64 (p i)) ((wr.alloc o).drewN m):=fun o m=>fM (HS.out.mP.below (af (ai (Below.refl _ _) o) m)) i hwf
     have hlF:∀ o m,(Instr.lookup 67 (.map (some bF)) (.int .i64 i) false).run Try.prog ((wr.alloc o).drewN m) = .ok (.agg #[.bool (f i).1,.bool (f i).2]) ((wr.alloc o).drewN m):=fun o m=>lc (HS.out.me.mF.below (af (ai (Below.refl _ _) o) m)) i hwf
     by_cases c1:blk.f1=3
     · have c1b:(blk.f1 != 3)=false:=bne_eq_false_iff_eq.mpr c1
       have C1:=aa.mk c1
       clear c1
       generalize hfi:f i=fi at *
       have Hfi:=aa.mk hfi
       clear hfi
       obtain ⟨fy,fn⟩:=fi
       dsimp only at hlF
       go_wp2
       go_quiet (fail)
       go_wp2
       refine forget (fun W=>Below wr.heap.size wr W∧W.heap[wr.heap.size]?=some (.cells #[.slice A0 blk.f0.length c0,.int .i64 blk.f1,.int .u16 blk.f2.f0,.int .u8 blk.f2.f1,.int .u8 blk.f2.f2,.int .u32 blk.f2.f3,.int .i64 blk.f3,.int .i64 blk.f4] 47 (0,0))∧W.heap[wr.heap.size+1]?=some (.cells #[.bool fy,.bool fn] 121 (0,0))) ⟨ai (af (ai (Below.refl _ _) _) _) _,aV (aQ (dY _ _) _) _,?_⟩ ?_
       · have:=dY ((wr.alloc (.cells #[.slice A0 blk.f0.length c0,.int .i64 blk.f1,.int .u16 blk.f2.f0,.int .u8 blk.f2.f1,.int .u8 blk.f2.f2,.int .u32 blk.f2.f3,.int .i64 blk.f3,.int .i64 blk.f4] 47)).drewN nq) (.cells #[.bool fy,.bool fn] 121)
         rwa [show ((wr.alloc (.cells #[.slice A0 blk.f0.length c0,.int .i64 blk.f1,.int .u16 blk.f2.f0,.int .u8 blk.f2.f1,.int .u8 blk.f2.f2,.int .u32 blk.f2.f3,.int .i64 blk.f3,.int .i64 blk.f4] 47)).drewN nq).heap.size=wr.heap.size+1 from World.size_alloc _ _] at this
       rintro W ⟨hb,hO,hF⟩
       have e4:=aI hb d4
       clear hlP hlF d1 d4 d5 hco x0 x1 x2 x3 x4 x5 x6 x7
       have oy:W.cell? ⟨wr.heap.size,6,none⟩=some (.int .i64 blk.f3):=(ag hO 6).trans rfl
       have on:W.cell? ⟨wr.heap.size,7,none⟩=some (.int .i64 blk.f4):=(ag hO 7).trans rfl
       have fy0:W.cell? ⟨wr.heap.size+1,0,none⟩=some (.bool fy):=(ag hF 0).trans rfl
       have fz0:=aj hF 0
       have lY:(Instr.lookup 66 (.map (some w.heap.size)) (.int .i64 blk.f3) false).run Try.prog W.drew = .ok (.int .i64 (p blk.f3)) W.drew:=fM (HS.out.mP.below (ae hb)) blk.f3 hwy
       have HbW:=aa.mk hb
       have HO7:=aa.mk hO
       have HF7:=aa.mk hF
       clear hb hO hF
       cases fy
       all_goals
        go_region
        go_wp2
       all_goals
        first
         | (refine forget (fun W=>Below wr.heap.size wr W∧W.heap[wr.heap.size]?=some (.cells #[.slice A0 blk.f0.length c0,.int .i64 blk.f1,.int .u16 blk.f2.f0,.int .u8 blk.f2.f1,.int .u8 blk.f2.f2,.int .u32 blk.f2.f3,.int .i64 blk.f3,.int .i64 blk.f4] 47 (0,0))∧W.heap[wr.heap.size+1]?=some (.cells #[.bool (gU blk p i (false,fn)).1,.bool fn] 121 (0,0))) ⟨ae (bU HbW.out (Nat.le_succ _)),aX (bQ HO7.out (Nat.ne_of_lt (Nat.lt_succ_self _)) _),aX (aJ HF7.out 0 _ rfl)⟩ ?_)
         | (refine forget (fun W=>Below wr.heap.size wr W∧W.heap[wr.heap.size]?=some (.cells #[.slice A0 blk.f0.length c0,.int .i64 blk.f1,.int .u16 blk.f2.f0,.int .u8 blk.f2.f1,.int .u8 blk.f2.f2,.int .u32 blk.f2.f3,.int .i64 blk.f3,.int .i64 blk.f4] 47 (0,0))∧W.heap[wr.heap.size+1]?=some (.cells #[.bool (gU blk p i (true,fn)).1,.bool fn] 121 (0,0))) ⟨ae (bU HbW.out (Nat.le_succ _)),aX (bQ HO7.out (Nat.ne_of_lt (Nat.lt_succ_self _)) _),aX (aJ HF7.out 0 _ rfl)⟩ ?_)
       all_goals
        clear HbW HO7 HF7 oy on fy0 fz0 lY
        rintro W8 ⟨hb,hO,hF⟩
        have on:W8.cell? ⟨wr.heap.size,7,none⟩=some (.int .i64 blk.f4):=(ag hO 7).trans rfl
        have fn0:W8.cell? ⟨wr.heap.size+1,1,none⟩=some (.bool fn):=(ag hF 1).trans rfl
        have fz1:=aj hF 1
        have g4:W8.cell? ⟨B,4,none⟩=some (.map (some w.heap.size)):=aI hb ((ag HS.out.me.blk 4).trans rfl)
        have lN:(Instr.lookup 66 (.map (some w.heap.size)) (.int .i64 blk.f4) false).run Try.prog W8.drew = .ok (.int .i64 (p blk.f4)) W8.drew:=fM (HS.out.mP.below (ae hb)) blk.f4 hwn
        have HbW:=aa.mk hb
        have HO7:=aa.mk hO
        have HF7:=aa.mk hF
        clear hb hO hF
        cases fn
        all_goals
         go_region
         go_wp2
       all_goals
        refine forget (fun W=>Below wr.heap.size wr W∧∃ N,aa (N=gU blk p i (f i))∧W.heap[wr.heap.size+1]?=some (.cells #[.bool N.1,.bool N.2] 121 (0,0))) ⟨ae (bU HbW.out (Nat.le_succ _)),_,⟨rfl⟩,by rw [Hfi.out];exact aX (aJ HF7.out 1 _ rfl)⟩ ?_
       all_goals
        clear HbW HO7 HF7 on fn0 fz1 g4 lN Hfi
        rintro W9 ⟨hb,⟨ny,nn⟩,HN,hF⟩
        have fy0:W9.cell? ⟨wr.heap.size+1,0,none⟩=some (.bool ny):=(ag hF 0).trans rfl
        have fn0:W9.cell? ⟨wr.heap.size+1,1,none⟩=some (.bool nn):=(ag hF 1).trans rfl
        have g5:W9.cell? ⟨B,5,none⟩=some (.map (some bF)):=aI hb ((ag HS.out.me.blk 5).trans rfl)
        have lF9:∀ m,(Instr.lookup 67 (.map (some bF)) (.int .i64 i) false).run Try.prog (W9.drewN m) = .ok (.agg #[.bool (f i).1,.bool (f i).2]) (W9.drewN m):=fun m=>lc (HS.out.me.mF.below (af hb m)) i hwf
        have HbW:=aa.mk hb
        have HF9:=aa.mk hF
        clear hb hF
        generalize hfi:f i=fi at *
        have Hfi:=aa.mk hfi
        clear hfi
        obtain ⟨qy,qn⟩:=fi
        dsimp only at lF9
        by_cases ey:ny=qy
        · subst ey
          by_cases en:nn=qn
          · subst en
            have HP':=rT (g:=g) (pl:=p) (b:=b) (r:=order.drop (k+1)) Hblk.out C1.out Hfi.out HN.out
            have HP2:=aa.mk (HP'.symm.trans HP.out)
            clear HP' HP
            go_quiet (fail)
            go_wp2
            have HS':=aa.mk (St2.same HS.out (rM (af HbW.out nq)))
            go_roundw
            case rel=>exact ⟨k+1,f,b,by omega,by go_num,rfl,HP2,HS'⟩
            case measure=>simp [intOf];omega
          go_quiet (fail)
          go_wp2
          refine forget (fun W=>Below wr.heap.size wr W∧W.heap[wr.heap.size+1]?=some (.cells #[.bool ny,.bool nn] 121 (0,0))) ⟨af HbW.out _,aQ HF9.out _⟩ ?_
          rintro W10 ⟨hb,hF⟩
          obtain ⟨w11,hrun,hm,hg⟩:=eX.store (HS.out.me.mF.below (ae hb)) rW Try.underlying3 Try.underlying67 (by have:=hn;omega) i hwf (oF (ny,nn))
          have hrun':(Instr.mapUpdate 67 (.map (some bF)) (.int .i64 i) (.agg #[.bool ny,.bool nn])).run Try.prog W10.drew = .ok () w11:=hrun
          have k0:W10.cell? ⟨wr.heap.size+1,0,none⟩=some (.bool ny):=(ag hF 0).trans rfl
          have k1:W10.cell? ⟨wr.heap.size+1,1,none⟩=some (.bool nn):=(ag hF 1).trans rfl
          have k5:W10.cell? ⟨B,5,none⟩=some (.map (some bF)):=aI hb ((ag HS.out.me.blk 5).trans rfl)
          have hst:=St2.step HS.out hb hm hg
          have Hst:=aa.mk hst
          have HP':=mK (g:=g) (pl:=p) (b:=b) (r:=order.drop (k+1)) Hblk.out C1.out Hfi.out HN.out (fun e=>en (Prod.mk.inj e).2)
          have HP2:=aa.mk (HP'.symm.trans HP.out)
          clear hst hb hF hm hg hrun HP' HP fy0 fn0 g5 lF9
          go_region
          go_wp2
          go_roundw
          case rel=>exact ⟨k+1,_,true,by omega,by go_num,rfl,HP2,Hst⟩
          case measure=>simp [intOf];omega
        go_quiet (fail)
        go_wp2
        refine forget (fun W=>Below wr.heap.size wr W∧W.heap[wr.heap.size+1]?=some (.cells #[.bool ny,.bool nn] 121 (0,0))) ⟨af HbW.out _,aQ HF9.out _⟩ ?_
        rintro W10 ⟨hb,hF⟩
        obtain ⟨w11,hrun,hm,hg⟩:=eX.store (HS.out.me.mF.below (ae hb)) rW Try.underlying3 Try.underlying67 (by have:=hn;omega) i hwf (oF (ny,nn))
        have hrun':(Instr.mapUpdate 67 (.map (some bF)) (.int .i64 i) (.agg #[.bool ny,.bool nn])).run Try.prog W10.drew = .ok () w11:=hrun
        have k0:W10.cell? ⟨wr.heap.size+1,0,none⟩=some (.bool ny):=(ag hF 0).trans rfl
        have k1:W10.cell? ⟨wr.heap.size+1,1,none⟩=some (.bool nn):=(ag hF 1).trans rfl
        have k5:W10.cell? ⟨B,5,none⟩=some (.map (some bF)):=aI hb ((ag HS.out.me.blk 5).trans rfl)
        have hst:=St2.step HS.out hb hm hg
        have Hst:=aa.mk hst
        have HP':=mK (g:=g) (pl:=p) (b:=b) (r:=order.drop (k+1)) Hblk.out C1.out Hfi.out HN.out (fun e=>ey (Prod.mk.inj e).1)
        have HP2:=aa.mk (HP'.symm.trans HP.out)
        clear hst hb hF hm hg hrun HP' HP fy0 fn0 g5 lF9
        go_region
        go_wp2
        go_roundw
        case rel=>exact ⟨k+1,_,true,by omega,by go_num,rfl,HP2,Hst⟩
        case measure=>simp [intOf];omega
     have c1b:(blk.f1 != 3)=true:=bne_iff_ne.mpr c1
     have hb2:fJ g p (i :: order.drop (k+1)) f b=fJ g p (order.drop (k+1)) f b:=by show (if (ah g i).f1=3 then _ else _)=_;rw [Hblk.out,if_neg c1]
     have HP':=aa.mk (hb2.symm.trans HP.out)
     clear hb2 HP
     go_wp2
     have HS':=fun o=>aa.mk (St2.same HS.out (ai (Below.refl wr.heap.size wr) o))
     go_roundw
     case rel=>exact ⟨k+1,f,b,by omega,by go_num,rfl,HP',HS' _⟩
     case measure=>simp [intOf];omega
   have hkl:k=order.length:=by omega
   subst hkl
   have hp:=HP.out
   rw [List.drop_length] at hp
   have hp1:f=(fJ g p order fars false).1:=congrArg Prod.fst hp
   have hp2:b=(fJ g p order fars false).2:=congrArg Prod.snd hp
   have Hp1:=aa.mk hp1
   have Hp2:=aa.mk hp2
   clear HP hp hp1 hp2
   go_wp2
   go_ret
   exact ⟨congrArg (fun x=>Ending.returned (Value.bool x)) (Hp2.out.trans (by rw [←HPL.out])),by rw [←HPL.out,←Hp1.out];exact HS.out.me,by rw [←HPL.out];exact HS.out.mP,HS.out.kp⟩
end Go.Proofs.Ytdkalnkplgfgoaa.Ln
namespace Go.Proofs.Ytdkalnkplgfgoaa.PB
open Go.RowKit Go.Proofs.YtdkalnkplgfgoaaW.PrintWords Go.Proofs.YtdkalnkplgfgoaaW.PrintLast Go.Proofs.YtdkalnkplgfgoaaW.PrintMore
attribute [local go_sem] dE dG ed ek dm dn dF dH
def tO:Option Int→Value
  | none => .nilIface
  | some c => .iface 0 (.int .i64 c)
theorem fB:tO none = .nilIface:=rfl
theorem fC (c:Int):tO (some c) = .iface 0 (.int .i64 c):=rfl
theorem info5:(Try.prog.info? 5).map (fun i=>(i.zero,i.size,i.bytes))=some (some (.int .u8 0),1,1):=by kernel_rfl
end Go.Proofs.Ytdkalnkplgfgoaa.PB
namespace Go.Proofs.Ytdkalnkplgfgoaa.Ln
open Go.RowKit Go.Maps Go.Proofs.YtdkalnkplgfgoaaW.PrintWords Go.Proofs.YtdkalnkplgfgoaaW.PrintLast Go.Proofs.YtdkalnkplgfgoaaW.PrintMore Go.Proofs.Ytdkalnkplgfgoaa.PB
def be4 (l:List Int):Int:=l.foldl (fun x b=>Go.bits .or .u32 ((x*256) % 4294967296) (b % 4294967296)) 0
def rdG (p:List Int) (a s:Int):Int × Bool:=if a+s≤p.length then (be4 ((p.take (a+s).toNat).drop a.toNat),true) else (0,false)
theorem tu (l:List Int) (b:Int):be4 (l++[b])=Go.bits .or .u32 ((be4 l*256) % 4294967296) (b % 4294967296):=by
  unfold be4
  rw [List.foldl_append];rfl
theorem tC {l:List Int} {j:Nat} (h:j<l.length):be4 (l.take (j+1))=Go.bits .or .u32 ((be4 (l.take j)*256) % 4294967296) (rd l (j:Int) % 4294967296):=by
  rw [List.take_succ_eq_append_getElem h,tu]
  unfold rd
  rw [Int.toNat_natCast,List.getD_eq_getElem?_getD,List.getElem?_eq_getElem h];rfl
theorem pY (w:World) (n a s:Int) (h0:0≤a) (hs:s=1∨s=2∨s=4) (hn:0≤n) (hn2:n<2 ^ 62) :
    Calls Try.prog 168 #[.int .i64 n,.int .i64 a,.int .i64 s] w fun e w'=>e = .returned (.bool (decide (a+s≤n)))∧bR w w':=by
  have hw:wrap64 (n - s)=n - s:=by unfold wrap64;omega
  have e:decide (a+s≤n)=decide (a≤wrap64 (n - s)):=decide_eq_decide.2 (by rw [hw];omega)
  rw [e]
  have c1:decide (0≤a)=true:=decide_eq_true h0
  clear hw e hn hn2
  rcases hs with rfl | rfl | rfl
  all_goals
    go_enter Try.func168,Try.ntmps168
    go_wp2
    go_ret
    exact ⟨rfl,bR.refl _⟩
theorem rU (w:World) (p:List Int) (A:Option Addr) (c:Nat) (a s:Int) (hP:Kd.C (Kd.int .u8) w A p.length p) (hc:p.length≤c) (hl:p.length<2 ^ 62) (h0:0≤a) (ha:a<2 ^ 62) (hs:s=1∨s=2∨s=4) :
    Calls Try.prog 164 #[.slice A p.length c,.int .i64 a,.int .i64 s] w fun e w'=>e = .returned (.tuple #[.int .u32 (rdG p a s).1,.bool (rdG p a s).2])∧bR w w':=by
  have HF:=aa.mk (pY w (p.length:Int) a s h0 hs (by omega) (by omega))
  by_cases h:a+s≤(p.length:Int)
  · have hb:decide (a+s≤(p.length:Int))=true:=decide_eq_true h
    have hw:wrap64 (a+s)=a+s:=by unfold wrap64;omega
    obtain ⟨e,he⟩:∃ e,e=wrap64 (a+s):=⟨_,rfl⟩
    have hea:a≤e:=by omega
    have hel:e≤(p.length:Int):=by omega
    have hr:rdG p a s=(be4 ((p.take e.toNat).drop a.toNat),true):=by unfold rdG;rw [if_pos h,he,hw]
    rw [hr]
    rw [hb] at HF
    obtain ⟨i,hi,_,hsz,_⟩:=info_parts info5
    obtain ⟨A9,hcut,hA9,hC9⟩:=nV (P:=Try.prog) (Value.int .u8) 0 38 5 .i64 .i64 Try.underlying38 hi hsz A c p a e h0 hea hel hc
    have HR:=aa.mk (Kd.pG (h1:=fun _=>rfl) (hA9 _ (Kd.lV hP)))
    obtain ⟨q,hq⟩:∃ q,q=(p.take e.toNat).drop a.toNat:=⟨_,rfl⟩
    rw [←hq] at hcut HR ⊢
    rw [he] at hcut
    have hq4:q.length≤4:=by rw [hq,List.length_drop,List.length_take];omega
    clear hA9 hC9 hi hsz hP hc hr hb hw h hq he hea hel hs h0 ha hl
    dsimp only
    go_enter Try.func164,Try.ntmps164
    go_wp2_with (go_at_call 168;refine HF.out.mono ?_;rintro e w' ⟨rfl,⟨nd,rfl⟩⟩)
    go_loopw [8,24] (fun v8 v24 wr=>∃ j:Nat,j≤q.length∧v24 = .int .i64 j∧v8 = .int .u32 (be4 (q.take j))∧bR w wr) (fun _ v24 _=>q.length - (intOf v24).toNat)
    case atStart=>exact ⟨0,Nat.zero_le _,rfl,by rw [List.take_zero];rfl,⟨_,rfl⟩⟩
    case round=>
      obtain ⟨j,hj,rfl,rfl,⟨m,rfl⟩⟩:=hrel
      by_cases hlt:j<q.length
      · have hlb:decide (j<q.length)=true:=decide_eq_true hlt
        have HB:=aa.mk (tC hlt)
        have i0:(0:Int)≤(j:Int):=by omega
        have i1:(j:Int)<(q.length:Int):=by omega
        obtain ⟨ad,ead,hx⟩:=Kd.iw HR.out (j:Int) i0 i1
        cases ead
        rw [Int.toNat_natCast] at hx
        obtain ⟨b,eb⟩:∃ b,b=rd q (j:Int):=⟨_,rfl⟩
        obtain ⟨x,ex⟩:∃ x,x=be4 (q.take j):=⟨_,rfl⟩
        rw [←eb] at HB hx
        rw [←ex] at HB ⊢
        clear eb ex
        go_wp2
        go_roundw
        case rel=>exact ⟨j+1,by omega,by go_num,by rw [HB.out],⟨_,rfl⟩⟩
        case measure=>simp [intOf];omega
      · have hlb:decide (j<q.length)=false:=decide_eq_false hlt
        have hj2:q.take j=q:=List.take_of_length_le (by omega)
        rw [hj2]
        clear hj2
        go_wp2
        go_ret2
        exact ⟨rfl,⟨_,rfl⟩⟩
  · have hb:decide (a+s≤(p.length:Int))=false:=decide_eq_false h
    have hr:rdG p a s=(0,false):=by unfold rdG;rw [if_neg h]
    rw [hr]
    rw [hb] at HF
    clear hr hb h
    dsimp only
    go_enter Try.func164,Try.ntmps164
    go_wp2_with (go_at_call 168;refine HF.out.mono ?_;rintro e w' ⟨rfl,⟨nd,rfl⟩⟩)
    go_ret2
    exact ⟨rfl,⟨_,rfl⟩⟩
end Go.Proofs.Ytdkalnkplgfgoaa.Ln
namespace Go.Proofs.Ytdkalnkplgfgoaa.PA
open Go.RowKit Go.Proofs.YtdkalnkplgfgoaaW.PrintWords Go.Proofs.YtdkalnkplgfgoaaW.PrintLast Go.Proofs.YtdkalnkplgfgoaaW.PrintMore
attribute [local go_sem] dE dG ed ek dm dn dF dH
def aK.f (a0:Int):Option (Bool):=if a0=21 then (some true) else (if a0=29 then (some true) else (if a0=37 then (some true) else (if a0=45 then (some true) else (if a0=53 then (some true) else (if a0=61 then (some true) else (if a0=69 then (some true) else (if a0=77 then (some true) else (some false))))))))
theorem aK.calls (a0:Int) (r:Bool) (w:World) (h:aK.f a0=some r) :
 Calls Try.prog 50 #[.int .u16 a0] w fun e w'=>e = .returned (.bool r)∧bR w w':=by
 have H:(if a0=21 then (some true) else (if a0=29 then (some true) else (if a0=37 then (some true) else (if a0=45 then (some true) else (if a0=53 then (some true) else (if a0=61 then (some true) else (if a0=69 then (some true) else (if a0=77 then (some true) else (some false)))))))))=some r:=h
 clear h
 iterate 2
  replace H:=bL H
  obtain ⟨H,-,_,_⟩ | ⟨H,c2,_,_⟩:=H
  · cases H
    go_enter Try.func50,Try.ntmps50
    go_wp2
    go_ret
    exact ⟨aY,bB⟩
 iterate 2
  replace H:=bL H
  obtain ⟨H,-,_,_⟩ | ⟨H,c4,_,_⟩:=H
  · cases H
    go_enter Try.func50,Try.ntmps50
    go_wp2
    go_ret
    exact ⟨aY,bB⟩
 iterate 2
  replace H:=bL H
  obtain ⟨H,-,_,_⟩ | ⟨H,c6,_,_⟩:=H
  · cases H
    go_enter Try.func50,Try.ntmps50
    go_wp2
    go_ret
    exact ⟨aY,bB⟩
 iterate 2
  replace H:=bL H
  obtain ⟨H,-,_,_⟩ | ⟨H,c8,_,_⟩:=H
  · cases H
    go_enter Try.func50,Try.ntmps50
    go_wp2
    go_ret
    exact ⟨aY,bB⟩
 cases H
 go_enter Try.func50,Try.ntmps50
 go_wp2
 go_ret
 exact ⟨aY,bB⟩
def aA.j0:Nat→Int→Bool→Option (Bool)
 | 0,_,_=>none
 | k+1,x3,x4=>if x4=true then (some true) else (if x3=100 then (some true) else (if x3=108 then (some true) else (if x3=116 then (some true) else (if x3=124 then (some true) else (if x3=148 then (some true) else (if x3=156 then (some true) else (if x3=164 then (some true) else (if x3=172 then (some true) else (some false)))))))))
def aA.f (k:Nat) (a0:Int):Option (Bool):=if a0=4 then (aA.j0 k a0 (a0==4)) else (if a0=12 then (aA.j0 k a0 (a0==12)) else (if a0=20 then (aA.j0 k a0 (a0==20)) else (if a0=28 then (aA.j0 k a0 (a0==28)) else (if a0=36 then (aA.j0 k a0 (a0==36)) else (if a0=44 then (aA.j0 k a0 (a0==44)) else (if a0=52 then (aA.j0 k a0 (a0==52)) else (if a0=60 then (aA.j0 k a0 (a0==60)) else (if a0=68 then (aA.j0 k a0 (a0==68)) else (if a0=76 then (aA.j0 k a0 (a0==76)) else (if a0=84 then (aA.j0 k a0 (a0==84)) else (aA.j0 k a0 (a0==92))))))))))))
theorem aA.calls (k:Nat) (a0:Int) (r:Bool) (w:World) (h:aA.f k a0=some r) :
 Calls Try.prog 92 #[.int .u16 a0] w fun e w'=>e = .returned (.bool r)∧bR w w':=by
 have H:(if a0=4 then (aA.j0 k a0 (a0==4)) else (if a0=12 then (aA.j0 k a0 (a0==12)) else (if a0=20 then (aA.j0 k a0 (a0==20)) else (if a0=28 then (aA.j0 k a0 (a0==28)) else (if a0=36 then (aA.j0 k a0 (a0==36)) else (if a0=44 then (aA.j0 k a0 (a0==44)) else (if a0=52 then (aA.j0 k a0 (a0==52)) else (if a0=60 then (aA.j0 k a0 (a0==60)) else (if a0=68 then (aA.j0 k a0 (a0==68)) else (if a0=76 then (aA.j0 k a0 (a0==76)) else (if a0=84 then (aA.j0 k a0 (a0==84)) else (aA.j0 k a0 (a0==92)))))))))))))=some r:=h
 clear h
 have HC2:=aa.mk H
 clear H
 go_enter Try.func92,Try.ntmps92
 go_upto_if 4 with (fail)
 go_cut [4] (fun v4 wc=>∃ (kq:Nat) (x4_1:Bool),v4 = .bool x4_1∧aa (aA.j0 kq a0 x4_1=some r)∧aa (kq≤k)∧bR w wc)
 case first=>
  have H:=HC2.out
  clear HC2
  replace H:=bL H
  obtain ⟨H,-,c3b0,_⟩ | ⟨H,c3,c3b0,_⟩:=H
  · (first | rw [c3b0] | (simp only [ax,ay];rw [c3b0]) | skip)
    replace H:=aa.mk H
    go_wp2
    go_meet
    case rel=>exact ⟨_,_,aY,H,⟨le0⟩,bB⟩
  (first | rw [c3b0] | (simp only [ax,ay];rw [c3b0]) | skip)
  iterate 2
   replace H:=bL H
   obtain ⟨H,-,_,_⟩ | ⟨H,c4,_,_⟩:=H
   · replace H:=aa.mk H
     go_wp2
     go_meet
     case rel=>exact ⟨_,_,aY,H,⟨le0⟩,bB⟩
  iterate 2
   replace H:=bL H
   obtain ⟨H,-,_,_⟩ | ⟨H,c6,_,_⟩:=H
   · replace H:=aa.mk H
     go_wp2
     go_meet
     case rel=>exact ⟨_,_,aY,H,⟨le0⟩,bB⟩
  iterate 2
   replace H:=bL H
   obtain ⟨H,-,_,_⟩ | ⟨H,c8,_,_⟩:=H
   · replace H:=aa.mk H
     go_wp2
     go_meet
     case rel=>exact ⟨_,_,aY,H,⟨le0⟩,bB⟩
  iterate 2
   replace H:=bL H
   obtain ⟨H,-,_,_⟩ | ⟨H,c10,_,_⟩:=H
   · replace H:=aa.mk H
     go_wp2
     go_meet
     case rel=>exact ⟨_,_,aY,H,⟨le0⟩,bB⟩
  iterate 2
   replace H:=bL H
   obtain ⟨H,-,_,_⟩ | ⟨H,c12,_,_⟩:=H
   · replace H:=aa.mk H
     go_wp2
     go_meet
     case rel=>exact ⟨_,_,aY,H,⟨le0⟩,bB⟩
  replace H:=aa.mk H
  go_wp2
  go_meet
  case rel=>exact ⟨_,_,aY,H,⟨le0⟩,bB⟩
 case rest=>
  clear HC2
  obtain ⟨kq,x4_1,rfl,HA,HJ1,⟨mc1,rfl⟩⟩:=hcut
  cases kq with
  | zero=>exact absurd HA.out (by simp [aA.j0])
  | succ kj1=>
   have H:=HA.out
   clear HA
   simp only [aA.j0] at H
   by_cases c14:x4_1=true
   · subst c14
     have H1:(some true)=some r:=by rw [if_pos rfl] at H;exact H
     clear H
     have H:=H1
     clear H1
     cases H
     go_wp2
     go_ret
     exact ⟨aY,bB⟩
   replace c14:=Bool.eq_false_iff.mpr c14
   subst c14
   have H1:(if a0=100 then (some true) else (if a0=108 then (some true) else (if a0=116 then (some true) else (if a0=124 then (some true) else (if a0=148 then (some true) else (if a0=156 then (some true) else (if a0=164 then (some true) else (if a0=172 then (some true) else (some false)))))))))=some r:=by rw [if_neg (show ¬(false=true) by decide)] at H;exact H
   clear H
   have H:=H1
   clear H1
   iterate 2
    replace H:=bL H
    obtain ⟨H,-,_,_⟩ | ⟨H,c15,_,_⟩:=H
    · cases H
      go_wp2
      go_ret
      exact ⟨aY,bB⟩
   iterate 2
    replace H:=bL H
    obtain ⟨H,-,_,_⟩ | ⟨H,c17,_,_⟩:=H
    · cases H
      go_wp2
      go_ret
      exact ⟨aY,bB⟩
   iterate 2
    replace H:=bL H
    obtain ⟨H,-,_,_⟩ | ⟨H,c19,_,_⟩:=H
    · cases H
      go_wp2
      go_ret
      exact ⟨aY,bB⟩
   iterate 2
    replace H:=bL H
    obtain ⟨H,-,_,_⟩ | ⟨H,c21,_,_⟩:=H
    · cases H
      go_wp2
      go_ret
      exact ⟨aY,bB⟩
   cases H
   go_wp2
   go_ret
   exact ⟨aY,bB⟩
attribute [local go_sem] dE dG ed ek dm dn dF dH
mutual
def av.j0:Nat→Int→Int→Bool→Option (Bool)
 | 0,_,_,_=>none
 | k+1,x0,x3,x4=>if x4=true then (some true) else (if x3=1 then (av.j1 k x0 (x3==1)) else (if x3=97 then (av.j1 k x0 (x3==97)) else (if x3=129 then (av.j1 k x0 (x3==129)) else (if x3=177 then (av.j1 k x0 (x3==177)) else (if x3=2 then (av.j1 k x0 (x3==2)) else (if x3=3 then (av.j1 k x0 (x3==3)) else (if x3=132 then (av.j1 k x0 (x3==132)) else (if x3=6 then (av.j1 k x0 (x3==6)) else (if x3=22 then (av.j1 k x0 (x3==22)) else (if x3=7 then (av.j1 k x0 (x3==7)) else (if x3=135 then (av.j1 k x0 (x3==135)) else (av.j1 k x0 (x3==5)))))))))))))
def av.j1:Nat→Int→Bool→Option (Bool)
 | 0,_,_=>none
 | k+1,x0,x14=>if x14=true then (some true) else ((aK.f x0).bind fun t103=>(if t103=true then (some true) else ((aA.f k x0).bind fun t104=>(some t104))))
end
def av.f (k:Nat) (a0:Int):Option (Bool):=if a0=0 then (av.j0 k a0 a0 (a0==0)) else (if a0=32 then (av.j0 k a0 a0 (a0==32)) else (if a0=40 then (av.j0 k a0 a0 (a0==40)) else (if a0=48 then (av.j0 k a0 a0 (a0==48)) else (if a0=64 then (av.j0 k a0 a0 (a0==64)) else (if a0=72 then (av.j0 k a0 a0 (a0==72)) else (if a0=80 then (av.j0 k a0 a0 (a0==80)) else (if a0=96 then (av.j0 k a0 a0 (a0==96)) else (av.j0 k a0 a0 (a0==128)))))))))
theorem av.calls (k:Nat) (a0:Int) (r:Bool) (w:World) (h:av.f k a0=some r) :
 Calls Try.prog 81 #[.int .u16 a0] w fun e w'=>e = .returned (.bool r)∧bR w w':=by
 have H:(if a0=0 then (av.j0 k a0 a0 (a0==0)) else (if a0=32 then (av.j0 k a0 a0 (a0==32)) else (if a0=40 then (av.j0 k a0 a0 (a0==40)) else (if a0=48 then (av.j0 k a0 a0 (a0==48)) else (if a0=64 then (av.j0 k a0 a0 (a0==64)) else (if a0=72 then (av.j0 k a0 a0 (a0==72)) else (if a0=80 then (av.j0 k a0 a0 (a0==80)) else (if a0=96 then (av.j0 k a0 a0 (a0==96)) else (av.j0 k a0 a0 (a0==128))))))))))=some r:=h
 clear h
 have HC2:=aa.mk H
 clear H
 go_enter Try.func81,Try.ntmps81
 go_upto_if 4 with (fail)
 go_cut [4] (fun v4 wc=>∃ (kq:Nat) (x4_1:Bool),v4 = .bool x4_1∧aa (av.j0 kq a0 a0 x4_1=some r)∧aa (kq≤k)∧bR w wc)
 case first=>
  have H:=HC2.out
  clear HC2
  replace H:=bL H
  obtain ⟨H,-,c3b0,_⟩ | ⟨H,c3,c3b0,_⟩:=H
  · (first | rw [c3b0] | (simp only [ax,ay];rw [c3b0]) | skip)
    replace H:=aa.mk H
    go_wp2
    go_meet
    case rel=>exact ⟨_,_,aY,H,⟨le0⟩,bB⟩
  (first | rw [c3b0] | (simp only [ax,ay];rw [c3b0]) | skip)
  replace H:=bL H
  obtain ⟨H,-,_,_⟩ | ⟨H,c4,_,_⟩:=H
  · replace H:=aa.mk H
    go_wp2
    go_meet
    case rel=>exact ⟨_,_,aY,H,⟨le0⟩,bB⟩
  iterate 2
   replace H:=bL H
   obtain ⟨H,-,_,_⟩ | ⟨H,c5,_,_⟩:=H
   · replace H:=aa.mk H
     go_wp2
     go_meet
     case rel=>exact ⟨_,_,aY,H,⟨le0⟩,bB⟩
  iterate 2
   replace H:=bL H
   obtain ⟨H,-,_,_⟩ | ⟨H,c7,_,_⟩:=H
   · replace H:=aa.mk H
     go_wp2
     go_meet
     case rel=>exact ⟨_,_,aY,H,⟨le0⟩,bB⟩
  iterate 2
   replace H:=bL H
   obtain ⟨H,-,_,_⟩ | ⟨H,c9,_,_⟩:=H
   · replace H:=aa.mk H
     go_wp2
     go_meet
     case rel=>exact ⟨_,_,aY,H,⟨le0⟩,bB⟩
  replace H:=aa.mk H
  go_wp2
  go_meet
  case rel=>exact ⟨_,_,aY,H,⟨le0⟩,bB⟩
 case rest=>
  clear HC2
  obtain ⟨kq,x4_1,rfl,HA,HJ1,⟨mc1,rfl⟩⟩:=hcut
  cases kq with
  | zero=>exact absurd HA.out (by simp [av.j0])
  | succ kj1=>
   have H:=HA.out
   clear HA
   simp only [av.j0] at H
   by_cases c11:x4_1=true
   · subst c11
     have H1:(some true)=some r:=by rw [if_pos rfl] at H;exact H
     clear H
     have H:=H1
     clear H1
     cases H
     go_wp2
     go_ret
     exact ⟨aY,bB⟩
   replace c11:=Bool.eq_false_iff.mpr c11
   subst c11
   have H1:(if a0=1 then (av.j1 kj1 a0 (a0==1)) else (if a0=97 then (av.j1 kj1 a0 (a0==97)) else (if a0=129 then (av.j1 kj1 a0 (a0==129)) else (if a0=177 then (av.j1 kj1 a0 (a0==177)) else (if a0=2 then (av.j1 kj1 a0 (a0==2)) else (if a0=3 then (av.j1 kj1 a0 (a0==3)) else (if a0=132 then (av.j1 kj1 a0 (a0==132)) else (if a0=6 then (av.j1 kj1 a0 (a0==6)) else (if a0=22 then (av.j1 kj1 a0 (a0==22)) else (if a0=7 then (av.j1 kj1 a0 (a0==7)) else (if a0=135 then (av.j1 kj1 a0 (a0==135)) else (av.j1 kj1 a0 (a0==5)))))))))))))=some r:=by rw [if_neg (show ¬(false=true) by decide)] at H;exact H
   clear H
   have H:=H1
   clear H1
   have HC12:=aa.mk H
   clear H
   go_upto_if 14 with (fail)
   go_cut [14] (fun v14 wc=>∃ (kq:Nat) (x14_11:Bool),v14 = .bool x14_11∧aa (av.j1 kq a0 x14_11=some r)∧aa (kq≤kj1)∧bR w wc)
   case first=>
    have H:=HC12.out
    clear HC12
    replace H:=bL H
    obtain ⟨H,-,c13b0,_⟩ | ⟨H,c13,c13b0,_⟩:=H
    · (first | rw [c13b0] | (simp only [ax,ay];rw [c13b0]) | skip)
      replace H:=aa.mk H
      go_wp2
      go_meet
      case rel=>exact ⟨_,_,aY,H,⟨by have:=HJ1.out;first | omega | exact Nat.le_refl _⟩,bB⟩
    (first | rw [c13b0] | (simp only [ax,ay];rw [c13b0]) | skip)
    iterate 2
     replace H:=bL H
     obtain ⟨H,-,_,_⟩ | ⟨H,c14,_,_⟩:=H
     · replace H:=aa.mk H
       go_wp2
       go_meet
       case rel=>exact ⟨_,_,aY,H,⟨by have:=HJ1.out;first | omega | exact Nat.le_refl _⟩,bB⟩
    iterate 2
     replace H:=bL H
     obtain ⟨H,-,_,_⟩ | ⟨H,c16,_,_⟩:=H
     · replace H:=aa.mk H
       go_wp2
       go_meet
       case rel=>exact ⟨_,_,aY,H,⟨by have:=HJ1.out;first | omega | exact Nat.le_refl _⟩,bB⟩
    iterate 2
     replace H:=bL H
     obtain ⟨H,-,_,_⟩ | ⟨H,c18,_,_⟩:=H
     · replace H:=aa.mk H
       go_wp2
       go_meet
       case rel=>exact ⟨_,_,aY,H,⟨by have:=HJ1.out;first | omega | exact Nat.le_refl _⟩,bB⟩
    iterate 2
     replace H:=bL H
     obtain ⟨H,-,_,_⟩ | ⟨H,c20,_,_⟩:=H
     · replace H:=aa.mk H
       go_wp2
       go_meet
       case rel=>exact ⟨_,_,aY,H,⟨by have:=HJ1.out;first | omega | exact Nat.le_refl _⟩,bB⟩
    iterate 2
     replace H:=bL H
     obtain ⟨H,-,_,_⟩ | ⟨H,c22,_,_⟩:=H
     · replace H:=aa.mk H
       go_wp2
       go_meet
       case rel=>exact ⟨_,_,aY,H,⟨by have:=HJ1.out;first | omega | exact Nat.le_refl _⟩,bB⟩
    replace H:=aa.mk H
    go_wp2
    go_meet
    case rel=>exact ⟨_,_,aY,H,⟨by have:=HJ1.out;first | omega | exact Nat.le_refl _⟩,bB⟩
   case rest=>
    clear HC12
    obtain ⟨kq,x14_11,rfl,HA,HJ11,⟨mc11,rfl⟩⟩:=hcut
    cases kq with
    | zero=>exact absurd HA.out (by simp [av.j1])
    | succ kj11=>
     have H:=HA.out
     clear HA
     simp only [av.j1] at H
     by_cases c24:x14_11=true
     · subst c24
       have H1:(some true)=some r:=by rw [if_pos rfl] at H;exact H
       clear H
       have H:=H1
       clear H1
       cases H
       go_wp2
       go_ret
       exact ⟨aY,bB⟩
     replace c24:=Bool.eq_false_iff.mpr c24
     subst c24
     have H1:((aK.f a0).bind fun t103=>(if t103=true then (some true) else ((aA.f kj11 a0).bind fun t104=>(some t104))))=some r:=by rw [if_neg (show ¬(false=true) by decide)] at H;exact H
     clear H
     have H:=H1
     clear H1
     replace H:=bnd H
     obtain ⟨t103,A25,H⟩:=H
     replace H:=iQ H
     obtain ⟨rfl,H⟩ | ⟨rfl,H⟩:=H
     · cases H
       go_wp2_with (go_at_call 50;(with_reducible refine (aK.calls _ _ _ A25.out).mono ?_);rintro e w' ⟨rfl,⟨nd,rfl⟩⟩)
       go_ret
       exact ⟨aY,bB⟩
     replace H:=bnd H
     obtain ⟨t104,A27,H⟩:=H
     cases H
     go_wp2_with (first | (go_at_call 50;(with_reducible refine (aK.calls _ _ _ A25.out).mono ?_);rintro e w' ⟨rfl,⟨nd,rfl⟩⟩) | (go_at_call 92;(with_reducible refine (aA.calls _ _ _ _ A27.out).mono ?_);rintro e w' ⟨rfl,⟨nd,rfl⟩⟩))
     go_ret
     exact ⟨aY,bB⟩
attribute [local go_sem] dE dG ed ek dm dn dF dH
def bT.f (k:Nat) (a0:Int):Option (Bool):=(aK.f a0).bind fun t112=>(if t112=true then (some ((Go.bits .and .u16 a0 8) != 0)) else ((aA.f k a0).bind fun t113=>(if t113=true then (some ((Go.bits .and .u16 a0 8) != 0)) else (some false))))
theorem bT.calls (k:Nat) (a0:Int) (r:Bool) (w:World) (h:bT.f k a0=some r) :
 Calls Try.prog 58 #[.int .u16 a0] w fun e w'=>e = .returned (.bool r)∧bR w w':=by
 have H:((aK.f a0).bind fun t112=>(if t112=true then (some ((Go.bits .and .u16 a0 8) != 0)) else ((aA.f k a0).bind fun t113=>(if t113=true then (some ((Go.bits .and .u16 a0 8) != 0)) else (some false)))))=some r:=h
 clear h
 replace H:=bnd H
 obtain ⟨t112,A2,H⟩:=H
 replace H:=iQ H
 obtain ⟨rfl,H⟩ | ⟨rfl,H⟩:=H
 · cases H
   go_enter Try.func58,Try.ntmps58
   go_wp2_with (go_at_call 50;(with_reducible refine (aK.calls _ _ _ A2.out).mono ?_);rintro e w' ⟨rfl,⟨nd,rfl⟩⟩)
   go_ret
   exact ⟨aY,bB⟩
 replace H:=bnd H
 obtain ⟨t113,A4,H⟩:=H
 replace H:=iQ H
 obtain ⟨rfl,H⟩ | ⟨rfl,H⟩:=H
 · cases H
   go_enter Try.func58,Try.ntmps58
   go_wp2_with (first | (go_at_call 50;(with_reducible refine (aK.calls _ _ _ A2.out).mono ?_);rintro e w' ⟨rfl,⟨nd,rfl⟩⟩) | (go_at_call 92;(with_reducible refine (aA.calls _ _ _ _ A4.out).mono ?_);rintro e w' ⟨rfl,⟨nd,rfl⟩⟩))
   go_ret
   exact ⟨aY,bB⟩
 cases H
 go_enter Try.func58,Try.ntmps58
 go_wp2_with (first | (go_at_call 50;(with_reducible refine (aK.calls _ _ _ A2.out).mono ?_);rintro e w' ⟨rfl,⟨nd,rfl⟩⟩) | (go_at_call 92;(with_reducible refine (aA.calls _ _ _ _ A4.out).mono ?_);rintro e w' ⟨rfl,⟨nd,rfl⟩⟩))
 go_ret
 exact ⟨aY,bB⟩
def iO.f (a0:Int):Option (Bool):=if a0=32 then (some true) else (if a0=40 then (some true) else (if a0=48 then (some true) else (if a0=64 then (some true) else (if a0=72 then (some true) else (if a0=80 then (some true) else (if a0=177 then (some true) else (some false)))))))
def cZ.j0:Nat→Int→Bool→Bool→Option (Bool × Bool × Bool)
 | 0,_,_,_=>none
 | k+1,x0,x5,x13=>if x13=true then ((aK.f x0).bind fun t116=>((iO.f x0).bind fun t117=>(if t117=true then (some (false,t116,true)) else (if x0=60 then (some (false,t116,true)) else (some (false,t116,(x0==156))))))) else ((aK.f x0).bind fun t118=>((iO.f x0).bind fun t119=>(if t119=true then (some (x5,t118,true)) else (if x0=60 then (some (x5,t118,true)) else (some (x5,t118,(x0==156)))))))
def cZ.f (k:Nat) (a0:Int):Option (Bool × Bool × Bool):=(av.f k a0).bind fun t114=>(if t114=true then ((bT.f k a0).bind fun t115=>(if a0=128 then (cZ.j0 k a0 (!t115) (a0==128)) else (if a0=129 then (cZ.j0 k a0 (!t115) (a0==129)) else (if a0=132 then (cZ.j0 k a0 (!t115) (a0==132)) else (if a0=22 then (cZ.j0 k a0 (!t115) (a0==22)) else (if a0=7 then (cZ.j0 k a0 (!t115) (a0==7)) else (cZ.j0 k a0 (!t115) (a0==135)))))))) else (some (false,false,false)))
attribute [local go_sem] dE dG ed ek dm dn dF dH
theorem eqA45 (d:Nat) (w:World) (x0 y0:Int) (x1 y1:Int) (x2 y2:Int) (x3 y3:Int) :
 (Op.equalIn (d+2) 45 (.agg #[.int .u16 x0,.int .u8 x1,.int .u8 x2,.int .u32 x3]) (.agg #[.int .u16 y0,.int .u8 y1,.int .u8 y2,.int .u32 y3])).run Try.prog w = .ok (x0==y0&&(x1==y1&&(x2==y2&&(x3==y3)))) w:=by
 refine eqA_of Try.underlying45 (by kernel_rfl) ?_
 refine lK (by rfl) (by go_simp;rfl) (by go_simp;rfl) (by go_simp) ?_
 refine lK (by rfl) (by go_simp;rfl) (by go_simp;rfl) (by go_simp) ?_
 refine lK (by rfl) (by go_simp;rfl) (by go_simp;rfl) (by go_simp) ?_
 exact tN (by rfl) (by go_simp;rfl) (by go_simp;rfl) (by go_simp)
attribute [local go_sem] dE dG ed ek dm dn dF dH
mutual
def aD.j0:Nat→Bool→Int→Int→Int→Int→Option (Int)
 | 0,_,_,_,_,_=>none
 | k+1,x8,x106000,x106001,x106002,x106003=>if x8=true then (some 43) else (if x106000=52 then (aD.j1 k (x106003==0) x106000 x106001 x106002 x106003) else (if x106000=148 then (aD.j1 k (x106003==0) x106000 x106001 x106002 x106003) else (aD.j1 k false x106000 x106001 x106002 x106003)))
def aD.j1:Nat→Bool→Int→Int→Int→Int→Option (Int)
 | 0,_,_,_,_,_=>none
 | k+1,x32,x106000,x106001,x106002,x106003=>if x32=true then (some 44) else (if x106000=100 then (if x106003>31 then (some 45) else (some 0)) else (if x106000=116 then (if x106003>31 then (some 45) else (some 0)) else (some 0)))
end
def aD.f (k:Nat) (a0_0:Int) (a0_1:Int) (a0_2:Int) (a0_3:Int):Option (Int):=(av.f k a0_0).bind fun t106=>(if t106=true then (if a0_0=2 then (aD.j0 k (decide (a0_3≥16)) a0_0 a0_1 a0_2 a0_3) else (if a0_0=3 then (aD.j0 k (decide (a0_3≥16)) a0_0 a0_1 a0_2 a0_3) else (if a0_0=96 then (aD.j0 k (decide (a0_3≥16)) a0_0 a0_1 a0_2 a0_3) else (if a0_0=97 then (aD.j0 k (decide (a0_3≥16)) a0_0 a0_1 a0_2 a0_3) else (aD.j0 k false a0_0 a0_1 a0_2 a0_3))))) else (some 42))
theorem aD.calls (k:Nat) (a0_0:Int) (a0_1:Int) (a0_2:Int) (a0_3:Int) (r:Int) (w:World) (h:aD.f k a0_0 a0_1 a0_2 a0_3=some r) :
 Calls Try.prog 49 #[.agg #[.int .u16 a0_0,.int .u8 a0_1,.int .u8 a0_2,.int .u32 a0_3]] w fun e w'=>e = .returned (.int .i64 r)∧Below w.heap.size w w':=by
 have hu45:=Try.underlying45
 have HB:=aa.mk (Below.refl w.heap.size w)
 have H:((av.f k a0_0).bind fun t106=>(if t106=true then (if a0_0=2 then (aD.j0 k (decide (a0_3≥16)) a0_0 a0_1 a0_2 a0_3) else (if a0_0=3 then (aD.j0 k (decide (a0_3≥16)) a0_0 a0_1 a0_2 a0_3) else (if a0_0=96 then (aD.j0 k (decide (a0_3≥16)) a0_0 a0_1 a0_2 a0_3) else (if a0_0=97 then (aD.j0 k (decide (a0_3≥16)) a0_0 a0_1 a0_2 a0_3) else (aD.j0 k false a0_0 a0_1 a0_2 a0_3))))) else (some 42)))=some r:=h
 clear h
 replace H:=bnd H
 obtain ⟨t106,A2,H⟩:=H
 replace H:=iQ H
 obtain ⟨rfl,H⟩ | ⟨rfl,H⟩:=H
 · have HC4:=aa.mk H
   clear H
   go_enter Try.func49,Try.ntmps49
   go_upto_region 3 with (first | ((with_reducible refine bH (N:=1) rfl ?_);refine fF (N:=1) (cs:=#[.int .u16 a0_0,.int .u8 a0_1,.int .u8 a0_2,.int .u32 a0_3]) (t:=45) ?_;intro gb105 hg w5 hbox hb;have GE105:=geN HB hg;have BK105:=aa.mk hbox;replace HB:=di HB hb;clear hb hbox hg;obtain ⟨_,_,_,_,_,_,_,_⟩:=cz4 BK105) | (go_at_call 81;(with_reducible refine (av.calls _ _ _ _ A2.out).mono ?_);rintro e w' ⟨rfl,⟨nd,rfl⟩⟩))
   (try simp only [Act.put,List.setIfInBounds_toArray,List.set_cons_zero,List.set_cons_succ])
   go_cut [8] (fun v8 wc=>∃ (kq:Nat) (x8_3:Bool),v8 = .bool x8_3∧aa (aD.j0 kq x8_3 a0_0 a0_1 a0_2 a0_3=some r)∧aa (kq≤k)∧aa (wc.heap[gb105]?=some (.cells #[.int .u16 a0_0,.int .u8 a0_1,.int .u8 a0_2,.int .u32 a0_3] 45 (0,0)))∧aa (Below w.heap.size w wc))
   case first=>
    have H:=HC4.out
    clear HC4
    replace H:=bL H
    obtain ⟨H,-,c7b0,_⟩ | ⟨H,c7,c7b0,_⟩:=H
    · (first | rw [c7b0] | (simp only [ax,ay];rw [c7b0]) | skip)
      replace H:=aa.mk H
      obtain ⟨_,_,_,_,_,_,_,_⟩:=cz4 BK105
      go_wp2
      go_meet
      case rel=>exact ⟨_,_,aY,H,⟨le0⟩,⟨gT⟩,⟨bI⟩⟩
    (first | rw [c7b0] | (simp only [ax,ay];rw [c7b0]) | skip)
    replace H:=bL H
    obtain ⟨H,-,_,_⟩ | ⟨H,c9,_,_⟩:=H
    · replace H:=aa.mk H
      obtain ⟨_,_,_,_,_,_,_,_⟩:=cz4 BK105
      go_wp2
      go_meet
      case rel=>exact ⟨_,_,aY,H,⟨le0⟩,⟨gT⟩,⟨bI⟩⟩
    iterate 2
     replace H:=bL H
     obtain ⟨H,-,_,_⟩ | ⟨H,c11,_,_⟩:=H
     · replace H:=aa.mk H
       obtain ⟨_,_,_,_,_,_,_,_⟩:=cz4 BK105
       go_wp2
       go_meet
       case rel=>exact ⟨_,_,aY,H,⟨le0⟩,⟨gT⟩,⟨bI⟩⟩
    replace H:=aa.mk H
    obtain ⟨_,_,_,_,_,_,_,_⟩:=cz4 BK105
    go_wp2
    go_meet
    case rel=>exact ⟨_,_,aY,H,⟨le0⟩,⟨gT⟩,⟨bI⟩⟩
   case rest=>
    clear HC4
    obtain ⟨kq,x8_3,rfl,HA,HJ3,BK105,HB⟩:=hcut
    cases kq with
    | zero=>exact absurd HA.out (by simp [aD.j0])
    | succ kj3=>
     have H:=HA.out
     clear HA
     simp only [aD.j0] at H
     by_cases c16:x8_3=true
     · subst c16
       have H1:(some 43)=some r:=by rw [if_pos rfl] at H;exact H
       clear H
       have H:=H1
       clear H1
       cases H
       go_wp2
       go_ret
       exact ⟨dw,bI⟩
     replace c16:=Bool.eq_false_iff.mpr c16
     subst c16
     have H1:(if a0_0=52 then (aD.j1 kj3 (a0_3==0) a0_0 a0_1 a0_2 a0_3) else (if a0_0=148 then (aD.j1 kj3 (a0_3==0) a0_0 a0_1 a0_2 a0_3) else (aD.j1 kj3 false a0_0 a0_1 a0_2 a0_3)))=some r:=by rw [if_neg (show ¬(false=true) by decide)] at H;exact H
     clear H
     have H:=H1
     clear H1
     have HC17:=aa.mk H
     clear H
     go_upto_region 5 with (fail)
     go_cut [32] (fun v32 wc=>∃ (kq:Nat) (x32_16:Bool),v32 = .bool x32_16∧aa (aD.j1 kq x32_16 a0_0 a0_1 a0_2 a0_3=some r)∧aa (kq≤kj3)∧aa (wc.heap[gb105]?=some (.cells #[.int .u16 a0_0,.int .u8 a0_1,.int .u8 a0_2,.int .u32 a0_3] 45 (0,0)))∧aa (Below w.heap.size w wc))
     case first=>
      have H:=HC17.out
      clear HC17
      replace H:=bL H
      obtain ⟨H,-,c18b0,_⟩ | ⟨H,c18,c18b0,_⟩:=H
      · (first | rw [c18b0] | (simp only [ax,ay];rw [c18b0]) | skip)
        replace H:=aa.mk H
        obtain ⟨_,_,_,_,_,_,_,_⟩:=cz4 BK105
        go_wp2
        go_meet
        case rel=>exact ⟨_,_,aY,H,⟨by have:=HJ3.out;first | omega | exact Nat.le_refl _⟩,⟨gT⟩,⟨bI⟩⟩
      (first | rw [c18b0] | (simp only [ax,ay];rw [c18b0]) | skip)
      replace H:=bL H
      obtain ⟨H,-,_,_⟩ | ⟨H,c20,_,_⟩:=H
      · replace H:=aa.mk H
        obtain ⟨_,_,_,_,_,_,_,_⟩:=cz4 BK105
        go_wp2
        go_meet
        case rel=>exact ⟨_,_,aY,H,⟨by have:=HJ3.out;first | omega | exact Nat.le_refl _⟩,⟨gT⟩,⟨bI⟩⟩
      replace H:=aa.mk H
      obtain ⟨_,_,_,_,_,_,_,_⟩:=cz4 BK105
      go_wp2
      go_meet
      case rel=>exact ⟨_,_,aY,H,⟨by have:=HJ3.out;first | omega | exact Nat.le_refl _⟩,⟨gT⟩,⟨bI⟩⟩
     case rest=>
      clear HC17
      obtain ⟨kq,x32_16,rfl,HA,HJ16,BK105,HB⟩:=hcut
      cases kq with
      | zero=>exact absurd HA.out (by simp [aD.j1])
      | succ kj16=>
       have H:=HA.out
       clear HA
       simp only [aD.j1] at H
       by_cases c23:x32_16=true
       · subst c23
         have H1:(some 44)=some r:=by rw [if_pos rfl] at H;exact H
         clear H
         have H:=H1
         clear H1
         cases H
         go_wp2
         go_ret
         exact ⟨dw,bI⟩
       replace c23:=Bool.eq_false_iff.mpr c23
       subst c23
       have H1:(if a0_0=100 then (if a0_3>31 then (some 45) else (some 0)) else (if a0_0=116 then (if a0_3>31 then (some 45) else (some 0)) else (some 0)))=some r:=by rw [if_neg (show ¬(false=true) by decide)] at H;exact H
       clear H
       have H:=H1
       clear H1
       iterate 2
        replace H:=bL H
        obtain ⟨H,-,_,_⟩ | ⟨H,c24,_,_⟩:=H
        · replace H:=qo H
          obtain ⟨H,-,_⟩ | ⟨H,-,_⟩:=H
          · cases H
            obtain ⟨_,_,_,_,_,_,_,_⟩:=cz4 BK105
            go_wp2
            go_ret
            exact ⟨dw,bI⟩
          cases H
          obtain ⟨_,_,_,_,_,_,_,_⟩:=cz4 BK105
          go_wp2
          go_ret
          exact ⟨dw,bI⟩
       cases H
       obtain ⟨_,_,_,_,_,_,_,_⟩:=cz4 BK105
       go_wp2
       go_ret
       exact ⟨dw,bI⟩
 cases H
 go_enter Try.func49,Try.ntmps49
 go_wp2_with (first | ((with_reducible refine bH (N:=1) rfl ?_);refine fF (N:=1) (cs:=#[.int .u16 a0_0,.int .u8 a0_1,.int .u8 a0_2,.int .u32 a0_3]) (t:=45) ?_;intro gb105 hg w33 hbox hb;have GE105:=geN HB hg;have BK105:=aa.mk hbox;replace HB:=di HB hb;clear hb hbox hg;obtain ⟨_,_,_,_,_,_,_,_⟩:=cz4 BK105) | (go_at_call 81;(with_reducible refine (av.calls _ _ _ _ A2.out).mono ?_);rintro e w' ⟨rfl,⟨nd,rfl⟩⟩))
 go_ret
 exact ⟨dw,bI⟩
def iH.f (k:Nat) (a0:Int):Option (Int):=(av.f k a0).bind fun t107=>(if t107=true then (some (wrap64 (Go.bits .and .u16 a0 7))) else (some (-1)))
def bY.f (a0:Int):Option (Bool):=if a0=6 then (some true) else (some (a0==22))
theorem bY.calls (a0:Int) (r:Bool) (w:World) (h:bY.f a0=some r) :
 Calls Try.prog 51 #[.int .u16 a0] w fun e w'=>e = .returned (.bool r)∧bR w w':=by
 have H:(if a0=6 then (some true) else (some (a0==22)))=some r:=h
 clear h
 replace H:=bL H
 obtain ⟨H,-,_,_⟩ | ⟨H,c2,_,_⟩:=H
 · cases H
   go_enter Try.func51,Try.ntmps51
   go_wp2
   go_ret
   exact ⟨aY,bB⟩
 cases H
 go_enter Try.func51,Try.ntmps51
 go_wp2
 go_ret
 exact ⟨aY,bB⟩
attribute [local go_sem] dE dG ed ek dm dn dF dH
def bZ.f (l0:List (S45)):Option ((List (S45))):=(some (([]:List (S45)):List (S45))).bind fun y139=>(if y139.length+l0.length<17592186044416 then (some (y139++l0)) else (none))
theorem bZ.calls (A0:Option Addr) (c0:Nat) (l0:List (S45)) (r:List (S45)) (w:World) (hr0:Kd.C k45 w A0 l0.length l0) (hc0:l0.length≤c0) (h:bZ.f l0=some r) :
 Calls Try.prog 22 #[.slice A0 l0.length c0] w fun e w'=>∃ v0_:Value,e = .returned (v0_)∧Kd.R k45 45 w' w.heap.size (fun _=>True) v0_ r∧Below w.heap.size w w':=by
 have HR0:=aa.mk hr0
 have HC0:=aa.mk hc0
 clear hr0 hc0
 have HB:=aa.mk (Below.refl w.heap.size w)
 have H:((some (([]:List (S45)):List (S45))).bind fun y139=>(if y139.length+l0.length<17592186044416 then (some (y139++l0)) else (none)))=some r:=h
 clear h
 obtain ⟨y139,hy139⟩:∃ y_:List (S45),y_=(([]:List (S45))):=⟨_,rfl⟩
 replace H:(if y139.length+l0.length<17592186044416 then (some (y139++l0)) else (none))=some r:=by first | (rw [hy139];with_reducible exact H) | (have H2_:=(Option.bind_some _ _).symm.trans H;rw [hy139];with_reducible exact H2_) | (have H2_:=(Option.bind_some _ _).symm.trans H;with_reducible exact H2_) | with_reducible exact H | (rw [hy139];exact H) | exact H
 have Ny139:=aa.mk hy139
 clear hy139
 replace H:=mD H
 obtain ⟨H,c2⟩ | ⟨H,c2⟩:=H
 · have LMc2:=aa.mk c2
   clear c2
   obtain ⟨y142,hy142⟩:∃ y_:List (S45),y_=(y139++l0):=⟨_,rfl⟩
   replace H:(some y142)=some r:=by first | (rw [hy142];with_reducible exact H) | (have H2_:=(Option.bind_some _ _).symm.trans H;rw [hy142];with_reducible exact H2_) | (have H2_:=(Option.bind_some _ _).symm.trans H;with_reducible exact H2_) | with_reducible exact H | (rw [hy142];exact H) | exact H
   have Ny142:=aa.mk hy142
   clear hy142
   obtain rfl:=Option.some.inj H
   go_enter Try.func22,Try.ntmps22
   go_wp2_with (first | ((with_reducible refine bH (N:=3) rfl ?_);refine Kd.om k45 _ 45 ?hg (N:=3) ?hd (xs:=([]:List (S45))) (inner:=[]) (ok:=fun _=>True) (okp:=fun _=>True) ?hr ?hp (fun _ hk=>hk) trivial (Below.refl _ _) (Nat.le_refl _) (by simp) ?_;(case hd=>rfl);(case hg=>rfl);(case hr=>first | (go_simp;done) | (go_simp;rfl));(case hp=>exact (dQ.none _ _));intro v140 w3 ho4 hb hg_ hnew_;clear hg_ hnew_;(first | rw [←Ny139.out] at ho4 | (simp only [Int.reduceToNat] at ho4;rw [←Ny139.out] at ho4));have HO141:=aa.mk (Kd.gN ho4 (eu bI));replace HB:=di HB hb;clear hb ho4) | ((with_reducible refine iM (b := .append) (xs:=#[.tmp 3,.tmp 4]) rfl ?_);at_builtin;refine Kd.iq k45 (w0:=w) w.heap.size rfl (.tmp 3) (.tmp 4) 26 45 (.agg #[(.int .u16 0),(.int .u8 0),(.int .u8 0),(.int .u32 0)]) 8 rfl Try.underlying26 iU rfl (by decide) (by omega) v140 y139 l0 _ _ _ (fun _=>True) (fun _=>False) rfl rfl ?aO ?aR (fun _ _ h=>h) (fun _ h=>h.elim) ?aF ?aB ?aS ?aL ?_;(case aR=>repeat (first | exact (Kd.bJ HR0.out HB.out) | (with_reducible refine Kd.dx ?_ _) | (with_reducible refine Kd.fI ?_ _) | (with_reducible refine Kd.gD ?_)));(case aB=>exact bI);(case aF=>exact (fun _ _=>trivial));(case aO=>exact (by (with_reducible repeat (first | apply Kd.fO | apply Kd.gM | apply Kd.gF));exact HO141.out));(case aS=>exact (eu bI));(case aL=>have:=LMc2.out;omega);intro v143 w5 ho hb hg hat;rw [←Ny142.out] at ho;have HO144:=aa.mk (ho);replace HB:=aa.mk hb;clear HO141;clear ho hb hg hat))
   go_ret
   exact ⟨_,dw,by (with_reducible repeat (first | apply Kd.fO | apply Kd.gM | apply Kd.gF));exact HO144.out,bI⟩
 exact absurd H (by simp)
def dD.f (l0_0:List (S45)) (a0_1:Int) (a0_2:Int) (a0_3:Int) (a0_4:Int) (a0_5:Int) (a0_6:Int) (a0_7:Int):Option (List Int):=if a0_1=2 then (some (([a0_6]:List Int))) else (if a0_1=3 then (some (([a0_6,a0_7]:List Int))) else (some ([]:List Int)))
theorem dD.calls (A0_0:Option Addr) (c0_0:Nat) (l0_0:List (S45)) (a0_1:Int) (a0_2:Int) (a0_3:Int) (a0_4:Int) (a0_5:Int) (a0_6:Int) (a0_7:Int) (r:List Int) (w:World) (hr0_0:Kd.C k45 w A0_0 l0_0.length l0_0) (hc0_0:l0_0.length≤c0_0) (h:dD.f l0_0 a0_1 a0_2 a0_3 a0_4 a0_5 a0_6 a0_7=some r) :
 Calls Try.prog 76 #[.agg #[.slice A0_0 l0_0.length c0_0,.int .i64 a0_1,.int .u16 a0_2,.int .u8 a0_3,.int .u8 a0_4,.int .u32 a0_5,.int .i64 a0_6,.int .i64 a0_7]] w fun e w'=>∃ v0_:Value,e = .returned (v0_)∧Kd.R (Kd.int .i64) 3 w' w.heap.size (fun _=>True) v0_ r∧Below w.heap.size w w':=by
 have hu47:=Try.underlying47
 have HR0_0:=aa.mk hr0_0
 have HC0_0:=aa.mk hc0_0
 clear hr0_0 hc0_0
 have HB:=aa.mk (Below.refl w.heap.size w)
 have H:(if a0_1=2 then (some (([a0_6]:List Int))) else (if a0_1=3 then (some (([a0_6,a0_7]:List Int))) else (some ([]:List Int))))=some r:=h
 clear h
 replace H:=bL H
 obtain ⟨H,-,_,_⟩ | ⟨H,c2,_,_⟩:=H
 · obtain ⟨y176,hy176⟩:∃ y_:List Int,y_=(([a0_6]:List Int)):=⟨_,rfl⟩
   replace H:(some y176)=some r:=by first | (rw [hy176];with_reducible exact H) | (have H2_:=(Option.bind_some _ _).symm.trans H;rw [hy176];with_reducible exact H2_) | (have H2_:=(Option.bind_some _ _).symm.trans H;with_reducible exact H2_) | with_reducible exact H | (rw [hy176];exact H) | exact H
   have Ny176:=aa.mk hy176
   clear hy176
   obtain rfl:=Option.some.inj H
   go_enter Try.func76,Try.ntmps76
   go_wp2_with (first | ((with_reducible refine bH (N:=1) rfl ?_);refine fF (N:=1) (cs:=#[.slice A0_0 l0_0.length c0_0,.int .i64 a0_1,.int .u16 a0_2,.int .u8 a0_3,.int .u8 a0_4,.int .u32 a0_5,.int .i64 a0_6,.int .i64 a0_7]) (t:=47) ?_;intro gb175 hg w3 hbox hb;have GE175:=geN HB hg;have BK175:=aa.mk hbox;replace HB:=di HB hb;clear hb hbox hg;obtain ⟨_,_,_,_,_,_,_,_,_,_,_,_,_,_,_,_⟩:=cz8 BK175) | ((with_reducible refine bH (N:=9) rfl ?_);refine Kd.om (Kd.int .i64) _ 3 ?hg (N:=9) ?hd (xs:=([a0_6]:List Int)) (inner:=[.int .i64 a0_6]) (ok:=fun _=>True) (okp:=fun _=>True) ?hr ?hp (fun _ hk=>hk) trivial (Below.refl _ _) (Nat.le_refl _) (by simp) ?_;(case hd=>rfl);(case hg=>rfl);(case hr=>first | (go_simp;done) | (go_simp;rfl));(case hp=>exact (dQ.one (show Kd.M (Kd.int .i64) _ _ _ a0_6 [.int .i64 a0_6] from rfl) (dQ.none _ _)));intro v177 w5 ho6 hb hg_ hnew_;clear hg_ hnew_;(first | rw [←Ny176.out] at ho6 | (simp only [Int.reduceToNat] at ho6;rw [←Ny176.out] at ho6));have HO178:=aa.mk (Kd.gN ho6 (eu bI));replace BK175:=lG BK175 hb;replace HB:=di HB hb;clear hb ho6))
   go_ret
   exact ⟨_,dw,by (with_reducible repeat (first | apply Kd.fO | apply Kd.gM | apply Kd.gF));exact HO178.out,bI⟩
 replace H:=bL H
 obtain ⟨H,-,_,_⟩ | ⟨H,c7,_,_⟩:=H
 · obtain ⟨y179,hy179⟩:∃ y_:List Int,y_=(([a0_6,a0_7]:List Int)):=⟨_,rfl⟩
   replace H:(some y179)=some r:=by first | (rw [hy179];with_reducible exact H) | (have H2_:=(Option.bind_some _ _).symm.trans H;rw [hy179];with_reducible exact H2_) | (have H2_:=(Option.bind_some _ _).symm.trans H;with_reducible exact H2_) | with_reducible exact H | (rw [hy179];exact H) | exact H
   have Ny179:=aa.mk hy179
   clear hy179
   obtain rfl:=Option.some.inj H
   go_enter Try.func76,Try.ntmps76
   go_wp2_with (first | ((with_reducible refine bH (N:=1) rfl ?_);refine fF (N:=1) (cs:=#[.slice A0_0 l0_0.length c0_0,.int .i64 a0_1,.int .u16 a0_2,.int .u8 a0_3,.int .u8 a0_4,.int .u32 a0_5,.int .i64 a0_6,.int .i64 a0_7]) (t:=47) ?_;intro gb175 hg w8 hbox hb;have GE175:=geN HB hg;have BK175:=aa.mk hbox;replace HB:=di HB hb;clear hb hbox hg;obtain ⟨_,_,_,_,_,_,_,_,_,_,_,_,_,_,_,_⟩:=cz8 BK175) | ((with_reducible refine bH (N:=16) rfl ?_);refine Kd.om (Kd.int .i64) _ 3 ?hg (N:=16) ?hd (xs:=([a0_6,a0_7]:List Int)) (inner:=[.int .i64 a0_6,.int .i64 a0_7]) (ok:=fun _=>True) (okp:=fun _=>True) ?hr ?hp (fun _ hk=>hk) trivial (Below.refl _ _) (Nat.le_refl _) (by simp) ?_;(case hd=>rfl);(case hg=>rfl);(case hr=>first | (go_simp;done) | (go_simp;rfl));(case hp=>exact (dQ.one (show Kd.M (Kd.int .i64) _ _ _ a0_6 [.int .i64 a0_6] from rfl) (dQ.one (show Kd.M (Kd.int .i64) _ _ _ a0_7 [.int .i64 a0_7] from rfl) (dQ.none _ _))));intro v180 w10 ho11 hb hg_ hnew_;clear hg_ hnew_;(first | rw [←Ny179.out] at ho11 | (simp only [Int.reduceToNat] at ho11;rw [←Ny179.out] at ho11));have HO181:=aa.mk (Kd.gN ho11 (eu bI));replace BK175:=lG BK175 hb;replace HB:=di HB hb;clear hb ho11))
   go_ret
   exact ⟨_,dw,by (with_reducible repeat (first | apply Kd.fO | apply Kd.gM | apply Kd.gF));exact HO181.out,bI⟩
 obtain rfl:=Option.some.inj H
 go_enter Try.func76,Try.ntmps76
 go_wp2_with ((with_reducible refine bH (N:=1) rfl ?_);refine fF (N:=1) (cs:=#[.slice A0_0 l0_0.length c0_0,.int .i64 a0_1,.int .u16 a0_2,.int .u8 a0_3,.int .u8 a0_4,.int .u32 a0_5,.int .i64 a0_6,.int .i64 a0_7]) (t:=47) ?_;intro gb175 hg w12 hbox hb;have GE175:=geN HB hg;have BK175:=aa.mk hbox;replace HB:=di HB hb;clear hb hbox hg;obtain ⟨_,_,_,_,_,_,_,_,_,_,_,_,_,_,_,_⟩:=cz8 BK175)
 go_ret
 exact ⟨_,dw,by first | exact Kd.jy _ _ _ _ _ | exact Kd.N_nil _ _ _ _ _ | exact Kd.V_nil _ _ _ _ _ | exact Kd.Q_nil _ _ _ _ _ | exact Kd.S_nil _ _ _ _ _,bI⟩
end Go.Proofs.Ytdkalnkplgfgoaa.PA
