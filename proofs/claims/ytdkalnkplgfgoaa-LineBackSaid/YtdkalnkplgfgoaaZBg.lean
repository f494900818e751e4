/- Lemmas and walks for the statements of the texts ZBZ..: the declarations that they need, taken together by a program of this session. Conditions: as each says. -/
import Derived.Laws.EntriesVeiled
import Derived.Test.YtdkalnkplgfgoaaZBc
import Derived.Test.YtdkalnkplgfgoaaZBf
set_option maxHeartbeats 4000000
set_option maxRecDepth 100000
set_option linter.unusedVariables false
set_option linter.unusedSimpArgs false
namespace Go.Proofs.Ytdkalnkplgfgoaa.Ln
open Go.RowKit Go.Maps Go.Proofs.YtdkalnkplgfgoaaW.PrintWords Go.Proofs.YtdkalnkplgfgoaaW.PrintLast Go.Proofs.YtdkalnkplgfgoaaW.PrintMore Go.Proofs.Ytdkalnkplgfgoaa.PA
def cB (M:bn) (P:Value) (f:Int) (R:List Value):Array Value:=(.int .u32 M.a :: .int .u32 M.x :: (M.m.map (fun v=>Value.int .u32 v)++(P :: .int .i64 f :: R))).toArray
section
variable (M:bn) (P:Value) (f:Int) (R:List Value)
theorem kg:(cB M P f R)[0]?=some (.int .u32 M.a):=rfl
theorem nU:(cB M P f R)[1]?=some (.int .u32 M.x):=rfl
theorem pc_m (j:Nat) (h:j<M.m.length):(cB M P f R)[2+j]?=some (.int .u32 (M.m.getD j 0)):=by
  unfold cB
  rw [List.getElem?_toArray,Nat.add_comm 2 j,List.getElem?_cons_succ,List.getElem?_cons_succ,List.getElem?_append_left (by rw [List.length_map];exact h),List.getElem?_map,List.getD_eq_getElem?_getD,List.getElem?_eq_getElem h]
  rfl
theorem pc_t (h:M.m.length=16) (j:Nat):(cB M P f R)[18+j]?=(P :: .int .i64 f :: R)[j]?:=by
  unfold cB
  rw [List.getElem?_toArray,show 18+j=(16+j)+1+1 by omega,List.getElem?_cons_succ,List.getElem?_cons_succ,List.getElem?_append_right (by rw [List.length_map,h];omega),List.length_map,h,show 16+j - 16=j by omega]
theorem pc_p (h:M.m.length=16):(cB M P f R)[18]?=some P:=pc_t M P f R h 0
theorem oO (h:M.m.length=16):(cB M P f R)[19]?=some (.int .i64 f):=pc_t M P f R h 1
theorem jM (h:M.m.length=16) (j:Nat):(cB M P f R)[20+j]?=R[j]?:=by
  rw [show 20+j=18+(j+2) by omega,pc_t M P f R h];rfl
theorem pc_seta (v:Int):(cB M P f R).setIfInBounds 0 (.int .u32 v)=cB {M with a:=v} P f R:=by
  unfold cB;rw [List.setIfInBounds_toArray];rfl
theorem pc_setx (v:Int):(cB M P f R).setIfInBounds 1 (.int .u32 v)=cB {M with x:=v} P f R:=by
  unfold cB;rw [List.setIfInBounds_toArray];rfl
theorem pc_setm (j:Nat) (h:j<M.m.length) (v:Int):(cB M P f R).setIfInBounds (2+j) (.int .u32 v)=cB {M with m:=M.m.set j v} P f R:=by
  unfold cB;rw [List.setIfInBounds_toArray,Nat.add_comm 2 j,List.set_cons_succ,List.set_cons_succ,List.set_append_left _ _ (by rw [List.length_map];exact h),←List.map_set]
theorem rf (h:M.m.length=16) (j:Nat) (v:Value):(cB M P f R).setIfInBounds (18+j) v=(Value.int .u32 M.a :: .int .u32 M.x :: (M.m.map (fun v=>Value.int .u32 v)++(P :: .int .i64 f :: R).set j v)).toArray:=by
  unfold cB
  rw [List.setIfInBounds_toArray,show 18+j=(16+j)+1+1 by omega,List.set_cons_succ,List.set_cons_succ,List.set_append_right _ _ (by rw [List.length_map,h];omega),List.length_map,h,show 16+j - 16=j by omega]
theorem pc_setf (h:M.m.length=16) (v:Int):(cB M P f R).setIfInBounds 19 (.int .i64 v)=cB M P v R:=rf M P f R h 1 _
theorem pc_setr (h:M.m.length=16) (j:Nat) (v:Value):(cB M P f R).setIfInBounds (20+j) v=cB M P f (R.set j v):=by
  rw [show 20+j=18+(j+2) by omega,rf M P f R h];rfl
end
structure PM (w:World) (g T:Nat) (M:bn) (P:Value) (f:Int) (R:List Value):Prop where
  me:w.heap[g]?=some (.cells (cB M P f R) T (0,0))
  len:M.m.length=16
def SP (w:World) (gm T:Nat) (M1:bn) (P:Value) (f1:Int) (R:List Value):Ending→World→Prop:=fun e w'=>e = .returned (.tuple #[])∧PM w' gm T M1 P f1 R∧Kp (fun k=>k=gm) w w'
section
variable {w w1:World} {g T:Nat} {M:bn} {P:Value} {f:Int} {R:List Value}
theorem PM.below (h:PM w g T M P f R) (hb:Below w.heap.size w w1):PM w1 g T M P f R:=⟨au h.me hb,h.len⟩
theorem PM.jP (h:PM w g T M P f R) (v:Int):PM (w.setCell ⟨g,0,none⟩ (.int .u32 v)) g T {M with a:=v} P f R:=⟨aJ h.me 0 _ (pc_seta M P f R v),h.len⟩
theorem PM.ve (h:PM w g T M P f R) (v:Int):PM (w.setCell ⟨g,1,none⟩ (.int .u32 v)) g T {M with x:=v} P f R:=⟨aJ h.me 1 _ (pc_setx M P f R v),h.len⟩
theorem PM.setm (h:PM w g T M P f R) (j:Nat) (hj:j<16) (v:Int):PM (w.setCell ⟨g,2+j,none⟩ (.int .u32 v)) g T {M with m:=M.m.set j v} P f R:=⟨aJ h.me (2+j) _ (pc_setm M P f R j (by rw [h.len];exact hj) v),by show (M.m.set j v).length=16;rw [List.length_set];exact h.len⟩
theorem PM.setf (h:PM w g T M P f R) (v:Int):PM (w.setCell ⟨g,19,none⟩ (.int .i64 v)) g T M P v R:=⟨aJ h.me 19 _ (pc_setf M P f R h.len v),h.len⟩
theorem PM.o8 (h:PM w g T M P f R) (j:Nat) (v:Value):PM (w.setCell ⟨g,20+j,none⟩ v) g T M P f (R.set j v):=⟨aJ h.me (20+j) _ (pc_setr M P f R h.len j v),h.len⟩
end
structure BX (Y:World) (gi gm T:Nat) (cc i1 i2 k:Int) (arr:Array Value):Prop where
  ci:Y.heap[gi]?=some (.cells #[.int .u16 cc,.int .u8 i1,.int .u8 i2,.int .u32 k] 45 (0,0))
  cm:Y.heap[gm]?=some (.cells arr T (0,0))
section
variable {Y Z:World} {gi gm T:Nat} {cc i1 i2 k:Int} {arr:Array Value}
theorem BX.below (h:BX Y gi gm T cc i1 i2 k arr) (hb:Below Y.heap.size Y Z):BX Z gi gm T cc i1 i2 k arr:=⟨au h.ci hb,au h.cm hb⟩
theorem BX.k0 (h:BX Y gi gm T cc i1 i2 k arr):Y.cell? ⟨gi,0,none⟩=some (.int .u16 cc):=(ag h.ci 0).trans rfl
theorem BX.k1 (h:BX Y gi gm T cc i1 i2 k arr):Y.cell? ⟨gi,1,none⟩=some (.int .u8 i1):=(ag h.ci 1).trans rfl
theorem BX.k2 (h:BX Y gi gm T cc i1 i2 k arr):Y.cell? ⟨gi,2,none⟩=some (.int .u8 i2):=(ag h.ci 2).trans rfl
theorem BX.k3 (h:BX Y gi gm T cc i1 i2 k arr):Y.cell? ⟨gi,3,none⟩=some (.int .u32 k):=(ag h.ci 3).trans rfl
end
theorem SP.drew {w X:World} {gm T:Nat} {M1:bn} {P:Value} {f1:Int} {R:List Value} {e:Ending} (h:SP w gm T M1 P f1 R e X):SP w gm T M1 P f1 R e X.drew:=
  ⟨h.1,h.2.1.below (ae (Below.refl _ _)),h.2.2.below (ae (Below.refl _ _))⟩
theorem SP.fin {w:World} {gm T j:Nat} {M1:bn} {P v:Value} {f1:Int} {R:List Value} {o:Obj} (h:PM (w.setCell ⟨gm,j,none⟩ v) gm T M1 P f1 R):SP w gm T M1 P f1 R (.returned (.tuple #[])) ((w.setCell ⟨gm,j,none⟩ v).alloc o):=
  ⟨rfl,h.below (ai (Below.refl _ _) _),(Kp.set (S:=fun k=>k=gm) (g:=gm) (Kp.refl _ w) (.inl rfl) _ _).below (ai (Below.refl _ _) _)⟩
theorem SP.set {w X:World} {gm T j:Nat} {M1:bn} {P v:Value} {f1:Int} {R:List Value} (h:Kp (fun k=>k=gm) w X) (h1:PM (X.setCell ⟨gm,j,none⟩ v) gm T M1 P f1 R):SP w gm T M1 P f1 R (.returned (.tuple #[])) (X.setCell ⟨gm,j,none⟩ v):=
  ⟨rfl,h1,Kp.set (S:=fun k=>k=gm) (g:=gm) h (.inl rfl) _ _⟩
def okF (b:Bool):Int:=if b=true then 0 else 1
theorem kR (w:World) (gm T:Nat) (M:bn) (t s:Int) (p:List Int) (A:Option Addr) (c:Nat) (R:List Value) (h:PM w gm T M (.slice A p.length c) 0 R) (hP:Kd.C (Kd.int .u8) w A p.length p) (hc:p.length≤c) (hl:p.length<2 ^ 62) (h0:0≤t) (h1:t<2 ^ 62) (hs:s=1∨s=2∨s=4) :
    Calls Try.prog 154 #[.pointer (some ⟨gm,0,none⟩),.int .u64 t,.int .i64 s] w fun e w'=>e = .returned (.tuple #[.int .u32 (rdG p t s).1,.bool (rdG p t s).2])∧PM w' gm T M (.slice A p.length c) (okF (rdG p t s).2) R∧Kp (fun k=>k=gm) w w':=by
  have cp:=(ag h.me 18).trans (pc_p M _ _ _ h.len)
  have cf:=(ag h.me 19).trans (oO M _ _ _ h.len)
  have ff:=aj h.me 19
  have HG:=aa.mk (rU w p A c t s hP hc hl h0 h1 hs)
  have hlt:=aZ h.me
  have H:=aa.mk h
  by_cases hb:t<(p.length:Int)
  · have hbb:decide (t<(p.length:Int))=true:=decide_eq_true hb
    have hp1:(p.length:Int)<4611686018427387904:=by omega
    clear h hP hc hs hl
    obtain ⟨⟨v,ok⟩,er⟩:∃ r,r=rdG p t s:=⟨_,rfl⟩
    rw [←er] at HG ⊢
    clear er
    dsimp only at HG ⊢
    cases ok
    · go_enter Try.func154,Try.ntmps154
      go_wp2_with (go_at_call 164;refine HG.out.mono ?_;rintro e w' ⟨rfl,⟨nd,rfl⟩⟩)
      go_ret2
      exact ⟨rfl,(H.out.below (af (Below.refl _ _) _)).setf 1,Kp.set (S:=fun k=>k=gm) (g:=gm) ((Kp.refl _ w).below (af (Below.refl _ _) _)) (.inl rfl) _ _⟩
    · go_enter Try.func154,Try.ntmps154
      go_wp2_with (go_at_call 164;refine HG.out.mono ?_;rintro e w' ⟨rfl,⟨nd,rfl⟩⟩)
      go_ret2
      exact ⟨rfl,H.out.below (af (Below.refl _ _) _),(Kp.refl _ w).below (af (Below.refl _ _) _)⟩
  · have hbb:decide (t<(p.length:Int))=false:=decide_eq_false hb
    have hr:rdG p t s=(0,false):=by unfold rdG;rw [if_neg (by rcases hs with rfl | rfl | rfl<;>omega)]
    have hp1:(p.length:Int)<4611686018427387904:=by omega
    rw [hr]
    clear h hP hc hs hl hr HG
    go_enter Try.func154,Try.ntmps154
    go_wp2
    go_ret2
    exact ⟨rfl,H.out.setf 1,Kp.set (S:=fun k=>k=gm) (g:=gm) (Kp.refl _ w) (.inl rfl) _ _⟩
def ldA (M:bn) (r:Int × Bool):bn:=if r.2=true then {M with a:=r.1} else M
def ldX (M:bn) (r:Int × Bool):bn:=if r.2=true then {M with x:=4*Go.bits .and .u32 r.1 15 % 4294967296} else M
theorem fT (w:World) (gm T:Nat) (M:bn) (t s:Int) (p:List Int) (A:Option Addr) (c:Nat) (R:List Value) (h:PM w gm T M (.slice A p.length c) 0 R) (hP:Kd.C (Kd.int .u8) w A p.length p) (hc:p.length≤c) (hl:p.length<2 ^ 62) (h0:0≤t) (h1:t<2 ^ 62) (hs:s=1∨s=2∨s=4) :
    Calls Try.prog 153 #[.pointer (some ⟨gm,0,none⟩),.int .u64 t,.int .i64 s] w (SP w gm T (ldA M (rdG p t s)) (.slice A p.length c) (okF (rdG p t s).2) R):=by
  have HG:=aa.mk (kR w gm T M t s p A c R h hP hc hl h0 h1 hs)
  obtain ⟨⟨v,ok⟩,er⟩:∃ r,r=rdG p t s:=⟨_,rfl⟩
  rw [←er] at HG ⊢
  clear er h hP hc hl h0 h1 hs
  dsimp only at HG ⊢
  cases ok
  · go_enter Try.func153,Try.ntmps153
    go_wp2_with (go_at_call 154;refine HG.out.mono ?_;rintro e X ⟨rfl,hM,hK⟩;have HM:=aa.mk (And.intro hM hK);clear hM hK)
    go_end0
    exact ⟨rfl,HM.out.1,HM.out.2⟩
  · go_enter Try.func153,Try.ntmps153
    go_wp2_with (go_at_call 154;refine HG.out.mono ?_;rintro e X ⟨rfl,hM,hK⟩;have HM:=aa.mk (And.intro hM hK);have ca:=(ag hM.me 0).trans (kg M _ _ _);have fa:=aj hM.me 0;clear hM hK)
    go_end0
    exact .set HM.out.2 (HM.out.1.jP _)
theorem kU (w:World) (gm:Nat) (arr:Array Value) (T:Nat) (a1 x cc i1 i2 k:Int) (h:w.heap[gm]?=some (.cells arr T (0,0))) (hx:arr[1]?=some (.int .u32 x)) :
    Calls Try.prog 156 #[.pointer (some ⟨gm,0,none⟩),.agg #[.int .u16 cc,.int .u8 i1,.int .u8 i2,.int .u32 k]] w fun e w'=>e = .returned (.int .u32 (if (Go.bits .and .u16 cc 8 != 0)=true then x else k))∧Below w.heap.size w w':=by
  have cx:=(ag h 1).trans hx
  have hlt:=aZ h
  clear h hx
  cases hb:(Go.bits .and .u16 cc 8 != 0)
  · go_enter Try.func156,Try.ntmps156
    go_wp2
    go_ret
    exact ⟨rfl,ai (Below.refl _ _) _⟩
  · go_enter Try.func156,Try.ntmps156
    go_wp2
    go_ret
    exact ⟨rfl,ai (Below.refl _ _) _⟩
theorem kM (w:World) (gm:Nat) (arr:Array Value) (T:Nat) (a1 cc i1 i2 k:Int) (h:w.heap[gm]?=some (.cells arr T (0,0))) (ha:arr[0]?=some (.int .u32 a1)) :
    Calls Try.prog 120 #[.pointer (some ⟨gm,0,none⟩),.agg #[.int .u16 cc,.int .u8 i1,.int .u8 i2,.int .u32 k]] w fun e w'=>e = .returned (.int .u32 (if cc=22 then a1 else k))∧Below w.heap.size w w':=by
  have cx:=(ag h 0).trans ha
  have hlt:=aZ h
  clear h ha
  by_cases hb:cc=22
  · rw [if_pos hb]
    have hbb:(cc==22)=true:=beq_iff_eq.mpr hb
    go_enter Try.func120,Try.ntmps120
    go_wp2
    go_ret
    exact ⟨rfl,ai (Below.refl _ _) _⟩
  · rw [if_neg hb]
    have hbb:(cc==22)=false:=beq_eq_false_iff_ne.mpr hb
    go_enter Try.func120,Try.ntmps120
    go_wp2
    go_ret
    exact ⟨rfl,ai (Below.refl _ _) _⟩
theorem kL (w:World) (gm:Nat) (arr:Array Value) (T:Nat) (a1 x cc i1 i2 k:Int) (r:Bool) (h:w.heap[gm]?=some (.cells arr T (0,0))) (ha:arr[0]?=some (.int .u32 a1)) (hx:arr[1]?=some (.int .u32 x))
    (hr:eZ.f cc a1 (if (Go.bits .and .u16 cc 8 != 0)=true then x else k)=some r) :
    Calls Try.prog 121 #[.pointer (some ⟨gm,0,none⟩),.agg #[.int .u16 cc,.int .u8 i1,.int .u8 i2,.int .u32 k]] w fun e w'=>e = .returned (.bool r)∧Below w.heap.size w w':=by
  have HRC:=aa.mk (fun (W:World) (hW:W.heap[gm]?=some (.cells arr T (0,0)))=>kU W gm arr T a1 x cc i1 i2 k hW hx)
  obtain ⟨y,ey⟩:∃ y,y=if (Go.bits .and .u16 cc 8 != 0)=true then x else k:=⟨_,rfl⟩
  rw [←ey] at hr HRC
  have HR:=aa.mk hr
  have HA:=aa.mk ha
  have HM:=aa.mk h
  have hlt:=aZ h
  clear h ha hx hr ey
  go_enter Try.func121,Try.ntmps121
  go_upto_region 1 with (fail)
  refine forget (fun X=>∃ gi,gi=w.heap.size∧Below w.heap.size w X∧BX X gi gm T cc i1 i2 k arr) ⟨_,rfl,ai (Below.refl _ _) _,heap_alloc_new _ _,au HM.out (ai (Below.refl _ _) _)⟩ ?_
  rintro Y ⟨gi,egi,hb,hx⟩
  rw [←egi]
  have HX:=aa.mk hx
  have HB:=aa.mk hb
  clear egi hb hx HM
  refine dR (n:=11) (S:=fun w'=>w'.cell? ⟨gi,0,none⟩=some (.int .u16 cc)∧w'.cell? ⟨gi,1,none⟩=some (.int .u8 i1)∧w'.cell? ⟨gi,2,none⟩=some (.int .u8 i2)∧w'.cell? ⟨gi,3,none⟩=some (.int .u32 k)∧w'.cell? ⟨gm,0,none⟩=some (.int .u32 a1)) (ds:=[]) #[false,false,false,false,false,false,false,false,false,false,false] (by kernel_rfl) rfl rfl ⟨(HX.out.below (by repeat (first | (with_reducible exact Below.refl _ _) | apply af | apply ae))).k0,(HX.out.below (by repeat (first | (with_reducible exact Below.refl _ _) | apply af | apply ae))).k1,(HX.out.below (by repeat (first | (with_reducible exact Below.refl _ _) | apply af | apply ae))).k2,(HX.out.below (by repeat (first | (with_reducible exact Below.refl _ _) | apply af | apply ae))).k3,((ag (HX.out.below (by repeat (first | (with_reducible exact Below.refl _ _) | apply af | apply ae))).cm 0).trans HA.out)⟩ (fun hHeld=>?_)
  refine aH (i:=0) (N:=some 5) (v:=?_) (a':=?_) #[true,false,false,false,false,false,false,false,false,false,false] rfl rfl (by kernel_rfl) (fun _ _ _ h=>h) (Or.inl ⟨by rfl,?_⟩) ?_ ?_
  rotate_left
  · intro w'
    go_simp
    with_reducible rfl
  rotate_left
  · simp only [Act.put,List.setIfInBounds_toArray,List.set_cons_zero,List.set_cons_succ,ax,ay]
    rfl
  refine aH (i:=2) (N:=some 7) (v:=?_) (a':=?_) #[true,false,true,false,false,false,false,false,false,false,false] rfl rfl (by kernel_rfl) (fun _ _ _ h=>h) (Or.inl ⟨by rfl,?_⟩) ?_ ?_
  rotate_left
  · intro w'
    go_simp
    with_reducible rfl
  rotate_left
  · simp only [Act.put,List.setIfInBounds_toArray,List.set_cons_zero,List.set_cons_succ,ax,ay]
    rfl
  refine aH (i:=3) (N:=some 8) (v:=?_) (a':=?_) #[true,false,true,true,false,false,false,false,false,false,false] rfl rfl (by kernel_rfl) (fun _ _ _ h=>h) (Or.inl ⟨by rfl,?_⟩) ?_ ?_
  rotate_left
  · intro w'
    go_simp
    with_reducible rfl
  rotate_left
  · simp only [Act.put,List.setIfInBounds_toArray,List.set_cons_zero,List.set_cons_succ,ax,ay]
    rfl
  refine aH (i:=4) (N:=some 9) (v:=?_) (a':=?_) #[true,false,true,true,true,false,false,false,false,false,false] rfl rfl (by kernel_rfl) (fun _ _ _ h=>h) (Or.inl ⟨by rfl,?_⟩) ?_ ?_
  rotate_left
  · intro w'
    go_simp
    with_reducible rfl
  rotate_left
  · simp only [Act.put,List.setIfInBounds_toArray,List.set_cons_zero,List.set_cons_succ,ax,ay]
    rfl
  refine aH (i:=6) (N:=some 11) (v:=?_) (a':=?_) #[true,false,true,true,true,false,true,false,false,false,false] rfl rfl (by kernel_rfl) (fun _ _ _ h=>h) (Or.inl ⟨by rfl,?_⟩) ?_ ?_
  rotate_left
  · intro w'
    go_simp
    with_reducible rfl
  rotate_left
  · simp only [Act.put,List.setIfInBounds_toArray,List.set_cons_zero,List.set_cons_succ,ax,ay]
    rfl
  refine cu (i:=1) (N:=some 6) (v:=?_) (a':=?_) #[true,true,true,true,true,false,true,false,false,false,false] rfl rfl (by kernel_rfl) (fun _ _ _ h=>h) (Or.inl ⟨by rfl,?_⟩) hHeld ?_ ?_
  rotate_left
  · rintro w' ⟨s0,s1,s2,s3,s4⟩
    go_simp
    with_reducible rfl
  rotate_left
  · simp only [Act.put,List.setIfInBounds_toArray,List.set_cons_zero,List.set_cons_succ,ax,ay]
    rfl
  refine cu (i:=5) (N:=some 10) (v:=?_) (a':=?_) #[true,true,true,true,true,true,true,false,false,false,false] rfl rfl (by kernel_rfl) (fun _ _ _ h=>h) (Or.inl ⟨by rfl,?_⟩) hHeld ?_ ?_
  rotate_left
  · rintro w' ⟨s0,s1,s2,s3,s4⟩
    go_simp
    with_reducible rfl
  rotate_left
  · simp only [Act.put,List.setIfInBounds_toArray,List.set_cons_zero,List.set_cons_succ,ax,ay]
    rfl
  refine cu (i:=7) (N:=some 12) (v:=?_) (a':=?_) #[true,true,true,true,true,true,true,true,false,false,false] rfl rfl (by kernel_rfl) (fun _ _ _ h=>h) (Or.inl ⟨by rfl,?_⟩) hHeld ?_ ?_
  rotate_left
  · rintro w' ⟨s0,s1,s2,s3,s4⟩
    go_simp
    with_reducible rfl
  rotate_left
  · simp only [Act.put,List.setIfInBounds_toArray,List.set_cons_zero,List.set_cons_succ,ax,ay]
    rfl
  refine gV (i:=8) (N:=some 13) #[true,true,true,true,true,true,true,true,true,false,false] rfl rfl (by kernel_rfl) (by decide) (fun K hK=>?_)
  refine gK Try.func156 (by kernel_rfl) rfl #[.pointer (some ⟨gm,0,none⟩),.agg #[.int .u16 cc,.int .u8 i1,.int .u8 i2,.int .u32 k]] (by rfl) rfl rfl (by simp only [List.map_toArray,List.map_cons,List.map_nil];rfl) ?_
  with_reducible refine (HRC.out _ (HX.out.below (by repeat (first | (with_reducible exact Below.refl _ _) | apply af | apply ae))).cm).mono ?_
  rintro e w3 ⟨rfl,hb3⟩
  refine ⟨_,rfl,?_⟩
  refine hK.out _ _ ⟨(HX.out.below (ak (ae (Below.refl _ _)) hb3)).k0,(HX.out.below (ak (ae (Below.refl _ _)) hb3)).k1,(HX.out.below (ak (ae (Below.refl _ _)) hb3)).k2,(HX.out.below (ak (ae (Below.refl _ _)) hb3)).k3,((ag (HX.out.below (ak (ae (Below.refl _ _)) hb3)).cm 0).trans HA.out)⟩ (fun hHeld=>?_)
  clear hK K
  refine fe (a':=?_) ?_ ?_
  rotate_left
  · show Act.put _ (some 13) _=_
    simp only [Act.put,List.setIfInBounds_toArray,List.set_cons_zero,List.set_cons_succ,ax,ay]
    rfl
  refine gV (i:=9) (N:=some 14) #[true,true,true,true,true,true,true,true,true,true,false] rfl rfl (by kernel_rfl) (by decide) (fun K hK=>?_)
  refine gK Try.func157 (by kernel_rfl) rfl #[.int .u16 cc,.int .u32 a1,.int .u32 y] (by rfl) rfl rfl (by simp only [List.map_toArray,List.map_cons,List.map_nil];rfl) ?_
  with_reducible refine (eZ.calls _ _ _ _ _ HR.out).mono ?_
  rintro e w4 ⟨rfl,⟨nd4,rfl⟩⟩
  refine ⟨_,rfl,?_⟩
  refine hK.out _ _ ⟨(HX.out.below (af (ak (ae (Below.refl _ _)) hb3) _)).k0,(HX.out.below (af (ak (ae (Below.refl _ _)) hb3) _)).k1,(HX.out.below (af (ak (ae (Below.refl _ _)) hb3) _)).k2,(HX.out.below (af (ak (ae (Below.refl _ _)) hb3) _)).k3,((ag (HX.out.below (af (ak (ae (Below.refl _ _)) hb3) _)).cm 0).trans HA.out)⟩ (fun hHeld=>?_)
  clear hK K
  refine fe (a':=?_) ?_ ?_
  rotate_left
  · show Act.put _ (some 14) _=_
    simp only [Act.put,List.setIfInBounds_toArray,List.set_cons_zero,List.set_cons_succ,ax,ay]
    rfl
  refine aH (i:=10) (N:=some 4) (v:=?_) (a':=?_) #[true,true,true,true,true,true,true,true,true,true,true] rfl rfl (by kernel_rfl) (fun _ _ _ h=>h) (Or.inl ⟨by rfl,?_⟩) ?_ ?_
  rotate_left
  · intro w'
    go_simp
    with_reducible rfl
  rotate_left
  · simp only [Act.put,List.setIfInBounds_toArray,List.set_cons_zero,List.set_cons_succ,ax,ay]
    rfl
  refine dS (by kernel_rfl) ?_
  go_wp2
  go_ret
  exact ⟨rfl,ak HB.out (af (ak (ae (Below.refl _ _)) hb3) _)⟩
theorem g_ldImm (w:World) (gm T:Nat) (M:bn) (cc i1 i2 k:Int) (p:List Int) (A:Option Addr) (c:Nat) (R:List Value) (h:PM w gm T M (.slice A p.length c) 0 R) :
    Calls Try.prog 101 #[.pointer (some ⟨gm,0,none⟩),.agg #[.int .u16 cc,.int .u8 i1,.int .u8 i2,.int .u32 k]] w (SP w gm T {M with a:=k} (.slice A p.length c) 0 R):=by
  have ca:=(ag h.me 0).trans (kg M _ _ _)
  have fa:=aj h.me 0
  have hlt:=aZ h.me
  have H:=aa.mk h
  clear h
  go_enter Try.func101,Try.ntmps101
  go_wp2
  go_end0
  exact (SP.fin (H.out.jP _))
theorem uh (w:World) (gm T:Nat) (M:bn) (cc i1 i2 k:Int) (p:List Int) (A:Option Addr) (c:Nat) (R:List Value) (h:PM w gm T M (.slice A p.length c) 0 R) :
    Calls Try.prog 110 #[.pointer (some ⟨gm,0,none⟩),.agg #[.int .u16 cc,.int .u8 i1,.int .u8 i2,.int .u32 k]] w (SP w gm T {M with x:=k} (.slice A p.length c) 0 R):=by
  have cx:=(ag h.me 1).trans (nU M _ _ _)
  have fx:=aj h.me 1
  have hlt:=aZ h.me
  have H:=aa.mk h
  clear h
  go_enter Try.func110,Try.ntmps110
  go_wp2
  go_end0
  exact (SP.fin (H.out.ve _))
theorem g_tax (w:World) (gm T:Nat) (M:bn) (cc i1 i2 k:Int) (p:List Int) (A:Option Addr) (c:Nat) (R:List Value) (h:PM w gm T M (.slice A p.length c) 0 R) :
    Calls Try.prog 117 #[.pointer (some ⟨gm,0,none⟩),.agg #[.int .u16 cc,.int .u8 i1,.int .u8 i2,.int .u32 k]] w (SP w gm T {M with x:=M.a} (.slice A p.length c) 0 R):=by
  have ca:=(ag h.me 0).trans (kg M _ _ _)
  have fa:=aj h.me 0
  have cx:=(ag h.me 1).trans (nU M _ _ _)
  have fx:=aj h.me 1
  have hlt:=aZ h.me
  have H:=aa.mk h
  clear h
  go_enter Try.func117,Try.ntmps117
  go_wp2
  go_end0
  exact (SP.fin (H.out.ve _))
theorem g_txa (w:World) (gm T:Nat) (M:bn) (cc i1 i2 k:Int) (p:List Int) (A:Option Addr) (c:Nat) (R:List Value) (h:PM w gm T M (.slice A p.length c) 0 R) :
    Calls Try.prog 118 #[.pointer (some ⟨gm,0,none⟩),.agg #[.int .u16 cc,.int .u8 i1,.int .u8 i2,.int .u32 k]] w (SP w gm T {M with a:=M.x} (.slice A p.length c) 0 R):=by
  have ca:=(ag h.me 0).trans (kg M _ _ _)
  have fa:=aj h.me 0
  have cx:=(ag h.me 1).trans (nU M _ _ _)
  have fx:=aj h.me 1
  have hlt:=aZ h.me
  have H:=aa.mk h
  clear h
  go_enter Try.func118,Try.ntmps118
  go_wp2
  go_end0
  exact (SP.fin (H.out.jP _))
theorem g_ldMem (w:World) (gm T:Nat) (M:bn) (cc i1 i2 k v:Int) (p:List Int) (A:Option Addr) (c:Nat) (R:List Value) (h:PM w gm T M (.slice A p.length c) 0 R) (hv:M.m.getD k.toNat 0=v) (hk0:0≤k) (hk1:k<16) :
    Calls Try.prog 108 #[.pointer (some ⟨gm,0,none⟩),.agg #[.int .u16 cc,.int .u8 i1,.int .u8 i2,.int .u32 k]] w (SP w gm T {M with a:=v} (.slice A p.length c) 0 R):=by
  have ca:=(ag h.me 0).trans (kg M _ _ _)
  have fa:=aj h.me 0
  have c2:=(ag h.me (2+k.toNat)).trans ((pc_m M _ _ _ k.toNat (by rw [h.len];omega)).trans (congrArg (fun z=>some (Value.int .u32 z)) hv))
  have f2:=aj h.me (2+k.toNat)
  have hlt:=aZ h.me
  have H:=aa.mk h
  clear h
  go_enter Try.func108,Try.ntmps108
  go_wp2
  go_region
  go_wp2
  go_end0
  exact (SP.fin (H.out.jP _)).drew
theorem uj (w:World) (gm T:Nat) (M:bn) (cc i1 i2 k v:Int) (p:List Int) (A:Option Addr) (c:Nat) (R:List Value) (h:PM w gm T M (.slice A p.length c) 0 R) (hv:M.m.getD k.toNat 0=v) (hk0:0≤k) (hk1:k<16) :
    Calls Try.prog 111 #[.pointer (some ⟨gm,0,none⟩),.agg #[.int .u16 cc,.int .u8 i1,.int .u8 i2,.int .u32 k]] w (SP w gm T {M with x:=v} (.slice A p.length c) 0 R):=by
  have cx:=(ag h.me 1).trans (nU M _ _ _)
  have fx:=aj h.me 1
  have c2:=(ag h.me (2+k.toNat)).trans ((pc_m M _ _ _ k.toNat (by rw [h.len];omega)).trans (congrArg (fun z=>some (Value.int .u32 z)) hv))
  have f2:=aj h.me (2+k.toNat)
  have hlt:=aZ h.me
  have H:=aa.mk h
  clear h
  go_enter Try.func111,Try.ntmps111
  go_wp2
  go_region
  go_wp2
  go_end0
  exact (SP.fin (H.out.ve _)).drew
theorem g_st (w:World) (gm T:Nat) (M:bn) (cc i1 i2 k v:Int) (p:List Int) (A:Option Addr) (c:Nat) (R:List Value) (h:PM w gm T M (.slice A p.length c) 0 R) (hv:M.m.getD k.toNat 0=v) (hk0:0≤k) (hk1:k<16) :
    Calls Try.prog 114 #[.pointer (some ⟨gm,0,none⟩),.agg #[.int .u16 cc,.int .u8 i1,.int .u8 i2,.int .u32 k]] w (SP w gm T {M with m:=M.m.set k.toNat M.a} (.slice A p.length c) 0 R):=by
  have ca:=(ag h.me 0).trans (kg M _ _ _)
  have fa:=aj h.me 0
  have c2:=(ag h.me (2+k.toNat)).trans ((pc_m M _ _ _ k.toNat (by rw [h.len];omega)).trans (congrArg (fun z=>some (Value.int .u32 z)) hv))
  have f2:=aj h.me (2+k.toNat)
  have hlt:=aZ h.me
  have H:=aa.mk h
  clear h
  go_enter Try.func114,Try.ntmps114
  go_wp2
  go_region
  go_wp2
  go_end0
  exact (SP.fin (H.out.setm _ (by omega) _)).drew
theorem g_stx (w:World) (gm T:Nat) (M:bn) (cc i1 i2 k v:Int) (p:List Int) (A:Option Addr) (c:Nat) (R:List Value) (h:PM w gm T M (.slice A p.length c) 0 R) (hv:M.m.getD k.toNat 0=v) (hk0:0≤k) (hk1:k<16) :
    Calls Try.prog 115 #[.pointer (some ⟨gm,0,none⟩),.agg #[.int .u16 cc,.int .u8 i1,.int .u8 i2,.int .u32 k]] w (SP w gm T {M with m:=M.m.set k.toNat M.x} (.slice A p.length c) 0 R):=by
  have cx:=(ag h.me 1).trans (nU M _ _ _)
  have fx:=aj h.me 1
  have c2:=(ag h.me (2+k.toNat)).trans ((pc_m M _ _ _ k.toNat (by rw [h.len];omega)).trans (congrArg (fun z=>some (Value.int .u32 z)) hv))
  have f2:=aj h.me (2+k.toNat)
  have hlt:=aZ h.me
  have H:=aa.mk h
  clear h
  go_enter Try.func115,Try.ntmps115
  go_wp2
  go_region
  go_wp2
  go_end0
  exact (SP.fin (H.out.setm _ (by omega) _)).drew
theorem g_neg (w:World) (gm T:Nat) (M:bn) (cc i1 i2 k:Int) (p:List Int) (A:Option Addr) (c:Nat) (R:List Value) (h:PM w gm T M (.slice A p.length c) 0 R) :
    Calls Try.prog 116 #[.pointer (some ⟨gm,0,none⟩),.agg #[.int .u16 cc,.int .u8 i1,.int .u8 i2,.int .u32 k]] w (SP w gm T {M with a:=(-M.a) % 4294967296} (.slice A p.length c) 0 R):=by
  have ca:=(ag h.me 0).trans (kg M _ _ _)
  have fa:=aj h.me 0
  have hlt:=aZ h.me
  have H:=aa.mk h
  clear h
  go_enter Try.func116,Try.ntmps116
  go_wp2
  go_end0
  exact (SP.fin (H.out.jP _))
theorem g_ldLen (w:World) (gm T:Nat) (M:bn) (cc i1 i2 k:Int) (p:List Int) (A:Option Addr) (c:Nat) (R:List Value) (h:PM w gm T M (.slice A p.length c) 0 R) :
    Calls Try.prog 109 #[.pointer (some ⟨gm,0,none⟩),.agg #[.int .u16 cc,.int .u8 i1,.int .u8 i2,.int .u32 k]] w (SP w gm T {M with a:=(p.length:Int) % 4294967296} (.slice A p.length c) 0 R):=by
  have ca:=(ag h.me 0).trans (kg M _ _ _)
  have fa:=aj h.me 0
  have cp:=(ag h.me 18).trans (pc_p M _ _ _ h.len)
  have fp:=aj h.me 18
  have hlt:=aZ h.me
  have H:=aa.mk h
  clear h
  go_enter Try.func109,Try.ntmps109
  go_wp2
  go_end0
  exact (SP.fin (H.out.jP _))
theorem ui (w:World) (gm T:Nat) (M:bn) (cc i1 i2 k:Int) (p:List Int) (A:Option Addr) (c:Nat) (R:List Value) (h:PM w gm T M (.slice A p.length c) 0 R) :
    Calls Try.prog 112 #[.pointer (some ⟨gm,0,none⟩),.agg #[.int .u16 cc,.int .u8 i1,.int .u8 i2,.int .u32 k]] w (SP w gm T {M with x:=(p.length:Int) % 4294967296} (.slice A p.length c) 0 R):=by
  have cx:=(ag h.me 1).trans (nU M _ _ _)
  have fx:=aj h.me 1
  have cp:=(ag h.me 18).trans (pc_p M _ _ _ h.len)
  have fp:=aj h.me 18
  have hlt:=aZ h.me
  have H:=aa.mk h
  clear h
  go_enter Try.func112,Try.ntmps112
  go_wp2
  go_end0
  exact (SP.fin (H.out.ve _))
theorem tY (w:World) (gm T:Nat) (M:bn) (cc i1 i2 k:Int) (p:List Int) (A:Option Addr) (c:Nat) (R:List Value) (h:PM w gm T M (.slice A p.length c) 0 R) (hP:Kd.C (Kd.int .u8) w A p.length p) (hc:p.length≤c) (hl:p.length<2 ^ 62) (hk0:0≤k) (hk1:k<4294967296) :
    Calls Try.prog 102 #[.pointer (some ⟨gm,0,none⟩),.agg #[.int .u16 cc,.int .u8 i1,.int .u8 i2,.int .u32 k]] w (SP w gm T (ldA M (rdG p k 4)) (.slice A p.length c) (okF (rdG p k 4).2) R):=by
  have HIC:=aa.mk (fun (W:World) (hb:Below w.heap.size w W)=>fT W gm T M k 4 p A c R (h.below hb) (Kd.bJ hP hb) hc hl hk0 (by omega) (by decide))
  have hlt:=aZ h.me
  clear h hP hc hl
  go_enter Try.func102,Try.ntmps102
  go_wp2_with (go_at_call 153;refine (HIC.out _ (ai (Below.refl _ _) _)).mono ?_;rintro e X ⟨rfl,hM,hK⟩;have HM:=aa.mk (And.intro hM hK);clear hM hK)
  go_end0
  exact ⟨rfl,HM.out.1,((Kp.refl _ w).below (ai (Below.refl _ _) _)).trans HM.out.2⟩
theorem ug (w:World) (gm T:Nat) (M:bn) (cc i1 i2 k:Int) (p:List Int) (A:Option Addr) (c:Nat) (R:List Value) (h:PM w gm T M (.slice A p.length c) 0 R) (hP:Kd.C (Kd.int .u8) w A p.length p) (hc:p.length≤c) (hl:p.length<2 ^ 62) (hk0:0≤k) (hk1:k<4294967296) (hx0:0≤M.x) (hx1:M.x<4294967296) :
    Calls Try.prog 105 #[.pointer (some ⟨gm,0,none⟩),.agg #[.int .u16 cc,.int .u8 i1,.int .u8 i2,.int .u32 k]] w (SP w gm T (ldA M (rdG p (M.x+k) 4)) (.slice A p.length c) (okF (rdG p (M.x+k) 4).2) R):=by
  have HIC:=aa.mk (fun (W:World) (hW:PM W gm T M (.slice A p.length c) 0 R) (hb:Below w.heap.size w W)=>(show Calls Try.prog 153 #[.pointer (some ⟨gm,0,none⟩),.int .u64 (IntKind.u64.wrap (IntKind.u64.wrap M.x+IntKind.u64.wrap k)),.int .i64 4] W (SP W gm T (ldA M (rdG p (M.x+k) 4)) (.slice A p.length c) (okF (rdG p (M.x+k) 4).2) R) by
    rw [show IntKind.u64.wrap (IntKind.u64.wrap M.x+IntKind.u64.wrap k)=M.x+k by simp only [IntKind.wrap_u64];omega]
    exact fT W gm T M (M.x+k) 4 p A c R hW (Kd.bJ hP hb) hc hl (by omega) (by omega) (by decide)))
  have H:=aa.mk h
  have hlt:=aZ h.me
  clear h hP hc hl
  go_enter Try.func105,Try.ntmps105
  go_upto_region 1 with (fail)
  refine forget (fun X=>∃ gi,gi=w.heap.size∧Below w.heap.size w X∧BX X gi gm T cc i1 i2 k (cB M (.slice A p.length c) 0 R)) ⟨_,rfl,ai (Below.refl _ _) _,heap_alloc_new _ _,(H.out.below (ai (Below.refl _ _) _)).me⟩ ?_
  rintro Y ⟨gi,egi,hb,hx⟩
  rw [←egi]
  have HX:=aa.mk hx
  have HB:=aa.mk hb
  clear egi hb hx
  refine dR (n:=12) (S:=fun w'=>w'.cell? ⟨gi,0,none⟩=some (.int .u16 cc)∧w'.cell? ⟨gi,1,none⟩=some (.int .u8 i1)∧w'.cell? ⟨gi,2,none⟩=some (.int .u8 i2)∧w'.cell? ⟨gi,3,none⟩=some (.int .u32 k)∧w'.cell? ⟨gm,1,none⟩=some (.int .u32 M.x)) (ds:=[11]) #[false,false,false,false,false,false,false,false,false,false,false,false] (by kernel_rfl) rfl rfl ⟨(HX.out.below (by repeat (first | (with_reducible exact Below.refl _ _) | apply af | apply ae))).k0,(HX.out.below (by repeat (first | (with_reducible exact Below.refl _ _) | apply af | apply ae))).k1,(HX.out.below (by repeat (first | (with_reducible exact Below.refl _ _) | apply af | apply ae))).k2,(HX.out.below (by repeat (first | (with_reducible exact Below.refl _ _) | apply af | apply ae))).k3,((ag (HX.out.below (by repeat (first | (with_reducible exact Below.refl _ _) | apply af | apply ae))).cm 1).trans rfl)⟩ (fun hHeld=>?_)
  refine aH (i:=0) (N:=some 4) (v:=?_) (a':=?_) #[true,false,false,false,false,false,false,false,false,false,false,false] rfl rfl (by kernel_rfl) (fun _ _ _ h=>h) (Or.inl ⟨by rfl,?_⟩) ?_ ?_
  rotate_left
  · intro w'
    go_simp
    with_reducible rfl
  rotate_left
  · simp only [Act.put,List.setIfInBounds_toArray,List.set_cons_zero,List.set_cons_succ,ax,ay]
    rfl
  refine aH (i:=1) (N:=some 5) (v:=?_) (a':=?_) #[true,true,false,false,false,false,false,false,false,false,false,false] rfl rfl (by kernel_rfl) (fun _ _ _ h=>h) (Or.inl ⟨by rfl,?_⟩) ?_ ?_
  rotate_left
  · intro w'
    go_simp
    with_reducible rfl
  rotate_left
  · simp only [Act.put,List.setIfInBounds_toArray,List.set_cons_zero,List.set_cons_succ,ax,ay]
    rfl
  refine aH (i:=2) (N:=some 6) (v:=?_) (a':=?_) #[true,true,true,false,false,false,false,false,false,false,false,false] rfl rfl (by kernel_rfl) (fun _ _ _ h=>h) (Or.inl ⟨by rfl,?_⟩) ?_ ?_
  rotate_left
  · intro w'
    go_simp
    with_reducible rfl
  rotate_left
  · simp only [Act.put,List.setIfInBounds_toArray,List.set_cons_zero,List.set_cons_succ,ax,ay]
    rfl
  refine aH (i:=3) (N:=some 7) (v:=?_) (a':=?_) #[true,true,true,true,false,false,false,false,false,false,false,false] rfl rfl (by kernel_rfl) (fun _ _ _ h=>h) (Or.inl ⟨by rfl,?_⟩) ?_ ?_
  rotate_left
  · intro w'
    go_simp
    with_reducible rfl
  rotate_left
  · simp only [Act.put,List.setIfInBounds_toArray,List.set_cons_zero,List.set_cons_succ,ax,ay]
    rfl
  refine aH (i:=4) (N:=some 8) (v:=?_) (a':=?_) #[true,true,true,true,true,false,false,false,false,false,false,false] rfl rfl (by kernel_rfl) (fun _ _ _ h=>h) (Or.inl ⟨by rfl,?_⟩) ?_ ?_
  rotate_left
  · intro w'
    go_simp
    with_reducible rfl
  rotate_left
  · simp only [Act.put,List.setIfInBounds_toArray,List.set_cons_zero,List.set_cons_succ,ax,ay]
    rfl
  refine aH (i:=7) (N:=some 11) (v:=?_) (a':=?_) #[true,true,true,true,true,false,false,true,false,false,false,false] rfl rfl (by kernel_rfl) (fun _ _ _ h=>h) (Or.inl ⟨by rfl,?_⟩) ?_ ?_
  rotate_left
  · intro w'
    go_simp
    with_reducible rfl
  rotate_left
  · simp only [Act.put,List.setIfInBounds_toArray,List.set_cons_zero,List.set_cons_succ,ax,ay]
    rfl
  refine cu (i:=5) (N:=some 9) (v:=?_) (a':=?_) #[true,true,true,true,true,true,false,true,false,false,false,false] rfl rfl (by kernel_rfl) (fun _ _ _ h=>h) (Or.inl ⟨by rfl,?_⟩) hHeld ?_ ?_
  rotate_left
  · rintro w' ⟨s0,s1,s2,s3,s4⟩
    go_simp
    with_reducible rfl
  rotate_left
  · simp only [Act.put,List.setIfInBounds_toArray,List.set_cons_zero,List.set_cons_succ,ax,ay]
    rfl
  refine aH (i:=6) (N:=some 10) (v:=?_) (a':=?_) #[true,true,true,true,true,true,true,true,false,false,false,false] rfl rfl (by kernel_rfl) (fun _ _ _ h=>h) (Or.inl ⟨by rfl,?_⟩) ?_ ?_
  rotate_left
  · intro w'
    go_simp
    with_reducible rfl
  rotate_left
  · simp only [Act.put,List.setIfInBounds_toArray,List.set_cons_zero,List.set_cons_succ,ax,ay]
    rfl
  refine cu (i:=8) (N:=some 12) (v:=?_) (a':=?_) #[true,true,true,true,true,true,true,true,true,false,false,false] rfl rfl (by kernel_rfl) (fun _ _ _ h=>h) (Or.inl ⟨by rfl,?_⟩) hHeld ?_ ?_
  rotate_left
  · rintro w' ⟨s0,s1,s2,s3,s4⟩
    go_simp
    with_reducible rfl
  rotate_left
  · simp only [Act.put,List.setIfInBounds_toArray,List.set_cons_zero,List.set_cons_succ,ax,ay]
    rfl
  refine aH (i:=9) (N:=some 13) (v:=?_) (a':=?_) #[true,true,true,true,true,true,true,true,true,true,false,false] rfl rfl (by kernel_rfl) (fun _ _ _ h=>h) (Or.inl ⟨by rfl,?_⟩) ?_ ?_
  rotate_left
  · intro w'
    go_simp
    with_reducible rfl
  rotate_left
  · simp only [Act.put,List.setIfInBounds_toArray,List.set_cons_zero,List.set_cons_succ,ax,ay]
    rfl
  refine aH (i:=10) (N:=some 14) (v:=?_) (a':=?_) #[true,true,true,true,true,true,true,true,true,true,true,false] rfl rfl (by kernel_rfl) (fun _ _ _ h=>h) (Or.inl ⟨by rfl,?_⟩) ?_ ?_
  rotate_left
  · intro w'
    go_simp
    with_reducible rfl
  rotate_left
  · simp only [Act.put,List.setIfInBounds_toArray,List.set_cons_zero,List.set_cons_succ,ax,ay]
    rfl
  refine gL (i:=11) (N:=some 15) #[true,true,true,true,true,true,true,true,true,true,true,true] rfl rfl (by kernel_rfl) (by decide) (fun K hK=>?_)
  refine gK Try.func153 (by kernel_rfl) rfl #[.pointer (some ⟨gm,0,none⟩),.int .u64 (IntKind.u64.wrap (IntKind.u64.wrap M.x+IntKind.u64.wrap k)),.int .i64 4] (by rfl) rfl rfl (by simp only [List.map_toArray,List.map_cons,List.map_nil];rfl) ?_
  with_reducible refine (HIC.out _ ⟨(HX.out.below (by repeat (first | (with_reducible exact Below.refl _ _) | apply af | apply ae))).cm,H.out.len⟩ (ak HB.out (by repeat (first | (with_reducible exact Below.refl _ _) | apply af | apply ae)))).mono ?_
  rintro e w3 ⟨rfl,hM,hK⟩
  refine ⟨_,rfl,?_⟩
  have HM:=aa.mk (And.intro hM hK)
  clear hM hK
  refine hK.out _ _ ?_
  clear hK K
  refine fe (a':=?_) ?_ ?_
  rotate_left
  · show Act.put _ (some 15) _=_
    simp only [Act.put,List.setIfInBounds_toArray,List.set_cons_zero,List.set_cons_succ,ax,ay]
    rfl
  refine dS (by kernel_rfl) ?_
  go_wp2
  go_end0
  exact ⟨rfl,HM.out.1,((Kp.refl _ w).below (ak HB.out (ae (Below.refl _ _)))).trans HM.out.2⟩
theorem tV (w:World) (gm T:Nat) (M:bn) (cc i1 i2 k:Int) (p:List Int) (A:Option Addr) (c:Nat) (R:List Value) (h:PM w gm T M (.slice A p.length c) 0 R) (hP:Kd.C (Kd.int .u8) w A p.length p) (hc:p.length≤c) (hl:p.length<2 ^ 62) (hk0:0≤k) (hk1:k<4294967296) :
    Calls Try.prog 103 #[.pointer (some ⟨gm,0,none⟩),.agg #[.int .u16 cc,.int .u8 i1,.int .u8 i2,.int .u32 k]] w (SP w gm T (ldA M (rdG p k 2)) (.slice A p.length c) (okF (rdG p k 2).2) R):=by
  have HIC:=aa.mk (fun (W:World) (hb:Below w.heap.size w W)=>fT W gm T M k 2 p A c R (h.below hb) (Kd.bJ hP hb) hc hl hk0 (by omega) (by decide))
  have hlt:=aZ h.me
  clear h hP hc hl
  go_enter Try.func103,Try.ntmps103
  go_wp2_with (go_at_call 153;refine (HIC.out _ (ai (Below.refl _ _) _)).mono ?_;rintro e X ⟨rfl,hM,hK⟩;have HM:=aa.mk (And.intro hM hK);clear hM hK)
  go_end0
  exact ⟨rfl,HM.out.1,((Kp.refl _ w).below (ai (Below.refl _ _) _)).trans HM.out.2⟩
theorem uf (w:World) (gm T:Nat) (M:bn) (cc i1 i2 k:Int) (p:List Int) (A:Option Addr) (c:Nat) (R:List Value) (h:PM w gm T M (.slice A p.length c) 0 R) (hP:Kd.C (Kd.int .u8) w A p.length p) (hc:p.length≤c) (hl:p.length<2 ^ 62) (hk0:0≤k) (hk1:k<4294967296) (hx0:0≤M.x) (hx1:M.x<4294967296) :
    Calls Try.prog 106 #[.pointer (some ⟨gm,0,none⟩),.agg #[.int .u16 cc,.int .u8 i1,.int .u8 i2,.int .u32 k]] w (SP w gm T (ldA M (rdG p (M.x+k) 2)) (.slice A p.length c) (okF (rdG p (M.x+k) 2).2) R):=by
  have HIC:=aa.mk (fun (W:World) (hW:PM W gm T M (.slice A p.length c) 0 R) (hb:Below w.heap.size w W)=>(show Calls Try.prog 153 #[.pointer (some ⟨gm,0,none⟩),.int .u64 (IntKind.u64.wrap (IntKind.u64.wrap M.x+IntKind.u64.wrap k)),.int .i64 2] W (SP W gm T (ldA M (rdG p (M.x+k) 2)) (.slice A p.length c) (okF (rdG p (M.x+k) 2).2) R) by
    rw [show IntKind.u64.wrap (IntKind.u64.wrap M.x+IntKind.u64.wrap k)=M.x+k by simp only [IntKind.wrap_u64];omega]
    exact fT W gm T M (M.x+k) 2 p A c R hW (Kd.bJ hP hb) hc hl (by omega) (by omega) (by decide)))
  have H:=aa.mk h
  have hlt:=aZ h.me
  clear h hP hc hl
  go_enter Try.func106,Try.ntmps106
  go_upto_region 1 with (fail)
  refine forget (fun X=>∃ gi,gi=w.heap.size∧Below w.heap.size w X∧BX X gi gm T cc i1 i2 k (cB M (.slice A p.length c) 0 R)) ⟨_,rfl,ai (Below.refl _ _) _,heap_alloc_new _ _,(H.out.below (ai (Below.refl _ _) _)).me⟩ ?_
  rintro Y ⟨gi,egi,hb,hx⟩
  rw [←egi]
  have HX:=aa.mk hx
  have HB:=aa.mk hb
  clear egi hb hx
  refine dR (n:=12) (S:=fun w'=>w'.cell? ⟨gi,0,none⟩=some (.int .u16 cc)∧w'.cell? ⟨gi,1,none⟩=some (.int .u8 i1)∧w'.cell? ⟨gi,2,none⟩=some (.int .u8 i2)∧w'.cell? ⟨gi,3,none⟩=some (.int .u32 k)∧w'.cell? ⟨gm,1,none⟩=some (.int .u32 M.x)) (ds:=[11]) #[false,false,false,false,false,false,false,false,false,false,false,false] (by kernel_rfl) rfl rfl ⟨(HX.out.below (by repeat (first | (with_reducible exact Below.refl _ _) | apply af | apply ae))).k0,(HX.out.below (by repeat (first | (with_reducible exact Below.refl _ _) | apply af | apply ae))).k1,(HX.out.below (by repeat (first | (with_reducible exact Below.refl _ _) | apply af | apply ae))).k2,(HX.out.below (by repeat (first | (with_reducible exact Below.refl _ _) | apply af | apply ae))).k3,((ag (HX.out.below (by repeat (first | (with_reducible exact Below.refl _ _) | apply af | apply ae))).cm 1).trans rfl)⟩ (fun hHeld=>?_)
  refine aH (i:=0) (N:=some 4) (v:=?_) (a':=?_) #[true,false,false,false,false,false,false,false,false,false,false,false] rfl rfl (by kernel_rfl) (fun _ _ _ h=>h) (Or.inl ⟨by rfl,?_⟩) ?_ ?_
  rotate_left
  · intro w'
    go_simp
    with_reducible rfl
  rotate_left
  · simp only [Act.put,List.setIfInBounds_toArray,List.set_cons_zero,List.set_cons_succ,ax,ay]
    rfl
  refine aH (i:=1) (N:=some 5) (v:=?_) (a':=?_) #[true,true,false,false,false,false,false,false,false,false,false,false] rfl rfl (by kernel_rfl) (fun _ _ _ h=>h) (Or.inl ⟨by rfl,?_⟩) ?_ ?_
  rotate_left
  · intro w'
    go_simp
    with_reducible rfl
  rotate_left
  · simp only [Act.put,List.setIfInBounds_toArray,List.set_cons_zero,List.set_cons_succ,ax,ay]
    rfl
  refine aH (i:=2) (N:=some 6) (v:=?_) (a':=?_) #[true,true,true,false,false,false,false,false,false,false,false,false] rfl rfl (by kernel_rfl) (fun _ _ _ h=>h) (Or.inl ⟨by rfl,?_⟩) ?_ ?_
  rotate_left
  · intro w'
    go_simp
    with_reducible rfl
  rotate_left
  · simp only [Act.put,List.setIfInBounds_toArray,List.set_cons_zero,List.set_cons_succ,ax,ay]
    rfl
  refine aH (i:=3) (N:=some 7) (v:=?_) (a':=?_) #[true,true,true,true,false,false,false,false,false,false,false,false] rfl rfl (by kernel_rfl) (fun _ _ _ h=>h) (Or.inl ⟨by rfl,?_⟩) ?_ ?_
  rotate_left
  · intro w'
    go_simp
    with_reducible rfl
  rotate_left
  · simp only [Act.put,List.setIfInBounds_toArray,List.set_cons_zero,List.set_cons_succ,ax,ay]
    rfl
  refine aH (i:=4) (N:=some 8) (v:=?_) (a':=?_) #[true,true,true,true,true,false,false,false,false,false,false,false] rfl rfl (by kernel_rfl) (fun _ _ _ h=>h) (Or.inl ⟨by rfl,?_⟩) ?_ ?_
  rotate_left
  · intro w'
    go_simp
    with_reducible rfl
  rotate_left
  · simp only [Act.put,List.setIfInBounds_toArray,List.set_cons_zero,List.set_cons_succ,ax,ay]
    rfl
  refine aH (i:=7) (N:=some 11) (v:=?_) (a':=?_) #[true,true,true,true,true,false,false,true,false,false,false,false] rfl rfl (by kernel_rfl) (fun _ _ _ h=>h) (Or.inl ⟨by rfl,?_⟩) ?_ ?_
  rotate_left
  · intro w'
    go_simp
    with_reducible rfl
  rotate_left
  · simp only [Act.put,List.setIfInBounds_toArray,List.set_cons_zero,List.set_cons_succ,ax,ay]
    rfl
  refine cu (i:=5) (N:=some 9) (v:=?_) (a':=?_) #[true,true,true,true,true,true,false,true,false,false,false,false] rfl rfl (by kernel_rfl) (fun _ _ _ h=>h) (Or.inl ⟨by rfl,?_⟩) hHeld ?_ ?_
  rotate_left
  · rintro w' ⟨s0,s1,s2,s3,s4⟩
    go_simp
    with_reducible rfl
  rotate_left
  · simp only [Act.put,List.setIfInBounds_toArray,List.set_cons_zero,List.set_cons_succ,ax,ay]
    rfl
  refine aH (i:=6) (N:=some 10) (v:=?_) (a':=?_) #[true,true,true,true,true,true,true,true,false,false,false,false] rfl rfl (by kernel_rfl) (fun _ _ _ h=>h) (Or.inl ⟨by rfl,?_⟩) ?_ ?_
  rotate_left
  · intro w'
    go_simp
    with_reducible rfl
  rotate_left
  · simp only [Act.put,List.setIfInBounds_toArray,List.set_cons_zero,List.set_cons_succ,ax,ay]
    rfl
  refine cu (i:=8) (N:=some 12) (v:=?_) (a':=?_) #[true,true,true,true,true,true,true,true,true,false,false,false] rfl rfl (by kernel_rfl) (fun _ _ _ h=>h) (Or.inl ⟨by rfl,?_⟩) hHeld ?_ ?_
  rotate_left
  · rintro w' ⟨s0,s1,s2,s3,s4⟩
    go_simp
    with_reducible rfl
  rotate_left
  · simp only [Act.put,List.setIfInBounds_toArray,List.set_cons_zero,List.set_cons_succ,ax,ay]
    rfl
  refine aH (i:=9) (N:=some 13) (v:=?_) (a':=?_) #[true,true,true,true,true,true,true,true,true,true,false,false] rfl rfl (by kernel_rfl) (fun _ _ _ h=>h) (Or.inl ⟨by rfl,?_⟩) ?_ ?_
  rotate_left
  · intro w'
    go_simp
    with_reducible rfl
  rotate_left
  · simp only [Act.put,List.setIfInBounds_toArray,List.set_cons_zero,List.set_cons_succ,ax,ay]
    rfl
  refine aH (i:=10) (N:=some 14) (v:=?_) (a':=?_) #[true,true,true,true,true,true,true,true,true,true,true,false] rfl rfl (by kernel_rfl) (fun _ _ _ h=>h) (Or.inl ⟨by rfl,?_⟩) ?_ ?_
  rotate_left
  · intro w'
    go_simp
    with_reducible rfl
  rotate_left
  · simp only [Act.put,List.setIfInBounds_toArray,List.set_cons_zero,List.set_cons_succ,ax,ay]
    rfl
  refine gL (i:=11) (N:=some 15) #[true,true,true,true,true,true,true,true,true,true,true,true] rfl rfl (by kernel_rfl) (by decide) (fun K hK=>?_)
  refine gK Try.func153 (by kernel_rfl) rfl #[.pointer (some ⟨gm,0,none⟩),.int .u64 (IntKind.u64.wrap (IntKind.u64.wrap M.x+IntKind.u64.wrap k)),.int .i64 2] (by rfl) rfl rfl (by simp only [List.map_toArray,List.map_cons,List.map_nil];rfl) ?_
  with_reducible refine (HIC.out _ ⟨(HX.out.below (by repeat (first | (with_reducible exact Below.refl _ _) | apply af | apply ae))).cm,H.out.len⟩ (ak HB.out (by repeat (first | (with_reducible exact Below.refl _ _) | apply af | apply ae)))).mono ?_
  rintro e w3 ⟨rfl,hM,hK⟩
  refine ⟨_,rfl,?_⟩
  have HM:=aa.mk (And.intro hM hK)
  clear hM hK
  refine hK.out _ _ ?_
  clear hK K
  refine fe (a':=?_) ?_ ?_
  rotate_left
  · show Act.put _ (some 15) _=_
    simp only [Act.put,List.setIfInBounds_toArray,List.set_cons_zero,List.set_cons_succ,ax,ay]
    rfl
  refine dS (by kernel_rfl) ?_
  go_wp2
  go_end0
  exact ⟨rfl,HM.out.1,((Kp.refl _ w).below (ak HB.out (ae (Below.refl _ _)))).trans HM.out.2⟩
theorem tT (w:World) (gm T:Nat) (M:bn) (cc i1 i2 k:Int) (p:List Int) (A:Option Addr) (c:Nat) (R:List Value) (h:PM w gm T M (.slice A p.length c) 0 R) (hP:Kd.C (Kd.int .u8) w A p.length p) (hc:p.length≤c) (hl:p.length<2 ^ 62) (hk0:0≤k) (hk1:k<4294967296) :
    Calls Try.prog 104 #[.pointer (some ⟨gm,0,none⟩),.agg #[.int .u16 cc,.int .u8 i1,.int .u8 i2,.int .u32 k]] w (SP w gm T (ldA M (rdG p k 1)) (.slice A p.length c) (okF (rdG p k 1).2) R):=by
  have HIC:=aa.mk (fun (W:World) (hb:Below w.heap.size w W)=>fT W gm T M k 1 p A c R (h.below hb) (Kd.bJ hP hb) hc hl hk0 (by omega) (by decide))
  have hlt:=aZ h.me
  clear h hP hc hl
  go_enter Try.func104,Try.ntmps104
  go_wp2_with (go_at_call 153;refine (HIC.out _ (ai (Below.refl _ _) _)).mono ?_;rintro e X ⟨rfl,hM,hK⟩;have HM:=aa.mk (And.intro hM hK);clear hM hK)
  go_end0
  exact ⟨rfl,HM.out.1,((Kp.refl _ w).below (ai (Below.refl _ _) _)).trans HM.out.2⟩
theorem tZ (w:World) (gm T:Nat) (M:bn) (cc i1 i2 k:Int) (p:List Int) (A:Option Addr) (c:Nat) (R:List Value) (h:PM w gm T M (.slice A p.length c) 0 R) (hP:Kd.C (Kd.int .u8) w A p.length p) (hc:p.length≤c) (hl:p.length<2 ^ 62) (hk0:0≤k) (hk1:k<4294967296) (hx0:0≤M.x) (hx1:M.x<4294967296) :
    Calls Try.prog 107 #[.pointer (some ⟨gm,0,none⟩),.agg #[.int .u16 cc,.int .u8 i1,.int .u8 i2,.int .u32 k]] w (SP w gm T (ldA M (rdG p (M.x+k) 1)) (.slice A p.length c) (okF (rdG p (M.x+k) 1).2) R):=by
  have HIC:=aa.mk (fun (W:World) (hW:PM W gm T M (.slice A p.length c) 0 R) (hb:Below w.heap.size w W)=>(show Calls Try.prog 153 #[.pointer (some ⟨gm,0,none⟩),.int .u64 (IntKind.u64.wrap (IntKind.u64.wrap M.x+IntKind.u64.wrap k)),.int .i64 1] W (SP W gm T (ldA M (rdG p (M.x+k) 1)) (.slice A p.length c) (okF (rdG p (M.x+k) 1).2) R) by
    rw [show IntKind.u64.wrap (IntKind.u64.wrap M.x+IntKind.u64.wrap k)=M.x+k by simp only [IntKind.wrap_u64];omega]
    exact fT W gm T M (M.x+k) 1 p A c R hW (Kd.bJ hP hb) hc hl (by omega) (by omega) (by decide)))
  have H:=aa.mk h
  have hlt:=aZ h.me
  clear h hP hc hl
  go_enter Try.func107,Try.ntmps107
  go_upto_region 1 with (fail)
  refine forget (fun X=>∃ gi,gi=w.heap.size∧Below w.heap.size w X∧BX X gi gm T cc i1 i2 k (cB M (.slice A p.length c) 0 R)) ⟨_,rfl,ai (Below.refl _ _) _,heap_alloc_new _ _,(H.out.below (ai (Below.refl _ _) _)).me⟩ ?_
  rintro Y ⟨gi,egi,hb,hx⟩
  rw [←egi]
  have HX:=aa.mk hx
  have HB:=aa.mk hb
  clear egi hb hx
  refine dR (n:=12) (S:=fun w'=>w'.cell? ⟨gi,0,none⟩=some (.int .u16 cc)∧w'.cell? ⟨gi,1,none⟩=some (.int .u8 i1)∧w'.cell? ⟨gi,2,none⟩=some (.int .u8 i2)∧w'.cell? ⟨gi,3,none⟩=some (.int .u32 k)∧w'.cell? ⟨gm,1,none⟩=some (.int .u32 M.x)) (ds:=[11]) #[false,false,false,false,false,false,false,false,false,false,false,false] (by kernel_rfl) rfl rfl ⟨(HX.out.below (by repeat (first | (with_reducible exact Below.refl _ _) | apply af | apply ae))).k0,(HX.out.below (by repeat (first | (with_reducible exact Below.refl _ _) | apply af | apply ae))).k1,(HX.out.below (by repeat (first | (with_reducible exact Below.refl _ _) | apply af | apply ae))).k2,(HX.out.below (by repeat (first | (with_reducible exact Below.refl _ _) | apply af | apply ae))).k3,((ag (HX.out.below (by repeat (first | (with_reducible exact Below.refl _ _) | apply af | apply ae))).cm 1).trans rfl)⟩ (fun hHeld=>?_)
  refine aH (i:=0) (N:=some 4) (v:=?_) (a':=?_) #[true,false,false,false,false,false,false,false,false,false,false,false] rfl rfl (by kernel_rfl) (fun _ _ _ h=>h) (Or.inl ⟨by rfl,?_⟩) ?_ ?_
  rotate_left
  · intro w'
    go_simp
    with_reducible rfl
  rotate_left
  · simp only [Act.put,List.setIfInBounds_toArray,List.set_cons_zero,List.set_cons_succ,ax,ay]
    rfl
  refine aH (i:=1) (N:=some 5) (v:=?_) (a':=?_) #[true,true,false,false,false,false,false,false,false,false,false,false] rfl rfl (by kernel_rfl) (fun _ _ _ h=>h) (Or.inl ⟨by rfl,?_⟩) ?_ ?_
  rotate_left
  · intro w'
    go_simp
    with_reducible rfl
  rotate_left
  · simp only [Act.put,List.setIfInBounds_toArray,List.set_cons_zero,List.set_cons_succ,ax,ay]
    rfl
  refine aH (i:=2) (N:=some 6) (v:=?_) (a':=?_) #[true,true,true,false,false,false,false,false,false,false,false,false] rfl rfl (by kernel_rfl) (fun _ _ _ h=>h) (Or.inl ⟨by rfl,?_⟩) ?_ ?_
  rotate_left
  · intro w'
    go_simp
    with_reducible rfl
  rotate_left
  · simp only [Act.put,List.setIfInBounds_toArray,List.set_cons_zero,List.set_cons_succ,ax,ay]
    rfl
  refine aH (i:=3) (N:=some 7) (v:=?_) (a':=?_) #[true,true,true,true,false,false,false,false,false,false,false,false] rfl rfl (by kernel_rfl) (fun _ _ _ h=>h) (Or.inl ⟨by rfl,?_⟩) ?_ ?_
  rotate_left
  · intro w'
    go_simp
    with_reducible rfl
  rotate_left
  · simp only [Act.put,List.setIfInBounds_toArray,List.set_cons_zero,List.set_cons_succ,ax,ay]
    rfl
  refine aH (i:=4) (N:=some 8) (v:=?_) (a':=?_) #[true,true,true,true,true,false,false,false,false,false,false,false] rfl rfl (by kernel_rfl) (fun _ _ _ h=>h) (Or.inl ⟨by rfl,?_⟩) ?_ ?_
  rotate_left
  · intro w'
    go_simp
    with_reducible rfl
  rotate_left
  · simp only [Act.put,List.setIfInBounds_toArray,List.set_cons_zero,List.set_cons_succ,ax,ay]
    rfl
  refine aH (i:=7) (N:=some 11) (v:=?_) (a':=?_) #[true,true,true,true,true,false,false,true,false,false,false,false] rfl rfl (by kernel_rfl) (fun _ _ _ h=>h) (Or.inl ⟨by rfl,?_⟩) ?_ ?_
  rotate_left
  · intro w'
    go_simp
    with_reducible rfl
  rotate_left
  · simp only [Act.put,List.setIfInBounds_toArray,List.set_cons_zero,List.set_cons_succ,ax,ay]
    rfl
  refine cu (i:=5) (N:=some 9) (v:=?_) (a':=?_) #[true,true,true,true,true,true,false,true,false,false,false,false] rfl rfl (by kernel_rfl) (fun _ _ _ h=>h) (Or.inl ⟨by rfl,?_⟩) hHeld ?_ ?_
  rotate_left
  · rintro w' ⟨s0,s1,s2,s3,s4⟩
    go_simp
    with_reducible rfl
  rotate_left
  · simp only [Act.put,List.setIfInBounds_toArray,List.set_cons_zero,List.set_cons_succ,ax,ay]
    rfl
  refine aH (i:=6) (N:=some 10) (v:=?_) (a':=?_) #[true,true,true,true,true,true,true,true,false,false,false,false] rfl rfl (by kernel_rfl) (fun _ _ _ h=>h) (Or.inl ⟨by rfl,?_⟩) ?_ ?_
  rotate_left
  · intro w'
    go_simp
    with_reducible rfl
  rotate_left
  · simp only [Act.put,List.setIfInBounds_toArray,List.set_cons_zero,List.set_cons_succ,ax,ay]
    rfl
  refine cu (i:=8) (N:=some 12) (v:=?_) (a':=?_) #[true,true,true,true,true,true,true,true,true,false,false,false] rfl rfl (by kernel_rfl) (fun _ _ _ h=>h) (Or.inl ⟨by rfl,?_⟩) hHeld ?_ ?_
  rotate_left
  · rintro w' ⟨s0,s1,s2,s3,s4⟩
    go_simp
    with_reducible rfl
  rotate_left
  · simp only [Act.put,List.setIfInBounds_toArray,List.set_cons_zero,List.set_cons_succ,ax,ay]
    rfl
  refine aH (i:=9) (N:=some 13) (v:=?_) (a':=?_) #[true,true,true,true,true,true,true,true,true,true,false,false] rfl rfl (by kernel_rfl) (fun _ _ _ h=>h) (Or.inl ⟨by rfl,?_⟩) ?_ ?_
  rotate_left
  · intro w'
    go_simp
    with_reducible rfl
  rotate_left
  · simp only [Act.put,List.setIfInBounds_toArray,List.set_cons_zero,List.set_cons_succ,ax,ay]
    rfl
  refine aH (i:=10) (N:=some 14) (v:=?_) (a':=?_) #[true,true,true,true,true,true,true,true,true,true,true,false] rfl rfl (by kernel_rfl) (fun _ _ _ h=>h) (Or.inl ⟨by rfl,?_⟩) ?_ ?_
  rotate_left
  · intro w'
    go_simp
    with_reducible rfl
  rotate_left
  · simp only [Act.put,List.setIfInBounds_toArray,List.set_cons_zero,List.set_cons_succ,ax,ay]
    rfl
  refine gL (i:=11) (N:=some 15) #[true,true,true,true,true,true,true,true,true,true,true,true] rfl rfl (by kernel_rfl) (by decide) (fun K hK=>?_)
  refine gK Try.func153 (by kernel_rfl) rfl #[.pointer (some ⟨gm,0,none⟩),.int .u64 (IntKind.u64.wrap (IntKind.u64.wrap M.x+IntKind.u64.wrap k)),.int .i64 1] (by rfl) rfl rfl (by simp only [List.map_toArray,List.map_cons,List.map_nil];rfl) ?_
  with_reducible refine (HIC.out _ ⟨(HX.out.below (by repeat (first | (with_reducible exact Below.refl _ _) | apply af | apply ae))).cm,H.out.len⟩ (ak HB.out (by repeat (first | (with_reducible exact Below.refl _ _) | apply af | apply ae)))).mono ?_
  rintro e w3 ⟨rfl,hM,hK⟩
  refine ⟨_,rfl,?_⟩
  have HM:=aa.mk (And.intro hM hK)
  clear hM hK
  refine hK.out _ _ ?_
  clear hK K
  refine fe (a':=?_) ?_ ?_
  rotate_left
  · show Act.put _ (some 15) _=_
    simp only [Act.put,List.setIfInBounds_toArray,List.set_cons_zero,List.set_cons_succ,ax,ay]
    rfl
  refine dS (by kernel_rfl) ?_
  go_wp2
  go_end0
  exact ⟨rfl,HM.out.1,((Kp.refl _ w).below (ak HB.out (ae (Below.refl _ _)))).trans HM.out.2⟩
theorem ul (w:World) (gm T:Nat) (M:bn) (cc i1 i2 k:Int) (p:List Int) (A:Option Addr) (c:Nat) (R:List Value) (h:PM w gm T M (.slice A p.length c) 0 R) (hP:Kd.C (Kd.int .u8) w A p.length p) (hc:p.length≤c) (hl:p.length<2 ^ 62) (hk0:0≤k) (hk1:k<4294967296) :
    Calls Try.prog 113 #[.pointer (some ⟨gm,0,none⟩),.agg #[.int .u16 cc,.int .u8 i1,.int .u8 i2,.int .u32 k]] w (SP w gm T (ldX M (rdG p k 1)) (.slice A p.length c) (okF (rdG p k 1).2) R):=by
  have HLC:=aa.mk (fun (W:World) (hb:Below w.heap.size w W)=>kR W gm T M k 1 p A c R (h.below hb) (Kd.bJ hP hb) hc hl hk0 (by omega) (by decide))
  have hlt:=aZ h.me
  obtain ⟨⟨v,ok⟩,er⟩:∃ r,r=rdG p k 1:=⟨_,rfl⟩
  rw [←er] at HLC ⊢
  clear h hP hc hl er
  dsimp only at HLC ⊢
  cases ok
  · go_enter Try.func113,Try.ntmps113
    go_wp2_with (go_at_call 154;refine (HLC.out _ (ai (Below.refl _ _) _)).mono ?_;rintro e X ⟨rfl,hM,hK⟩;have HM:=aa.mk (And.intro hM hK);clear hM hK)
    go_end0
    exact ⟨rfl,HM.out.1,((Kp.refl _ w).below (ai (Below.refl _ _) _)).trans HM.out.2⟩
  · go_enter Try.func113,Try.ntmps113
    go_wp2_with (go_at_call 154;refine (HLC.out _ (ai (Below.refl _ _) _)).mono ?_;rintro e X ⟨rfl,hM,hK⟩;have HM:=aa.mk (And.intro hM hK);have cx:=(ag hM.me 1).trans (nU M _ _ _);have fx:=aj hM.me 1;clear hM hK)
    go_end0
    exact .set (((Kp.refl _ w).below (ai (Below.refl _ _) _)).trans HM.out.2) (HM.out.1.ve _)
theorem g_alu (w:World) (gm T:Nat) (M:bn) (cc i1 i2 k r1:Int) (r2:Bool) (P:Value) (R:List Value) (h:PM w gm T M P 0 R) (hr:eH.f cc M.a (if (Go.bits .and .u16 cc 8 != 0)=true then M.x else k)=some (r1,r2)) :
    Calls Try.prog 119 #[.pointer (some ⟨gm,0,none⟩),.agg #[.int .u16 cc,.int .u8 i1,.int .u8 i2,.int .u32 k]] w (SP w gm T (if r2=true then {M with a:=r1} else M) P (if r2=true then 0 else 2) R):=by
  obtain ⟨arr,earr⟩:∃ arr,arr=cB M P 0 R:=⟨_,rfl⟩
  have hm:=h.me
  rw [←earr] at hm
  have HRC:=aa.mk (fun (W:World) (hW:W.heap[gm]?=some (.cells arr T (0,0)))=>kU W gm arr T M.a M.x cc i1 i2 k hW (by rw [earr];rfl))
  obtain ⟨y,ey⟩:∃ y,y=if (Go.bits .and .u16 cc 8 != 0)=true then M.x else k:=⟨_,rfl⟩
  rw [←ey] at hr HRC
  have HR:=aa.mk hr
  have HA:=aa.mk (show arr[0]?=some (.int .u32 M.a) by rw [earr];rfl)
  have HE:=aa.mk earr
  have H:=aa.mk hm
  have HL:=aa.mk h.len
  have hlt:=aZ hm
  clear h hm hr ey earr
  go_enter Try.func119,Try.ntmps119
  go_upto_region 1 with (fail)
  refine forget (fun X=>∃ gi,gi=w.heap.size∧Below w.heap.size w X∧BX X gi gm T cc i1 i2 k arr) ⟨_,rfl,ai (Below.refl _ _) _,heap_alloc_new _ _,au H.out (ai (Below.refl _ _) _)⟩ ?_
  rintro Y ⟨gi,egi,hb,hx⟩
  rw [←egi]
  have HX:=aa.mk hx
  have HB:=aa.mk hb
  clear egi hb hx H
  refine dR (n:=18) (S:=fun w'=>w'.cell? ⟨gi,0,none⟩=some (.int .u16 cc)∧w'.cell? ⟨gi,1,none⟩=some (.int .u8 i1)∧w'.cell? ⟨gi,2,none⟩=some (.int .u8 i2)∧w'.cell? ⟨gi,3,none⟩=some (.int .u32 k)∧w'.cell? ⟨gm,0,none⟩=some (.int .u32 M.a)) (ds:=[]) #[false,false,false,false,false,false,false,false,false,false,false,false,false,false,false,false,false,false] (by kernel_rfl) rfl rfl ⟨(HX.out.below (by repeat (first | (with_reducible exact Below.refl _ _) | apply af | apply ae))).k0,(HX.out.below (by repeat (first | (with_reducible exact Below.refl _ _) | apply af | apply ae))).k1,(HX.out.below (by repeat (first | (with_reducible exact Below.refl _ _) | apply af | apply ae))).k2,(HX.out.below (by repeat (first | (with_reducible exact Below.refl _ _) | apply af | apply ae))).k3,((ag (HX.out.below (by repeat (first | (with_reducible exact Below.refl _ _) | apply af | apply ae))).cm 0).trans HA.out)⟩ (fun hHeld=>?_)
  refine aH (i:=0) (N:=some 7) (v:=?_) (a':=?_) #[true,false,false,false,false,false,false,false,false,false,false,false,false,false,false,false,false,false] rfl rfl (by kernel_rfl) (fun _ _ _ h=>h) (Or.inl ⟨by rfl,?_⟩) ?_ ?_
  rotate_left
  · intro w'
    go_simp
    with_reducible rfl
  rotate_left
  · simp only [Act.put,List.setIfInBounds_toArray,List.set_cons_zero,List.set_cons_succ,ax,ay]
    rfl
  refine aH (i:=2) (N:=some 9) (v:=?_) (a':=?_) #[true,false,true,false,false,false,false,false,false,false,false,false,false,false,false,false,false,false] rfl rfl (by kernel_rfl) (fun _ _ _ h=>h) (Or.inl ⟨by rfl,?_⟩) ?_ ?_
  rotate_left
  · intro w'
    go_simp
    with_reducible rfl
  rotate_left
  · simp only [Act.put,List.setIfInBounds_toArray,List.set_cons_zero,List.set_cons_succ,ax,ay]
    rfl
  refine aH (i:=3) (N:=some 10) (v:=?_) (a':=?_) #[true,false,true,true,false,false,false,false,false,false,false,false,false,false,false,false,false,false] rfl rfl (by kernel_rfl) (fun _ _ _ h=>h) (Or.inl ⟨by rfl,?_⟩) ?_ ?_
  rotate_left
  · intro w'
    go_simp
    with_reducible rfl
  rotate_left
  · simp only [Act.put,List.setIfInBounds_toArray,List.set_cons_zero,List.set_cons_succ,ax,ay]
    rfl
  refine aH (i:=4) (N:=some 11) (v:=?_) (a':=?_) #[true,false,true,true,true,false,false,false,false,false,false,false,false,false,false,false,false,false] rfl rfl (by kernel_rfl) (fun _ _ _ h=>h) (Or.inl ⟨by rfl,?_⟩) ?_ ?_
  rotate_left
  · intro w'
    go_simp
    with_reducible rfl
  rotate_left
  · simp only [Act.put,List.setIfInBounds_toArray,List.set_cons_zero,List.set_cons_succ,ax,ay]
    rfl
  refine aH (i:=5) (N:=some 12) (v:=?_) (a':=?_) #[true,false,true,true,true,true,false,false,false,false,false,false,false,false,false,false,false,false] rfl rfl (by kernel_rfl) (fun _ _ _ h=>h) (Or.inl ⟨by rfl,?_⟩) ?_ ?_
  rotate_left
  · intro w'
    go_simp
    with_reducible rfl
  rotate_left
  · simp only [Act.put,List.setIfInBounds_toArray,List.set_cons_zero,List.set_cons_succ,ax,ay]
    rfl
  refine aH (i:=7) (N:=some 14) (v:=?_) (a':=?_) #[true,false,true,true,true,true,false,true,false,false,false,false,false,false,false,false,false,false] rfl rfl (by kernel_rfl) (fun _ _ _ h=>h) (Or.inl ⟨by rfl,?_⟩) ?_ ?_
  rotate_left
  · intro w'
    go_simp
    with_reducible rfl
  rotate_left
  · simp only [Act.put,List.setIfInBounds_toArray,List.set_cons_zero,List.set_cons_succ,ax,ay]
    rfl
  refine aH (i:=8) (N:=some 15) (v:=?_) (a':=?_) #[true,false,true,true,true,true,false,true,true,false,false,false,false,false,false,false,false,false] rfl rfl (by kernel_rfl) (fun _ _ _ h=>h) (Or.inl ⟨by rfl,?_⟩) ?_ ?_
  rotate_left
  · intro w'
    go_simp
    with_reducible rfl
  rotate_left
  · simp only [Act.put,List.setIfInBounds_toArray,List.set_cons_zero,List.set_cons_succ,ax,ay]
    rfl
  refine aH (i:=9) (N:=some 16) (v:=?_) (a':=?_) #[true,false,true,true,true,true,false,true,true,true,false,false,false,false,false,false,false,false] rfl rfl (by kernel_rfl) (fun _ _ _ h=>h) (Or.inl ⟨by rfl,?_⟩) ?_ ?_
  rotate_left
  · intro w'
    go_simp
    with_reducible rfl
  rotate_left
  · simp only [Act.put,List.setIfInBounds_toArray,List.set_cons_zero,List.set_cons_succ,ax,ay]
    rfl
  refine cu (i:=1) (N:=some 8) (v:=?_) (a':=?_) #[true,true,true,true,true,true,false,true,true,true,false,false,false,false,false,false,false,false] rfl rfl (by kernel_rfl) (fun _ _ _ h=>h) (Or.inl ⟨by rfl,?_⟩) hHeld ?_ ?_
  rotate_left
  · rintro w' ⟨s0,s1,s2,s3,s4⟩
    go_simp
    with_reducible rfl
  rotate_left
  · simp only [Act.put,List.setIfInBounds_toArray,List.set_cons_zero,List.set_cons_succ,ax,ay]
    rfl
  refine cu (i:=6) (N:=some 13) (v:=?_) (a':=?_) #[true,true,true,true,true,true,true,true,true,true,false,false,false,false,false,false,false,false] rfl rfl (by kernel_rfl) (fun _ _ _ h=>h) (Or.inl ⟨by rfl,?_⟩) hHeld ?_ ?_
  rotate_left
  · rintro w' ⟨s0,s1,s2,s3,s4⟩
    go_simp
    with_reducible rfl
  rotate_left
  · simp only [Act.put,List.setIfInBounds_toArray,List.set_cons_zero,List.set_cons_succ,ax,ay]
    rfl
  refine cu (i:=10) (N:=some 17) (v:=?_) (a':=?_) #[true,true,true,true,true,true,true,true,true,true,true,false,false,false,false,false,false,false] rfl rfl (by kernel_rfl) (fun _ _ _ h=>h) (Or.inl ⟨by rfl,?_⟩) hHeld ?_ ?_
  rotate_left
  · rintro w' ⟨s0,s1,s2,s3,s4⟩
    go_simp
    with_reducible rfl
  rotate_left
  · simp only [Act.put,List.setIfInBounds_toArray,List.set_cons_zero,List.set_cons_succ,ax,ay]
    rfl
  refine gV (i:=11) (N:=some 18) #[true,true,true,true,true,true,true,true,true,true,true,true,false,false,false,false,false,false] rfl rfl (by kernel_rfl) (by decide) (fun K hK=>?_)
  refine gK Try.func156 (by kernel_rfl) rfl #[.pointer (some ⟨gm,0,none⟩),.agg #[.int .u16 cc,.int .u8 i1,.int .u8 i2,.int .u32 k]] (by rfl) rfl rfl (by simp only [List.map_toArray,List.map_cons,List.map_nil];rfl) ?_
  with_reducible refine (HRC.out _ (HX.out.below (by repeat (first | (with_reducible exact Below.refl _ _) | apply af | apply ae))).cm).mono ?_
  rintro e w3 ⟨rfl,hb3⟩
  refine ⟨_,rfl,?_⟩
  refine hK.out _ _ ⟨(HX.out.below (ak (ae (Below.refl _ _)) hb3)).k0,(HX.out.below (ak (ae (Below.refl _ _)) hb3)).k1,(HX.out.below (ak (ae (Below.refl _ _)) hb3)).k2,(HX.out.below (ak (ae (Below.refl _ _)) hb3)).k3,((ag (HX.out.below (ak (ae (Below.refl _ _)) hb3)).cm 0).trans HA.out)⟩ (fun hHeld=>?_)
  clear hK K
  refine fe (a':=?_) ?_ ?_
  rotate_left
  · show Act.put _ (some 18) _=_
    simp only [Act.put,List.setIfInBounds_toArray,List.set_cons_zero,List.set_cons_succ,ax,ay]
    rfl
  refine gV (i:=12) (N:=some 19) #[true,true,true,true,true,true,true,true,true,true,true,true,true,false,false,false,false,false] rfl rfl (by kernel_rfl) (by decide) (fun K hK=>?_)
  refine gK Try.func155 (by kernel_rfl) rfl #[.int .u16 cc,.int .u32 M.a,.int .u32 y] (by rfl) rfl rfl (by simp only [List.map_toArray,List.map_cons,List.map_nil];rfl) ?_
  with_reducible refine (eH.calls _ _ _ _ _ _ HR.out).mono ?_
  rintro e w4 ⟨rfl,⟨nd4,rfl⟩⟩
  refine ⟨_,rfl,?_⟩
  refine hK.out _ _ ⟨(HX.out.below (af (ak (ae (Below.refl _ _)) hb3) _)).k0,(HX.out.below (af (ak (ae (Below.refl _ _)) hb3) _)).k1,(HX.out.below (af (ak (ae (Below.refl _ _)) hb3) _)).k2,(HX.out.below (af (ak (ae (Below.refl _ _)) hb3) _)).k3,((ag (HX.out.below (af (ak (ae (Below.refl _ _)) hb3) _)).cm 0).trans HA.out)⟩ (fun hHeld=>?_)
  clear hK K
  refine fe (a':=?_) ?_ ?_
  rotate_left
  · show Act.put _ (some 19) _=_
    simp only [Act.put,List.setIfInBounds_toArray,List.set_cons_zero,List.set_cons_succ,ax,ay]
    rfl
  refine aH (i:=13) (N:=some 6) (v:=?_) (a':=?_) #[true,true,true,true,true,true,true,true,true,true,true,true,true,true,false,false,false,false] rfl rfl (by kernel_rfl) (fun _ _ _ h=>h) (Or.inl ⟨by rfl,?_⟩) ?_ ?_
  rotate_left
  · intro w'
    go_simp
    with_reducible rfl
  rotate_left
  · simp only [Act.put,List.setIfInBounds_toArray,List.set_cons_zero,List.set_cons_succ,ax,ay]
    rfl
  refine aH (i:=14) (N:=some 20) (v:=?_) (a':=?_) #[true,true,true,true,true,true,true,true,true,true,true,true,true,true,true,false,false,false] rfl rfl (by kernel_rfl) (fun _ _ _ h=>h) (Or.inl ⟨by rfl,?_⟩) ?_ ?_
  rotate_left
  · intro w'
    go_simp
    with_reducible rfl
  rotate_left
  · simp only [Act.put,List.setIfInBounds_toArray,List.set_cons_zero,List.set_cons_succ,ax,ay]
    rfl
  refine aH (i:=15) (N:=some 21) (v:=?_) (a':=?_) #[true,true,true,true,true,true,true,true,true,true,true,true,true,true,true,true,false,false] rfl rfl (by kernel_rfl) (fun _ _ _ h=>h) (Or.inl ⟨by rfl,?_⟩) ?_ ?_
  rotate_left
  · intro w'
    go_simp
    with_reducible rfl
  rotate_left
  · simp only [Act.put,List.setIfInBounds_toArray,List.set_cons_zero,List.set_cons_succ,ax,ay]
    rfl
  refine aH (i:=16) (N:=some 4) (v:=?_) (a':=?_) #[true,true,true,true,true,true,true,true,true,true,true,true,true,true,true,true,true,false] rfl rfl (by kernel_rfl) (fun _ _ _ h=>h) (Or.inl ⟨by rfl,?_⟩) ?_ ?_
  rotate_left
  · intro w'
    go_simp
    with_reducible rfl
  rotate_left
  · simp only [Act.put,List.setIfInBounds_toArray,List.set_cons_zero,List.set_cons_succ,ax,ay]
    rfl
  refine aH (i:=17) (N:=some 5) (v:=?_) (a':=?_) #[true,true,true,true,true,true,true,true,true,true,true,true,true,true,true,true,true,true] rfl rfl (by kernel_rfl) (fun _ _ _ h=>h) (Or.inl ⟨by rfl,?_⟩) ?_ ?_
  rotate_left
  · intro w'
    go_simp
    with_reducible rfl
  rotate_left
  · simp only [Act.put,List.setIfInBounds_toArray,List.set_cons_zero,List.set_cons_succ,ax,ay]
    rfl
  refine dS (by kernel_rfl) ?_
  go_upto_region 2 with (fail)
  refine forget (fun Z=>PM Z gm T M P 0 R∧Kp (fun k=>k=gm) w Z) ⟨⟨HE.out ▸ (HX.out.below (af (ak (ae (Below.refl _ _)) hb3) nd4)).cm,HL.out⟩,(Kp.refl _ w).below (ak HB.out (af (ak (ae (Below.refl _ _)) hb3) nd4))⟩ ?_
  clear HX HB hb3
  rintro Z ⟨hM,hK⟩
  have ca:=(ag hM.me 0).trans (kg M _ _ _)
  have fa:=aj hM.me 0
  have cf:=(ag hM.me 19).trans (oO M _ _ _ hM.len)
  have ff:=aj hM.me 19
  have HM:=aa.mk (And.intro hM hK)
  clear hM hK HRC HR HE HL HA
  cases r2
  · go_wp2
    go_end0
    exact .set HM.out.2 (HM.out.1.setf _)
  · go_wp2
    go_end0
    exact .set HM.out.2 (HM.out.1.jP _)
def tbB:List (Nat × Nat):=[(0,101),(32,102),(40,103),(48,104),(64,105),(72,106),(80,107),(96,108),(128,109),(1,110),(97,111),(129,112),(177,113),(2,114),(3,115),(132,116),(7,117),(135,118)]
def tbC:List Nat:=[4,20,36,52,68,84,100,116,148,164]
def fnV (k:Nat):Value := .func (.func k) #[] #[]
structure TB (arr:Array Value) (n:Nat):Prop where
  size:arr.size=256
  base:∀ p∈tbB,arr[p.1]?=some (fnV p.2)
  alu:∀ i,i<n→arr[tbC.getD i 0]?=some (fnV 119)∧arr[tbC.getD i 0+8]?=some (fnV 119)
theorem qE:∀ j<10,tbC.getD j 0<200∧(∀ p∈tbB,p.1≠tbC.getD j 0∧p.1≠tbC.getD j 0+8)∧∀ i<10,i≠j→tbC.getD i 0≠tbC.getD j 0∧tbC.getD i 0≠tbC.getD j 0+8∧tbC.getD i 0+8≠tbC.getD j 0:=by decide
theorem tb_or:∀ j<10,Go.bits .or .u16 (tbC.getD j 0:Int) 8=(tbC.getD j 0:Int)+8:=by
  intro j hj
  have:j=0∨j=1∨j=2∨j=3∨j=4∨j=5∨j=6∨j=7∨j=8∨j=9:=by omega
  rcases this with rfl | rfl | rfl | rfl | rfl | rfl | rfl | rfl | rfl | rfl<;>decide +kernel
theorem TB.next {arr:Array Value} {j:Nat} (h:TB arr j) (hj:j<10):TB ((arr.setIfInBounds (tbC.getD j 0) (fnV 119)).setIfInBounds (tbC.getD j 0+8) (fnV 119)) (j+1):=by
  obtain ⟨f0,f1,f2⟩:=qE j hj
  have hs:=h.size
  refine ⟨by simp [hs],fun p hp=>?_,fun i hi=>?_⟩
  · have:=f1 p hp
    rw [Array.getElem?_setIfInBounds_ne (by omega),Array.getElem?_setIfInBounds_ne (by omega)]
    exact h.base p hp
  · by_cases e:i=j
    · subst e
      rw [Array.getElem?_setIfInBounds_ne (by omega),Array.getElem?_setIfInBounds_self_of_lt (by rw [hs];omega),Array.getElem?_setIfInBounds_self_of_lt (by rw [Array.size_setIfInBounds,hs];omega)]
      exact ⟨rfl,rfl⟩
    · have:=f2 i (by omega) e
      rw [Array.getElem?_setIfInBounds_ne (by omega),Array.getElem?_setIfInBounds_ne (by omega),Array.getElem?_setIfInBounds_ne (by omega),Array.getElem?_setIfInBounds_ne (by omega)]
      exact h.alu i (by omega)
def tcC:Array Value:=(tbC.map (fun c:Nat=>Value.int .u16 (c:Int))).toArray
structure TI (w wr:World) (gd gs j:Nat):Prop where
  d:∃ arr,wr.heap[gd]?=some (.cells arr 143 (0,0))∧TB arr j
  s:wr.heap[gs]?=some (.cells tcC 43 (0,0))
  low:Below w.heap.size w wr
theorem kV (w:World):Calls Try.prog 69 #[] w fun e w'=>∃ gd arr,e = .returned (.pointer (some ⟨gd,0,none⟩))∧w'.heap[gd]?=some (.cells arr 143 (0,0))∧w.heap.size≤gd∧TB arr 10∧Below w.heap.size w w':=by
  go_enter Try.func69,Try.ntmps69
  go_upto_region 2 with (fail)
  refine forget (fun X=>∃ gd arr,gd=w.heap.size∧X.heap[gd]?=some (.cells arr 143 (0,0))∧TB arr 0∧Below w.heap.size w X) ⟨_,_,rfl,heap_alloc_new _ _,⟨by kernel_rfl,fun p hp=>by
    simp only [tbB,List.mem_cons,List.not_mem_nil,or_false] at hp
    rcases hp with rfl | rfl | rfl | rfl | rfl | rfl | rfl | rfl | rfl | rfl | rfl | rfl | rfl | rfl | rfl | rfl | rfl | rfl<;>kernel_rfl,fun i h=>absurd h (Nat.not_lt_zero _)⟩,ai (Below.refl _ _) _⟩ ?_
  rintro X ⟨gd,arr,egd,hd,ht,hb⟩
  rw [←egd]
  have HX:=aa.mk (And.intro hd (And.intro ht (And.intro hb egd)))
  clear hd ht hb egd
  go_upto_block 0 with (fail)
  refine forget (fun Y=>∃ gs,gs=X.heap.size∧(∃ arr,Y.heap[gd]?=some (.cells arr 143 (0,0))∧TB arr 0)∧Y.heap[gs]?=some (.cells tcC 43 (0,0))∧Below w.heap.size w Y∧gd<gs) ⟨_,rfl,⟨arr,au HX.out.1 (ai (Below.refl _ _) _),HX.out.2.1⟩,heap_alloc_new _ _,ai HX.out.2.2.1 _,aZ HX.out.1⟩ ?_
  rintro Y ⟨gs,egs,ha,hs,hb,hlt⟩
  rw [←egs]
  have HGD:=aa.mk (show w.heap.size≤gd by rw [HX.out.2.2.2];exact Nat.le_refl _)
  have HY:=aa.mk (TI.mk (w:=w) (wr:=Y) (gd:=gd) (gs:=gs) (j:=0) ha hs hb)
  have HLT:=aa.mk hlt
  clear ha hs hb egs hlt HX
  go_wp2
  go_loopw [8] (fun v8 wr=>∃ j:Nat,j≤10∧v8 = .int .i64 j∧aa (TI w wr gd gs j)) (fun v8 _=>10 - (intOf v8).toNat)
  case atStart=>exact ⟨0,by omega,rfl,HY⟩
  case round=>
    clear HY
    obtain ⟨j,hj,rfl,HY⟩:=hrel
    by_cases hlt:j<10
    · obtain ⟨q,eq⟩:∃ q,q=tbC.getD j 0:=⟨_,rfl⟩
      have hor:=tb_or j hlt
      have hfar:=(qE j hlt).1
      have i0:(0:Int)≤(j:Int):=by omega
      have i1:(j:Int)<10:=by omega
      have cs:wr.cell? ⟨gs,j,none⟩=some (.int .u16 (tbC.getD j 0:Nat)):=(ag HY.out.s j).trans (by unfold tcC;rw [List.getElem?_toArray,List.getElem?_map,List.getD_eq_getElem?_getD,List.getElem?_eq_getElem (by exact hlt)];rfl)
      obtain ⟨arr,hd,ht⟩:=HY.out.d
      have hf2:=qE j hlt
      obtain ⟨v1,hv1⟩:∃ v,arr[tbC.getD j 0]?=some v:=⟨_,Array.getElem?_eq_getElem (by rw [ht.size];omega)⟩
      obtain ⟨v2,hv2⟩:∃ v,arr[tbC.getD j 0+8]?=some v:=⟨_,Array.getElem?_eq_getElem (by rw [ht.size];omega)⟩
      have c1:=(ag hd (tbC.getD j 0)).trans hv1
      have c2:=(ag hd (tbC.getD j 0+8)).trans hv2
      have f1:=aj hd (tbC.getD j 0)
      have f2:=aj hd (tbC.getD j 0+8)
      have HT:=aa.mk (And.intro hd (ht.next hlt))
      rw [←eq] at hor hfar cs c1 c2 f1 f2 HT
      have q0:(0:Int)≤(q:Int):=by omega
      have q1:(q:Int)<256:=by omega
      have q2:(q:Int)+8<256:=by omega
      clear eq hd ht hv1 hv2 hf2 hfar
      go_upto_region 5 with (fail)
      go_region
      have HN:aa (TI w (((wr.setCell ⟨gd,q,none⟩ (fnV 119)).setCell ⟨gd,q+8,none⟩ (fnV 119)).drew) gd gs (j+1)):=
        ⟨⟨_,au (aJ (aJ HT.out.1 q _ rfl) (q+8) _ rfl) (ae (Below.refl _ _)),HT.out.2⟩,au (bQ (bQ HY.out.s (by have:=HLT.out;show gs≠gd;omega) _) (by have:=HLT.out;show gs≠gd;omega) _) (ae (Below.refl _ _)),ae (bU (bU HY.out.low HGD.out) HGD.out)⟩
      clear hor cs c1 c2 f1 f2 HY HT
      go_wp2
      go_roundw
      case rel=>exact ⟨j+1,by omega,by go_num,HN⟩
      case measure=>simp [intOf];omega
    · have hj2:j=10:=by omega
      subst hj2
      obtain ⟨arr,hd,ht⟩:=HY.out.d
      have HE:=aa.mk (And.intro hd ht)
      clear hd ht
      go_wp2
      go_ret
      exact ⟨gd,arr,rfl,HE.out.1,HGD.out,HE.out.2,HY.out.low⟩
end Go.Proofs.Ytdkalnkplgfgoaa.Ln
