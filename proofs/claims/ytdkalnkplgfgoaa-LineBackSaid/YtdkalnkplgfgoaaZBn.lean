/- Lemmas and walks for the statements of the texts ZBZ..: the declarations that they need, taken together by a program of this session. Conditions: as each says. -/
import Derived.Test.YtdkalnkplgfgoaaZBj
import Derived.Test.YtdkalnkplgfgoaaZBm
set_option maxHeartbeats 8000000
set_option maxRecDepth 100000
set_option linter.unusedVariables false
set_option linter.unusedSimpArgs false
namespace Go.Proofs.Ytdkalnkplgfgoaa.Ln
open Go.RowKit Go.Maps Go.Proofs.YtdkalnkplgfgoaaW.PrintWords Go.Proofs.YtdkalnkplgfgoaaW.PrintLast Go.Proofs.YtdkalnkplgfgoaaW.PrintMore Go.Proofs.Ytdkalnkplgfgoaa.PA
theorem qm (w:World) (gs:Nat) (s x:Int) (T:Nat) (h:w.heap[gs]?=some (.cells #[.int .i64 s] T (0,0))):Calls Try.prog 74 #[.int .i64 x,.pointer (some ⟨gs,0,none⟩)] w fun e w'=>e = .returned (.tuple #[])∧w'=w.setCell ⟨gs,0,none⟩ (.int .i64 (wrap64 (s+1))):=by
  have c0:w.cell? ⟨gs,0,none⟩=some (.int .i64 s):=(ag h 0).trans rfl
  have f0:w.frozen? ⟨gs,0,none⟩=false:=aj h 0
  go_enter Try.func74,Try.ntmps74
  go_wp2
  go_end0
  exact ⟨rfl,rfl⟩
structure RV (w0 w:World) (gr gd:Nat) (arr:Array Value) (M:bn) (P:Value) (f a v:Int) (e:Bool):Prop where
  m:PM w gr 117 M P f [.int .i64 a,.int .u32 v,.bool e]
  t:w.heap[gd]?=some (.cells arr 143 (0,0))
  low:Below w0.heap.size w0 w
  gr:w0.heap.size≤gr
section
variable {w0 w w1:World} {gr gd:Nat} {arr:Array Value} {M M1:bn} {P:Value} {f f1 a a1 v v1:Int} {e e1:Bool}
theorem RV.below (h:RV w0 w gr gd arr M P f a v e) (hb:Below w.heap.size w w1):RV w0 w1 gr gd arr M P f a v e:=⟨h.m.below hb,au h.t hb,ak h.low hb,h.gr⟩
theorem RV.kp (h:RV w0 w gr gd arr M P f a v e) (hk:Kp (fun k=>k=gr) w w1) (hm:PM w1 gr 117 M1 P f1 [.int .i64 a1,.int .u32 v1,.bool e1]):RV w0 w1 gr gd arr M1 P f1 a1 v1 e1:=
  ⟨hm,(hk.block gd (aZ h.t) (lH h.t h.m.me (by decide))).trans h.t,hk.il h.low h.low.size (fun k e=>e ▸ h.gr),h.gr⟩
theorem RV.jP (h:RV w0 w gr gd arr M P f a v e) (x:Int):RV w0 (w.setCell ⟨gr,20,none⟩ (.int .i64 x)) gr gd arr M P f x v e:=h.kp (Kp.set (S:=fun k=>k=gr) (g:=gr) (Kp.refl _ w) (.inl rfl) 20 _) (h.m.o8 0 (.int .i64 x))
end
theorem jv {a k:Int} (h0:0≤a) (h1:a<100000) (h2:0≤k) (h3:k<4294967296):wrap64 (a+wrap64 k)=a+k:=by
  have e:wrap64 k=k:=by unfold wrap64;omega
  rw [e];unfold wrap64;omega
def jpF (i:S45) (M:bn) (a:Int):Int:=if i.f0=5 then a+i.f3 else if hoP i M.a M.x=true then a+i.f1 else a+i.f2
theorem qd (w0 w:World) (gr gd:Nat) (arr:Array Value) (M:bn) (P:Value) (f a v:Int) (e:Bool) (cc i1 i2 k:Int) (hR:RV w0 w gr gd arr M P f a v e) (hj:cc=5∨jmB cc=true) (ha0:0≤a) (ha1:a<100000) (hk0:0≤k) (hk1:k<4294967296) (hb:jmB cc=true→0≤i1∧i1<4294967296∧0≤i2∧i2<4294967296) :
    Calls Try.prog 122 #[.pointer (some ⟨gr,0,none⟩),.agg #[.int .u16 cc,.int .u8 i1,.int .u8 i2,.int .u32 k]] w fun E w'=>E = .returned (.tuple #[])∧RV w0 w' gr gd arr M P f (jpF ⟨cc,i1,i2,k⟩ M a) v e∧Kp (fun k=>k=gr) w w':=by
  obtain ⟨ar,ea⟩:∃ x,x=cB M P f [.int .i64 a,.int .u32 v,.bool e]:=⟨_,rfl⟩
  have HA:aa (ar[20]?=some (.int .i64 a)):=⟨by rw [ea];exact jM M _ _ _ hR.m.len 0⟩
  have EA:=aa.mk ea
  clear ea
  have HR:=aa.mk hR
  clear hR
  obtain ⟨z,ez⟩:∃ z,z=jpF ⟨cc,i1,i2,k⟩ M a:=⟨_,rfl⟩
  rw [←ez]
  have EZ:=aa.mk ez
  have HJ:=aa.mk hj
  have HJB:=aa.mk hb
  clear ez hj hb
  go_enter Try.func122,Try.ntmps122
  go_upto_block 0 with (fail)
  refine forget (fun X=>∃ gi,gi=w.heap.size∧RV w0 X gr gd arr M P f a v e∧Kp (fun k=>k=gr) w X∧BX X gi gr 117 cc i1 i2 k ar) ⟨_,rfl,HR.out.below (ai (Below.refl _ _) _),(Kp.refl (fun k=>k=gr) w).below (ai (Below.refl _ _) _),heap_alloc_new _ _,by rw [EA.out];exact (HR.out.below (ai (Below.refl _ _) _)).m.me⟩ ?_
  rintro Y ⟨gi,egi,hr,hk,hx⟩
  rw [←egi]
  have HX:=aa.mk hx
  have HG:aa (gi≠gr):=⟨by have:=aZ HR.out.m.me;omega⟩
  have HY:=aa.mk (And.intro hr hk)
  have x0:=hx.k0
  have x1:=hx.k1
  have x2:=hx.k2
  have x3:=hx.k3
  clear egi hr hk hx HR
  by_cases h5:cc=5
  · have h5b:(cc==5)=true:=by rw [h5];rfl
    have HZ:aa (z=a+k):=⟨by rw [EZ.out];unfold jpF;rw [if_pos h5]⟩
    clear h5 EZ
    go_upto_region 3 with (fail)
    clear x0 x1 x2 x3
    refine dR (n:=11) (S:=fun w'=>w'.cell? ⟨gi,3,none⟩=some (.int .u32 k)∧w'.cell? ⟨gr,20,none⟩=some (.int .i64 a)∧w'.frozen? ⟨gr,20,none⟩=false) (ds:=[10]) #[false,false,false,false,false,false,false,false,false,false,false] (by kernel_rfl) rfl rfl ⟨(HX.out.below (by repeat (first | (with_reducible exact Below.refl _ _) | apply af | apply ae))).k3,((ag (HX.out.below (by repeat (first | (with_reducible exact Below.refl _ _) | apply af | apply ae))).cm 20).trans HA.out),(aj (HX.out.below (by repeat (first | (with_reducible exact Below.refl _ _) | apply af | apply ae))).cm 20)⟩ (fun hHeld=>?_)
    refine aH (i:=0) (N:=some 18) (v:=?_) (a':=?_) #[true,false,false,false,false,false,false,false,false,false,false] rfl rfl (by kernel_rfl) (fun _ _ _ h=>h) (Or.inl ⟨by rfl,?_⟩) ?_ ?_
    rotate_left
    · intro w'
      go_simp
      with_reducible rfl
    rotate_left
    · simp only [Act.put,List.setIfInBounds_toArray,List.set_cons_zero,List.set_cons_succ,ax,ay]
      rfl
    refine aH (i:=1) (N:=some 19) (v:=?_) (a':=?_) #[true,true,false,false,false,false,false,false,false,false,false] rfl rfl (by kernel_rfl) (fun _ _ _ h=>h) (Or.inl ⟨by rfl,?_⟩) ?_ ?_
    rotate_left
    · intro w'
      go_simp
      with_reducible rfl
    rotate_left
    · simp only [Act.put,List.setIfInBounds_toArray,List.set_cons_zero,List.set_cons_succ,ax,ay]
      rfl
    refine aH (i:=2) (N:=some 20) (v:=?_) (a':=?_) #[true,true,true,false,false,false,false,false,false,false,false] rfl rfl (by kernel_rfl) (fun _ _ _ h=>h) (Or.inl ⟨by rfl,?_⟩) ?_ ?_
    rotate_left
    · intro w'
      go_simp
      with_reducible rfl
    rotate_left
    · simp only [Act.put,List.setIfInBounds_toArray,List.set_cons_zero,List.set_cons_succ,ax,ay]
      rfl
    refine aH (i:=4) (N:=some 22) (v:=?_) (a':=?_) #[true,true,true,false,true,false,false,false,false,false,false] rfl rfl (by kernel_rfl) (fun _ _ _ h=>h) (Or.inl ⟨by rfl,?_⟩) ?_ ?_
    rotate_left
    · intro w'
      go_simp
      with_reducible rfl
    rotate_left
    · simp only [Act.put,List.setIfInBounds_toArray,List.set_cons_zero,List.set_cons_succ,ax,ay]
      rfl
    refine cu (i:=3) (N:=some 21) (v:=?_) (a':=?_) #[true,true,true,true,true,false,false,false,false,false,false] rfl rfl (by kernel_rfl) (fun _ _ _ h=>h) (Or.inl ⟨by rfl,?_⟩) hHeld ?_ ?_
    rotate_left
    · rintro w' ⟨s0,s1,s2⟩
      go_simp
      with_reducible rfl
    rotate_left
    · simp only [Act.put,List.setIfInBounds_toArray,List.set_cons_zero,List.set_cons_succ,ax,ay]
      rfl
    refine cu (i:=5) (N:=some 23) (v:=?_) (a':=?_) #[true,true,true,true,true,true,false,false,false,false,false] rfl rfl (by kernel_rfl) (fun _ _ _ h=>h) (Or.inl ⟨by rfl,?_⟩) hHeld ?_ ?_
    rotate_left
    · rintro w' ⟨s0,s1,s2⟩
      go_simp
      with_reducible rfl
    rotate_left
    · simp only [Act.put,List.setIfInBounds_toArray,List.set_cons_zero,List.set_cons_succ,ax,ay]
      rfl
    refine aH (i:=6) (N:=some 24) (v:=?_) (a':=?_) #[true,true,true,true,true,true,true,false,false,false,false] rfl rfl (by kernel_rfl) (fun _ _ _ h=>h) (Or.inl ⟨by rfl,?_⟩) ?_ ?_
    rotate_left
    · intro w'
      go_simp
      with_reducible rfl
    rotate_left
    · simp only [Act.put,List.setIfInBounds_toArray,List.set_cons_zero,List.set_cons_succ,ax,ay]
      rfl
    refine aH (i:=7) (N:=some 25) (v:=?_) (a':=?_) #[true,true,true,true,true,true,true,true,false,false,false] rfl rfl (by kernel_rfl) (fun _ _ _ h=>h) (Or.inl ⟨by rfl,?_⟩) ?_ ?_
    rotate_left
    · intro w'
      go_simp
      with_reducible rfl
    rotate_left
    · simp only [Act.put,List.setIfInBounds_toArray,List.set_cons_zero,List.set_cons_succ,ax,ay]
      rfl
    refine aH (i:=8) (N:=some 26) (v:=?_) (a':=?_) #[true,true,true,true,true,true,true,true,true,false,false] rfl rfl (by kernel_rfl) (fun _ _ _ h=>h) (Or.inl ⟨by rfl,?_⟩) ?_ ?_
    rotate_left
    · intro w'
      go_simp
      with_reducible rfl
    rotate_left
    · simp only [Act.put,List.setIfInBounds_toArray,List.set_cons_zero,List.set_cons_succ,ax,ay]
      rfl
    refine aH (i:=9) (N:=some 27) (v:=?_) (a':=?_) #[true,true,true,true,true,true,true,true,true,true,false] rfl rfl (by kernel_rfl) (fun _ _ _ h=>h) (Or.inl ⟨by rfl,?_⟩) ?_ ?_
    rotate_left
    · intro w'
      go_simp
      with_reducible rfl
    rotate_left
    · simp only [Act.put,List.setIfInBounds_toArray,List.set_cons_zero,List.set_cons_succ,ax,ay]
      rfl
    refine gL (i:=10) (N:=none) #[true,true,true,true,true,true,true,true,true,true,true] rfl rfl (by kernel_rfl) (by decide) (fun K hK=>?_)
    refine gX (w1:=?_) (by rfl) rfl ?_ ?_
    rotate_left
    · go_simp
      rfl
    refine hK.out _ _ ?_
    clear hK K
    refine dS (by kernel_rfl) ?_
    go_wp2
    go_end0
    refine ⟨rfl,?_,?_⟩
    · have h:=(HY.out.1.jP (wrap64 (a+wrap64 k))).below (ae (Below.refl _ _))
      rw [jv ha0 ha1 hk0 hk1] at h
      rw [HZ.out]
      rw [jv ha0 ha1 hk0 hk1]
      exact h
    · exact (Kp.set (S:=fun k=>k=gr) (g:=gr) HY.out.2 (.inl rfl) 20 _).below (ae (Below.refl _ _))
  · have h5b:(cc==5)=false:=beq_eq_false_iff_ne.mpr h5
    obtain ⟨bv,ebv⟩:∃ bv,bv=hoP ⟨cc,i1,i2,k⟩ M.a M.x:=⟨_,rfl⟩
    have HZ:aa (z=if bv=true then a+i1 else a+i2):=⟨by rw [EZ.out,ebv];unfold jpF;rw [if_neg h5]⟩
    have hjm:jmB cc=true:=HJ.out.resolve_left h5
    have HBC:=aa.mk (fun (W:World) (hW:W.heap[gr]?=some (.cells ar 117 (0,0)))=>(show Calls Try.prog 121 #[.pointer (some ⟨gr,0,none⟩),.agg #[.int .u16 cc,.int .u8 i1,.int .u8 i2,.int .u32 k]] W fun e w'=>e = .returned (.bool bv)∧Below W.heap.size W w' by rw [EA.out] at hW;exact kL W gr _ _ M.a M.x cc i1 i2 k bv hW (kg M _ _ _) (nU M _ _ _) (by rw [ebv];exact qX cc i1 i2 k M.a M.x hjm)))
    obtain ⟨h10,h11,h20,h21⟩:=HJB.out hjm
    clear h5 EZ ebv hjm HJB
    go_upto_region 4 with (fail)
    clear x0 x1 x2 x3
    refine dR (n:=7) (S:=fun w'=>w'.cell? ⟨gi,0,none⟩=some (.int .u16 cc)∧w'.cell? ⟨gi,1,none⟩=some (.int .u8 i1)∧w'.cell? ⟨gi,2,none⟩=some (.int .u8 i2)∧w'.cell? ⟨gi,3,none⟩=some (.int .u32 k)) (ds:=[]) #[false,false,false,false,false,false,false] (by kernel_rfl) rfl rfl ⟨(HX.out.below (by repeat (first | (with_reducible exact Below.refl _ _) | apply af | apply ae))).k0,(HX.out.below (by repeat (first | (with_reducible exact Below.refl _ _) | apply af | apply ae))).k1,(HX.out.below (by repeat (first | (with_reducible exact Below.refl _ _) | apply af | apply ae))).k2,(HX.out.below (by repeat (first | (with_reducible exact Below.refl _ _) | apply af | apply ae))).k3⟩ (fun hHeld=>?_)
    refine aH (i:=0) (N:=some 29) (v:=?_) (a':=?_) #[true,false,false,false,false,false,false] rfl rfl (by kernel_rfl) (fun _ _ _ h=>h) (Or.inl ⟨by rfl,?_⟩) ?_ ?_
    rotate_left
    · intro w'
      go_simp
      with_reducible rfl
    rotate_left
    · simp only [Act.put,List.setIfInBounds_toArray,List.set_cons_zero,List.set_cons_succ,ax,ay]
      rfl
    refine aH (i:=1) (N:=some 30) (v:=?_) (a':=?_) #[true,true,false,false,false,false,false] rfl rfl (by kernel_rfl) (fun _ _ _ h=>h) (Or.inl ⟨by rfl,?_⟩) ?_ ?_
    rotate_left
    · intro w'
      go_simp
      with_reducible rfl
    rotate_left
    · simp only [Act.put,List.setIfInBounds_toArray,List.set_cons_zero,List.set_cons_succ,ax,ay]
      rfl
    refine aH (i:=2) (N:=some 31) (v:=?_) (a':=?_) #[true,true,true,false,false,false,false] rfl rfl (by kernel_rfl) (fun _ _ _ h=>h) (Or.inl ⟨by rfl,?_⟩) ?_ ?_
    rotate_left
    · intro w'
      go_simp
      with_reducible rfl
    rotate_left
    · simp only [Act.put,List.setIfInBounds_toArray,List.set_cons_zero,List.set_cons_succ,ax,ay]
      rfl
    refine aH (i:=3) (N:=some 32) (v:=?_) (a':=?_) #[true,true,true,true,false,false,false] rfl rfl (by kernel_rfl) (fun _ _ _ h=>h) (Or.inl ⟨by rfl,?_⟩) ?_ ?_
    rotate_left
    · intro w'
      go_simp
      with_reducible rfl
    rotate_left
    · simp only [Act.put,List.setIfInBounds_toArray,List.set_cons_zero,List.set_cons_succ,ax,ay]
      rfl
    refine cu (i:=4) (N:=some 33) (v:=?_) (a':=?_) #[true,true,true,true,true,false,false] rfl rfl (by kernel_rfl) (fun _ _ _ h=>h) (Or.inl ⟨by rfl,?_⟩) hHeld ?_ ?_
    rotate_left
    · rintro w' ⟨s0,s1,s2,s3⟩
      go_simp
      with_reducible rfl
    rotate_left
    · simp only [Act.put,List.setIfInBounds_toArray,List.set_cons_zero,List.set_cons_succ,ax,ay]
      rfl
    refine gV (i:=5) (N:=some 34) #[true,true,true,true,true,true,false] rfl rfl (by kernel_rfl) (by decide) (fun K hK=>?_)
    refine gK Try.func121 (by kernel_rfl) rfl #[.pointer (some ⟨gr,0,none⟩),.agg #[.int .u16 cc,.int .u8 i1,.int .u8 i2,.int .u32 k]] (by rfl) rfl rfl (by simp only [List.map_toArray,List.map_cons,List.map_nil];rfl) ?_
    with_reducible refine (HBC.out _ (HX.out.below (by repeat (first | (with_reducible exact Below.refl _ _) | apply af | apply ae))).cm).mono ?_
    rintro e w3 ⟨rfl,hb3⟩
    refine ⟨_,rfl,?_⟩
    refine hK.out _ _ ⟨(HX.out.below (ak (ae (Below.refl _ _)) hb3)).k0,(HX.out.below (ak (ae (Below.refl _ _)) hb3)).k1,(HX.out.below (ak (ae (Below.refl _ _)) hb3)).k2,(HX.out.below (ak (ae (Below.refl _ _)) hb3)).k3⟩ (fun hHeld=>?_)
    clear hK K
    refine fe (a':=?_) ?_ ?_
    rotate_left
    · show Act.put _ (some 34) _=_
      simp only [Act.put,List.setIfInBounds_toArray,List.set_cons_zero,List.set_cons_succ,ax,ay]
      rfl
    refine aH (i:=6) (N:=some 28) (v:=?_) (a':=?_) #[true,true,true,true,true,true,true] rfl rfl (by kernel_rfl) (fun _ _ _ h=>h) (Or.inl ⟨by rfl,?_⟩) ?_ ?_
    rotate_left
    · intro w'
      go_simp
      with_reducible rfl
    rotate_left
    · simp only [Act.put,List.setIfInBounds_toArray,List.set_cons_zero,List.set_cons_succ,ax,ay]
      rfl
    refine dS (by kernel_rfl) ?_
    have HX:=aa.mk (HX.out.below (ak (ae (Below.refl _ _)) hb3))
    have HY:=aa.mk (And.intro (HY.out.1.below (ak (ae (Below.refl _ _)) hb3)) (HY.out.2.below (ak (ae (Below.refl _ _)) hb3)))
    clear hb3 HBC
    cases bv
    · have HZ:aa (z=a+i2):=⟨HZ.out⟩
      go_upto_region 1 with (fail)
      refine dR (n:=11) (S:=fun w'=>w'.cell? ⟨gi,2,none⟩=some (.int .u8 i2)∧w'.cell? ⟨gr,20,none⟩=some (.int .i64 a)∧w'.frozen? ⟨gr,20,none⟩=false) (ds:=[10]) #[false,false,false,false,false,false,false,false,false,false,false] (by kernel_rfl) rfl rfl ⟨(HX.out.below (by repeat (first | (with_reducible exact Below.refl _ _) | apply af | apply ae))).k2,((ag (HX.out.below (by repeat (first | (with_reducible exact Below.refl _ _) | apply af | apply ae))).cm 20).trans HA.out),(aj (HX.out.below (by repeat (first | (with_reducible exact Below.refl _ _) | apply af | apply ae))).cm 20)⟩ (fun hHeld=>?_)
      refine aH (i:=0) (N:=some 4) (v:=?_) (a':=?_) #[true,false,false,false,false,false,false,false,false,false,false] rfl rfl (by kernel_rfl) (fun _ _ _ h=>h) (Or.inl ⟨by rfl,?_⟩) ?_ ?_
      rotate_left
      · intro w'
        go_simp
        with_reducible rfl
      rotate_left
      · simp only [Act.put,List.setIfInBounds_toArray,List.set_cons_zero,List.set_cons_succ,ax,ay]
        rfl
      refine aH (i:=1) (N:=some 5) (v:=?_) (a':=?_) #[true,true,false,false,false,false,false,false,false,false,false] rfl rfl (by kernel_rfl) (fun _ _ _ h=>h) (Or.inl ⟨by rfl,?_⟩) ?_ ?_
      rotate_left
      · intro w'
        go_simp
        with_reducible rfl
      rotate_left
      · simp only [Act.put,List.setIfInBounds_toArray,List.set_cons_zero,List.set_cons_succ,ax,ay]
        rfl
      refine aH (i:=2) (N:=some 6) (v:=?_) (a':=?_) #[true,true,true,false,false,false,false,false,false,false,false] rfl rfl (by kernel_rfl) (fun _ _ _ h=>h) (Or.inl ⟨by rfl,?_⟩) ?_ ?_
      rotate_left
      · intro w'
        go_simp
        with_reducible rfl
      rotate_left
      · simp only [Act.put,List.setIfInBounds_toArray,List.set_cons_zero,List.set_cons_succ,ax,ay]
        rfl
      refine aH (i:=4) (N:=some 8) (v:=?_) (a':=?_) #[true,true,true,false,true,false,false,false,false,false,false] rfl rfl (by kernel_rfl) (fun _ _ _ h=>h) (Or.inl ⟨by rfl,?_⟩) ?_ ?_
      rotate_left
      · intro w'
        go_simp
        with_reducible rfl
      rotate_left
      · simp only [Act.put,List.setIfInBounds_toArray,List.set_cons_zero,List.set_cons_succ,ax,ay]
        rfl
      refine cu (i:=3) (N:=some 7) (v:=?_) (a':=?_) #[true,true,true,true,true,false,false,false,false,false,false] rfl rfl (by kernel_rfl) (fun _ _ _ h=>h) (Or.inl ⟨by rfl,?_⟩) hHeld ?_ ?_
      rotate_left
      · rintro w' ⟨s0,s1,s2⟩
        go_simp
        with_reducible rfl
      rotate_left
      · simp only [Act.put,List.setIfInBounds_toArray,List.set_cons_zero,List.set_cons_succ,ax,ay]
        rfl
      refine cu (i:=5) (N:=some 9) (v:=?_) (a':=?_) #[true,true,true,true,true,true,false,false,false,false,false] rfl rfl (by kernel_rfl) (fun _ _ _ h=>h) (Or.inl ⟨by rfl,?_⟩) hHeld ?_ ?_
      rotate_left
      · rintro w' ⟨s0,s1,s2⟩
        go_simp
        with_reducible rfl
      rotate_left
      · simp only [Act.put,List.setIfInBounds_toArray,List.set_cons_zero,List.set_cons_succ,ax,ay]
        rfl
      refine aH (i:=6) (N:=some 10) (v:=?_) (a':=?_) #[true,true,true,true,true,true,true,false,false,false,false] rfl rfl (by kernel_rfl) (fun _ _ _ h=>h) (Or.inl ⟨by rfl,?_⟩) ?_ ?_
      rotate_left
      · intro w'
        go_simp
        with_reducible rfl
      rotate_left
      · simp only [Act.put,List.setIfInBounds_toArray,List.set_cons_zero,List.set_cons_succ,ax,ay]
        rfl
      refine aH (i:=7) (N:=some 11) (v:=?_) (a':=?_) #[true,true,true,true,true,true,true,true,false,false,false] rfl rfl (by kernel_rfl) (fun _ _ _ h=>h) (Or.inl ⟨by rfl,?_⟩) ?_ ?_
      rotate_left
      · intro w'
        go_simp
        with_reducible rfl
      rotate_left
      · simp only [Act.put,List.setIfInBounds_toArray,List.set_cons_zero,List.set_cons_succ,ax,ay]
        rfl
      refine aH (i:=8) (N:=some 12) (v:=?_) (a':=?_) #[true,true,true,true,true,true,true,true,true,false,false] rfl rfl (by kernel_rfl) (fun _ _ _ h=>h) (Or.inl ⟨by rfl,?_⟩) ?_ ?_
      rotate_left
      · intro w'
        go_simp
        with_reducible rfl
      rotate_left
      · simp only [Act.put,List.setIfInBounds_toArray,List.set_cons_zero,List.set_cons_succ,ax,ay]
        rfl
      refine aH (i:=9) (N:=some 13) (v:=?_) (a':=?_) #[true,true,true,true,true,true,true,true,true,true,false] rfl rfl (by kernel_rfl) (fun _ _ _ h=>h) (Or.inl ⟨by rfl,?_⟩) ?_ ?_
      rotate_left
      · intro w'
        go_simp
        with_reducible rfl
      rotate_left
      · simp only [Act.put,List.setIfInBounds_toArray,List.set_cons_zero,List.set_cons_succ,ax,ay]
        rfl
      refine gL (i:=10) (N:=none) #[true,true,true,true,true,true,true,true,true,true,true] rfl rfl (by kernel_rfl) (by decide) (fun K hK=>?_)
      refine gX (w1:=?_) (by rfl) rfl ?_ ?_
      rotate_left
      · go_simp
        rfl
      refine hK.out _ _ ?_
      clear hK K
      refine dS (by kernel_rfl) ?_
      go_wp2
      go_end0
      refine ⟨rfl,?_,?_⟩
      · have h:=(HY.out.1.jP (wrap64 (a+wrap64 i2))).below (ae (Below.refl _ _))
        rw [jv ha0 ha1 h20 h21] at h
        rw [HZ.out]
        rw [jv ha0 ha1 h20 h21]
        exact h
      · exact (Kp.set (S:=fun k=>k=gr) (g:=gr) HY.out.2 (.inl rfl) 20 _).below (ae (Below.refl _ _))
    · have HZ:aa (z=a+i1):=⟨HZ.out⟩
      go_upto_region 5 with (fail)
      refine dR (n:=11) (S:=fun w'=>w'.cell? ⟨gi,1,none⟩=some (.int .u8 i1)∧w'.cell? ⟨gr,20,none⟩=some (.int .i64 a)∧w'.frozen? ⟨gr,20,none⟩=false) (ds:=[10]) #[false,false,false,false,false,false,false,false,false,false,false] (by kernel_rfl) rfl rfl ⟨(HX.out.below (by repeat (first | (with_reducible exact Below.refl _ _) | apply af | apply ae))).k1,((ag (HX.out.below (by repeat (first | (with_reducible exact Below.refl _ _) | apply af | apply ae))).cm 20).trans HA.out),(aj (HX.out.below (by repeat (first | (with_reducible exact Below.refl _ _) | apply af | apply ae))).cm 20)⟩ (fun hHeld=>?_)
      refine aH (i:=0) (N:=some 35) (v:=?_) (a':=?_) #[true,false,false,false,false,false,false,false,false,false,false] rfl rfl (by kernel_rfl) (fun _ _ _ h=>h) (Or.inl ⟨by rfl,?_⟩) ?_ ?_
      rotate_left
      · intro w'
        go_simp
        with_reducible rfl
      rotate_left
      · simp only [Act.put,List.setIfInBounds_toArray,List.set_cons_zero,List.set_cons_succ,ax,ay]
        rfl
      refine aH (i:=1) (N:=some 36) (v:=?_) (a':=?_) #[true,true,false,false,false,false,false,false,false,false,false] rfl rfl (by kernel_rfl) (fun _ _ _ h=>h) (Or.inl ⟨by rfl,?_⟩) ?_ ?_
      rotate_left
      · intro w'
        go_simp
        with_reducible rfl
      rotate_left
      · simp only [Act.put,List.setIfInBounds_toArray,List.set_cons_zero,List.set_cons_succ,ax,ay]
        rfl
      refine aH (i:=2) (N:=some 37) (v:=?_) (a':=?_) #[true,true,true,false,false,false,false,false,false,false,false] rfl rfl (by kernel_rfl) (fun _ _ _ h=>h) (Or.inl ⟨by rfl,?_⟩) ?_ ?_
      rotate_left
      · intro w'
        go_simp
        with_reducible rfl
      rotate_left
      · simp only [Act.put,List.setIfInBounds_toArray,List.set_cons_zero,List.set_cons_succ,ax,ay]
        rfl
      refine aH (i:=4) (N:=some 39) (v:=?_) (a':=?_) #[true,true,true,false,true,false,false,false,false,false,false] rfl rfl (by kernel_rfl) (fun _ _ _ h=>h) (Or.inl ⟨by rfl,?_⟩) ?_ ?_
      rotate_left
      · intro w'
        go_simp
        with_reducible rfl
      rotate_left
      · simp only [Act.put,List.setIfInBounds_toArray,List.set_cons_zero,List.set_cons_succ,ax,ay]
        rfl
      refine cu (i:=3) (N:=some 38) (v:=?_) (a':=?_) #[true,true,true,true,true,false,false,false,false,false,false] rfl rfl (by kernel_rfl) (fun _ _ _ h=>h) (Or.inl ⟨by rfl,?_⟩) hHeld ?_ ?_
      rotate_left
      · rintro w' ⟨s0,s1,s2⟩
        go_simp
        with_reducible rfl
      rotate_left
      · simp only [Act.put,List.setIfInBounds_toArray,List.set_cons_zero,List.set_cons_succ,ax,ay]
        rfl
      refine cu (i:=5) (N:=some 40) (v:=?_) (a':=?_) #[true,true,true,true,true,true,false,false,false,false,false] rfl rfl (by kernel_rfl) (fun _ _ _ h=>h) (Or.inl ⟨by rfl,?_⟩) hHeld ?_ ?_
      rotate_left
      · rintro w' ⟨s0,s1,s2⟩
        go_simp
        with_reducible rfl
      rotate_left
      · simp only [Act.put,List.setIfInBounds_toArray,List.set_cons_zero,List.set_cons_succ,ax,ay]
        rfl
      refine aH (i:=6) (N:=some 41) (v:=?_) (a':=?_) #[true,true,true,true,true,true,true,false,false,false,false] rfl rfl (by kernel_rfl) (fun _ _ _ h=>h) (Or.inl ⟨by rfl,?_⟩) ?_ ?_
      rotate_left
      · intro w'
        go_simp
        with_reducible rfl
      rotate_left
      · simp only [Act.put,List.setIfInBounds_toArray,List.set_cons_zero,List.set_cons_succ,ax,ay]
        rfl
      refine aH (i:=7) (N:=some 42) (v:=?_) (a':=?_) #[true,true,true,true,true,true,true,true,false,false,false] rfl rfl (by kernel_rfl) (fun _ _ _ h=>h) (Or.inl ⟨by rfl,?_⟩) ?_ ?_
      rotate_left
      · intro w'
        go_simp
        with_reducible rfl
      rotate_left
      · simp only [Act.put,List.setIfInBounds_toArray,List.set_cons_zero,List.set_cons_succ,ax,ay]
        rfl
      refine aH (i:=8) (N:=some 43) (v:=?_) (a':=?_) #[true,true,true,true,true,true,true,true,true,false,false] rfl rfl (by kernel_rfl) (fun _ _ _ h=>h) (Or.inl ⟨by rfl,?_⟩) ?_ ?_
      rotate_left
      · intro w'
        go_simp
        with_reducible rfl
      rotate_left
      · simp only [Act.put,List.setIfInBounds_toArray,List.set_cons_zero,List.set_cons_succ,ax,ay]
        rfl
      refine aH (i:=9) (N:=some 44) (v:=?_) (a':=?_) #[true,true,true,true,true,true,true,true,true,true,false] rfl rfl (by kernel_rfl) (fun _ _ _ h=>h) (Or.inl ⟨by rfl,?_⟩) ?_ ?_
      rotate_left
      · intro w'
        go_simp
        with_reducible rfl
      rotate_left
      · simp only [Act.put,List.setIfInBounds_toArray,List.set_cons_zero,List.set_cons_succ,ax,ay]
        rfl
      refine gL (i:=10) (N:=none) #[true,true,true,true,true,true,true,true,true,true,true] rfl rfl (by kernel_rfl) (by decide) (fun K hK=>?_)
      refine gX (w1:=?_) (by rfl) rfl ?_ ?_
      rotate_left
      · go_simp
        rfl
      refine hK.out _ _ ?_
      clear hK K
      refine dS (by kernel_rfl) ?_
      go_wp2
      go_end0
      refine ⟨rfl,?_,?_⟩
      · have h:=(HY.out.1.jP (wrap64 (a+wrap64 i1))).below (ae (Below.refl _ _))
        rw [jv ha0 ha1 h10 h11] at h
        rw [HZ.out]
        rw [jv ha0 ha1 h10 h11]
        exact h
      · exact (Kp.set (S:=fun k=>k=gr) (g:=gr) HY.out.2 (.inl rfl) 20 _).below (ae (Below.refl _ _))
theorem rF {p:List S45} {pk:List Int} {kq:Nat} {at_:Int} {M:bn} {T TT:List Int} {v f:Int} (hp:PrG p) (h:dL p pk (kq+1) at_ M T=some (v,f,TT)) :
    ∃ (h0:0≤at_) (h1:at_<(p.length:Int)) (i:S45),i=bg p at_∧Rg i.f3 ∧
      ((eF i.f0=5∧(i.f0=5∨jmB i.f0=true)∧(jmB i.f0=true→0≤i.f1∧i.f1<4294967296∧0≤i.f2∧i.f2<4294967296)∧dL p pk kq (jpF i M (at_+1)) M (T++[at_])=some (v,f,TT)) ∨
       (eF i.f0=6∧v=(if i.f0=22 then M.a else i.f3)∧f=0) ∨
       (eF i.f0≠5∧eF i.f0≠6∧stB i.f0 i.f3=true∧((cK i pk M).2=0→dL p pk kq (at_+1) (cK i pk M).1 (T++[at_])=some (v,f,TT))∧((cK i pk M).2≠0→v=0∧f=(cK i pk M).2))):=by
  unfold dL at h
  by_cases hin:0≤at_∧at_<(p.length:Int)
  · rw [if_pos hin] at h
    refine ⟨hin.1,hin.2,_,rfl,?_⟩
    have hlt:at_.toNat<p.length:=by omega
    have hrd:bg p at_=p[at_.toNat]:=by
      have:=fV hlt
      rwa [show ((at_.toNat:Nat):Int)=at_ by omega] at this
    have hq:=hp.qi (List.getElem?_eq_getElem hlt)
    rw [←hrd] at hq
    have hfl:flF (bg p at_).f0 (bg p at_).f3=0:=by
      have:=(hp.ok _ hlt).1.1
      rwa [←hrd] at this
    have hfew:=hp.few
    generalize bg p at_=i at *
    dsimp only at h
    have hrg:=hq.rg
    refine ⟨hrg,?_⟩
    unfold Rg at hrg
    have w1:wrap64 (at_+1)=at_+1:=w64 (n:=at_+1) (by omega) (by omega)
    rw [w1] at h
    by_cases h6:i.f0=6
    · rw [if_pos h6] at h
      obtain ⟨rfl,rfl,-⟩:i.f3=v∧(0:Int)=f∧_:=by simpa using h
      exact .inr (.inl ⟨(dZ _).2 (by rw [h6];rfl),by rw [if_neg (by rw [h6];decide)],rfl⟩)
    · rw [if_neg h6] at h
      by_cases h22:i.f0=22
      · rw [if_pos h22] at h
        obtain ⟨rfl,rfl,-⟩:M.a=v∧(0:Int)=f∧_:=by simpa using h
        exact .inr (.inl ⟨(dZ _).2 (by rw [h22];rfl),by rw [if_pos h22],rfl⟩)
      · rw [if_neg h22] at h
        by_cases h5:i.f0=5
        · rw [if_pos h5,w64 (n:=i.f3) (by omega) (by omega),w64 (n:=at_+1+i.f3) (by omega) (by omega)] at h
          refine .inl ⟨(fA _).2 (.inl h5),.inl h5,fun hj=>?_,?_⟩
          · rw [h5] at hj;exact absurd hj (by decide)
          · unfold jpF;rw [if_pos h5];exact h
        · rw [if_neg h5,qc] at h
          by_cases hj:jmB i.f0=true
          · have hb:=hq.jm hj
            rw [if_pos hj,w64 (n:=i.f1) (by omega) (by omega),w64 (n:=i.f2) (by omega) (by omega),w64 (n:=at_+1+i.f1) (by omega) (by omega),w64 (n:=at_+1+i.f2) (by omega) (by omega)] at h
            refine .inl ⟨(fA _).2 (.inr hj),.inr hj,fun _=>by omega,?_⟩
            unfold jpF
            rw [if_neg h5]
            by_cases hh:hoP i M.a M.x=true
            · rw [if_pos hh] at h ⊢;exact h
            · rw [if_neg hh] at h ⊢;exact h
          · rw [if_neg hj] at h
            have c5:¬eF i.f0=5:=fun hc=>by
              rcases (fA _).1 hc with e | e
              · exact h5 e
              · exact hj e
            have c6:¬reB i.f0=true:=fun hc=>by
              have h9:i.f0=6∨i.f0=22:=of_decide_eq_true hc
              rcases h9 with e | e
              · exact h6 e
              · exact h22 e
            refine .inr (.inr ⟨c5,fun hc=>c6 ((dZ _).1 hc),ry hfl c5 c6,fun h0=>?_,fun hn=>?_⟩)
            · rw [if_pos h0] at h;exact h
            · rw [if_neg hn] at h
              obtain ⟨rfl,rfl,-⟩:(0:Int)=v∧(cK i pk M).2=f∧_:=by simpa using h
              exact ⟨rfl,rfl⟩
  · rw [if_neg hin] at h;cases h
structure PV (w0 w:World) (gr gd gs:Nat) (arr:Array Value) (M:bn) (P:Value) (f a v:Int) (e:Bool) (s:Int):Prop where
  r:RV w0 w gr gd arr M P f a v e
  s:w.heap[gs]?=some (.cells #[.int .i64 s] 3 (0,0))
section
variable {w0 w w1:World} {gr gd gs:Nat} {arr:Array Value} {M M1:bn} {P:Value} {f f1 a a1 v v1 s:Int} {e e1:Bool}
theorem PV.below (h:PV w0 w gr gd gs arr M P f a v e s) (hb:Below w.heap.size w w1):PV w0 w1 gr gd gs arr M P f a v e s:=⟨h.r.below hb,au h.s hb⟩
theorem PV.kp (h:PV w0 w gr gd gs arr M P f a v e s) (hk:Kp (fun k=>k=gr) w w1) (hr:RV w0 w1 gr gd arr M1 P f1 a1 v1 e1) (hne:gs≠gr):PV w0 w1 gr gd gs arr M1 P f1 a1 v1 e1 s:=⟨hr,(hk.block gs (aZ h.s) hne).trans h.s⟩
theorem PV.jP (h:PV w0 w gr gd gs arr M P f a v e s) (hne:gs≠gr) (x:Int):PV w0 (w.setCell ⟨gr,20,none⟩ (.int .i64 x)) gr gd gs arr M P f x v e s:=⟨h.r.jP x,bQ h.s hne _⟩
theorem PV.setv (h:PV w0 w gr gd gs arr M P f a v e s) (hne:gs≠gr) (x:Int):PV w0 (w.setCell ⟨gr,21,none⟩ (.int .u32 x)) gr gd gs arr M P f a x e s:=⟨h.r.kp (Kp.set (S:=fun k=>k=gr) (g:=gr) (Kp.refl _ w) (.inl rfl) 21 _) (h.r.m.o8 1 (.int .u32 x)),bQ h.s hne _⟩
theorem PV.sete (h:PV w0 w gr gd gs arr M P f a v e s) (hne:gs≠gr) (x:Bool):PV w0 (w.setCell ⟨gr,22,none⟩ (.bool x)) gr gd gs arr M P f a v x s:=⟨h.r.kp (Kp.set (S:=fun k=>k=gr) (g:=gr) (Kp.refl _ w) (.inl rfl) 22 _) (h.r.m.o8 2 (.bool x)),bQ h.s hne _⟩
theorem PV.c21 (h:PV w0 w gr gd gs arr M P f a v e s):w.cell? ⟨gr,21,none⟩=some (cellV w ⟨gr,21,none⟩):=tF ((ag h.r.m.me 21).trans (jM M _ _ _ h.r.m.len 1))
theorem PV.c22 (h:PV w0 w gr gd gs arr M P f a v e s):w.cell? ⟨gr,22,none⟩=some (.bool e):=(ag h.r.m.me 22).trans (jM M _ _ _ h.r.m.len 2)
theorem PV.sets (h:PV w0 w gr gd gs arr M P f a v e s) (hne:gs≠gr) (hw:w0.heap.size≤gs) (x:Int):PV w0 (w.setCell ⟨gs,0,none⟩ (.int .i64 x)) gr gd gs arr M P f a v e x:=
  ⟨⟨⟨bQ h.r.m.me (fun e=>hne e.symm) _,h.r.m.len⟩,bQ h.r.t (fun e=>lH h.r.t h.s (by decide) e) _,h.r.low.setCell hw _,h.r.gr⟩,aJ h.s 0 _ rfl⟩
end
theorem qh (w0 w:World) (p:List S45) (A:Option Addr) (c:Nat) (pk:List Int) (Ap:Option Addr) (cp:Nat) (gr gs:Nat) (HC:Kd.C k45 w0 A p.length p) (hc:p.length≤c) (hp:PrG p) (HP:Kd.C (Kd.int .u8) w0 Ap pk.length pk) (hcp:pk.length≤cp) (hpl:pk.length<2 ^ 62)
    (hm:PM w gr 117 z16 (.slice Ap pk.length cp) 0 [.int .i64 0,.int .u32 0,.bool false]) (hs:w.heap[gs]?=some (.cells #[.int .i64 0] 3 (0,0))) (hlow:Below w0.heap.size w0 w) (hgr:w0.heap.size≤gr) (hgs:w0.heap.size≤gs) (hne:gs≠gr)
    (n:Nat) (v f:Int) (TT:List Int) (hr:dL p pk n 0 z16 []=some (v,f,TT)) :
    Calls Try.prog 73 #[.pointer (some ⟨gr,0,none⟩),.slice A p.length c,.func (.func 74) #[] #[.pointer (some ⟨gs,0,none⟩)]] w fun E w'=>E = .returned (.tuple #[])∧∃ gd arr M a e s,PV w0 w' gr gd gs arr M (.slice Ap pk.length cp) f a v e s:=by
  have HCC:=aa.mk (And.intro HC hc)
  have HPP:=aa.mk (And.intro HP (And.intro hcp hpl))
  have HPG:=aa.mk hp
  have HR:=aa.mk hr
  have HMS:=aa.mk (And.intro hm (And.intro hs (And.intro hlow hgr)))
  have HGS:=aa.mk hgs
  have HNE:=aa.mk hne
  obtain ⟨P,eP⟩:∃ P,P=Value.slice Ap pk.length cp:=⟨_,rfl⟩
  rw [←eP] at HMS ⊢
  have EP:=aa.mk eP
  clear HC hc hp HP hcp hpl hm hs hlow hgr hgs hne hr eP
  go_enter Try.func73,Try.ntmps73
  go_upto_block 0 with (go_at_call 69;refine (kV w).mono ?_;rintro e w1 ⟨gd,arr,rfl,hd,hge,hT,hb⟩;have HT:=aa.mk hT;have HV0:aa (PV w0 w1 gr gd gs arr z16 P 0 0 0 false 0):=⟨⟨HMS.out.1.below hb,hd,ak HMS.out.2.2.1 hb,HMS.out.2.2.2⟩,au HMS.out.2.1 hb⟩;clear hd hge hT hb HMS)
  go_wp2
  go_loopg [7] n (fun kq v7 wr=>∃ (M:bn) (f1 a v1:Int) (e:Bool) (s:Int) (T:List Int),aa (PV w0 wr gr gd gs arr M P f1 a v1 e s∧(f1=0∧e=false→dL p pk kq a M T=some (v,f,TT)∧MB M∧v1=0)∧(¬(f1=0∧e=false)→v=v1∧f=f1)))
  case atStart=>exact ⟨z16,0,0,0,false,0,[],⟨HV0.out,fun _=>⟨HR.out,MB_z,rfl⟩,fun h=>absurd ⟨rfl,rfl⟩ h⟩⟩
  case round=>
    clear HV0 HR
    obtain ⟨M,f1,a,v1,e,s,T,HS⟩:=hrel
    obtain ⟨X,rfl⟩:∃ X:World,X=wr:=⟨_,rfl⟩
    have ce:X.cell? ⟨gr,22,none⟩=some (.bool e):=(ag HS.out.1.r.m.me 22).trans (jM M _ _ _ HS.out.1.r.m.len 2)
    have cf:X.cell? ⟨gr,19,none⟩=some (.int .i64 f1):=(ag HS.out.1.r.m.me 19).trans (oO M _ _ _ HS.out.1.r.m.len)
    by_cases hgo:f1=0∧e=false
    · obtain ⟨hR,hM,hv1⟩:=HS.out.2.1 hgo
      obtain ⟨rfl,rfl⟩:=hgo
      subst hv1
      have HU:=aa.mk HS.out.1
      clear HS
      cases gk with
      | zero=>exact absurd hR (by simp [dL])
      | succ kq=>
        obtain ⟨n0,n1,ins,eins,hrg,hway⟩:=rF HPG.out hR
        have HM:=aa.mk hM
        have few:=HPG.out.few
        have HWR:aa (wrap64 (a+1)=a+1):=⟨w64 (n:=a+1) (by omega) (by omega)⟩
        have HCL:aa (bK.f 18 ins.f0=some (eF ins.f0)):=⟨(iL ins.f0 10).1⟩
        have HWY:=aa.mk hway
        have HRG:=aa.mk hrg
        have EI:=aa.mk eins
        clear hR hM few hway hrg eins
        have ca:X.cell? ⟨gr,20,none⟩=some (.int .i64 a):=(ag HU.out.r.m.me 20).trans (jM M _ _ _ HU.out.r.m.len 0)
        go_upto_region 3 with (go_at_call 74;refine (qm X gs s a 3 HU.out.s).mono ?_;rintro E Z ⟨rfl,hz⟩;have HZ:aa (PV w0 Z gr gd gs arr M P 0 a 0 false (wrap64 (s+1))):=⟨by rw [hz];exact HU.out.sets HNE.out HGS.out _⟩;clear hz)
        obtain ⟨s2,es⟩:∃ s2,s2=wrap64 (s+1):=⟨_,rfl⟩
        rw [←es] at HZ
        clear es ce cf ca HU
        have ca:Z.cell? ⟨gr,20,none⟩=some (.int .i64 a):=(ag HZ.out.r.m.me 20).trans (jM M _ _ _ HZ.out.r.m.len 0)
        have HB:aa (Below w0.heap.size w0 Z):=⟨HZ.out.r.low⟩
        have HC:=aa.mk HCC.out.1
        obtain ⟨ad,rfl,x0,x1,x2,x3,-,-⟩:=fK HC HB a (decide_eq_true n0) (decide_eq_true n1)
        rw [←EI.out] at x0 x1 x2 x3
        obtain ⟨cc,i1,i2,k⟩:=ins
        obtain ⟨k0,k1⟩:0≤k∧k<4294967296:=by have h:0≤k∧k<4294967296:=HRG.out;exact h
        dsimp only at x0 x1 x2 x3
        obtain ⟨HRK⟩:aa (aa (Rg k)):=⟨HRG⟩
        obtain ⟨cl,HCK,HWK⟩:∃ cl,aa (bK.f 18 cc=some cl)∧aa ((cl=5∧(cc=5∨jmB cc=true)∧(jmB cc=true→0≤i1∧i1<4294967296∧0≤i2∧i2<4294967296)∧dL p pk kq (jpF ⟨cc,i1,i2,k⟩ M (a+1)) M (T++[a])=some (v,f,TT)) ∨
          (cl=6∧v=(if cc=22 then M.a else k)∧f=0) ∨
          (cl≠5∧cl≠6∧stB cc k=true∧((cK ⟨cc,i1,i2,k⟩ pk M).2=0→dL p pk kq (a+1) (cK ⟨cc,i1,i2,k⟩ pk M).1 (T++[a])=some (v,f,TT))∧((cK ⟨cc,i1,i2,k⟩ pk M).2≠0→v=0∧f=(cK ⟨cc,i1,i2,k⟩ pk M).2))):=⟨_,HCL,HWY⟩
        clear EI HCL HWY HRG
        go_upto_region 4 with (fail)
        refine forget (fun W=>∃ gi,gi=Z.heap.size∧PV w0 W gr gd gs arr M P 0 a 0 false s2∧W.heap[gi]?=some (.cells #[.int .u16 cc,.int .u8 i1,.int .u8 i2,.int .u32 k] 45 (0,0))) ⟨_,rfl,HZ.out.below (ai (Below.refl _ _) _),heap_alloc_new _ _⟩ ?_
        clear x0 x1 x2 x3 ca HB HC
        rintro Y ⟨gi,egi,hpv,hi⟩
        rw [←egi]
        have HG:aa (gs≠gr∧gi≠gr):=⟨HNE.out,by have:=aZ HZ.out.r.m.me;omega⟩
        have HY:=aa.mk (And.intro hpv hi)
        have ca:Y.cell? ⟨gr,20,none⟩=some (.int .i64 a):=(ag hpv.r.m.me 20).trans (jM M _ _ _ hpv.r.m.len 0)
        have fa:Y.frozen? ⟨gr,20,none⟩=false:=aj hpv.r.m.me 20
        clear egi hpv hi HZ
        go_upto_region 5 with (fail)
        refine forget (fun W=>PV w0 W gr gd gs arr M P 0 (wrap64 (a+1)) 0 false s2∧W.heap[gi]?=some (.cells #[.int .u16 cc,.int .u8 i1,.int .u8 i2,.int .u32 k] 45 (0,0))) ⟨HY.out.1.jP HG.out.1 _,bQ HY.out.2 HG.out.2 _⟩ ?_
        clear ca fa HY
        rintro Y ⟨hpv,hi⟩
        rw [HWR.out] at hpv
        have HY:=aa.mk (And.intro hpv hi)
        have x0:Y.cell? ⟨gi,0,none⟩=some (.int .u16 cc):=(ag hi 0).trans rfl
        clear hpv hi HWR
        go_upto_region 7 with (go_at_call 99;refine (bK.calls 18 cc cl _ HCK.out).mono ?_;rintro e w' ⟨rfl,⟨nd,rfl⟩⟩)
        refine forget (fun W=>PV w0 W gr gd gs arr M P 0 (a+1) 0 false s2∧W.heap[gi]?=some (.cells #[.int .u16 cc,.int .u8 i1,.int .u8 i2,.int .u32 k] 45 (0,0))) ⟨HY.out.1.below (af (Below.refl _ _) _),au HY.out.2 (af (Below.refl _ _) _)⟩ ?_
        clear x0 HY HCK
        rintro Y ⟨hpv,hi⟩
        have HY:=aa.mk (And.intro hpv hi)
        have HX:=aa.mk (BX.mk hi hpv.r.m.me)
        have x0:=HX.out.k0
        have x1:=HX.out.k1
        have x2:=HX.out.k2
        have x3:=HX.out.k3
        have hlp:=HPG.out.few
        clear hpv hi
        rcases HWK.out with ⟨h5,hj,hb,hnext⟩ | ⟨h6,hv,hf⟩ | ⟨n5,n6,hst,h0,hn⟩
        · clear HWK
          subst h5
          have HJC:=aa.mk (qd w0 Y gr gd arr M P 0 (a+1) 0 false cc i1 i2 k HY.out.1.r hj (by omega) (by omega) k0 k1 hb)
          have HNX:=aa.mk hnext
          clear hj hb hnext HX
          go_wp2_with (go_at_call 122;refine HJC.out.mono ?_;rintro E V ⟨rfl,hr,hk⟩;have HV:aa (PV w0 V gr gd gs arr M P 0 (jpF ⟨cc,i1,i2,k⟩ M (a+1)) 0 false s2):=⟨HY.out.1.kp hk hr HNE.out⟩;clear hr hk)
          go_roundg kq
          case measure=>omega
          case rel=>exact ⟨M,0,_,0,false,s2,_,⟨HV.out,fun _=>⟨HNX.out,HM.out,rfl⟩,fun h=>absurd ⟨rfl,rfl⟩ h⟩⟩
        · clear HWK
          subst h6
          obtain ⟨rv,erv⟩:∃ rv,rv=if cc=22 then M.a else k:=⟨_,rfl⟩
          have HVF:aa (v=rv∧f=0):=⟨by rw [erv];exact hv,hf⟩
          have HBC:=aa.mk (fun (W:World) (hW:W.heap[gr]?=some (.cells (cB M P 0 [.int .i64 (a+1),.int .u32 0,.bool false]) 117 (0,0)))=>(show Calls Try.prog 120 #[.pointer (some ⟨gr,0,none⟩),.agg #[.int .u16 cc,.int .u8 i1,.int .u8 i2,.int .u32 k]] W fun e w'=>e = .returned (.int .u32 rv)∧Below W.heap.size W w' by rw [erv];exact kM W gr _ _ M.a cc i1 i2 k hW (kg M _ _ _)))
          have HV:=aa.mk HY.out.1
          clear erv hv hf
          go_upto_region 10 with (fail)
          clear x0 x1 x2 x3 HY hlp
          refine dR (n:=14) (S:=fun w'=>w'.cell? ⟨gi,0,none⟩=some (.int .u16 cc)∧w'.cell? ⟨gi,1,none⟩=some (.int .u8 i1)∧w'.cell? ⟨gi,2,none⟩=some (.int .u8 i2)∧w'.cell? ⟨gi,3,none⟩=some (.int .u32 k)∧w'.frozen? ⟨gr,21,none⟩=false∧w'.cell? ⟨gr,21,none⟩=some (cellV w' ⟨gr,21,none⟩)) (ds:=[13]) #[false,false,false,false,false,false,false,false,false,false,false,false,false,false] (by kernel_rfl) rfl rfl ⟨(HX.out.below (by repeat (first | (with_reducible exact Below.refl _ _) | apply af | apply ae))).k0,(HX.out.below (by repeat (first | (with_reducible exact Below.refl _ _) | apply af | apply ae))).k1,(HX.out.below (by repeat (first | (with_reducible exact Below.refl _ _) | apply af | apply ae))).k2,(HX.out.below (by repeat (first | (with_reducible exact Below.refl _ _) | apply af | apply ae))).k3,(aj (HX.out.below (by repeat (first | (with_reducible exact Below.refl _ _) | apply af | apply ae))).cm 21),(HV.out.below (by repeat (first | (with_reducible exact Below.refl _ _) | apply af | apply ae))).c21⟩ (fun hHeld=>?_)
          refine aH (i:=0) (N:=some 63) (v:=?_) (a':=?_) #[true,false,false,false,false,false,false,false,false,false,false,false,false,false] rfl rfl (by kernel_rfl) (fun _ _ _ h=>h) (Or.inl ⟨by rfl,?_⟩) ?_ ?_
          rotate_left
          · intro w'
            go_simp
            with_reducible rfl
          rotate_left
          · simp only [Act.put,List.setIfInBounds_toArray,List.set_cons_zero,List.set_cons_succ,ax,ay]
            rfl
          refine aH (i:=1) (N:=some 64) (v:=?_) (a':=?_) #[true,true,false,false,false,false,false,false,false,false,false,false,false,false] rfl rfl (by kernel_rfl) (fun _ _ _ h=>h) (Or.inl ⟨by rfl,?_⟩) ?_ ?_
          rotate_left
          · intro w'
            go_simp
            with_reducible rfl
          rotate_left
          · simp only [Act.put,List.setIfInBounds_toArray,List.set_cons_zero,List.set_cons_succ,ax,ay]
            rfl
          refine aH (i:=2) (N:=some 65) (v:=?_) (a':=?_) #[true,true,true,false,false,false,false,false,false,false,false,false,false,false] rfl rfl (by kernel_rfl) (fun _ _ _ h=>h) (Or.inl ⟨by rfl,?_⟩) ?_ ?_
          rotate_left
          · intro w'
            go_simp
            with_reducible rfl
          rotate_left
          · simp only [Act.put,List.setIfInBounds_toArray,List.set_cons_zero,List.set_cons_succ,ax,ay]
            rfl
          refine aH (i:=3) (N:=some 66) (v:=?_) (a':=?_) #[true,true,true,true,false,false,false,false,false,false,false,false,false,false] rfl rfl (by kernel_rfl) (fun _ _ _ h=>h) (Or.inl ⟨by rfl,?_⟩) ?_ ?_
          rotate_left
          · intro w'
            go_simp
            with_reducible rfl
          rotate_left
          · simp only [Act.put,List.setIfInBounds_toArray,List.set_cons_zero,List.set_cons_succ,ax,ay]
            rfl
          refine aH (i:=4) (N:=some 67) (v:=?_) (a':=?_) #[true,true,true,true,true,false,false,false,false,false,false,false,false,false] rfl rfl (by kernel_rfl) (fun _ _ _ h=>h) (Or.inl ⟨by rfl,?_⟩) ?_ ?_
          rotate_left
          · intro w'
            go_simp
            with_reducible rfl
          rotate_left
          · simp only [Act.put,List.setIfInBounds_toArray,List.set_cons_zero,List.set_cons_succ,ax,ay]
            rfl
          refine aH (i:=5) (N:=some 68) (v:=?_) (a':=?_) #[true,true,true,true,true,true,false,false,false,false,false,false,false,false] rfl rfl (by kernel_rfl) (fun _ _ _ h=>h) (Or.inl ⟨by rfl,?_⟩) ?_ ?_
          rotate_left
          · intro w'
            go_simp
            with_reducible rfl
          rotate_left
          · simp only [Act.put,List.setIfInBounds_toArray,List.set_cons_zero,List.set_cons_succ,ax,ay]
            rfl
          refine cu (i:=6) (N:=some 69) (v:=?_) (a':=?_) #[true,true,true,true,true,true,true,false,false,false,false,false,false,false] rfl rfl (by kernel_rfl) (fun _ _ _ h=>h) (Or.inl ⟨by rfl,?_⟩) hHeld ?_ ?_
          rotate_left
          · rintro w' ⟨s0,s1,s2,s3,s4,s5⟩
            go_simp
            with_reducible rfl
          rotate_left
          · simp only [Act.put,List.setIfInBounds_toArray,List.set_cons_zero,List.set_cons_succ,ax,ay]
            rfl
          refine gV (i:=7) (N:=some 70) #[true,true,true,true,true,true,true,true,false,false,false,false,false,false] rfl rfl (by kernel_rfl) (by decide) (fun K hK=>?_)
          refine gK Try.func120 (by kernel_rfl) rfl #[.pointer (some ⟨gr,0,none⟩),.agg #[.int .u16 cc,.int .u8 i1,.int .u8 i2,.int .u32 k]] (by rfl) rfl rfl (by simp only [List.map_toArray,List.map_cons,List.map_nil];rfl) ?_
          with_reducible refine (HBC.out _ (HX.out.below (by repeat (first | (with_reducible exact Below.refl _ _) | apply af | apply ae))).cm).mono ?_
          rintro e w3 ⟨rfl,hb3⟩
          refine ⟨_,rfl,?_⟩
          have HX3:=aa.mk (HX.out.below (ak (ae (Below.refl _ _)) hb3))
          have HV3:=aa.mk (HV.out.below (ak (ae (Below.refl _ _)) hb3))
          clear hb3
          refine hK.out _ _ ⟨HX3.out.k0,HX3.out.k1,HX3.out.k2,HX3.out.k3,(aj HX3.out.cm 21),HV3.out.c21⟩ (fun hHeld=>?_)
          clear hK K
          refine fe (a':=?_) ?_ ?_
          rotate_left
          · show Act.put _ (some 70) _=_
            simp only [Act.put,List.setIfInBounds_toArray,List.set_cons_zero,List.set_cons_succ,ax,ay]
            rfl
          refine aH (i:=8) (N:=some 71) (v:=?_) (a':=?_) #[true,true,true,true,true,true,true,true,true,false,false,false,false,false] rfl rfl (by kernel_rfl) (fun _ _ _ h=>h) (Or.inl ⟨by rfl,?_⟩) ?_ ?_
          rotate_left
          · intro w'
            go_simp
            with_reducible rfl
          rotate_left
          · simp only [Act.put,List.setIfInBounds_toArray,List.set_cons_zero,List.set_cons_succ,ax,ay]
            rfl
          refine aH (i:=9) (N:=some 72) (v:=?_) (a':=?_) #[true,true,true,true,true,true,true,true,true,true,false,false,false,false] rfl rfl (by kernel_rfl) (fun _ _ _ h=>h) (Or.inl ⟨by rfl,?_⟩) ?_ ?_
          rotate_left
          · intro w'
            go_simp
            with_reducible rfl
          rotate_left
          · simp only [Act.put,List.setIfInBounds_toArray,List.set_cons_zero,List.set_cons_succ,ax,ay]
            rfl
          refine gV (i:=10) (N:=none) #[true,true,true,true,true,true,true,true,true,true,true,false,false,false] rfl rfl (by kernel_rfl) (by decide) (fun K hK=>?_)
          refine gX (w1:=?_) (by rfl) rfl ?_ ?_
          rotate_left
          · go_simp
            rfl
          refine lm (fun W=>PV w0 W gr gd gs arr M P 0 (a+1) rv false s2∧W.heap[gi]?=some (.cells #[.int .u16 cc,.int .u8 i1,.int .u8 i2,.int .u32 k] 45 (0,0))∧W.frozen? ⟨gr,22,none⟩=false) ⟨HV3.out.setv HG.out.1 rv,bQ HX3.out.ci HG.out.2 _,aj (HV3.out.setv HG.out.1 rv).r.m.me 22⟩ ?_
          rintro W10 ⟨hw10,hg10,hf10⟩
          have hc10:=hw10.c22
          refine hK.out _ _ ⟨((ag hg10 0).trans rfl),((ag hg10 1).trans rfl),((ag hg10 2).trans rfl),((ag hg10 3).trans rfl),(aj hw10.r.m.me 21),hw10.c21⟩ (fun hHeld=>?_)
          clear hK K
          refine aH (i:=11) (N:=some 73) (v:=?_) (a':=?_) #[true,true,true,true,true,true,true,true,true,true,true,true,false,false] rfl rfl (by kernel_rfl) (fun _ _ _ h=>h) (Or.inl ⟨by rfl,?_⟩) ?_ ?_
          rotate_left
          · intro w'
            go_simp
            with_reducible rfl
          rotate_left
          · simp only [Act.put,List.setIfInBounds_toArray,List.set_cons_zero,List.set_cons_succ,ax,ay]
            rfl
          refine aH (i:=12) (N:=some 74) (v:=?_) (a':=?_) #[true,true,true,true,true,true,true,true,true,true,true,true,true,false] rfl rfl (by kernel_rfl) (fun _ _ _ h=>h) (Or.inl ⟨by rfl,?_⟩) ?_ ?_
          rotate_left
          · intro w'
            go_simp
            with_reducible rfl
          rotate_left
          · simp only [Act.put,List.setIfInBounds_toArray,List.set_cons_zero,List.set_cons_succ,ax,ay]
            rfl
          refine gL (i:=13) (N:=none) #[true,true,true,true,true,true,true,true,true,true,true,true,true,true] rfl rfl (by kernel_rfl) (by decide) (fun K hK=>?_)
          refine gX (w1:=?_) (by rfl) rfl ?_ ?_
          rotate_left
          · go_simp
            rfl
          refine hK.out _ _ ?_
          clear hK K
          refine dS (by kernel_rfl) ?_
          go_wp2
          go_roundg kq
          case measure=>omega
          case rel=>exact ⟨M,0,_,rv,true,s2,[],⟨hw10.sete HG.out.1 true,fun h=>absurd h.2 (by decide),fun _=>HVF.out⟩⟩
        · clear HWK
          obtain ⟨fk,hfk,hok,hsc,hc0,hc1⟩:=vK ⟨cc,i1,i2,k⟩ arr HT.out hst HRK.out
          dsimp only at hfk hc0 hc1
          have HFN:=aa.mk hok
          have hfn:Y.cell? ⟨gd,cc.toNat,none⟩=some (.func (.func fk) #[] #[]):=(ag HY.out.1.r.t cc.toNat).trans hfk
          have HXM:aa (PM Y gr 117 M (.slice Ap pk.length cp) 0 [.int .i64 (a+1),.int .u32 0,.bool false]):=⟨by rw [←EP.out];exact HY.out.1.r.m⟩
          have HXB:=aa.mk HY.out.1.r.low
          have HSC:=aa.mk (fun (W:World) (h1:PM W gr 117 M (.slice Ap pk.length cp) 0 [.int .i64 (a+1),.int .u32 0,.bool false]) (h2:Below w0.heap.size w0 W)=>hsc W gr 117 M pk Ap cp _ h1 (Kd.bJ HPP.out.1 h2) HPP.out.2.1 HPP.out.2.2 HM.out)
          have n5b:(cl==5)=false:=beq_eq_false_iff_ne.mpr n5
          have n6b:(cl==6)=false:=beq_eq_false_iff_ne.mpr n6
          have HH:=aa.mk (And.intro h0 hn)
          clear hfk hok hsc n5 n6 h0 hn hst
          go_upto_region 6 with (fail)
          clear x0 x1 x2 x3 hlp
          refine dR (n:=11) (S:=fun w'=>w'.cell? ⟨gi,0,none⟩=some (.int .u16 cc)∧w'.cell? ⟨gi,1,none⟩=some (.int .u8 i1)∧w'.cell? ⟨gi,2,none⟩=some (.int .u8 i2)∧w'.cell? ⟨gi,3,none⟩=some (.int .u32 k)∧w'.cell? ⟨gd,cc.toNat,none⟩=some (.func (.func fk) #[] #[])) (ds:=[10]) #[false,false,false,false,false,false,false,false,false,false,false] (by kernel_rfl) rfl rfl ⟨(HX.out.below (by repeat (first | (with_reducible exact Below.refl _ _) | apply af | apply ae))).k0,(HX.out.below (by repeat (first | (with_reducible exact Below.refl _ _) | apply af | apply ae))).k1,(HX.out.below (by repeat (first | (with_reducible exact Below.refl _ _) | apply af | apply ae))).k2,(HX.out.below (by repeat (first | (with_reducible exact Below.refl _ _) | apply af | apply ae))).k3,(aI (by repeat (first | (with_reducible exact Below.refl _ _) | apply af | apply ae)) hfn)⟩ (fun hHeld=>?_)
          refine aH (i:=0) (N:=some 45) (v:=?_) (a':=?_) #[true,false,false,false,false,false,false,false,false,false,false] rfl rfl (by kernel_rfl) (fun _ _ _ h=>h) (Or.inl ⟨by rfl,?_⟩) ?_ ?_
          rotate_left
          · intro w'
            go_simp
            with_reducible rfl
          rotate_left
          · simp only [Act.put,List.setIfInBounds_toArray,List.set_cons_zero,List.set_cons_succ,ax,ay]
            rfl
          refine aH (i:=1) (N:=some 46) (v:=?_) (a':=?_) #[true,true,false,false,false,false,false,false,false,false,false] rfl rfl (by kernel_rfl) (fun _ _ _ h=>h) (Or.inl ⟨by rfl,?_⟩) ?_ ?_
          rotate_left
          · intro w'
            go_simp
            with_reducible rfl
          rotate_left
          · simp only [Act.put,List.setIfInBounds_toArray,List.set_cons_zero,List.set_cons_succ,ax,ay]
            rfl
          refine aH (i:=3) (N:=some 48) (v:=?_) (a':=?_) #[true,true,false,true,false,false,false,false,false,false,false] rfl rfl (by kernel_rfl) (fun _ _ _ h=>h) (Or.inl ⟨by rfl,?_⟩) ?_ ?_
          rotate_left
          · intro w'
            go_simp
            with_reducible rfl
          rotate_left
          · simp only [Act.put,List.setIfInBounds_toArray,List.set_cons_zero,List.set_cons_succ,ax,ay]
            rfl
          refine aH (i:=6) (N:=some 51) (v:=?_) (a':=?_) #[true,true,false,true,false,false,true,false,false,false,false] rfl rfl (by kernel_rfl) (fun _ _ _ h=>h) (Or.inl ⟨by rfl,?_⟩) ?_ ?_
          rotate_left
          · intro w'
            go_simp
            with_reducible rfl
          rotate_left
          · simp only [Act.put,List.setIfInBounds_toArray,List.set_cons_zero,List.set_cons_succ,ax,ay]
            rfl
          refine aH (i:=7) (N:=some 52) (v:=?_) (a':=?_) #[true,true,false,true,false,false,true,true,false,false,false] rfl rfl (by kernel_rfl) (fun _ _ _ h=>h) (Or.inl ⟨by rfl,?_⟩) ?_ ?_
          rotate_left
          · intro w'
            go_simp
            with_reducible rfl
          rotate_left
          · simp only [Act.put,List.setIfInBounds_toArray,List.set_cons_zero,List.set_cons_succ,ax,ay]
            rfl
          refine aH (i:=8) (N:=some 53) (v:=?_) (a':=?_) #[true,true,false,true,false,false,true,true,true,false,false] rfl rfl (by kernel_rfl) (fun _ _ _ h=>h) (Or.inl ⟨by rfl,?_⟩) ?_ ?_
          rotate_left
          · intro w'
            go_simp
            with_reducible rfl
          rotate_left
          · simp only [Act.put,List.setIfInBounds_toArray,List.set_cons_zero,List.set_cons_succ,ax,ay]
            rfl
          refine cu (i:=2) (N:=some 47) (v:=?_) (a':=?_) #[true,true,true,true,false,false,true,true,true,false,false] rfl rfl (by kernel_rfl) (fun _ _ _ h=>h) (Or.inl ⟨by rfl,?_⟩) hHeld ?_ ?_
          rotate_left
          · rintro w' ⟨s0,s1,s2,s3,s4⟩
            go_simp
            with_reducible rfl
          rotate_left
          · simp only [Act.put,List.setIfInBounds_toArray,List.set_cons_zero,List.set_cons_succ,ax,ay]
            rfl
          refine aH (i:=4) (N:=some 49) (v:=?_) (a':=?_) #[true,true,true,true,true,false,true,true,true,false,false] rfl rfl (by kernel_rfl) (fun _ _ _ h=>h) (Or.inl ⟨by rfl,?_⟩) ?_ ?_
          rotate_left
          · intro w'
            go_simp
            with_reducible rfl
          rotate_left
          · simp only [Act.put,List.setIfInBounds_toArray,List.set_cons_zero,List.set_cons_succ,ax,ay]
            rfl
          refine cu (i:=5) (N:=some 50) (v:=?_) (a':=?_) #[true,true,true,true,true,true,true,true,true,false,false] rfl rfl (by kernel_rfl) (fun _ _ _ h=>h) (Or.inl ⟨by rfl,?_⟩) hHeld ?_ ?_
          rotate_left
          · rintro w' ⟨s0,s1,s2,s3,s4⟩
            go_simp
            with_reducible rfl
          rotate_left
          · simp only [Act.put,List.setIfInBounds_toArray,List.set_cons_zero,List.set_cons_succ,ax,ay]
            rfl
          refine cu (i:=9) (N:=some 54) (v:=?_) (a':=?_) #[true,true,true,true,true,true,true,true,true,true,false] rfl rfl (by kernel_rfl) (fun _ _ _ h=>h) (Or.inl ⟨by rfl,?_⟩) hHeld ?_ ?_
          rotate_left
          · rintro w' ⟨s0,s1,s2,s3,s4⟩
            go_simp
            with_reducible rfl
          rotate_left
          · simp only [Act.put,List.setIfInBounds_toArray,List.set_cons_zero,List.set_cons_succ,ax,ay]
            rfl
          refine gL (i:=10) (N:=some 55) #[true,true,true,true,true,true,true,true,true,true,true] rfl rfl (by kernel_rfl) (by decide) (fun K hK=>?_)
          obtain ⟨fn,hf1,hf2,hf3⟩:=HFN.out.ok
          refine j4 50 hf1 hf2 hf3 #[.pointer (some ⟨gr,0,none⟩),.agg #[.int .u16 cc,.int .u8 i1,.int .u8 i2,.int .u32 k]] (by rfl) rfl rfl rfl (by simp only [List.map_toArray,List.map_cons,List.map_nil];rfl) ?_
          refine (HSC.out _ (HXM.out.below (by repeat (first | (with_reducible exact Below.refl _ _) | apply af | apply ae))) (ak HXB.out (by repeat (first | (with_reducible exact Below.refl _ _) | apply af | apply ae)))).mono ?_
          rintro e w3 ⟨rfl,hK,M3,hM3,hM0⟩
          have H3:=aa.mk (And.intro hK (And.intro hM3 hM0))
          clear hK hM3 hM0
          refine ⟨_,rfl,?_⟩
          refine hK.out _ _ ?_
          clear hK K
          refine fe (a':=?_) ?_ ?_
          rotate_left
          · show Act.put _ (some 55) _=_
            simp only [Act.put,List.setIfInBounds_toArray,List.set_cons_zero,List.set_cons_succ,ax,ay]
            rfl
          refine dS (by kernel_rfl) ?_
          have HN:∃ M4 f4,aa (PV w0 w3 gr gd gs arr M4 P f4 (a+1) 0 false s2∧(f4=0∧false=false→dL p pk kq (a+1) M4 (T++[a])=some (v,f,TT)∧MB M4∧(0:Int)=0)∧(¬(f4=0∧false=false)→v=0∧f=f4)):=by
            have hm4:=H3.out.2.1
            rw [←EP.out] at hm4
            have hr4:=(HY.out.1.below (ae (Below.refl _ _))).kp H3.out.1 ((HY.out.1.r.below (ae (Below.refl _ _))).kp H3.out.1 hm4) HNE.out
            refine ⟨M3,(cK ⟨cc,i1,i2,k⟩ pk M).2,⟨hr4,fun h=>?_,fun h=>HH.out.2 (fun h2=>h ⟨h2,rfl⟩)⟩⟩
            rw [H3.out.2.2 h.1]
            exact ⟨HH.out.1 h.1,pq _ _ _ HM.out HRK.out,rfl⟩
          obtain ⟨M4,f4,HN⟩:=HN
          clear hfn HX HXM HXB HY HSC H3 HH
          go_wp2
          go_roundg kq
          case measure=>omega
          case rel=>exact ⟨M4,f4,_,0,false,s2,_,⟨HN.out.1,fun h=>⟨(HN.out.2.1 ⟨h.1,trivial⟩).1,(HN.out.2.1 ⟨h.1,trivial⟩).2.1,rfl⟩,fun h=>HN.out.2.2 (fun q=>h ⟨q.1,rfl⟩)⟩⟩
    · have HN:=aa.mk (And.intro HS.out.1 (HS.out.2.2 hgo))
      clear HS
      cases e with
      | true=>
        go_wp2
        go_end0
        refine ⟨rfl,gd,arr,M,a,true,s,?_⟩
        rw [HN.out.2.1,HN.out.2.2]
        exact HN.out.1
      | false=>
        have hfb:(f1==0)=false:=beq_eq_false_iff_ne.mpr (fun h=>hgo ⟨h,rfl⟩)
        clear hgo
        go_wp2
        go_end0
        refine ⟨rfl,gd,arr,M,a,false,s,?_⟩
        rw [HN.out.2.1,HN.out.2.2]
        exact HN.out.1
theorem pg (w:World) (p:List S45) (A:Option Addr) (c:Nat) (pk:List Int) (Ap:Option Addr) (cp:Nat) (HC:Kd.C k45 w A p.length p) (hc:p.length≤c) (hp:PrG p) (hpk:pk.length≤65536) :
    Calls Try.prog 72 #[.slice A p.length c,.slice Ap pk.length cp] w fun e w'=>∃ gr,e = .returned (.tuple #[.pointer (some ⟨gr,0,none⟩),.int .i64 0])∧PM w' gr 117 z16 (.slice Ap pk.length cp) 0 [.int .i64 0,.int .u32 0,.bool false]∧w.heap.size≤gr∧Below w.heap.size w w':=by
  have hpb:decide (65536<pk.length)=false:=decide_eq_false (by omega)
  have hpb2:decide ((65536:Int)<(pk.length:Int))=false:=decide_eq_false (by omega)
  have HCK:=aa.mk (lI w p A c HC hc hp)
  clear HC hc hp hpk
  go_enter Try.func72,Try.ntmps72
  go_upto_region 6 with (go_at_call 65;refine HCK.out.mono ?_;rintro e X ⟨rfl,hb⟩;have HB:=aa.mk hb;clear hb)
  go_wp2
  refine bodyPost_ret (results_tmp2 rfl _ _ _) rfl ?_
  exact ⟨_,rfl,⟨heap_alloc_new _ _,rfl⟩,HB.out.size,ai HB.out _⟩
theorem sI (w:World) (p:List S45) (A:Option Addr) (c:Nat) (pk:List Int) (Ap:Option Addr) (cp:Nat) (HC:Kd.C k45 w A p.length p) (hc:p.length≤c) (hp:PrG p) (HP:Kd.C (Kd.int .u8) w Ap pk.length pk) (hcp:pk.length≤cp) (hpk:pk.length≤65536)
    (n:Nat) (v f:Int) (TT:List Int) (hr:dL p pk n 0 z16 []=some (v,f,TT)) :
    Calls Try.prog 40 #[.slice A p.length c,.slice Ap pk.length cp] w fun e w'=>∃ t,e = .returned (.tuple #[.agg #[.int .u32 v,.int .i64 f,.int .i64 t],.int .i64 0])∧Below w.heap.size w w':=by
  obtain ⟨w0,ew0⟩:∃ w0,w0=w.alloc (.cells #[.int .u32 0,.int .i64 0,.int .i64 0] 59):=⟨_,rfl⟩
  have hgv:w0.heap[w.heap.size]?=some (.cells #[.int .u32 0,.int .i64 0,.int .i64 0] 59 (0,0)):=by rw [ew0];exact heap_alloc_new _ _
  have hb0:Below w.heap.size w w0:=by rw [ew0];exact ai (Below.refl _ _) _
  have HC0:Kd.C k45 w0 A p.length p:=by rw [ew0];exact Kd.dx HC _
  have HP0:Kd.C (Kd.int .u8) w0 Ap pk.length pk:=by rw [ew0];exact Kd.dx HP _
  have HST:=aa.mk (pg w0 p A c pk Ap cp HC0 hc hp hpk)
  have HPL:=aa.mk (fun (W:World) (gr gs:Nat) hm hs hlow hgr hgs hne=>qh w0 W p A c pk Ap cp gr gs HC0 hc hp HP0 hcp (by omega) hm hs hlow hgr hgs hne n v f TT hr)
  have HGV:=aa.mk (And.intro hgv hb0)
  have EW:=aa.mk ew0
  clear HC hc hp HP hcp hpk hr hgv hb0 HC0 HP0 ew0
  obtain ⟨gv,egv⟩:∃ gv,gv=w.heap.size:=⟨_,rfl⟩
  have EGV:=aa.mk egv
  rw [←egv] at HGV
  clear egv
  go_enter Try.func40,Try.ntmps40
  go_upto_region 1 with (fail)
  refine forget (fun X=>X=w0) EW.out.symm ?_
  rintro X rfl
  rw [←EGV.out]
  go_upto_region 4 with (go_at_call 72;refine HST.out.mono ?_;rintro e Y ⟨gr,rfl,hm,hge,hb⟩;have HY:=aa.mk (And.intro hm (And.intro hge hb));clear hm hge hb)
  go_upto_region 5 with (fail)
  refine forget (fun Z=>∃ gs,gs=Y.heap.size∧PM Z gr 117 z16 (.slice Ap pk.length cp) 0 [.int .i64 0,.int .u32 0,.bool false]∧Z.heap[gs]?=some (.cells #[.int .i64 0] 3 (0,0))∧Below X.heap.size X Z) ⟨_,rfl,HY.out.1.below (ai (Below.refl _ _) _),heap_alloc_new _ _,ai HY.out.2.2 _⟩ ?_
  rintro Z ⟨gs,egs,hm,hs,hb⟩
  rw [←egs]
  have HP:=aa.mk (HPL.out Z gr gs hm hs hb HY.out.2.1 (by rw [egs];exact HY.out.2.2.size) (by have:=aZ HY.out.1.me;omega))
  clear egs hm hs hb HPL HY HST
  go_upto_region 6 with (go_at_call 73;refine HP.out.mono ?_;rintro E V ⟨rfl,gd,arr,M,a,e,t,hpv⟩;have HPV:=aa.mk hpv;clear hpv)
  have HE:aa (Below X.heap.size X V∧V.heap[gv]?=some (.cells #[.int .u32 0,.int .i64 0,.int .i64 0] 59 (0,0))):=⟨HPV.out.r.low,au HGV.out.1 HPV.out.r.low⟩
  have y21:V.cell? ⟨gr,21,none⟩=some (.int .u32 v):=(ag HPV.out.r.m.me 21).trans (jM M _ _ _ HPV.out.r.m.len 1)
  have y19:V.cell? ⟨gr,19,none⟩=some (.int .i64 f):=(ag HPV.out.r.m.me 19).trans (oO M _ _ _ HPV.out.r.m.len)
  have y20:V.cell? ⟨gs,0,none⟩=some (.int .i64 t):=(ag HPV.out.s 0).trans rfl
  have g0:V.cell? ⟨gv,0,none⟩=some (.int .u32 0):=(ag HE.out.2 0).trans rfl
  have g1:V.cell? ⟨gv,1,none⟩=some (.int .i64 0):=(ag HE.out.2 1).trans rfl
  have g2:V.cell? ⟨gv,2,none⟩=some (.int .i64 0):=(ag HE.out.2 2).trans rfl
  have e0:V.frozen? ⟨gv,0,none⟩=false:=aj HE.out.2 0
  have e1:V.frozen? ⟨gv,1,none⟩=false:=aj HE.out.2 1
  have e2:V.frozen? ⟨gv,2,none⟩=false:=aj HE.out.2 2
  have HL:aa (Below w.heap.size w V∧w.heap.size≤gv):=⟨by have:=HGV.out.2;rw [EGV.out] at this;exact ak this HE.out.1,by rw [EGV.out];exact Nat.le_refl _⟩
  clear HP HGV HPV
  refine dR (n:=13) (S:=fun w'=>w'.cell? ⟨gr,21,none⟩=some (.int .u32 v)∧w'.cell? ⟨gr,19,none⟩=some (.int .i64 f)∧w'.cell? ⟨gs,0,none⟩=some (.int .i64 t)∧w'.cell? ⟨gv,0,none⟩=some (.int .u32 0)∧w'.cell? ⟨gv,1,none⟩=some (.int .i64 0)∧w'.cell? ⟨gv,2,none⟩=some (.int .i64 0)∧w'.frozen? ⟨gv,0,none⟩=false∧w'.frozen? ⟨gv,1,none⟩=false∧w'.frozen? ⟨gv,2,none⟩=false) (ds:=[11]) #[false,false,false,false,false,false,false,false,false,false,false,false,false] (by kernel_rfl) rfl rfl ⟨(aI (by repeat (first | (with_reducible exact Below.refl _ _) | apply af | apply ae)) y21),(aI (by repeat (first | (with_reducible exact Below.refl _ _) | apply af | apply ae)) y19),(aI (by repeat (first | (with_reducible exact Below.refl _ _) | apply af | apply ae)) y20),(aI (by repeat (first | (with_reducible exact Below.refl _ _) | apply af | apply ae)) g0),(aI (by repeat (first | (with_reducible exact Below.refl _ _) | apply af | apply ae)) g1),(aI (by repeat (first | (with_reducible exact Below.refl _ _) | apply af | apply ae)) g2),(aj (au HE.out.2 (by repeat (first | (with_reducible exact Below.refl _ _) | apply af | apply ae))) 0),(aj (au HE.out.2 (by repeat (first | (with_reducible exact Below.refl _ _) | apply af | apply ae))) 1),(aj (au HE.out.2 (by repeat (first | (with_reducible exact Below.refl _ _) | apply af | apply ae))) 2)⟩ (fun hHeld=>?_)
  refine aH (i:=0) (N:=some 23) (v:=?_) (a':=?_) #[true,false,false,false,false,false,false,false,false,false,false,false,false] rfl rfl (by kernel_rfl) (fun _ _ _ h=>h) (Or.inl ⟨by rfl,?_⟩) ?_ ?_
  rotate_left
  · intro w'
    go_simp
    with_reducible rfl
  rotate_left
  · simp only [Act.put,List.setIfInBounds_toArray,List.set_cons_zero,List.set_cons_succ,ax,ay]
    rfl
  refine aH (i:=1) (N:=some 24) (v:=?_) (a':=?_) #[true,true,false,false,false,false,false,false,false,false,false,false,false] rfl rfl (by kernel_rfl) (fun _ _ _ h=>h) (Or.inl ⟨by rfl,?_⟩) ?_ ?_
  rotate_left
  · intro w'
    go_simp
    with_reducible rfl
  rotate_left
  · simp only [Act.put,List.setIfInBounds_toArray,List.set_cons_zero,List.set_cons_succ,ax,ay]
    rfl
  refine aH (i:=2) (N:=some 25) (v:=?_) (a':=?_) #[true,true,true,false,false,false,false,false,false,false,false,false,false] rfl rfl (by kernel_rfl) (fun _ _ _ h=>h) (Or.inl ⟨by rfl,?_⟩) ?_ ?_
  rotate_left
  · intro w'
    go_simp
    with_reducible rfl
  rotate_left
  · simp only [Act.put,List.setIfInBounds_toArray,List.set_cons_zero,List.set_cons_succ,ax,ay]
    rfl
  refine aH (i:=4) (N:=some 27) (v:=?_) (a':=?_) #[true,true,true,false,true,false,false,false,false,false,false,false,false] rfl rfl (by kernel_rfl) (fun _ _ _ h=>h) (Or.inl ⟨by rfl,?_⟩) ?_ ?_
  rotate_left
  · intro w'
    go_simp
    with_reducible rfl
  rotate_left
  · simp only [Act.put,List.setIfInBounds_toArray,List.set_cons_zero,List.set_cons_succ,ax,ay]
    rfl
  refine aH (i:=5) (N:=some 28) (v:=?_) (a':=?_) #[true,true,true,false,true,true,false,false,false,false,false,false,false] rfl rfl (by kernel_rfl) (fun _ _ _ h=>h) (Or.inl ⟨by rfl,?_⟩) ?_ ?_
  rotate_left
  · intro w'
    go_simp
    with_reducible rfl
  rotate_left
  · simp only [Act.put,List.setIfInBounds_toArray,List.set_cons_zero,List.set_cons_succ,ax,ay]
    rfl
  refine aH (i:=6) (N:=some 29) (v:=?_) (a':=?_) #[true,true,true,false,true,true,true,false,false,false,false,false,false] rfl rfl (by kernel_rfl) (fun _ _ _ h=>h) (Or.inl ⟨by rfl,?_⟩) ?_ ?_
  rotate_left
  · intro w'
    go_simp
    with_reducible rfl
  rotate_left
  · simp only [Act.put,List.setIfInBounds_toArray,List.set_cons_zero,List.set_cons_succ,ax,ay]
    rfl
  refine aH (i:=7) (N:=some 30) (v:=?_) (a':=?_) #[true,true,true,false,true,true,true,true,false,false,false,false,false] rfl rfl (by kernel_rfl) (fun _ _ _ h=>h) (Or.inl ⟨by rfl,?_⟩) ?_ ?_
  rotate_left
  · intro w'
    go_simp
    with_reducible rfl
  rotate_left
  · simp only [Act.put,List.setIfInBounds_toArray,List.set_cons_zero,List.set_cons_succ,ax,ay]
    rfl
  refine cu (i:=3) (N:=some 26) (v:=?_) (a':=?_) #[true,true,true,true,true,true,true,true,false,false,false,false,false] rfl rfl (by kernel_rfl) (fun _ _ _ h=>h) (Or.inl ⟨by rfl,?_⟩) hHeld ?_ ?_
  rotate_left
  · rintro w' ⟨s0,s1,s2,s3,s4,s5,s6,s7,s8⟩
    go_simp
    with_reducible rfl
  rotate_left
  · simp only [Act.put,List.setIfInBounds_toArray,List.set_cons_zero,List.set_cons_succ,ax,ay]
    rfl
  refine cu (i:=8) (N:=some 31) (v:=?_) (a':=?_) #[true,true,true,true,true,true,true,true,true,false,false,false,false] rfl rfl (by kernel_rfl) (fun _ _ _ h=>h) (Or.inl ⟨by rfl,?_⟩) hHeld ?_ ?_
  rotate_left
  · rintro w' ⟨s0,s1,s2,s3,s4,s5,s6,s7,s8⟩
    go_simp
    with_reducible rfl
  rotate_left
  · simp only [Act.put,List.setIfInBounds_toArray,List.set_cons_zero,List.set_cons_succ,ax,ay]
    rfl
  refine cu (i:=9) (N:=some 32) (v:=?_) (a':=?_) #[true,true,true,true,true,true,true,true,true,true,false,false,false] rfl rfl (by kernel_rfl) (fun _ _ _ h=>h) (Or.inl ⟨by rfl,?_⟩) hHeld ?_ ?_
  rotate_left
  · rintro w' ⟨s0,s1,s2,s3,s4,s5,s6,s7,s8⟩
    go_simp
    with_reducible rfl
  rotate_left
  · simp only [Act.put,List.setIfInBounds_toArray,List.set_cons_zero,List.set_cons_succ,ax,ay]
    rfl
  refine aH (i:=10) (N:=some 33) (v:=?_) (a':=?_) #[true,true,true,true,true,true,true,true,true,true,true,false,false] rfl rfl (by kernel_rfl) (fun _ _ _ h=>h) (Or.inl ⟨by rfl,?_⟩) ?_ ?_
  rotate_left
  · intro w'
    go_simp
    with_reducible rfl
  rotate_left
  · simp only [Act.put,List.setIfInBounds_toArray,List.set_cons_zero,List.set_cons_succ,ax,ay]
    rfl
  refine gL (i:=11) (N:=none) #[true,true,true,true,true,true,true,true,true,true,true,true,false] rfl rfl (by kernel_rfl) (by decide) (fun K hK=>?_)
  refine gX (w1:=?_) (by rfl) rfl ?_ ?_
  rotate_left
  · go_simp
    rfl
  refine hK.out _ _ ?_
  clear hK K
  refine aH (i:=12) (N:=some 5) (v:=?_) (a':=?_) #[true,true,true,true,true,true,true,true,true,true,true,true,true] rfl rfl (by kernel_rfl) (fun _ _ _ h=>h) (Or.inl ⟨by rfl,?_⟩) ?_ ?_
  rotate_left
  · intro w'
    go_simp
    with_reducible rfl
  rotate_left
  · simp only [Act.put,List.setIfInBounds_toArray,List.set_cons_zero,List.set_cons_succ,ax,ay]
    rfl
  refine dS (by kernel_rfl) ?_
  go_wp2
  refine bodyPost_ret (lW rfl _ _ gv 59 #[.int .u32 v,.int .i64 f,.int .i64 t] (0,0) _ rfl (aJ (aJ (aJ (au HE.out.2 (ae (Below.refl _ _))) 0 _ rfl) 1 _ rfl) 2 _ rfl) Try.underlying59 rfl (by kernel_rfl)) rfl ?_
  exact ⟨t,rfl,bU (bU (bU (ae HL.out.1) HL.out.2) HL.out.2) HL.out.2⟩
theorem rE {p:List S45} {pk:List Int} {r:Int × Int × List Int} (d:Nat):∀ (n:Nat) (a:Int) (M:bn) (T:List Int),dL p pk n a M T=some r→dL p pk (n+d) a M T=some r:=by
  intro n
  induction n with
  | zero=>intro a M T h;cases h
  | succ n ih=>
    intro a M T h
    rw [show n+1+d=(n+d)+1 by omega]
    rw [dL] at h ⊢
    by_cases hin:0≤a∧a<(p.length:Int)
    · rw [if_pos hin] at h ⊢
      dsimp only at h ⊢
      generalize bg p a=i at *
      by_cases h6:i.f0=6
      · rw [if_pos h6] at h ⊢;exact h
      rw [if_neg h6] at h ⊢
      by_cases h22:i.f0=22
      · rw [if_pos h22] at h ⊢;exact h
      rw [if_neg h22] at h ⊢
      by_cases h5:i.f0=5
      · rw [if_pos h5] at h ⊢;exact ih _ _ _ h
      rw [if_neg h5] at h ⊢
      by_cases hj:jmP i.f0=true
      · rw [if_pos hj] at h ⊢
        by_cases hh:hoP i M.a M.x=true
        · rw [if_pos hh] at h ⊢;exact ih _ _ _ h
        · rw [if_neg hh] at h ⊢;exact ih _ _ _ h
      rw [if_neg hj] at h ⊢
      by_cases hs:(cK i pk M).2=0
      · rw [if_pos hs] at h ⊢;exact ih _ _ _ h
      · rw [if_neg hs] at h ⊢;exact h
    · rw [if_neg hin] at h;cases h
theorem ho_pl (l:S45) (a x:Int) (h:jmB l.f0=true):hoP (plF l) a x=hoP l a x:=by
  obtain ⟨c,i1,i2,k⟩:=l
  have hm:c∈([21,29,37,45,53,61,69,77]:List Int):=of_decide_eq_true h
  have H:∀ c∈([21,29,37,45,53,61,69,77]:List Int),bT.f 10 c=some (Go.bits .and .u16 c 8 != 0)∧((Go.bits .and .u16 c 8 != 0)=true∨usK c=true):=by decide +kernel
  obtain ⟨h1,h2⟩:=H c hm
  unfold plF
  dsimp only
  rw [nL c 0 0 _ a x _ _ h1 rfl,nL c i1 i2 k a x _ _ h1 rfl]
  rcases h2 with e | e
  · rw [if_pos e,if_pos e]
  · rw [if_pos e]
theorem tr_find {F:List Bool} (j:Nat):∀ n,j<bcn F n→∃ t,t<n∧Tr F t∧bcn F t=j:=by
  intro n
  induction n with
  | zero=>intro h;exact absurd h (Nat.not_lt_zero _)
  | succ n ih=>
    intro h
    by_cases ht:Tr F n
    · rw [iK ht] at h
      by_cases e:bcn F n=j
      · exact ⟨n,by omega,ht,e⟩
      · obtain ⟨t,h1,h2,h3⟩:=ih (by omega)
        exact ⟨t,by omega,h2,h3⟩
    · rw [jY ht] at h
      obtain ⟨t,h1,h2,h3⟩:=ih h
      exact ⟨t,by omega,h2,h3⟩
theorem bcn_blk {F:List Bool} {t e:Nat} (ht:Tr F t) (h:t<e) (hno:∀ s,t<s→s<e→¬Tr F s):bcn F e=bcn F t+1:=by
  have H:∀ d,t+1+d≤e→bcn F (t+1+d)=bcn F t+1:=by
    intro d
    induction d with
    | zero=>intro _;rw [Nat.add_zero,iK ht]
    | succ d ih=>
      intro hd
      rw [show t+1+(d+1)=(t+1+d)+1 by omega,jY (hno _ (by omega) (by omega)),ih (by omega)]
  have:=H (e - (t+1)) (by omega)
  rwa [show t+1+(e - (t+1))=e by omega] at this
structure HG (p:List S45) (F:List Bool) (N:List Int) (h:List S47):Prop where
  pr:PrG p
  m:BgM p F p.length
  n:NG p.length F N p.length
  o:OG p F N h p.length
section
variable {p:List S45} {F:List Bool} {N:List Int} {h:List S47}
theorem HG.num (H:HG p F N h) {j:Nat} (hj:j<p.length) (ht:Tr F j):N.getD j 0=(bcn F j:Int)∧bcn F j<h.length:=by
  have h1:=H.n.at_ j hj
  rw [iK ht] at h1
  have h2:=pW F (show j+1≤p.length by omega)
  rw [iK ht,H.o.c] at h2
  exact ⟨by omega,by omega⟩
theorem HG.at_ (H:HG p F N h) {t:Nat} (ht:t<p.length) (hT:Tr F t):∃ (e:Nat) (l:S45) (c A B:List S45),t<e∧e≤p.length∧(Tr F e∨e=p.length)∧bcn F e=bcn F t+1∧p[e - 1]?=some l∧h[bcn F t]?=some (gbF N c l e) ∧
    p=A++(c++[l])++B∧A.length=t∧c.length=e - 1 - t∧(∀ i∈c,stB i.f0 i.f3=true∧Rg i.f3)∧Rg l.f3∧MkB l (e - 1) F∧QI p.length ((e - 1:Nat):Int) l∧flF l.f0 l.f3=0∧(e=p.length→reB l.f0=true):=by
  obtain ⟨e,l,h1,h2,h3,h4,h5,h6⟩:=H.o.g t ht hT
  obtain ⟨hle,hlg⟩:=List.getElem?_eq_some_iff.1 h5
  refine ⟨e,l,(p.take (e - 1)).drop t,p.take t,p.drop e,h1,h2,h3,bcn_blk hT h1 h4,h5,h6,?_,?_,?_,?_,?_,?_,H.pr.qi h5,?_,?_⟩
  · have e1:p.take t++(p.take (e - 1)).drop t=p.take (e - 1):=by
      have:=List.take_append_drop t (p.take (e - 1))
      rwa [List.take_take,Nat.min_eq_left (by omega)] at this
    have e2:p.take (e - 1)++[l]=p.take e:=by
      have e3:=List.take_succ_eq_append_getElem hle
      rw [show e - 1+1=e by omega] at e3
      rw [←hlg];exact e3.symm
    rw [←List.append_assoc,e1,e2,List.take_append_drop]
  · rw [List.length_take];omega
  · rw [List.length_drop,List.length_take];omega
  · intro i hi
    obtain ⟨j,hj,rfl⟩:=List.getElem_of_mem hi
    rw [List.length_drop,List.length_take] at hj
    have hs:t+j<p.length:=by omega
    have hg:((p.take (e - 1)).drop t)[j]=p[t+j]:=by rw [List.getElem_drop,List.getElem_take]
    rw [hg]
    obtain ⟨⟨a,-,-⟩,d⟩:=H.pr.ok (t+j) hs
    have hmk:=H.m.m (t+j) hs hs
    have hn:=h4 (t+j+1) (by omega) (by omega)
    exact ⟨ry a (fun q=>hn (hmk.nx (.inl q))) (fun q=>hn (hmk.nx (.inr q))),d⟩
  · rw [←hlg];exact (H.pr.ok (e - 1) hle).2
  · rw [←hlg];exact H.m.m (e - 1) hle hle
  · rw [←hlg];exact (H.pr.ok (e - 1) hle).1.1
  · intro hq;rw [hq] at h5;exact H.pr.re l h5
theorem HG.len (H:HG p F N h) (j:Nat) (b:S47) (hb:h[j]?=some b):BOk b j h.length:=by
  have hj:=(List.getElem?_eq_some_iff.1 hb).1
  obtain ⟨t,ht,hT,e1⟩:=tr_find (F:=F) j p.length (by rw [H.o.c];exact hj)
  obtain ⟨e,l,c,A,B,hte,hel,hTe,hbc,hl,hh,hp,hA,hc,hst,hrg,hmk,hqi,hfl,hre⟩:=H.at_ ht hT
  rw [e1,hb] at hh
  obtain rfl:=Option.some.inj hh
  have hcode:kN c=true:=List.all_eq_true.2 (fun i hi=>(hst i hi).1)
  have hrl:Rg (if usK l.f0=true then l.f3 else 0):=by
    by_cases u:usK l.f0=true
    · rw [if_pos u];exact hrg
    · rw [if_neg u];exact Rg.z
  have goal:∀ q:Nat,e+q<p.length→Tr F (e+q)→(j:Int)<N.getD (e+q) 0∧N.getD (e+q) 0<(h.length:Int):=by
    intro q hq hTq
    obtain ⟨n1,n2⟩:=H.num hq hTq
    have:=pW F (show e≤e+q by omega)
    rw [n1]
    omega
  have ee:e - 1+1=e:=by omega
  unfold gbF
  by_cases c6:eF l.f0=6
  · rw [if_pos c6]
    have hr:=(dZ _).1 c6
    refine ⟨hcode,?_,?_,fun x hx=>(hst x hx).2,hrl⟩
    · unfold gG plF
      rw [if_pos rfl]
      simp only [Bool.and_eq_true,decide_eq_true_eq]
      exact ⟨⟨⟨hr,sZ _ _⟩,trivial⟩,trivial⟩
    · unfold ic;rfl
  rw [if_neg c6]
  by_cases c5:l.f0=5
  · rw [if_pos c5]
    have hg:=hmk.ja c5
    rw [ee] at hg
    have hlt:=hqi.ja c5
    have h0:=hrg.1
    obtain ⟨g1,g2⟩:=goal l.f3.toNat (by omega) hg
    refine ⟨hcode,by rfl,?_,fun x hx=>(hst x hx).2,Rg.z⟩
    unfold ic
    simp only [Bool.and_eq_true,Bool.or_eq_true,decide_eq_true_eq]
    exact ⟨.inr ⟨g1,g2⟩,.inl rfl⟩
  rw [if_neg c5]
  by_cases cj:eF l.f0=5
  · rw [if_pos cj]
    have hj2:jmB l.f0=true:=((fA _).1 cj).resolve_left c5
    have ht1:=hmk.jt hj2
    have hf1:=hmk.jf hj2
    rw [ee] at ht1 hf1
    have hlt:=hqi.jm hj2
    obtain ⟨g1,g2⟩:=goal l.f1.toNat (by omega) ht1
    obtain ⟨g3,g4⟩:=goal l.f2.toNat (by omega) hf1
    refine ⟨hcode,?_,?_,fun x hx=>(hst x hx).2,hrl⟩
    · unfold gG plF
      dsimp only
      rw [if_neg (by decide),if_neg (by decide),if_pos rfl]
      simp only [Bool.and_eq_true]
      exact ⟨hj2,sZ _ _⟩
    · unfold ic
      simp only [Bool.and_eq_true,Bool.or_eq_true,decide_eq_true_eq]
      exact ⟨.inr ⟨g1,g2⟩,.inr ⟨g3,g4⟩⟩
  rw [if_neg cj]
  have hnl:e≠p.length:=fun q=>c6 ((dZ _).2 (hre q))
  have hTe2:=hTe.resolve_right hnl
  obtain ⟨g1,g2⟩:=goal 0 (by omega) hTe2
  have hsl:=ry hfl cj (fun q=>c6 ((dZ _).2 q))
  refine ⟨?_,by rfl,?_,?_,Rg.z⟩
  · unfold kN at hcode ⊢
    rw [List.all_append,hcode]
    simp [hsl]
  · unfold ic
    simp only [Bool.and_eq_true,Bool.or_eq_true,decide_eq_true_eq]
    exact ⟨.inr ⟨g1,g2⟩,.inl rfl⟩
  · intro x hx
    rcases List.mem_append.1 hx with h1 | h1
    · exact (hst x h1).2
    · rw [List.mem_singleton.1 h1];exact hrg
theorem gb_len (N:List Int) (c:List S45) (l:S45) (e:Nat):(gbF N c l e).f0.length≤c.length+1:=by
  unfold gbF
  repeat' split
  all_goals (first | (dsimp only;omega) | (dsimp only;rw [List.length_append];exact Nat.le_refl _))
theorem HG.sum (H:HG p F N h):∀ (d t:Nat),p.length - t≤d→t≤p.length→(t<p.length→Tr F t)→((h.take (bcn F t)).map (fun b=>b.f0.length)).sum≤t→(h.map (fun b=>b.f0.length)).sum≤p.length:=by
  intro d
  induction d with
  | zero=>
    intro t h1 h2 _ hs
    have:t=p.length:=by omega
    rw [this,H.o.c,List.take_length] at hs
    exact hs
  | succ d ih=>
    intro t h1 h2 hT hs
    by_cases hlt:t<p.length
    · obtain ⟨e,l,c,A,B,hte,hel,hTe,hbc,hl,hh,hp,hA,hc,-⟩:=H.at_ hlt (hT hlt)
      refine ih e (by omega) hel (fun q=>hTe.resolve_right (by omega)) ?_
      obtain ⟨hj,hg⟩:=List.getElem?_eq_some_iff.1 hh
      rw [hbc,List.take_succ_eq_append_getElem hj,hg,List.map_append,List.sum_append]
      have:=gb_len N c l e
      simp only [List.map_cons,List.map_nil,List.sum_cons,List.sum_nil]
      omega
    · have:t=p.length:=by omega
      rw [this,H.o.c,List.take_length] at hs
      exact hs
theorem HG.gok (H:HG p F N h):GOk h:=by
  have hlen:h.length≤p.length:=by rw [←H.o.c];exact pV _ _
  have hs:=H.sum p.length 0 (by omega) (by omega) (fun _=>H.m.t0) (by rw [show bcn F 0=0 from rfl,List.take_zero];exact Nat.le_refl _)
  have hpos:0<h.length:=by
    have:=pW F (show 1≤p.length from H.pr.some_)
    rw [show bcn F 1=bcn F 0+1 from iK H.m.t0,H.o.c] at this
    omega
  exact ⟨hpos,by have:=H.pr.few;omega,H.len,by have:=H.pr.few;omega⟩
end
end Go.Proofs.Ytdkalnkplgfgoaa.Ln
