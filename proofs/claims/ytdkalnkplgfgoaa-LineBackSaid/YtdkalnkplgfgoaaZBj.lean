/- Lemmas and walks for the statements of the texts ZBZ..: the declarations that they need, taken together by a program of this session. Conditions: as each says. -/
import Derived.Test.YtdkalnkplgfgoaaZBe
import Derived.Test.YtdkalnkplgfgoaaZBh
import Derived.Test.YtdkalnkplgfgoaaZBi
set_option maxHeartbeats 4000000
set_option maxRecDepth 100000
set_option linter.unusedVariables false
set_option linter.unusedSimpArgs false
namespace Go.Proofs.Ytdkalnkplgfgoaa.Ln
open Go.RowKit Go.Maps Go.Proofs.YtdkalnkplgfgoaaW.PrintWords Go.Proofs.YtdkalnkplgfgoaaW.PrintLast Go.Proofs.YtdkalnkplgfgoaaW.PrintMore Go.Proofs.Ytdkalnkplgfgoaa.PA
structure LX (Y:World) (gi gr T:Nat) (q:Value × S47) (arr:Array Value):Prop where
  ci:Y.heap[gi]?=some (.cells (b8 q).toArray 47 (0,0))
  cm:Y.heap[gr]?=some (.cells arr T (0,0))
theorem LX.below {Y Z:World} {gi gr T:Nat} {q:Value × S47} {arr:Array Value} (h:LX Y gi gr T q arr) (hb:Below Y.heap.size Y Z):LX Z gi gr T q arr:=⟨au h.ci hb,au h.cm hb⟩
theorem qX (c i1 i2 k a x:Int) (hc:jmB c=true):eZ.f c a (if (Go.bits .and .u16 c 8 != 0)=true then x else k)=some (hoP ⟨c,i1,i2,k⟩ a x):=by
  have hm:c∈([21,29,37,45,53,61,69,77]:List Int):=of_decide_eq_true hc
  have H:∀ c∈([21,29,37,45,53,61,69,77]:List Int),bT.f 10 c=some (Go.bits .and .u16 c 8 != 0):=by decide +kernel
  rw [nL c i1 i2 k a x _ _ (H c hm) rfl]
  unfold eZ.f hoK
  repeat' split
  all_goals rfl
def leF (b:S47) (M:bn) (f s v:Int):Int × Bool × Int × Int:=
  if f≠0 then (0,false,s,v)
  else if b.f1=2 then (b.f3,true,s,v)
  else if b.f1=1 then (0,false,wrap64 (s+1),if b.f2.f0=22 then M.a else b.f2.f3)
  else if hoP b.f2 M.a M.x=true then (b.f3,true,wrap64 (s+1),v)
  else (b.f4,true,wrap64 (s+1),v)
theorem oK (w0 w:World) (gr gd:Nat) (arr:Array Value) (M:bn) (P:Value) (f s v:Int) (b:S47) (vb:Value) (hR:RR w0 w gr gd arr M P f s v) (he:gG b=true) :
    Calls Try.prog 71 #[.pointer (some ⟨gr,0,none⟩),.agg #[vb,.int .i64 b.f1,.int .u16 b.f2.f0,.int .u8 b.f2.f1,.int .u8 b.f2.f2,.int .u32 b.f2.f3,.int .i64 b.f3,.int .i64 b.f4]] w fun e w'=>e = .returned (.tuple #[.int .i64 (leF b M f s v).1,.bool (leF b M f s v).2.1])∧RR w0 w' gr gd arr M P f (leF b M f s v).2.2.1 (leF b M f s v).2.2.2∧Kp (fun k=>k=gr) w w':=by
  obtain ⟨c,e,⟨q0,q1,q2,q3⟩,y,z⟩:=b
  have hec:=tL he
  dsimp only at hec
  have HR:=aa.mk hR
  have cf:=(ag hR.m.me 19).trans (oO M _ _ _ hR.m.len)
  have hlt:=aZ hR.m.me
  unfold leF
  dsimp only
  clear he hR
  by_cases hf:f=0
  · rw [if_neg (by rw [hf];decide)]
    subst hf
    rcases hec with ⟨rfl,hre,-,-,-⟩ | ⟨rfl,-,-⟩ | ⟨rfl,hj,-⟩
    · rw [if_neg (by decide),if_pos rfl]
      obtain ⟨rv,erv⟩:∃ rv,rv=if q0=22 then M.a else q3:=⟨_,rfl⟩
      have HBC:=aa.mk (fun (W:World) (hW:W.heap[gr]?=some (.cells (cB M P 0 [.int .i64 (wrap64 (s+1)),.int .u32 v]) 106 (0,0)))=>(show Calls Try.prog 120 #[.pointer (some ⟨gr,0,none⟩),.agg #[.int .u16 q0,.int .u8 q1,.int .u8 q2,.int .u32 q3]] W fun e w'=>e = .returned (.int .u32 rv)∧Below W.heap.size W w' by rw [erv];exact kM W gr _ _ M.a q0 q1 q2 q3 hW (kg M _ _ _)))
      rw [←erv]
      clear erv hre
      go_enter Try.func71,Try.ntmps71
      go_upto_region 5 with (fail)
      refine forget (fun X=>∃ gi,gi=w.heap.size∧Below w.heap.size w X∧X.heap[gi]?=some (.cells (b8 (vb,⟨c,1,⟨q0,q1,q2,q3⟩,y,z⟩)).toArray 47 (0,0))) ⟨_,rfl,ai (Below.refl _ _) _,heap_alloc_new _ _⟩ ?_
      rintro Y ⟨gi,egi,hb,hi⟩
      rw [←egi]
      have HGI:=aa.mk (show gi≠gr by omega)
      have HY:=aa.mk (And.intro (HR.out.below hb) (And.intro ((Kp.refl (fun k=>k=gr) w).below hb) hi))
      have cs:=(ag HY.out.1.m.me 20).trans (jM M _ _ _ HR.out.m.len 0)
      have fs:=aj HY.out.1.m.me 20
      have b1:Y.cell? ⟨gi,1,none⟩=some (.int .i64 1):=(ag hi 1).trans rfl
      dsimp only [List.getElem?_cons_zero] at cs
      clear egi hb hi
      go_upto_region 6 with (fail)
      refine forget (fun Z=>RR w0 Z gr gd arr M P 0 (wrap64 (s+1)) v∧Kp (fun k=>k=gr) w Z∧Z.heap[gi]?=some (.cells (b8 (vb,⟨c,1,⟨q0,q1,q2,q3⟩,y,z⟩)).toArray 47 (0,0))) ⟨HY.out.1.kp (Kp.set (S:=fun k=>k=gr) (g:=gr) (Kp.refl _ Y) (.inl rfl) 20 _) (HY.out.1.m.o8 0 (.int .i64 (wrap64 (s+1)))),Kp.set (S:=fun k=>k=gr) (g:=gr) HY.out.2.1 (.inl rfl) 20 _,bQ HY.out.2.2 HGI.out _⟩ ?_
      clear cs fs b1 HY
      rintro Z ⟨hr,hk,hi⟩
      obtain ⟨arr2,ea⟩:∃ a,a=cB M P 0 [.int .i64 (wrap64 (s+1)),.int .u32 v]:=⟨_,rfl⟩
      have EA:=aa.mk ea
      have HX:aa (LX Z gi gr 106 (vb,⟨c,1,⟨q0,q1,q2,q3⟩,y,z⟩) arr2):=⟨⟨hi,by rw [ea];exact hr.m.me⟩⟩
      rw [←ea] at HBC
      have b1:Z.cell? ⟨gi,1,none⟩=some (.int .i64 1):=(ag hi 1).trans rfl
      have HZ:=aa.mk (And.intro hr hk)
      clear hr hk hi ea
      go_upto_region 7 with (fail)
      have hx7:arr2[21]?=some (.int .u32 v):=by rw [EA.out];exact jM M _ _ _ HR.out.m.len 1
      have HV:=aa.mk hx7
      clear hx7 cf
      refine dR (n:=11) (S:=fun w'=>w'.cell? ⟨gi,2,none⟩=some (.int .u16 q0)∧w'.cell? ⟨gi,3,none⟩=some (.int .u8 q1)∧w'.cell? ⟨gi,4,none⟩=some (.int .u8 q2)∧w'.cell? ⟨gi,5,none⟩=some (.int .u32 q3)∧w'.cell? ⟨gr,21,none⟩=some (.int .u32 v)∧w'.frozen? ⟨gr,21,none⟩=false) (ds:=[10]) #[false,false,false,false,false,false,false,false,false,false,false] (by kernel_rfl) rfl rfl ⟨((ag (HX.out.below (by repeat (first | (with_reducible exact Below.refl _ _) | apply af | apply ae))).ci 2).trans rfl),((ag (HX.out.below (by repeat (first | (with_reducible exact Below.refl _ _) | apply af | apply ae))).ci 3).trans rfl),((ag (HX.out.below (by repeat (first | (with_reducible exact Below.refl _ _) | apply af | apply ae))).ci 4).trans rfl),((ag (HX.out.below (by repeat (first | (with_reducible exact Below.refl _ _) | apply af | apply ae))).ci 5).trans rfl),((ag (HX.out.below (by repeat (first | (with_reducible exact Below.refl _ _) | apply af | apply ae))).cm 21).trans HV.out),(aj (HX.out.below (by repeat (first | (with_reducible exact Below.refl _ _) | apply af | apply ae))).cm 21)⟩ (fun hHeld=>?_)
      refine aH (i:=0) (N:=some 29) (v:=?_) (a':=?_) #[true,false,false,false,false,false,false,false,false,false,false] rfl rfl (by kernel_rfl) (fun _ _ _ h=>h) (Or.inl ⟨by rfl,?_⟩) ?_ ?_
      rotate_left
      · intro w'
        go_simp
        with_reducible rfl
      rotate_left
      · simp only [Act.put,List.setIfInBounds_toArray,List.set_cons_zero,List.set_cons_succ,ax,ay]
        rfl
      refine aH (i:=1) (N:=some 30) (v:=?_) (a':=?_) #[true,true,false,false,false,false,false,false,false,false,false] rfl rfl (by kernel_rfl) (fun _ _ _ h=>h) (Or.inl ⟨by rfl,?_⟩) ?_ ?_
      rotate_left
      · intro w'
        go_simp
        with_reducible rfl
      rotate_left
      · simp only [Act.put,List.setIfInBounds_toArray,List.set_cons_zero,List.set_cons_succ,ax,ay]
        rfl
      refine aH (i:=2) (N:=some 31) (v:=?_) (a':=?_) #[true,true,true,false,false,false,false,false,false,false,false] rfl rfl (by kernel_rfl) (fun _ _ _ h=>h) (Or.inl ⟨by rfl,?_⟩) ?_ ?_
      rotate_left
      · intro w'
        go_simp
        with_reducible rfl
      rotate_left
      · simp only [Act.put,List.setIfInBounds_toArray,List.set_cons_zero,List.set_cons_succ,ax,ay]
        rfl
      refine aH (i:=3) (N:=some 32) (v:=?_) (a':=?_) #[true,true,true,true,false,false,false,false,false,false,false] rfl rfl (by kernel_rfl) (fun _ _ _ h=>h) (Or.inl ⟨by rfl,?_⟩) ?_ ?_
      rotate_left
      · intro w'
        go_simp
        with_reducible rfl
      rotate_left
      · simp only [Act.put,List.setIfInBounds_toArray,List.set_cons_zero,List.set_cons_succ,ax,ay]
        rfl
      refine aH (i:=4) (N:=some 33) (v:=?_) (a':=?_) #[true,true,true,true,true,false,false,false,false,false,false] rfl rfl (by kernel_rfl) (fun _ _ _ h=>h) (Or.inl ⟨by rfl,?_⟩) ?_ ?_
      rotate_left
      · intro w'
        go_simp
        with_reducible rfl
      rotate_left
      · simp only [Act.put,List.setIfInBounds_toArray,List.set_cons_zero,List.set_cons_succ,ax,ay]
        rfl
      refine aH (i:=5) (N:=some 34) (v:=?_) (a':=?_) #[true,true,true,true,true,true,false,false,false,false,false] rfl rfl (by kernel_rfl) (fun _ _ _ h=>h) (Or.inl ⟨by rfl,?_⟩) ?_ ?_
      rotate_left
      · intro w'
        go_simp
        with_reducible rfl
      rotate_left
      · simp only [Act.put,List.setIfInBounds_toArray,List.set_cons_zero,List.set_cons_succ,ax,ay]
        rfl
      refine cu (i:=6) (N:=some 35) (v:=?_) (a':=?_) #[true,true,true,true,true,true,true,false,false,false,false] rfl rfl (by kernel_rfl) (fun _ _ _ h=>h) (Or.inl ⟨by rfl,?_⟩) hHeld ?_ ?_
      rotate_left
      · rintro w' ⟨s0,s1,s2,s3,s4,s5⟩
        go_simp
        with_reducible rfl
      rotate_left
      · simp only [Act.put,List.setIfInBounds_toArray,List.set_cons_zero,List.set_cons_succ,ax,ay]
        rfl
      refine gV (i:=7) (N:=some 36) #[true,true,true,true,true,true,true,true,false,false,false] rfl rfl (by kernel_rfl) (by decide) (fun K hK=>?_)
      refine gK Try.func120 (by kernel_rfl) rfl #[.pointer (some ⟨gr,0,none⟩),.agg #[.int .u16 q0,.int .u8 q1,.int .u8 q2,.int .u32 q3]] (by rfl) rfl rfl (by simp only [List.map_toArray,List.map_cons,List.map_nil];rfl) ?_
      with_reducible refine (HBC.out _ (HX.out.below (by repeat (first | (with_reducible exact Below.refl _ _) | apply af | apply ae))).cm).mono ?_
      rintro e w3 ⟨rfl,hb3⟩
      refine ⟨_,rfl,?_⟩
      refine hK.out _ _ ⟨((ag (HX.out.below (ak (ae (Below.refl _ _)) hb3)).ci 2).trans rfl),((ag (HX.out.below (ak (ae (Below.refl _ _)) hb3)).ci 3).trans rfl),((ag (HX.out.below (ak (ae (Below.refl _ _)) hb3)).ci 4).trans rfl),((ag (HX.out.below (ak (ae (Below.refl _ _)) hb3)).ci 5).trans rfl),((ag (HX.out.below (ak (ae (Below.refl _ _)) hb3)).cm 21).trans HV.out),(aj (HX.out.below (ak (ae (Below.refl _ _)) hb3)).cm 21)⟩ (fun hHeld=>?_)
      clear hK K
      refine fe (a':=?_) ?_ ?_
      rotate_left
      · show Act.put _ (some 36) _=_
        simp only [Act.put,List.setIfInBounds_toArray,List.set_cons_zero,List.set_cons_succ,ax,ay]
        rfl
      refine aH (i:=8) (N:=some 37) (v:=?_) (a':=?_) #[true,true,true,true,true,true,true,true,true,false,false] rfl rfl (by kernel_rfl) (fun _ _ _ h=>h) (Or.inl ⟨by rfl,?_⟩) ?_ ?_
      rotate_left
      · intro w'
        go_simp
        with_reducible rfl
      rotate_left
      · simp only [Act.put,List.setIfInBounds_toArray,List.set_cons_zero,List.set_cons_succ,ax,ay]
        rfl
      refine aH (i:=9) (N:=some 38) (v:=?_) (a':=?_) #[true,true,true,true,true,true,true,true,true,true,false] rfl rfl (by kernel_rfl) (fun _ _ _ h=>h) (Or.inl ⟨by rfl,?_⟩) ?_ ?_
      rotate_left
      · intro w'
        go_simp
        with_reducible rfl
      rotate_left
      · simp only [Act.put,List.setIfInBounds_toArray,List.set_cons_zero,List.set_cons_succ,ax,ay]
        rfl
      refine gL (i:=10) (N:=none) #[true,true,true,true,true,true,true,true,true,true,true] rfl rfl (by kernel_rfl) (by decide) (fun K hK=>?_)
      refine gX (w1:=?_) (by rfl) rfl ?_ ?_
      rotate_left
      · go_simp
        rfl
      refine hK.out _ _ ?_
      clear hK K
      refine dS (by kernel_rfl) ?_
      go_upto_region 8 with (fail)
      refine forget (fun Z=>RR w0 Z gr gd arr M P 0 (wrap64 (s+1)) rv∧Kp (fun k=>k=gr) w Z) ⟨?_,?_⟩ ?_
      · have h1:=(HZ.out.1.below (ak (ae (Below.refl _ _)) hb3))
        exact h1.kp (Kp.set (S:=fun k=>k=gr) (g:=gr) (Kp.refl _ w3) (.inl rfl) 21 _) (h1.m.o8 1 (.int .u32 rv))
      · exact Kp.set (S:=fun k=>k=gr) (g:=gr) (HZ.out.2.below (ak (ae (Below.refl _ _)) hb3)) (.inl rfl) 21 _
      clear HZ HX hb3 HV
      rintro Z ⟨hr,hk⟩
      have HE:=aa.mk (And.intro hr hk)
      clear hr hk
      go_wp2
      refine bodyPost_ret (results_tmp2 rfl _ _ _) rfl ?_
      exact ⟨rfl,HE.out.1,HE.out.2⟩
    · rw [if_pos rfl]
      go_enter Try.func71,Try.ntmps71
      go_wp2
      refine bodyPost_ret (results_tmp2 rfl _ _ _) rfl ?_
      exact ⟨rfl,HR.out.below (ai (Below.refl _ _) _),(Kp.refl _ w).below (ai (Below.refl _ _) _)⟩
    · rw [if_neg (by decide),if_neg (by decide)]
      obtain ⟨bv,ebv⟩:∃ bv,bv=hoP ⟨q0,q1,q2,q3⟩ M.a M.x:=⟨_,rfl⟩
      have HBC:=aa.mk (fun (W:World) (hW:W.heap[gr]?=some (.cells (cB M P 0 [.int .i64 (wrap64 (s+1)),.int .u32 v]) 106 (0,0)))=>(show Calls Try.prog 121 #[.pointer (some ⟨gr,0,none⟩),.agg #[.int .u16 q0,.int .u8 q1,.int .u8 q2,.int .u32 q3]] W fun e w'=>e = .returned (.bool bv)∧Below W.heap.size W w' from kL W gr _ _ M.a M.x q0 q1 q2 q3 bv hW (kg M _ _ _) (nU M _ _ _) (by rw [ebv];exact qX q0 q1 q2 q3 M.a M.x hj)))
      rw [←ebv]
      clear ebv hj
      go_enter Try.func71,Try.ntmps71
      go_upto_region 5 with (fail)
      refine forget (fun X=>∃ gi,gi=w.heap.size∧Below w.heap.size w X∧X.heap[gi]?=some (.cells (b8 (vb,⟨c,3,⟨q0,q1,q2,q3⟩,y,z⟩)).toArray 47 (0,0))) ⟨_,rfl,ai (Below.refl _ _) _,heap_alloc_new _ _⟩ ?_
      rintro Y ⟨gi,egi,hb,hi⟩
      rw [←egi]
      have HGI:=aa.mk (show gi≠gr by omega)
      have HY:=aa.mk (And.intro (HR.out.below hb) (And.intro ((Kp.refl (fun k=>k=gr) w).below hb) hi))
      have cs:=(ag HY.out.1.m.me 20).trans (jM M _ _ _ HR.out.m.len 0)
      have fs:=aj HY.out.1.m.me 20
      have b1:Y.cell? ⟨gi,1,none⟩=some (.int .i64 3):=(ag hi 1).trans rfl
      dsimp only [List.getElem?_cons_zero] at cs
      clear egi hb hi
      go_upto_region 6 with (fail)
      refine forget (fun Z=>RR w0 Z gr gd arr M P 0 (wrap64 (s+1)) v∧Kp (fun k=>k=gr) w Z∧Z.heap[gi]?=some (.cells (b8 (vb,⟨c,3,⟨q0,q1,q2,q3⟩,y,z⟩)).toArray 47 (0,0))) ⟨HY.out.1.kp (Kp.set (S:=fun k=>k=gr) (g:=gr) (Kp.refl _ Y) (.inl rfl) 20 _) (HY.out.1.m.o8 0 (.int .i64 (wrap64 (s+1)))),Kp.set (S:=fun k=>k=gr) (g:=gr) HY.out.2.1 (.inl rfl) 20 _,bQ HY.out.2.2 HGI.out _⟩ ?_
      clear cs fs b1 HY
      rintro Z ⟨hr,hk,hi⟩
      obtain ⟨arr2,ea⟩:∃ a,a=cB M P 0 [.int .i64 (wrap64 (s+1)),.int .u32 v]:=⟨_,rfl⟩
      have EA:=aa.mk ea
      have HX:aa (LX Z gi gr 106 (vb,⟨c,3,⟨q0,q1,q2,q3⟩,y,z⟩) arr2):=⟨⟨hi,by rw [ea];exact hr.m.me⟩⟩
      rw [←ea] at HBC
      have b1:Z.cell? ⟨gi,1,none⟩=some (.int .i64 3):=(ag hi 1).trans rfl
      have HZ:=aa.mk (And.intro hr hk)
      clear hr hk hi ea
      go_upto_region 9 with (fail)
      clear cf
      refine dR (n:=7) (S:=fun w'=>w'.cell? ⟨gi,2,none⟩=some (.int .u16 q0)∧w'.cell? ⟨gi,3,none⟩=some (.int .u8 q1)∧w'.cell? ⟨gi,4,none⟩=some (.int .u8 q2)∧w'.cell? ⟨gi,5,none⟩=some (.int .u32 q3)) (ds:=[]) #[false,false,false,false,false,false,false] (by kernel_rfl) rfl rfl ⟨((ag (HX.out.below (by repeat (first | (with_reducible exact Below.refl _ _) | apply af | apply ae))).ci 2).trans rfl),((ag (HX.out.below (by repeat (first | (with_reducible exact Below.refl _ _) | apply af | apply ae))).ci 3).trans rfl),((ag (HX.out.below (by repeat (first | (with_reducible exact Below.refl _ _) | apply af | apply ae))).ci 4).trans rfl),((ag (HX.out.below (by repeat (first | (with_reducible exact Below.refl _ _) | apply af | apply ae))).ci 5).trans rfl)⟩ (fun hHeld=>?_)
      refine aH (i:=0) (N:=some 39) (v:=?_) (a':=?_) #[true,false,false,false,false,false,false] rfl rfl (by kernel_rfl) (fun _ _ _ h=>h) (Or.inl ⟨by rfl,?_⟩) ?_ ?_
      rotate_left
      · intro w'
        go_simp
        with_reducible rfl
      rotate_left
      · simp only [Act.put,List.setIfInBounds_toArray,List.set_cons_zero,List.set_cons_succ,ax,ay]
        rfl
      refine aH (i:=1) (N:=some 40) (v:=?_) (a':=?_) #[true,true,false,false,false,false,false] rfl rfl (by kernel_rfl) (fun _ _ _ h=>h) (Or.inl ⟨by rfl,?_⟩) ?_ ?_
      rotate_left
      · intro w'
        go_simp
        with_reducible rfl
      rotate_left
      · simp only [Act.put,List.setIfInBounds_toArray,List.set_cons_zero,List.set_cons_succ,ax,ay]
        rfl
      refine aH (i:=2) (N:=some 41) (v:=?_) (a':=?_) #[true,true,true,false,false,false,false] rfl rfl (by kernel_rfl) (fun _ _ _ h=>h) (Or.inl ⟨by rfl,?_⟩) ?_ ?_
      rotate_left
      · intro w'
        go_simp
        with_reducible rfl
      rotate_left
      · simp only [Act.put,List.setIfInBounds_toArray,List.set_cons_zero,List.set_cons_succ,ax,ay]
        rfl
      refine aH (i:=3) (N:=some 42) (v:=?_) (a':=?_) #[true,true,true,true,false,false,false] rfl rfl (by kernel_rfl) (fun _ _ _ h=>h) (Or.inl ⟨by rfl,?_⟩) ?_ ?_
      rotate_left
      · intro w'
        go_simp
        with_reducible rfl
      rotate_left
      · simp only [Act.put,List.setIfInBounds_toArray,List.set_cons_zero,List.set_cons_succ,ax,ay]
        rfl
      refine aH (i:=4) (N:=some 43) (v:=?_) (a':=?_) #[true,true,true,true,true,false,false] rfl rfl (by kernel_rfl) (fun _ _ _ h=>h) (Or.inl ⟨by rfl,?_⟩) ?_ ?_
      rotate_left
      · intro w'
        go_simp
        with_reducible rfl
      rotate_left
      · simp only [Act.put,List.setIfInBounds_toArray,List.set_cons_zero,List.set_cons_succ,ax,ay]
        rfl
      refine cu (i:=5) (N:=some 44) (v:=?_) (a':=?_) #[true,true,true,true,true,true,false] rfl rfl (by kernel_rfl) (fun _ _ _ h=>h) (Or.inl ⟨by rfl,?_⟩) hHeld ?_ ?_
      rotate_left
      · rintro w' ⟨s0,s1,s2,s3⟩
        go_simp
        with_reducible rfl
      rotate_left
      · simp only [Act.put,List.setIfInBounds_toArray,List.set_cons_zero,List.set_cons_succ,ax,ay]
        rfl
      refine gV (i:=6) (N:=some 45) #[true,true,true,true,true,true,true] rfl rfl (by kernel_rfl) (by decide) (fun K hK=>?_)
      refine gK Try.func121 (by kernel_rfl) rfl #[.pointer (some ⟨gr,0,none⟩),.agg #[.int .u16 q0,.int .u8 q1,.int .u8 q2,.int .u32 q3]] (by rfl) rfl rfl (by simp only [List.map_toArray,List.map_cons,List.map_nil];rfl) ?_
      with_reducible refine (HBC.out _ (HX.out.below (by repeat (first | (with_reducible exact Below.refl _ _) | apply af | apply ae))).cm).mono ?_
      rintro e w3 ⟨rfl,hb3⟩
      refine ⟨_,rfl,?_⟩
      refine hK.out _ _ ⟨((ag (HX.out.below (ak (ae (Below.refl _ _)) hb3)).ci 2).trans rfl),((ag (HX.out.below (ak (ae (Below.refl _ _)) hb3)).ci 3).trans rfl),((ag (HX.out.below (ak (ae (Below.refl _ _)) hb3)).ci 4).trans rfl),((ag (HX.out.below (ak (ae (Below.refl _ _)) hb3)).ci 5).trans rfl)⟩ (fun hHeld=>?_)
      clear hK K
      refine fe (a':=?_) ?_ ?_
      rotate_left
      · show Act.put _ (some 45) _=_
        simp only [Act.put,List.setIfInBounds_toArray,List.set_cons_zero,List.set_cons_succ,ax,ay]
        rfl
      refine dS (by kernel_rfl) ?_
      cases bv
      · have k8:w3.cell? ⟨gi,7,none⟩=some (.int .i64 z):=(ag (HX.out.below (ak (ae (Below.refl _ _)) hb3)).ci 7).trans rfl
        go_wp2
        refine bodyPost_ret (results_tmp2 rfl _ _ _) rfl ?_
        exact ⟨rfl,HZ.out.1.below (ak (ae (Below.refl _ _)) hb3),HZ.out.2.below (ak (ae (Below.refl _ _)) hb3)⟩
      · have k8:w3.cell? ⟨gi,6,none⟩=some (.int .i64 y):=(ag (HX.out.below (ak (ae (Below.refl _ _)) hb3)).ci 6).trans rfl
        go_wp2
        refine bodyPost_ret (results_tmp2 rfl _ _ _) rfl ?_
        exact ⟨rfl,HZ.out.1.below (ak (ae (Below.refl _ _)) hb3),HZ.out.2.below (ak (ae (Below.refl _ _)) hb3)⟩
  · have hfb:(f != 0)=true:=bne_iff_ne.mpr hf
    rw [if_pos hf]
    clear hf
    go_enter Try.func71,Try.ntmps71
    go_wp2
    go_ret2
    exact ⟨rfl,HR.out.below (ai (Below.refl _ _) _),(Kp.refl _ w).below (ai (Below.refl _ _) _)⟩
theorem uX {g:List S47} {pk:List Int} {kq:Nat} {at_:Int} {M:bn} {s v f t:Int} (h:ib g pk (kq+1) at_ M s=some (v,f,t)) (he:∀ b∈g,gG b=true) :
    ∃ (h0:0≤at_) (h1:at_<(g.length:Int)),((dA pk (ah g at_).f0 M s).2.2≠0→v=0∧f=(dA pk (ah g at_).f0 M s).2.2∧t=(dA pk (ah g at_).f0 M s).2.1) ∧
      ((dA pk (ah g at_).f0 M s).2.2=0→∃ l,l=leF (ah g at_) (dA pk (ah g at_).f0 M s).1 0 (dA pk (ah g at_).f0 M s).2.1 0 ∧
        (l.2.1=true→l.2.2.2=0∧ib g pk kq l.1 (dA pk (ah g at_).f0 M s).1 l.2.2.1=some (v,f,t))∧(l.2.1=false→f=0∧t=l.2.2.1∧v=l.2.2.2)):=by
  unfold ib at h
  by_cases hin:0≤at_∧at_<(g.length:Int)
  · rw [if_pos hin] at h
    refine ⟨hin.1,hin.2,?_⟩
    have heb:=tL (he _ (eU hin.1 hin.2))
    dsimp only at h
    generalize ah g at_=b at *
    generalize dA pk b.f0 M s=q at *
    obtain ⟨M1,s1,f1⟩:=q
    dsimp only at h ⊢
    refine ⟨fun hn=>?_,fun h0=>⟨_,rfl,?_⟩⟩
    · rw [if_neg hn] at h
      obtain ⟨rfl,rfl,rfl⟩:(0:Int)=v∧f1=f∧s1=t:=by simpa using h
      exact ⟨rfl,rfl,rfl⟩
    · rw [if_pos h0] at h
      unfold leF
      rw [if_neg (by decide)]
      rcases heb with ⟨e1,hre,-,-,-⟩ | ⟨e2,-,-⟩ | ⟨e3,-,-⟩
      · rw [if_pos e1] at h
        rw [if_neg (by rw [e1];decide),if_pos e1]
        refine ⟨fun hh=>(by cases hh),fun _=>?_⟩
        have h62:b.f2.f0=6∨b.f2.f0=22:=of_decide_eq_true hre
        dsimp only
        rcases h62 with h6 | h6
        · rw [if_pos h6] at h
          obtain ⟨rfl,rfl,rfl⟩:b.f2.f3=v∧(0:Int)=f∧wrap64 (s1+1)=t:=by simpa using h
          rw [if_neg (by rw [h6];decide)];exact ⟨rfl,rfl,rfl⟩
        · rw [if_neg (by rw [h6];decide)] at h
          obtain ⟨rfl,rfl,rfl⟩:M1.a=v∧(0:Int)=f∧wrap64 (s1+1)=t:=by simpa using h
          rw [if_pos h6];exact ⟨rfl,rfl,rfl⟩
      · rw [if_neg (by rw [e2];decide),if_pos e2] at h
        rw [if_pos e2]
        exact ⟨fun _=>⟨rfl,h⟩,fun hh=>(by cases hh)⟩
      · rw [if_neg (by rw [e3];decide),if_neg (by rw [e3];decide)] at h
        rw [if_neg (by rw [e3];decide),if_neg (by rw [e3];decide)]
        by_cases hh:hoP b.f2 M1.a M1.x=true
        · rw [if_pos hh] at h ⊢;exact ⟨fun _=>⟨rfl,h⟩,fun hh=>(by cases hh)⟩
        · rw [if_neg hh] at h ⊢;exact ⟨fun _=>⟨rfl,h⟩,fun hh=>(by cases hh)⟩
  · rw [if_neg hin] at h;cases h
theorem taken_f {g:List S47} (hG:GOk g):dh.f 10000 g=some 0:=by
  obtain ⟨r,hr,he⟩:=gcheck g hG.fit 10000 (Nat.le_refl _)
  unfold dh.f
  rw [hr,Option.bind_some,if_pos (he.2 hG.tk)]
theorem lX (w:World) (g:List S47) (A:Option Addr) (c:Nat) (pk:List Int) (Ap:Option Addr) (cp:Nat) (HG:Kd.C k47 w A g.length g) (hc:g.length≤c) (HP:Kd.C (Kd.int .u8) w Ap pk.length pk) (hcp:pk.length≤cp) (hpk:pk.length≤65536) (hG:GOk g)
    (n:Nat) (v f t:Int) (hr:ib g pk n 0 z16 0=some (v,f,t)) :
    Calls Try.prog 39 #[.slice A g.length c,.slice Ap pk.length cp] w fun e w'=>e = .returned (.tuple #[.agg #[.int .u32 v,.int .i64 f,.int .i64 t],.int .i64 0])∧Below w.heap.size w w':=by
  have hpb:decide (65536<pk.length)=false:=decide_eq_false (by omega)
  have hpb2:decide ((65536:Int)<(pk.length:Int))=false:=decide_eq_false (by omega)
  have HGA:=aa.mk HG
  have HCA:=aa.mk hc
  have HPA:=aa.mk (And.intro HP (And.intro hcp (show pk.length<2 ^ 62 by omega)))
  have HOK:=aa.mk hG
  have HR:=aa.mk hr
  clear HG hc HP hcp hG hr hpk
  go_enter Try.func39,Try.ntmps39
  go_upto_region 7 with (go_at_call 68;refine (dh.calls 10000 A c g 0 _ (Kd.dx HGA.out _) HCA.out (taken_f HOK.out)).mono ?_;rintro e w1 ⟨rfl,hb⟩;have HB1:=aa.mk hb;clear hb)
  refine forget (fun Y=>∃ gv gr,gv=w.heap.size∧gr=w1.heap.size∧Below w.heap.size w Y∧Y.heap[gv]?=some (.cells #[.int .u32 0,.int .i64 0,.int .i64 0] 59 (0,0))∧PM Y gr 106 z16 (.slice Ap pk.length cp) 0 [.int .i64 0,.int .u32 0]∧w.heap.size≤gr∧gv≠gr∧w.heap.size≤gv)
    ⟨_,_,rfl,rfl,ai (ak (ai (Below.refl _ _) _) HB1.out) _,au (au (dY w _) HB1.out) (ai (Below.refl _ _) _),⟨heap_alloc_new _ _,rfl⟩,(ak (ai (Below.refl _ _) _) HB1.out).size,by have:=aZ (au (dY w (.cells #[.int .u32 0,.int .i64 0,.int .i64 0] 59)) HB1.out);omega,Nat.le_refl _⟩ ?_
  rintro Y ⟨gv,gr,egv,egr,hb,hv,hm,hle,hne,hge⟩
  rw [←egv,←egr]
  have HY:=aa.mk (And.intro hb (And.intro hv (And.intro hm (And.intro hle hne))))
  have HGV:=aa.mk hge
  clear egv egr hb hv hm hle hne hge HB1
  go_upto_region 8 with (go_at_call 69;refine (kV Y).mono ?_;rintro e X ⟨gd,arr,rfl,hd,hge,ht,hb⟩;have HT:=aa.mk ht;have HX:=aa.mk (And.intro hd (And.intro hge hb));clear hd hge ht hb)
  have HS:aa (RR w X gr gd arr z16 (.slice Ap pk.length cp) 0 0 0∧X.heap[gv]?=some (.cells #[.int .u32 0,.int .i64 0,.int .i64 0] 59 (0,0))):=⟨⟨HY.out.2.2.1.below HX.out.2.2,HX.out.1,ak HY.out.1 HX.out.2.2,HY.out.2.2.2.1⟩,au HY.out.2.1 HX.out.2.2⟩
  have HNE:=aa.mk HY.out.2.2.2.2
  clear HY HX
  go_wp2
  go_loopg [9,10] n (fun kq v9 v10 wr=>∃ (on:Bool) (at_:Int) (M:bn) (f1 s1 v1:Int),v9 = .int .i64 at_∧v10 = .bool on∧aa (RR w wr gr gd arr M (.slice Ap pk.length cp) f1 s1 v1∧wr.heap[gv]?=some (.cells #[.int .u32 0,.int .i64 0,.int .i64 0] 59 (0,0)))∧aa (on=true→f1=0∧v1=0∧ib g pk kq at_ M s1=some (v,f,t)∧MB M)∧aa (on=false→f1=f∧s1=t∧v1=v))
  case atStart=>exact ⟨true,0,z16,0,0,0,rfl,rfl,HS,⟨fun _=>⟨rfl,rfl,HR.out,⟨Rg.z,Rg.z,(fun j=>by
    show Rg ((List.replicate 16 (0:Int)).getD j 0)
    rw [List.getD_eq_getElem?_getD,List.getElem?_replicate]
    split<;>exact Rg.z),rfl⟩⟩⟩,⟨fun h=>by cases h⟩⟩
  case round=>
    clear HS HR
    obtain ⟨on,at_,M,f1,s1,v1,rfl,rfl,HS,HON,HOFF⟩:=hrel
    obtain ⟨X,rfl⟩:∃ X:World,X=wr:=⟨_,rfl⟩
    cases on with
    | false=>
      obtain ⟨rfl,rfl,rfl⟩:=HOFF.out rfl
      go_upto_region 12 with (fail)
      have HE:=aa.mk HS.out
      have y21:X.cell? ⟨gr,21,none⟩=some (.int .u32 v1):=(ag HS.out.1.m.me 21).trans (jM M _ _ _ HS.out.1.m.len 1)
      have y19:X.cell? ⟨gr,19,none⟩=some (.int .i64 f1):=(ag HS.out.1.m.me 19).trans (oO M _ _ _ HS.out.1.m.len)
      have y20:X.cell? ⟨gr,20,none⟩=some (.int .i64 s1):=(ag HS.out.1.m.me 20).trans (jM M _ _ _ HS.out.1.m.len 0)
      have g0:X.cell? ⟨gv,0,none⟩=some (.int .u32 0):=(ag HS.out.2 0).trans rfl
      have g1:X.cell? ⟨gv,1,none⟩=some (.int .i64 0):=(ag HS.out.2 1).trans rfl
      have g2:X.cell? ⟨gv,2,none⟩=some (.int .i64 0):=(ag HS.out.2 2).trans rfl
      have e0:X.frozen? ⟨gv,0,none⟩=false:=aj HS.out.2 0
      have e1:X.frozen? ⟨gv,1,none⟩=false:=aj HS.out.2 1
      have e2:X.frozen? ⟨gv,2,none⟩=false:=aj HS.out.2 2
      obtain ⟨v,ev⟩:∃ v,v=v1:=⟨_,rfl⟩
      obtain ⟨f,ef⟩:∃ f,f=f1:=⟨_,rfl⟩
      obtain ⟨t,et⟩:∃ t,t=s1:=⟨_,rfl⟩
      subst ev ef et
      refine dR (n:=16) (S:=fun w'=>w'.cell? ⟨gr,21,none⟩=some (.int .u32 v)∧w'.cell? ⟨gr,19,none⟩=some (.int .i64 f)∧w'.cell? ⟨gr,20,none⟩=some (.int .i64 t)∧w'.cell? ⟨gv,0,none⟩=some (.int .u32 0)∧w'.cell? ⟨gv,1,none⟩=some (.int .i64 0)∧w'.cell? ⟨gv,2,none⟩=some (.int .i64 0)∧w'.frozen? ⟨gv,0,none⟩=false∧w'.frozen? ⟨gv,1,none⟩=false∧w'.frozen? ⟨gv,2,none⟩=false) (ds:=[14]) #[false,false,false,false,false,false,false,false,false,false,false,false,false,false,false,false] (by kernel_rfl) rfl rfl ⟨(aI (by repeat (first | (with_reducible exact Below.refl _ _) | apply af | apply ae)) y21),(aI (by repeat (first | (with_reducible exact Below.refl _ _) | apply af | apply ae)) y19),(aI (by repeat (first | (with_reducible exact Below.refl _ _) | apply af | apply ae)) y20),(aI (by repeat (first | (with_reducible exact Below.refl _ _) | apply af | apply ae)) g0),(aI (by repeat (first | (with_reducible exact Below.refl _ _) | apply af | apply ae)) g1),(aI (by repeat (first | (with_reducible exact Below.refl _ _) | apply af | apply ae)) g2),(aj (au HE.out.2 (by repeat (first | (with_reducible exact Below.refl _ _) | apply af | apply ae))) 0),(aj (au HE.out.2 (by repeat (first | (with_reducible exact Below.refl _ _) | apply af | apply ae))) 1),(aj (au HE.out.2 (by repeat (first | (with_reducible exact Below.refl _ _) | apply af | apply ae))) 2)⟩ (fun hHeld=>?_)
      refine aH (i:=0) (N:=some 44) (v:=?_) (a':=?_) #[true,false,false,false,false,false,false,false,false,false,false,false,false,false,false,false] rfl rfl (by kernel_rfl) (fun _ _ _ h=>h) (Or.inl ⟨by rfl,?_⟩) ?_ ?_
      rotate_left
      · intro w'
        go_simp
        with_reducible rfl
      rotate_left
      · simp only [Act.put,List.setIfInBounds_toArray,List.set_cons_zero,List.set_cons_succ,ax,ay]
        rfl
      refine aH (i:=1) (N:=some 45) (v:=?_) (a':=?_) #[true,true,false,false,false,false,false,false,false,false,false,false,false,false,false,false] rfl rfl (by kernel_rfl) (fun _ _ _ h=>h) (Or.inl ⟨by rfl,?_⟩) ?_ ?_
      rotate_left
      · intro w'
        go_simp
        with_reducible rfl
      rotate_left
      · simp only [Act.put,List.setIfInBounds_toArray,List.set_cons_zero,List.set_cons_succ,ax,ay]
        rfl
      refine aH (i:=2) (N:=some 46) (v:=?_) (a':=?_) #[true,true,true,false,false,false,false,false,false,false,false,false,false,false,false,false] rfl rfl (by kernel_rfl) (fun _ _ _ h=>h) (Or.inl ⟨by rfl,?_⟩) ?_ ?_
      rotate_left
      · intro w'
        go_simp
        with_reducible rfl
      rotate_left
      · simp only [Act.put,List.setIfInBounds_toArray,List.set_cons_zero,List.set_cons_succ,ax,ay]
        rfl
      refine aH (i:=4) (N:=some 48) (v:=?_) (a':=?_) #[true,true,true,false,true,false,false,false,false,false,false,false,false,false,false,false] rfl rfl (by kernel_rfl) (fun _ _ _ h=>h) (Or.inl ⟨by rfl,?_⟩) ?_ ?_
      rotate_left
      · intro w'
        go_simp
        with_reducible rfl
      rotate_left
      · simp only [Act.put,List.setIfInBounds_toArray,List.set_cons_zero,List.set_cons_succ,ax,ay]
        rfl
      refine aH (i:=5) (N:=some 49) (v:=?_) (a':=?_) #[true,true,true,false,true,true,false,false,false,false,false,false,false,false,false,false] rfl rfl (by kernel_rfl) (fun _ _ _ h=>h) (Or.inl ⟨by rfl,?_⟩) ?_ ?_
      rotate_left
      · intro w'
        go_simp
        with_reducible rfl
      rotate_left
      · simp only [Act.put,List.setIfInBounds_toArray,List.set_cons_zero,List.set_cons_succ,ax,ay]
        rfl
      refine aH (i:=6) (N:=some 50) (v:=?_) (a':=?_) #[true,true,true,false,true,true,true,false,false,false,false,false,false,false,false,false] rfl rfl (by kernel_rfl) (fun _ _ _ h=>h) (Or.inl ⟨by rfl,?_⟩) ?_ ?_
      rotate_left
      · intro w'
        go_simp
        with_reducible rfl
      rotate_left
      · simp only [Act.put,List.setIfInBounds_toArray,List.set_cons_zero,List.set_cons_succ,ax,ay]
        rfl
      refine aH (i:=7) (N:=some 51) (v:=?_) (a':=?_) #[true,true,true,false,true,true,true,true,false,false,false,false,false,false,false,false] rfl rfl (by kernel_rfl) (fun _ _ _ h=>h) (Or.inl ⟨by rfl,?_⟩) ?_ ?_
      rotate_left
      · intro w'
        go_simp
        with_reducible rfl
      rotate_left
      · simp only [Act.put,List.setIfInBounds_toArray,List.set_cons_zero,List.set_cons_succ,ax,ay]
        rfl
      refine aH (i:=9) (N:=some 53) (v:=?_) (a':=?_) #[true,true,true,false,true,true,true,true,false,true,false,false,false,false,false,false] rfl rfl (by kernel_rfl) (fun _ _ _ h=>h) (Or.inl ⟨by rfl,?_⟩) ?_ ?_
      rotate_left
      · intro w'
        go_simp
        with_reducible rfl
      rotate_left
      · simp only [Act.put,List.setIfInBounds_toArray,List.set_cons_zero,List.set_cons_succ,ax,ay]
        rfl
      refine aH (i:=10) (N:=some 54) (v:=?_) (a':=?_) #[true,true,true,false,true,true,true,true,false,true,true,false,false,false,false,false] rfl rfl (by kernel_rfl) (fun _ _ _ h=>h) (Or.inl ⟨by rfl,?_⟩) ?_ ?_
      rotate_left
      · intro w'
        go_simp
        with_reducible rfl
      rotate_left
      · simp only [Act.put,List.setIfInBounds_toArray,List.set_cons_zero,List.set_cons_succ,ax,ay]
        rfl
      refine aH (i:=11) (N:=some 55) (v:=?_) (a':=?_) #[true,true,true,false,true,true,true,true,false,true,true,true,false,false,false,false] rfl rfl (by kernel_rfl) (fun _ _ _ h=>h) (Or.inl ⟨by rfl,?_⟩) ?_ ?_
      rotate_left
      · intro w'
        go_simp
        with_reducible rfl
      rotate_left
      · simp only [Act.put,List.setIfInBounds_toArray,List.set_cons_zero,List.set_cons_succ,ax,ay]
        rfl
      refine cu (i:=3) (N:=some 47) (v:=?_) (a':=?_) #[true,true,true,true,true,true,true,true,false,true,true,true,false,false,false,false] rfl rfl (by kernel_rfl) (fun _ _ _ h=>h) (Or.inl ⟨by rfl,?_⟩) hHeld ?_ ?_
      rotate_left
      · rintro w' ⟨s0,s1,s2,s3,s4,s5,s6,s7,s8⟩
        go_simp
        with_reducible rfl
      rotate_left
      · simp only [Act.put,List.setIfInBounds_toArray,List.set_cons_zero,List.set_cons_succ,ax,ay]
        rfl
      refine cu (i:=8) (N:=some 52) (v:=?_) (a':=?_) #[true,true,true,true,true,true,true,true,true,true,true,true,false,false,false,false] rfl rfl (by kernel_rfl) (fun _ _ _ h=>h) (Or.inl ⟨by rfl,?_⟩) hHeld ?_ ?_
      rotate_left
      · rintro w' ⟨s0,s1,s2,s3,s4,s5,s6,s7,s8⟩
        go_simp
        with_reducible rfl
      rotate_left
      · simp only [Act.put,List.setIfInBounds_toArray,List.set_cons_zero,List.set_cons_succ,ax,ay]
        rfl
      refine cu (i:=12) (N:=some 56) (v:=?_) (a':=?_) #[true,true,true,true,true,true,true,true,true,true,true,true,true,false,false,false] rfl rfl (by kernel_rfl) (fun _ _ _ h=>h) (Or.inl ⟨by rfl,?_⟩) hHeld ?_ ?_
      rotate_left
      · rintro w' ⟨s0,s1,s2,s3,s4,s5,s6,s7,s8⟩
        go_simp
        with_reducible rfl
      rotate_left
      · simp only [Act.put,List.setIfInBounds_toArray,List.set_cons_zero,List.set_cons_succ,ax,ay]
        rfl
      refine aH (i:=13) (N:=some 57) (v:=?_) (a':=?_) #[true,true,true,true,true,true,true,true,true,true,true,true,true,true,false,false] rfl rfl (by kernel_rfl) (fun _ _ _ h=>h) (Or.inl ⟨by rfl,?_⟩) ?_ ?_
      rotate_left
      · intro w'
        go_simp
        with_reducible rfl
      rotate_left
      · simp only [Act.put,List.setIfInBounds_toArray,List.set_cons_zero,List.set_cons_succ,ax,ay]
        rfl
      refine gL (i:=14) (N:=none) #[true,true,true,true,true,true,true,true,true,true,true,true,true,true,true,false] rfl rfl (by kernel_rfl) (by decide) (fun K hK=>?_)
      refine gX (w1:=?_) (by rfl) rfl ?_ ?_
      rotate_left
      · go_simp
        rfl
      refine hK.out _ _ ?_
      clear hK K
      refine aH (i:=15) (N:=some 5) (v:=?_) (a':=?_) #[true,true,true,true,true,true,true,true,true,true,true,true,true,true,true,true] rfl rfl (by kernel_rfl) (fun _ _ _ h=>h) (Or.inl ⟨by rfl,?_⟩) ?_ ?_
      rotate_left
      · intro w'
        go_simp
        with_reducible rfl
      rotate_left
      · simp only [Act.put,List.setIfInBounds_toArray,List.set_cons_zero,List.set_cons_succ,ax,ay]
        rfl
      refine dS (by kernel_rfl) ?_
      go_wp2
      refine bodyPost_ret (lW rfl _ _ gv 59 #[.int .u32 v,.int .i64 f,.int .i64 t] (0,0) _ rfl (aJ (aJ (aJ (au HE.out.2 (ae (Below.refl _ _))) 0 _ rfl) 1 _ rfl) 2 _ rfl) Try.underlying59 rfl (by kernel_rfl)) rfl ?_
      exact ⟨rfl,bU (bU (bU (ae HE.out.1.low) HGV.out) HGV.out) HGV.out⟩
    | true=>
      obtain ⟨rfl,rfl,hrun,hMB⟩:=HON.out rfl
      cases gk with
      | zero=>exact absurd hrun (by simp [ib])
      | succ kq=>
        obtain ⟨h0,h1,hn,hz⟩:=uX hrun (fun b hb=>by
          obtain ⟨j,hj⟩:=List.getElem?_of_mem hb
          exact (HOK.out.all j b hj).ends)
        obtain ⟨ad,A0,c0,rfl,y0,y1,y2,y3,y4,y5,y6,y7,hl,hic⟩:=iJ HGA.out at_ h0 h1
        have hbb:g[at_.toNat]?=some (ah g at_):=by
          unfold ah
          rw [List.getD_eq_getElem?_getD,List.getElem?_eq_getElem (by omega)];rfl
        have hbk:=HOK.out.all _ _ hbb
        have hlen:=HOK.out.len hbb
        clear hbb hrun HON HOFF
        generalize ah g at_=b at *
        have HSTR:=aa.mk (kY w X gr gd arr M s1 0 b.f0 A0 c0 pk Ap cp HT.out HS.out.1 hMB hic hlen HPA.out.1 HPA.out.2.1 HPA.out.2.2 (fun i hi=>⟨List.all_eq_true.1 hbk.code i hi,hbk.rg i hi⟩))
        obtain ⟨⟨Mf,sf,ff⟩,hq⟩:∃ q,q=dA pk b.f0 M s1:=⟨_,rfl⟩
        rw [←hq] at HSTR hn hz
        dsimp only at HSTR hn hz
        have HNZ:=aa.mk (And.intro hn (And.intro hz hbk.ends))
        have HY:=aa.mk (And.intro y0 (And.intro y1 (And.intro y2 (And.intro y3 (And.intro y4 (And.intro y5 (And.intro y6 y7)))))))
        have x0:=aI HS.out.1.low y0
        clear hn hz hq hbk hlen hic hl hMB y0 y1 y2 y3 y4 y5 y6 y7
        go_upto_region 11 with (go_at_call 70;refine HSTR.out.mono ?_;rintro e w3 ⟨rfl,hK,M3,hR3,hM3⟩;have H3:=aa.mk (And.intro hR3 (And.intro hM3 hK));clear hK hR3 hM3)
        have x1:=aI H3.out.1.low HY.out.1
        have x2:=aI H3.out.1.low HY.out.2.1
        have x3:=aI H3.out.1.low HY.out.2.2.1
        have x4:=aI H3.out.1.low HY.out.2.2.2.1
        have x5:=aI H3.out.1.low HY.out.2.2.2.2.1
        have x6:=aI H3.out.1.low HY.out.2.2.2.2.2.1
        have x7:=aI H3.out.1.low HY.out.2.2.2.2.2.2.1
        have x8:=aI H3.out.1.low HY.out.2.2.2.2.2.2.2
        have HLV:=aa.mk (oK w w3 gr gd arr M3 (.slice Ap pk.length cp) ff sf 0 b (.slice A0 b.f0.length c0) H3.out.1 HNZ.out.2.2)
        have HV3:=aa.mk ((H3.out.2.2.block gv (aZ HS.out.2) HNE.out).trans HS.out.2)
        obtain ⟨⟨l1,lon,ls,lv⟩,el⟩:∃ l,l=leF b M3 ff sf 0:=⟨_,rfl⟩
        rw [←el] at HLV
        dsimp only at HLV
        have HREL:aa ((lon=true→ff=0∧lv=0∧ib g pk kq l1 M3 ls=some (v,f,t)∧MB M3)∧(lon=false→ff=f∧ls=t∧lv=v)):=⟨by
          by_cases hf:ff=0
          · subst hf
            obtain ⟨e3,hm3⟩:=H3.out.2.1 rfl
            subst e3
            obtain ⟨l,e2,ht,hff⟩:=HNZ.out.2.1 rfl
            rw [←el] at e2
            subst e2
            exact ⟨fun h=>⟨rfl,(ht h).1,(ht h).2,hm3⟩,fun h=>⟨(hff h).1.symm,(hff h).2.1.symm,(hff h).2.2.symm⟩⟩
          · obtain ⟨e1,e2,e3⟩:=HNZ.out.1 hf
            unfold leF at el
            rw [if_pos hf] at el
            cases el
            exact ⟨(fun h=>by cases h),fun _=>⟨e2.symm,e3.symm,e1.symm⟩⟩⟩
        clear el HNZ HY HSTR x0 HS
        go_wp2_with (go_at_call 71;refine HLV.out.mono ?_;rintro e w4 ⟨rfl,hR4,hK4⟩;have H4:=aa.mk (And.intro hR4 ((hK4.block gv (aZ HV3.out) HNE.out).trans HV3.out));clear hR4 hK4)
        go_roundg kq
        case measure=>omega
        case rel=>exact ⟨lon,l1,M3,ff,ls,lv,rfl,rfl,H4,⟨HREL.out.1⟩,⟨HREL.out.2⟩⟩
theorem eB (w:World) (e0:Int):Calls Try.prog 141 #[.bool false,.int .i64 e0] w fun e w'=>e = .returned (.int .i64 0)∧w'=w:=by
  go_enter Try.func141,Try.ntmps141
  go_wp2
  go_ret
  exact ⟨rfl,rfl⟩
theorem pE (w:World) (c:Int):Calls Try.prog 145 #[.int .u16 c] w fun e w'=>e = .returned (.bool (decide (c=2∨c=3∨c=96∨c=97)))∧w'=w:=by
  obtain ⟨r,er⟩:∃ r,r=decide (c=2∨c=3∨c=96∨c=97):=⟨_,rfl⟩
  rw [←er]
  by_cases h1:c=2
  · have bq:(c==2)=true:=beq_iff_eq.mpr h1
    obtain rfl:r=true:=by rw [er,h1];rfl
    clear er h1
    go_enter Try.func145,Try.ntmps145
    go_wp2
    go_ret
    exact ⟨rfl,rfl⟩
  have b1:(c==2)=false:=beq_eq_false_iff_ne.mpr h1
  by_cases h2:c=3
  · have bq:(c==3)=true:=beq_iff_eq.mpr h2
    obtain rfl:r=true:=by rw [er,h2];rfl
    clear er h2
    go_enter Try.func145,Try.ntmps145
    go_wp2
    go_ret
    exact ⟨rfl,rfl⟩
  have b2:(c==3)=false:=beq_eq_false_iff_ne.mpr h2
  by_cases h3:c=96
  · have bq:(c==96)=true:=beq_iff_eq.mpr h3
    obtain rfl:r=true:=by rw [er,h3];rfl
    clear er h3
    go_enter Try.func145,Try.ntmps145
    go_wp2
    go_ret
    exact ⟨rfl,rfl⟩
  have b3:(c==96)=false:=beq_eq_false_iff_ne.mpr h3
  by_cases h4:c=97
  · have bq:(c==97)=true:=beq_iff_eq.mpr h4
    obtain rfl:r=true:=by rw [er,h4];rfl
    clear er h4
    go_enter Try.func145,Try.ntmps145
    go_wp2
    go_ret
    exact ⟨rfl,rfl⟩
  have b4:(c==97)=false:=beq_eq_false_iff_ne.mpr h4
  obtain rfl:r=false:=by rw [er];exact decide_eq_false (by omega)
  clear er
  go_enter Try.func145,Try.ntmps145
  go_wp2
  go_ret
  exact ⟨rfl,rfl⟩
def whV:Array Value:=#[.func (.func 141) #[] #[]]
theorem pK (w:World) (gw:Nat) (t cc i1 i2 k:Int) (h:w.heap[gw]?=some (.cells whV 171 (0,0))) (hk:kn cc=true) :
    Calls Try.prog 142 #[.int .i64 t,.agg #[.int .u16 cc,.int .u8 i1,.int .u8 i2,.int .u32 k],.pointer (some ⟨gw,0,none⟩)] w fun e w'=>e = .returned (.int .i64 0)∧Below w.heap.size w w':=by
  have HKN:=aa.mk (by rw [←hk];exact (jk cc 10).1:aG.f 18 cc=some true)
  have H:=aa.mk h
  have hlt:=aZ h
  clear h hk
  go_enter Try.func142,Try.ntmps142
  go_upto_region 1 with (fail)
  refine forget (fun X=>∃ gi,gi=w.heap.size∧Below w.heap.size w X∧BX X gi gw 171 cc i1 i2 k whV) ⟨_,rfl,ai (Below.refl _ _) _,heap_alloc_new _ _,au H.out (ai (Below.refl _ _) _)⟩ ?_
  rintro Y ⟨gi,egi,hb,hx⟩
  rw [←egi]
  have HX:=aa.mk hx
  have HB:=aa.mk hb
  clear egi hb hx H
  refine dR (n:=7) (S:=fun w'=>w'.cell? ⟨gi,0,none⟩=some (.int .u16 cc)∧w'.cell? ⟨gw,0,none⟩=some (.func (.func 141) #[] #[])) (ds:=[]) #[false,false,false,false,false,false,false] (by kernel_rfl) rfl rfl ⟨(HX.out.below (by repeat (first | (with_reducible exact Below.refl _ _) | apply af | apply ae))).k0,((ag (HX.out.below (by repeat (first | (with_reducible exact Below.refl _ _) | apply af | apply ae))).cm 0).trans rfl)⟩ (fun hHeld=>?_)
  refine aH (i:=1) (N:=some 7) (v:=?_) (a':=?_) #[false,true,false,false,false,false,false] rfl rfl (by kernel_rfl) (fun _ _ _ h=>h) (Or.inl ⟨by rfl,?_⟩) ?_ ?_
  rotate_left
  · intro w'
    go_simp
    with_reducible rfl
  rotate_left
  · simp only [Act.put,List.setIfInBounds_toArray,List.set_cons_zero,List.set_cons_succ,ax,ay]
    rfl
  refine cu (i:=0) (N:=some 6) (v:=?_) (a':=?_) #[true,true,false,false,false,false,false] rfl rfl (by kernel_rfl) (fun _ _ _ h=>h) (Or.inl ⟨by rfl,?_⟩) hHeld ?_ ?_
  rotate_left
  · rintro w' ⟨s0,s1⟩
    go_simp
    with_reducible rfl
  rotate_left
  · simp only [Act.put,List.setIfInBounds_toArray,List.set_cons_zero,List.set_cons_succ,ax,ay]
    rfl
  refine cu (i:=2) (N:=some 8) (v:=?_) (a':=?_) #[true,true,true,false,false,false,false] rfl rfl (by kernel_rfl) (fun _ _ _ h=>h) (Or.inl ⟨by rfl,?_⟩) hHeld ?_ ?_
  rotate_left
  · rintro w' ⟨s0,s1⟩
    go_simp
    with_reducible rfl
  rotate_left
  · simp only [Act.put,List.setIfInBounds_toArray,List.set_cons_zero,List.set_cons_succ,ax,ay]
    rfl
  refine gV (i:=3) (N:=some 9) #[true,true,true,true,false,false,false] rfl rfl (by kernel_rfl) (by decide) (fun K hK=>?_)
  refine gK Try.func143 (by kernel_rfl) rfl #[.int .u16 cc] (by rfl) rfl rfl (by simp only [List.map_toArray,List.map_cons,List.map_nil];rfl) ?_
  with_reducible refine (aG.calls _ _ _ _ HKN.out).mono ?_
  rintro e w3 ⟨rfl,⟨nd3,rfl⟩⟩
  refine ⟨_,rfl,?_⟩
  refine hK.out _ _ ⟨(HX.out.below (by repeat (first | (with_reducible exact Below.refl _ _) | apply af | apply ae))).k0,((ag (HX.out.below (by repeat (first | (with_reducible exact Below.refl _ _) | apply af | apply ae))).cm 0).trans rfl)⟩ (fun hHeld=>?_)
  clear hK K
  refine fe (a':=?_) ?_ ?_
  rotate_left
  · show Act.put _ (some 9) _=_
    simp only [Act.put,List.setIfInBounds_toArray,List.set_cons_zero,List.set_cons_succ,ax,ay]
    rfl
  refine aH (i:=4) (N:=some 10) (v:=?_) (a':=?_) #[true,true,true,true,true,false,false] rfl rfl (by kernel_rfl) (fun _ _ _ h=>h) (Or.inl ⟨by rfl,?_⟩) ?_ ?_
  rotate_left
  · intro w'
    go_simp
    with_reducible rfl
  rotate_left
  · simp only [Act.put,List.setIfInBounds_toArray,List.set_cons_zero,List.set_cons_succ,ax,ay]
    rfl
  refine gV (i:=5) (N:=some 11) #[true,true,true,true,true,true,false] rfl rfl (by kernel_rfl) (by decide) (fun K hK=>?_)
  refine j4 6 Try.func141 (by kernel_rfl) rfl #[.bool false,.int .i64 42] (by rfl) rfl rfl rfl (by simp only [List.map_toArray,List.map_cons,List.map_nil];rfl) ?_
  refine (eB _ 42).mono ?_
  rintro e w4 ⟨rfl,rfl⟩
  refine ⟨_,rfl,?_⟩
  refine hK.out _ _ ⟨(HX.out.below (by repeat (first | (with_reducible exact Below.refl _ _) | apply af | apply ae))).k0,((ag (HX.out.below (by repeat (first | (with_reducible exact Below.refl _ _) | apply af | apply ae))).cm 0).trans rfl)⟩ (fun hHeld=>?_)
  clear hK K
  refine fe (a':=?_) ?_ ?_
  rotate_left
  · show Act.put _ (some 11) _=_
    simp only [Act.put,List.setIfInBounds_toArray,List.set_cons_zero,List.set_cons_succ,ax,ay]
    rfl
  refine aH (i:=6) (N:=some 5) (v:=?_) (a':=?_) #[true,true,true,true,true,true,true] rfl rfl (by kernel_rfl) (fun _ _ _ h=>h) (Or.inl ⟨by rfl,?_⟩) ?_ ?_
  rotate_left
  · intro w'
    go_simp
    with_reducible rfl
  rotate_left
  · simp only [Act.put,List.setIfInBounds_toArray,List.set_cons_zero,List.set_cons_succ,ax,ay]
    rfl
  refine dS (by kernel_rfl) ?_
  go_wp2
  go_ret
  exact ⟨rfl,ak HB.out (by repeat (first | (with_reducible exact Below.refl _ _) | apply af | apply ae))⟩
theorem pM (w:World) (gw:Nat) (t cc i1 i2 k:Int) (h:w.heap[gw]?=some (.cells whV 171 (0,0))) (hk:(cc=2∨cc=3∨cc=96∨cc=97)→k<16) :
    Calls Try.prog 144 #[.int .i64 t,.agg #[.int .u16 cc,.int .u8 i1,.int .u8 i2,.int .u32 k],.pointer (some ⟨gw,0,none⟩)] w fun e w'=>e = .returned (.int .i64 0)∧Below w.heap.size w w':=by
  have H:=aa.mk h
  have hlt:=aZ h
  clear h
  have HWC:=aa.mk (fun W=>pE W cc)
  by_cases hc:cc=2∨cc=3∨cc=96∨cc=97
  · rw [decide_eq_true hc] at HWC
    have k16:=hk hc
    have k16b:decide (16≤k)=false:=decide_eq_false (by omega)
    clear hk hc
    go_enter Try.func144,Try.ntmps144
    go_upto_region 1 with (fail)
    refine forget (fun X=>∃ gi,gi=w.heap.size∧Below w.heap.size w X∧BX X gi gw 171 cc i1 i2 k whV) ⟨_,rfl,ai (Below.refl _ _) _,heap_alloc_new _ _,au H.out (ai (Below.refl _ _) _)⟩ ?_
    rintro Y ⟨gi,egi,hb,hx⟩
    rw [←egi]
    have HX:=aa.mk hx
    have HB:=aa.mk hb
    clear egi hb hx H
    refine dR (n:=11) (S:=fun w'=>w'.cell? ⟨gi,0,none⟩=some (.int .u16 cc)∧w'.cell? ⟨gi,3,none⟩=some (.int .u32 k)∧w'.cell? ⟨gw,0,none⟩=some (.func (.func 141) #[] #[])) (ds:=[]) #[false,false,false,false,false,false,false,false,false,false,false] (by kernel_rfl) rfl rfl ⟨(HX.out.below (by repeat (first | (with_reducible exact Below.refl _ _) | apply af | apply ae))).k0,(HX.out.below (by repeat (first | (with_reducible exact Below.refl _ _) | apply af | apply ae))).k3,((ag (HX.out.below (by repeat (first | (with_reducible exact Below.refl _ _) | apply af | apply ae))).cm 0).trans rfl)⟩ (fun hHeld=>?_)
    refine aH (i:=1) (N:=some 7) (v:=?_) (a':=?_) #[false,true,false,false,false,false,false,false,false,false,false] rfl rfl (by kernel_rfl) (fun _ _ _ h=>h) (Or.inl ⟨by rfl,?_⟩) ?_ ?_
    rotate_left
    · intro w'
      go_simp
      with_reducible rfl
    rotate_left
    · simp only [Act.put,List.setIfInBounds_toArray,List.set_cons_zero,List.set_cons_succ,ax,ay]
      rfl
    refine cu (i:=0) (N:=some 6) (v:=?_) (a':=?_) #[true,true,false,false,false,false,false,false,false,false,false] rfl rfl (by kernel_rfl) (fun _ _ _ h=>h) (Or.inl ⟨by rfl,?_⟩) hHeld ?_ ?_
    rotate_left
    · rintro w' ⟨s0,s1,s2⟩
      go_simp
      with_reducible rfl
    rotate_left
    · simp only [Act.put,List.setIfInBounds_toArray,List.set_cons_zero,List.set_cons_succ,ax,ay]
      rfl
    refine cu (i:=2) (N:=some 8) (v:=?_) (a':=?_) #[true,true,true,false,false,false,false,false,false,false,false] rfl rfl (by kernel_rfl) (fun _ _ _ h=>h) (Or.inl ⟨by rfl,?_⟩) hHeld ?_ ?_
    rotate_left
    · rintro w' ⟨s0,s1,s2⟩
      go_simp
      with_reducible rfl
    rotate_left
    · simp only [Act.put,List.setIfInBounds_toArray,List.set_cons_zero,List.set_cons_succ,ax,ay]
      rfl
    refine gV (i:=3) (N:=some 9) #[true,true,true,true,false,false,false,false,false,false,false] rfl rfl (by kernel_rfl) (by decide) (fun K hK=>?_)
    refine gK Try.func145 (by kernel_rfl) rfl #[.int .u16 cc] (by rfl) rfl rfl (by simp only [List.map_toArray,List.map_cons,List.map_nil];rfl) ?_
    with_reducible refine (HWC.out _).mono ?_
    rintro e w3 ⟨rfl,rfl⟩
    refine ⟨_,rfl,?_⟩
    refine hK.out _ _ ⟨(HX.out.below (by repeat (first | (with_reducible exact Below.refl _ _) | apply af | apply ae))).k0,(HX.out.below (by repeat (first | (with_reducible exact Below.refl _ _) | apply af | apply ae))).k3,((ag (HX.out.below (by repeat (first | (with_reducible exact Below.refl _ _) | apply af | apply ae))).cm 0).trans rfl)⟩ (fun hHeld=>?_)
    clear hK K
    refine fe (a':=?_) ?_ ?_
    rotate_left
    · show Act.put _ (some 9) _=_
      simp only [Act.put,List.setIfInBounds_toArray,List.set_cons_zero,List.set_cons_succ,ax,ay]
      rfl
    refine aH (i:=4) (N:=some 10) (v:=?_) (a':=?_) #[true,true,true,true,true,false,false,false,false,false,false] rfl rfl (by kernel_rfl) (fun _ _ _ h=>h) (Or.inl ⟨by rfl,?_⟩) ?_ ?_
    rotate_left
    · intro w'
      go_simp
      with_reducible rfl
    rotate_left
    · simp only [Act.put,List.setIfInBounds_toArray,List.set_cons_zero,List.set_cons_succ,ax,ay]
      rfl
    refine aH (i:=5) (N:=some 11) (v:=?_) (a':=?_) #[true,true,true,true,true,true,false,false,false,false,false] rfl rfl (by kernel_rfl) (fun _ _ _ h=>h) (Or.inl ⟨by rfl,?_⟩) ?_ ?_
    rotate_left
    · intro w'
      go_simp
      with_reducible rfl
    rotate_left
    · simp only [Act.put,List.setIfInBounds_toArray,List.set_cons_zero,List.set_cons_succ,ax,ay]
      rfl
    refine cu (i:=6) (N:=some 12) (v:=?_) (a':=?_) #[true,true,true,true,true,true,true,false,false,false,false] rfl rfl (by kernel_rfl) (fun _ _ _ h=>h) (Or.inl ⟨by rfl,?_⟩) hHeld ?_ ?_
    rotate_left
    · rintro w' ⟨s0,s1,s2⟩
      go_simp
      with_reducible rfl
    rotate_left
    · simp only [Act.put,List.setIfInBounds_toArray,List.set_cons_zero,List.set_cons_succ,ax,ay]
      rfl
    refine aH (i:=7) (N:=some 13) (v:=?_) (a':=?_) #[true,true,true,true,true,true,true,true,false,false,false] rfl rfl (by kernel_rfl) (fun _ _ _ h=>h) (Or.inl ⟨by rfl,?_⟩) ?_ ?_
    rotate_left
    · intro w'
      go_simp
      with_reducible rfl
    rotate_left
    · simp only [Act.put,List.setIfInBounds_toArray,List.set_cons_zero,List.set_cons_succ,ax,ay]
      rfl
    refine aH (i:=8) (N:=some 14) (v:=?_) (a':=?_) #[true,true,true,true,true,true,true,true,true,false,false] rfl rfl (by kernel_rfl) (fun _ _ _ h=>h) (Or.inl ⟨by rfl,?_⟩) ?_ ?_
    rotate_left
    · intro w'
      go_simp
      with_reducible rfl
    rotate_left
    · simp only [Act.put,List.setIfInBounds_toArray,List.set_cons_zero,List.set_cons_succ,ax,ay]
      rfl
    refine gV (i:=9) (N:=some 15) #[true,true,true,true,true,true,true,true,true,true,false] rfl rfl (by kernel_rfl) (by decide) (fun K hK=>?_)
    refine j4 6 Try.func141 (by kernel_rfl) rfl #[.bool false,.int .i64 43] (by rfl) rfl rfl rfl (by simp only [List.map_toArray,List.map_cons,List.map_nil];rfl) ?_
    refine (eB _ 43).mono ?_
    rintro e w4 ⟨rfl,rfl⟩
    refine ⟨_,rfl,?_⟩
    refine hK.out _ _ ⟨(HX.out.below (by repeat (first | (with_reducible exact Below.refl _ _) | apply af | apply ae))).k0,(HX.out.below (by repeat (first | (with_reducible exact Below.refl _ _) | apply af | apply ae))).k3,((ag (HX.out.below (by repeat (first | (with_reducible exact Below.refl _ _) | apply af | apply ae))).cm 0).trans rfl)⟩ (fun hHeld=>?_)
    clear hK K
    refine fe (a':=?_) ?_ ?_
    rotate_left
    · show Act.put _ (some 15) _=_
      simp only [Act.put,List.setIfInBounds_toArray,List.set_cons_zero,List.set_cons_succ,ax,ay]
      rfl
    refine aH (i:=10) (N:=some 5) (v:=?_) (a':=?_) #[true,true,true,true,true,true,true,true,true,true,true] rfl rfl (by kernel_rfl) (fun _ _ _ h=>h) (Or.inl ⟨by rfl,?_⟩) ?_ ?_
    rotate_left
    · intro w'
      go_simp
      with_reducible rfl
    rotate_left
    · simp only [Act.put,List.setIfInBounds_toArray,List.set_cons_zero,List.set_cons_succ,ax,ay]
      rfl
    refine dS (by kernel_rfl) ?_
    go_wp2
    go_ret
    exact ⟨rfl,ak HB.out (by repeat (first | (with_reducible exact Below.refl _ _) | apply af | apply ae))⟩
  · rw [decide_eq_false hc] at HWC
    clear hk hc
    go_enter Try.func144,Try.ntmps144
    go_upto_region 1 with (fail)
    refine forget (fun X=>∃ gi,gi=w.heap.size∧Below w.heap.size w X∧BX X gi gw 171 cc i1 i2 k whV) ⟨_,rfl,ai (Below.refl _ _) _,heap_alloc_new _ _,au H.out (ai (Below.refl _ _) _)⟩ ?_
    rintro Y ⟨gi,egi,hb,hx⟩
    rw [←egi]
    have HX:=aa.mk hx
    have HB:=aa.mk hb
    clear egi hb hx H
    refine dR (n:=11) (S:=fun w'=>w'.cell? ⟨gi,0,none⟩=some (.int .u16 cc)∧w'.cell? ⟨gi,3,none⟩=some (.int .u32 k)∧w'.cell? ⟨gw,0,none⟩=some (.func (.func 141) #[] #[])) (ds:=[]) #[false,false,false,false,false,false,false,false,false,false,false] (by kernel_rfl) rfl rfl ⟨(HX.out.below (by repeat (first | (with_reducible exact Below.refl _ _) | apply af | apply ae))).k0,(HX.out.below (by repeat (first | (with_reducible exact Below.refl _ _) | apply af | apply ae))).k3,((ag (HX.out.below (by repeat (first | (with_reducible exact Below.refl _ _) | apply af | apply ae))).cm 0).trans rfl)⟩ (fun hHeld=>?_)
    refine aH (i:=1) (N:=some 7) (v:=?_) (a':=?_) #[false,true,false,false,false,false,false,false,false,false,false] rfl rfl (by kernel_rfl) (fun _ _ _ h=>h) (Or.inl ⟨by rfl,?_⟩) ?_ ?_
    rotate_left
    · intro w'
      go_simp
      with_reducible rfl
    rotate_left
    · simp only [Act.put,List.setIfInBounds_toArray,List.set_cons_zero,List.set_cons_succ,ax,ay]
      rfl
    refine cu (i:=0) (N:=some 6) (v:=?_) (a':=?_) #[true,true,false,false,false,false,false,false,false,false,false] rfl rfl (by kernel_rfl) (fun _ _ _ h=>h) (Or.inl ⟨by rfl,?_⟩) hHeld ?_ ?_
    rotate_left
    · rintro w' ⟨s0,s1,s2⟩
      go_simp
      with_reducible rfl
    rotate_left
    · simp only [Act.put,List.setIfInBounds_toArray,List.set_cons_zero,List.set_cons_succ,ax,ay]
      rfl
    refine cu (i:=2) (N:=some 8) (v:=?_) (a':=?_) #[true,true,true,false,false,false,false,false,false,false,false] rfl rfl (by kernel_rfl) (fun _ _ _ h=>h) (Or.inl ⟨by rfl,?_⟩) hHeld ?_ ?_
    rotate_left
    · rintro w' ⟨s0,s1,s2⟩
      go_simp
      with_reducible rfl
    rotate_left
    · simp only [Act.put,List.setIfInBounds_toArray,List.set_cons_zero,List.set_cons_succ,ax,ay]
      rfl
    refine gV (i:=3) (N:=some 9) #[true,true,true,true,false,false,false,false,false,false,false] rfl rfl (by kernel_rfl) (by decide) (fun K hK=>?_)
    refine gK Try.func145 (by kernel_rfl) rfl #[.int .u16 cc] (by rfl) rfl rfl (by simp only [List.map_toArray,List.map_cons,List.map_nil];rfl) ?_
    with_reducible refine (HWC.out _).mono ?_
    rintro e w3 ⟨rfl,rfl⟩
    refine ⟨_,rfl,?_⟩
    refine hK.out _ _ ⟨(HX.out.below (by repeat (first | (with_reducible exact Below.refl _ _) | apply af | apply ae))).k0,(HX.out.below (by repeat (first | (with_reducible exact Below.refl _ _) | apply af | apply ae))).k3,((ag (HX.out.below (by repeat (first | (with_reducible exact Below.refl _ _) | apply af | apply ae))).cm 0).trans rfl)⟩ (fun hHeld=>?_)
    clear hK K
    refine fe (a':=?_) ?_ ?_
    rotate_left
    · show Act.put _ (some 9) _=_
      simp only [Act.put,List.setIfInBounds_toArray,List.set_cons_zero,List.set_cons_succ,ax,ay]
      rfl
    refine aH (i:=4) (N:=some 10) (v:=?_) (a':=?_) #[true,true,true,true,true,false,false,false,false,false,false] rfl rfl (by kernel_rfl) (fun _ _ _ h=>h) (Or.inl ⟨by rfl,?_⟩) ?_ ?_
    rotate_left
    · intro w'
      go_simp
      with_reducible rfl
    rotate_left
    · simp only [Act.put,List.setIfInBounds_toArray,List.set_cons_zero,List.set_cons_succ,ax,ay]
      rfl
    refine aH (i:=5) (N:=some 11) (v:=undef) (a':=?_) #[true,true,true,true,true,true,false,false,false,false,false] rfl rfl (by kernel_rfl) (fun _ _ _ h=>h) (Or.inr ⟨by rfl,rfl⟩) ?_ ?_
    rotate_left
    · simp only [Act.put,List.setIfInBounds_toArray,List.set_cons_zero,List.set_cons_succ,ax,ay]
      rfl
    refine aH (i:=6) (N:=some 12) (v:=undef) (a':=?_) #[true,true,true,true,true,true,true,false,false,false,false] rfl rfl (by kernel_rfl) (fun _ _ _ h=>h) (Or.inr ⟨by rfl,rfl⟩) ?_ ?_
    rotate_left
    · simp only [Act.put,List.setIfInBounds_toArray,List.set_cons_zero,List.set_cons_succ,ax,ay]
      rfl
    refine aH (i:=7) (N:=some 13) (v:=undef) (a':=?_) #[true,true,true,true,true,true,true,true,false,false,false] rfl rfl (by kernel_rfl) (fun _ _ _ h=>h) (Or.inr ⟨by rfl,rfl⟩) ?_ ?_
    rotate_left
    · simp only [Act.put,List.setIfInBounds_toArray,List.set_cons_zero,List.set_cons_succ,ax,ay]
      rfl
    refine aH (i:=8) (N:=some 14) (v:=?_) (a':=?_) #[true,true,true,true,true,true,true,true,true,false,false] rfl rfl (by kernel_rfl) (fun _ _ _ h=>h) (Or.inl ⟨by rfl,?_⟩) ?_ ?_
    rotate_left
    · intro w'
      go_simp
      with_reducible rfl
    rotate_left
    · simp only [Act.put,List.setIfInBounds_toArray,List.set_cons_zero,List.set_cons_succ,ax,ay]
      rfl
    refine gV (i:=9) (N:=some 15) #[true,true,true,true,true,true,true,true,true,true,false] rfl rfl (by kernel_rfl) (by decide) (fun K hK=>?_)
    refine j4 6 Try.func141 (by kernel_rfl) rfl #[.bool false,.int .i64 43] (by rfl) rfl rfl rfl (by simp only [List.map_toArray,List.map_cons,List.map_nil];rfl) ?_
    refine (eB _ 43).mono ?_
    rintro e w4 ⟨rfl,rfl⟩
    refine ⟨_,rfl,?_⟩
    refine hK.out _ _ ⟨(HX.out.below (by repeat (first | (with_reducible exact Below.refl _ _) | apply af | apply ae))).k0,(HX.out.below (by repeat (first | (with_reducible exact Below.refl _ _) | apply af | apply ae))).k3,((ag (HX.out.below (by repeat (first | (with_reducible exact Below.refl _ _) | apply af | apply ae))).cm 0).trans rfl)⟩ (fun hHeld=>?_)
    clear hK K
    refine fe (a':=?_) ?_ ?_
    rotate_left
    · show Act.put _ (some 15) _=_
      simp only [Act.put,List.setIfInBounds_toArray,List.set_cons_zero,List.set_cons_succ,ax,ay]
      rfl
    refine aH (i:=10) (N:=some 5) (v:=?_) (a':=?_) #[true,true,true,true,true,true,true,true,true,true,true] rfl rfl (by kernel_rfl) (fun _ _ _ h=>h) (Or.inl ⟨by rfl,?_⟩) ?_ ?_
    rotate_left
    · intro w'
      go_simp
      with_reducible rfl
    rotate_left
    · simp only [Act.put,List.setIfInBounds_toArray,List.set_cons_zero,List.set_cons_succ,ax,ay]
      rfl
    refine dS (by kernel_rfl) ?_
    go_wp2
    go_ret
    exact ⟨rfl,ak HB.out (by repeat (first | (with_reducible exact Below.refl _ _) | apply af | apply ae))⟩
theorem pO (w:World) (gw:Nat) (t cc i1 i2 k:Int) (h:w.heap[gw]?=some (.cells whV 171 (0,0))) (hk:(cc=52∨cc=148)→k≠0) :
    Calls Try.prog 146 #[.int .i64 t,.agg #[.int .u16 cc,.int .u8 i1,.int .u8 i2,.int .u32 k],.pointer (some ⟨gw,0,none⟩)] w fun e w'=>e = .returned (.int .i64 0)∧Below w.heap.size w w':=by
  have H:=aa.mk h
  have hlt:=aZ h
  clear h
  by_cases hc:cc=52∨cc=148
  · have kb:(k==0)=false:=beq_eq_false_iff_ne.mpr (hk hc)
    clear hk
    rcases hc with hc | hc
    · have b1:(cc==52)=true:=beq_iff_eq.mpr hc
      clear hc
      go_enter Try.func146,Try.ntmps146
      go_upto_region 1 with (fail)
      refine forget (fun X=>∃ gi,gi=w.heap.size∧Below w.heap.size w X∧BX X gi gw 171 cc i1 i2 k whV) ⟨_,rfl,ai (Below.refl _ _) _,heap_alloc_new _ _,au H.out (ai (Below.refl _ _) _)⟩ ?_
      rintro Y ⟨gi,egi,hb,hx⟩
      rw [←egi]
      have HX:=aa.mk hx
      have HB:=aa.mk hb
      clear egi hb hx H
      have k0:=HX.out.k0
      have k3:=HX.out.k3
      have kw:Y.cell? ⟨gw,0,none⟩=some (.func (.func 141) #[] #[]):=(ag HX.out.cm 0).trans rfl
      clear HX
      go_wp2_with (go_at_call 141;refine (eB _ 44).mono ?_;rintro e w4 ⟨rfl,rfl⟩)
      go_ret
      exact ⟨rfl,HB.out⟩
    · have b1:(cc==52)=false:=beq_eq_false_iff_ne.mpr (by omega)
      have b2:(cc==148)=true:=beq_iff_eq.mpr hc
      clear hc
      go_enter Try.func146,Try.ntmps146
      go_upto_region 1 with (fail)
      refine forget (fun X=>∃ gi,gi=w.heap.size∧Below w.heap.size w X∧BX X gi gw 171 cc i1 i2 k whV) ⟨_,rfl,ai (Below.refl _ _) _,heap_alloc_new _ _,au H.out (ai (Below.refl _ _) _)⟩ ?_
      rintro Y ⟨gi,egi,hb,hx⟩
      rw [←egi]
      have HX:=aa.mk hx
      have HB:=aa.mk hb
      clear egi hb hx H
      have k0:=HX.out.k0
      have k3:=HX.out.k3
      have kw:Y.cell? ⟨gw,0,none⟩=some (.func (.func 141) #[] #[]):=(ag HX.out.cm 0).trans rfl
      clear HX
      go_wp2_with (go_at_call 141;refine (eB _ 44).mono ?_;rintro e w4 ⟨rfl,rfl⟩)
      go_ret
      exact ⟨rfl,HB.out⟩
  · have b1:(cc==52)=false:=beq_eq_false_iff_ne.mpr (fun e=>hc (.inl e))
    have b2:(cc==148)=false:=beq_eq_false_iff_ne.mpr (fun e=>hc (.inr e))
    clear hk hc
    go_enter Try.func146,Try.ntmps146
    go_upto_region 1 with (fail)
    refine forget (fun X=>∃ gi,gi=w.heap.size∧Below w.heap.size w X∧BX X gi gw 171 cc i1 i2 k whV) ⟨_,rfl,ai (Below.refl _ _) _,heap_alloc_new _ _,au H.out (ai (Below.refl _ _) _)⟩ ?_
    rintro Y ⟨gi,egi,hb,hx⟩
    rw [←egi]
    have HX:=aa.mk hx
    have HB:=aa.mk hb
    clear egi hb hx H
    have k0:=HX.out.k0
    have k3:=HX.out.k3
    have kw:Y.cell? ⟨gw,0,none⟩=some (.func (.func 141) #[] #[]):=(ag HX.out.cm 0).trans rfl
    clear HX
    go_wp2_with (go_at_call 141;refine (eB _ 44).mono ?_;rintro e w4 ⟨rfl,rfl⟩)
    go_ret
    exact ⟨rfl,HB.out⟩
theorem pQ (w:World) (gw:Nat) (t cc i1 i2 k:Int) (h:w.heap[gw]?=some (.cells whV 171 (0,0))) (hk:(cc=100∨cc=116)→k≤31) :
    Calls Try.prog 147 #[.int .i64 t,.agg #[.int .u16 cc,.int .u8 i1,.int .u8 i2,.int .u32 k],.pointer (some ⟨gw,0,none⟩)] w fun e w'=>e = .returned (.int .i64 0)∧Below w.heap.size w w':=by
  have H:=aa.mk h
  have hlt:=aZ h
  clear h
  by_cases hc:cc=100∨cc=116
  · have kb:decide (31<k)=false:=decide_eq_false (by have:=hk hc;omega)
    clear hk
    rcases hc with hc | hc
    · have b1:(cc==100)=true:=beq_iff_eq.mpr hc
      clear hc
      go_enter Try.func147,Try.ntmps147
      go_upto_region 1 with (fail)
      refine forget (fun X=>∃ gi,gi=w.heap.size∧Below w.heap.size w X∧BX X gi gw 171 cc i1 i2 k whV) ⟨_,rfl,ai (Below.refl _ _) _,heap_alloc_new _ _,au H.out (ai (Below.refl _ _) _)⟩ ?_
      rintro Y ⟨gi,egi,hb,hx⟩
      rw [←egi]
      have HX:=aa.mk hx
      have HB:=aa.mk hb
      clear egi hb hx H
      have k0:=HX.out.k0
      have k3:=HX.out.k3
      have kw:Y.cell? ⟨gw,0,none⟩=some (.func (.func 141) #[] #[]):=(ag HX.out.cm 0).trans rfl
      clear HX
      go_wp2_with (go_at_call 141;refine (eB _ 45).mono ?_;rintro e w4 ⟨rfl,rfl⟩)
      go_ret
      exact ⟨rfl,HB.out⟩
    · have b1:(cc==100)=false:=beq_eq_false_iff_ne.mpr (by omega)
      have b2:(cc==116)=true:=beq_iff_eq.mpr hc
      clear hc
      go_enter Try.func147,Try.ntmps147
      go_upto_region 1 with (fail)
      refine forget (fun X=>∃ gi,gi=w.heap.size∧Below w.heap.size w X∧BX X gi gw 171 cc i1 i2 k whV) ⟨_,rfl,ai (Below.refl _ _) _,heap_alloc_new _ _,au H.out (ai (Below.refl _ _) _)⟩ ?_
      rintro Y ⟨gi,egi,hb,hx⟩
      rw [←egi]
      have HX:=aa.mk hx
      have HB:=aa.mk hb
      clear egi hb hx H
      have k0:=HX.out.k0
      have k3:=HX.out.k3
      have kw:Y.cell? ⟨gw,0,none⟩=some (.func (.func 141) #[] #[]):=(ag HX.out.cm 0).trans rfl
      clear HX
      go_wp2_with (go_at_call 141;refine (eB _ 45).mono ?_;rintro e w4 ⟨rfl,rfl⟩)
      go_ret
      exact ⟨rfl,HB.out⟩
  · have b1:(cc==100)=false:=beq_eq_false_iff_ne.mpr (fun e=>hc (.inl e))
    have b2:(cc==116)=false:=beq_eq_false_iff_ne.mpr (fun e=>hc (.inr e))
    clear hk hc
    go_enter Try.func147,Try.ntmps147
    go_upto_region 1 with (fail)
    refine forget (fun X=>∃ gi,gi=w.heap.size∧Below w.heap.size w X∧BX X gi gw 171 cc i1 i2 k whV) ⟨_,rfl,ai (Below.refl _ _) _,heap_alloc_new _ _,au H.out (ai (Below.refl _ _) _)⟩ ?_
    rintro Y ⟨gi,egi,hb,hx⟩
    rw [←egi]
    have HX:=aa.mk hx
    have HB:=aa.mk hb
    clear egi hb hx H
    have k0:=HX.out.k0
    have k3:=HX.out.k3
    have kw:Y.cell? ⟨gw,0,none⟩=some (.func (.func 141) #[] #[]):=(ag HX.out.cm 0).trans rfl
    clear HX
    go_wp2_with (go_at_call 141;refine (eB _ 45).mono ?_;rintro e w4 ⟨rfl,rfl⟩)
    go_ret
    exact ⟨rfl,HB.out⟩
theorem nC (w:World) (cc i1 i2 k left:Int) (hk:Rg k) (hl0:0≤left) (hl1:left<5000) (h5:cc=5→k<left) (hj:jmB cc=true→0≤i1∧i1<left∧0≤i2∧i2<left) :
    Calls Try.prog 149 #[.agg #[.int .u16 cc,.int .u8 i1,.int .u8 i2,.int .u32 k],.int .i64 left] w fun e w'=>e = .returned (.bool false)∧Below w.heap.size w w':=by
  have HCL:=aa.mk (fun W=>bK.calls 18 cc _ W (iL cc 10).1)
  have hk0:=hk.1
  have hk1:=hk.2
  have hcj:=fA cc
  obtain ⟨v,ev⟩:∃ v,v=eF cc:=⟨_,rfl⟩
  rw [←ev] at HCL hcj
  clear ev hk
  by_cases c5:v=5
  · have b5:(v != 5)=false:=by rw [c5];rfl
    rcases hcj.1 c5 with e5 | ej
    · have h5k:=h5 e5
      have b5c:(cc==5)=true:=by rw [e5];rfl
      have bk:decide (left≤k)=false:=decide_eq_false (by omega)
      clear h5 hj hcj c5 e5
      go_enter Try.func149,Try.ntmps149
      go_wp2_with (go_at_call 99;refine (HCL.out _).mono ?_;rintro e w' ⟨rfl,⟨nd,rfl⟩⟩)
      go_ret
      exact ⟨rfl,af (ai (Below.refl _ _) _) _⟩
    · obtain ⟨a1,a2,a3,a4⟩:=hj ej
      have b5c:(cc==5)=false:=beq_eq_false_iff_ne.mpr (nQ ej)
      have bi:decide (left≤i1)=false:=decide_eq_false (by omega)
      have bj:decide (left≤i2)=false:=decide_eq_false (by omega)
      clear h5 hj hcj c5
      go_enter Try.func149,Try.ntmps149
      go_wp2_with (go_at_call 99;refine (HCL.out _).mono ?_;rintro e w' ⟨rfl,⟨nd,rfl⟩⟩)
      go_ret
      exact ⟨rfl,af (ai (Below.refl _ _) _) _⟩
  · have b5:(v != 5)=true:=bne_iff_ne.mpr c5
    clear h5 hj hcj c5
    go_enter Try.func149,Try.ntmps149
    go_wp2_with (go_at_call 99;refine (HCL.out _).mono ?_;rintro e w' ⟨rfl,⟨nd,rfl⟩⟩)
    go_ret
    exact ⟨rfl,af (ai (Below.refl _ _) _) _⟩
theorem pR (w:World) (gw gn:Nat) (n t cc i1 i2 k:Int) (h:w.heap[gw]?=some (.cells whV 171 (0,0))) (hn0:w.heap[gn]?=some (.cells #[.int .i64 n] 3 (0,0))) (hn:n≤4096) (ht0:0≤t) (ht:t<n) (hk:Rg k) (h5:cc=5→k<n - 1 - t) (hj:jmB cc=true→0≤i1∧i1<n - 1 - t∧0≤i2∧i2<n - 1 - t) :
    Calls Try.prog 148 #[.int .i64 t,.agg #[.int .u16 cc,.int .u8 i1,.int .u8 i2,.int .u32 k],.pointer (some ⟨gw,0,none⟩),.pointer (some ⟨gn,0,none⟩)] w fun e w'=>e = .returned (.int .i64 0)∧Below w.heap.size w w':=by
  have HAC:=aa.mk (fun W=>nC W cc i1 i2 k (n - 1 - t) hk (by omega) (by omega) h5 hj)
  rw [show n - 1 - t=wrap64 (wrap64 (n - 1) - t) by rw [w64 (n:=n - 1) (by omega) (by omega),w64 (n:=n - 1 - t) (by omega) (by omega)]] at HAC
  have H:=aa.mk (And.intro h hn0)
  have hlt:=aZ h
  have hlt2:=aZ hn0
  clear h hn0 hk h5 hj
  go_enter Try.func148,Try.ntmps148
  go_upto_region 1 with (fail)
  refine forget (fun X=>∃ gi,gi=w.heap.size∧Below w.heap.size w X∧BX X gi gw 171 cc i1 i2 k whV∧X.heap[gn]?=some (.cells #[.int .i64 n] 3 (0,0))) ⟨_,rfl,ai (Below.refl _ _) _,⟨heap_alloc_new _ _,au H.out.1 (ai (Below.refl _ _) _)⟩,au H.out.2 (ai (Below.refl _ _) _)⟩ ?_
  rintro Y ⟨gi,egi,hb,hx,hnn⟩
  rw [←egi]
  have HX:=aa.mk hx
  have HB:=aa.mk hb
  have hn:Y.cell? ⟨gn,0,none⟩=some (.int .i64 n):=(ag hnn 0).trans rfl
  clear egi hb hx hnn H
  refine dR (n:=9) (S:=fun w'=>w'.cell? ⟨gi,0,none⟩=some (.int .u16 cc)∧w'.cell? ⟨gi,1,none⟩=some (.int .u8 i1)∧w'.cell? ⟨gi,2,none⟩=some (.int .u8 i2)∧w'.cell? ⟨gi,3,none⟩=some (.int .u32 k)∧w'.cell? ⟨gw,0,none⟩=some (.func (.func 141) #[] #[])∧w'.cell? ⟨gn,0,none⟩=some (.int .i64 n)) (ds:=[]) #[false,false,false,false,false,false,false,false,false] (by kernel_rfl) rfl rfl ⟨(HX.out.below (by repeat (first | (with_reducible exact Below.refl _ _) | apply af | apply ae))).k0,(HX.out.below (by repeat (first | (with_reducible exact Below.refl _ _) | apply af | apply ae))).k1,(HX.out.below (by repeat (first | (with_reducible exact Below.refl _ _) | apply af | apply ae))).k2,(HX.out.below (by repeat (first | (with_reducible exact Below.refl _ _) | apply af | apply ae))).k3,((ag (HX.out.below (by repeat (first | (with_reducible exact Below.refl _ _) | apply af | apply ae))).cm 0).trans rfl),(aI (by repeat (first | (with_reducible exact Below.refl _ _) | apply af | apply ae)) hn)⟩ (fun hHeld=>?_)
  refine aH (i:=4) (N:=some 11) (v:=?_) (a':=?_) #[false,false,false,false,true,false,false,false,false] rfl rfl (by kernel_rfl) (fun _ _ _ h=>h) (Or.inl ⟨by rfl,?_⟩) ?_ ?_
  rotate_left
  · intro w'
    go_simp
    with_reducible rfl
  rotate_left
  · simp only [Act.put,List.setIfInBounds_toArray,List.set_cons_zero,List.set_cons_succ,ax,ay]
    rfl
  refine cu (i:=0) (N:=some 7) (v:=?_) (a':=?_) #[true,false,false,false,true,false,false,false,false] rfl rfl (by kernel_rfl) (fun _ _ _ h=>h) (Or.inl ⟨by rfl,?_⟩) hHeld ?_ ?_
  rotate_left
  · rintro w' ⟨s0,s1,s2,s3,s4,s5⟩
    go_simp
    with_reducible rfl
  rotate_left
  · simp only [Act.put,List.setIfInBounds_toArray,List.set_cons_zero,List.set_cons_succ,ax,ay]
    rfl
  refine cu (i:=1) (N:=some 8) (v:=?_) (a':=?_) #[true,true,false,false,true,false,false,false,false] rfl rfl (by kernel_rfl) (fun _ _ _ h=>h) (Or.inl ⟨by rfl,?_⟩) hHeld ?_ ?_
  rotate_left
  · rintro w' ⟨s0,s1,s2,s3,s4,s5⟩
    go_simp
    with_reducible rfl
  rotate_left
  · simp only [Act.put,List.setIfInBounds_toArray,List.set_cons_zero,List.set_cons_succ,ax,ay]
    rfl
  refine cu (i:=2) (N:=some 9) (v:=?_) (a':=?_) #[true,true,true,false,true,false,false,false,false] rfl rfl (by kernel_rfl) (fun _ _ _ h=>h) (Or.inl ⟨by rfl,?_⟩) hHeld ?_ ?_
  rotate_left
  · rintro w' ⟨s0,s1,s2,s3,s4,s5⟩
    go_simp
    with_reducible rfl
  rotate_left
  · simp only [Act.put,List.setIfInBounds_toArray,List.set_cons_zero,List.set_cons_succ,ax,ay]
    rfl
  refine aH (i:=3) (N:=some 10) (v:=?_) (a':=?_) #[true,true,true,true,true,false,false,false,false] rfl rfl (by kernel_rfl) (fun _ _ _ h=>h) (Or.inl ⟨by rfl,?_⟩) ?_ ?_
  rotate_left
  · intro w'
    go_simp
    with_reducible rfl
  rotate_left
  · simp only [Act.put,List.setIfInBounds_toArray,List.set_cons_zero,List.set_cons_succ,ax,ay]
    rfl
  refine aH (i:=5) (N:=some 12) (v:=?_) (a':=?_) #[true,true,true,true,true,true,false,false,false] rfl rfl (by kernel_rfl) (fun _ _ _ h=>h) (Or.inl ⟨by rfl,?_⟩) ?_ ?_
  rotate_left
  · intro w'
    go_simp
    with_reducible rfl
  rotate_left
  · simp only [Act.put,List.setIfInBounds_toArray,List.set_cons_zero,List.set_cons_succ,ax,ay]
    rfl
  refine gV (i:=6) (N:=some 13) #[true,true,true,true,true,true,true,false,false] rfl rfl (by kernel_rfl) (by decide) (fun K hK=>?_)
  refine gK Try.func149 (by kernel_rfl) rfl #[.agg #[.int .u16 cc,.int .u8 i1,.int .u8 i2,.int .u32 k],.int .i64 (wrap64 (wrap64 (n - 1) - t))] (by rfl) rfl rfl (by simp only [List.map_toArray,List.map_cons,List.map_nil];rfl) ?_
  with_reducible refine (HAC.out _).mono ?_
  rintro e w3 ⟨rfl,hb3⟩
  refine ⟨_,rfl,?_⟩
  refine hK.out _ _ ⟨(HX.out.below (ak (ae (Below.refl _ _)) hb3)).k0,(HX.out.below (ak (ae (Below.refl _ _)) hb3)).k1,(HX.out.below (ak (ae (Below.refl _ _)) hb3)).k2,(HX.out.below (ak (ae (Below.refl _ _)) hb3)).k3,((ag (HX.out.below (ak (ae (Below.refl _ _)) hb3)).cm 0).trans rfl),(aI (ak (ae (Below.refl _ _)) hb3) hn)⟩ (fun hHeld=>?_)
  clear hK K
  refine fe (a':=?_) ?_ ?_
  rotate_left
  · show Act.put _ (some 13) _=_
    simp only [Act.put,List.setIfInBounds_toArray,List.set_cons_zero,List.set_cons_succ,ax,ay]
    rfl
  refine gV (i:=7) (N:=some 14) #[true,true,true,true,true,true,true,true,false] rfl rfl (by kernel_rfl) (by decide) (fun K hK=>?_)
  refine j4 7 Try.func141 (by kernel_rfl) rfl #[.bool false,.int .i64 46] (by rfl) rfl rfl rfl (by simp only [List.map_toArray,List.map_cons,List.map_nil];rfl) ?_
  refine (eB _ 46).mono ?_
  rintro e w4 ⟨rfl,rfl⟩
  refine ⟨_,rfl,?_⟩
  refine hK.out _ _ ⟨(HX.out.below (ak (ae (Below.refl _ _)) hb3)).k0,(HX.out.below (ak (ae (Below.refl _ _)) hb3)).k1,(HX.out.below (ak (ae (Below.refl _ _)) hb3)).k2,(HX.out.below (ak (ae (Below.refl _ _)) hb3)).k3,((ag (HX.out.below (ak (ae (Below.refl _ _)) hb3)).cm 0).trans rfl),(aI (ak (ae (Below.refl _ _)) hb3) hn)⟩ (fun hHeld=>?_)
  clear hK K
  refine fe (a':=?_) ?_ ?_
  rotate_left
  · show Act.put _ (some 14) _=_
    simp only [Act.put,List.setIfInBounds_toArray,List.set_cons_zero,List.set_cons_succ,ax,ay]
    rfl
  refine aH (i:=8) (N:=some 6) (v:=?_) (a':=?_) #[true,true,true,true,true,true,true,true,true] rfl rfl (by kernel_rfl) (fun _ _ _ h=>h) (Or.inl ⟨by rfl,?_⟩) ?_ ?_
  rotate_left
  · intro w'
    go_simp
    with_reducible rfl
  rotate_left
  · simp only [Act.put,List.setIfInBounds_toArray,List.set_cons_zero,List.set_cons_succ,ax,ay]
    rfl
  refine dS (by kernel_rfl) ?_
  go_wp2
  go_ret
  exact ⟨rfl,ak HB.out (ak (ae (Below.refl _ _)) hb3)⟩
end Go.Proofs.Ytdkalnkplgfgoaa.Ln
