/- Lemmas and walks for the statements of the texts ZPZ..: the declarations that they need, taken together by a program of this session. Conditions: as each says. -/
import Derived.WalkMore
import Derived.Test.YtdkalnkplgfgoaaZPb
import Derived.Test.YtdkalnkplgfgoaaZPc
import Derived.Test.YtdkalnkplgfgoaaZPd
import Derived.Test.YtdkalnkplgfgoaaZPe
import Derived.Test.YtdkalnkplgfgoaaZPg
import Derived.Test.YtdkalnkplgfgoaaZPi
namespace Go.Proofs.Ytdkalnkplgfgoaa.Ln
open Go.RowKit Go.Maps Go.Proofs.YtdkalnkplgfgoaaW.PrintWords Go.Proofs.YtdkalnkplgfgoaaW.PrintLast Go.Proofs.YtdkalnkplgfgoaaW.PrintMore Go.Proofs.Ytdkalnkplgfgoaa.PA
set_option linter.unusedVariables false
set_option linter.unusedSimpArgs false
def testI (b : S47) (PL : Int → Int) (f : Bool × Bool) (here : Int) : S45 :=
  ⟨b.f2.f0, if f.1 then 0 else IntKind.u8.wrap (wrap64 (PL b.f3 - here)), if f.2 then (if f.1 then 1 else 0) else IntKind.u8.wrap (wrap64 (PL b.f4 - here)), b.f2.f3⟩
def jas (b : S47) (PL : Int → Int) (f : Bool × Bool) (code : List S45) : List S45 :=
  let c1 := if f.1 then code ++ [jaI (PL b.f3) (code.length : Int)] else code
  if f.2 then c1 ++ [jaI (PL b.f4) (c1.length : Int)] else c1
def testC (b : S47) (PL : Int → Int) (f : Bool × Bool) (code : List S45) : List S45 := jas b PL f (code ++ [testI b PL f ((code.length : Int) + 1)])
theorem new2 (w : World) (o1 o2 : Obj) : ((w.alloc o1).alloc o2).heap[w.heap.size + 1]? = some o2 := by
  have := blk_new (w.alloc o1) o2
  rwa [World.size_alloc] at this
theorem new3 (w : World) (o1 o2 o3 : Obj) : (((w.alloc o1).alloc o2).alloc o3).heap[w.heap.size + 1 + 1]? = some o3 := by
  have := blk_new ((w.alloc o1).alloc o2) o3
  rwa [World.size_alloc, World.size_alloc] at this
theorem Ws.stay {w0 w w1 : World} {g : List S47} {A : Option Addr} {c B : Nat} {vc vo : Value} {code : List S45} {order : List Int} {bA bF bP nA nF nP : Nat} {after PL : Int → Int} {fars : Int → Bool × Bool}
    (H : Ws w0 w g A c B vc vo code order bA bF bP nA nF nP after PL fars) (hb : Below w.heap.size w w1) : Ws w0 w1 g A c B vc vo code order bA bF bP nA nF nP after PL fars :=
  ⟨H.me.stay hb, Kd.R_below H.code hb, H.mP.below hb, H.hP⟩
theorem Ws.loc {w0 w w1 : World} {g : List S47} {A : Option Addr} {c B G : Nat} {vc vo : Value} {code : List S45} {order : List Int} {bA bF bP nA nF nP : Nat} {after PL : Int → Int} {fars : Int → Bool × Bool}
    (H : Ws w0 w g A c B vc vo code order bA bF bP nA nF nP after PL fars) (kp : Kp (fun k => k = B ∨ some k = vc.ownBlock) w w1) {cs : Array Value} {t : TypeId} (h : w.heap[G]? = some (.cells cs t (0, 0))) (h1 : t ≠ 72) (h2 : t ≠ 45) :
    w1.heap[G]? = some (.cells cs t (0, 0)) := by
  refine (kp.block G (blk_lt h) ?_).trans h
  rintro (rfl | e)
  · rw [H.me.blk] at h
    injection h with h
    injection h with _ h
    exact h1 h.symm
  · exact Kd.R_ne H.code h (Ne.symm h2) e
theorem testC_eq {blk : S47} {PL : Int → Int} {q f : Bool × Bool} {code : List S45} {T : S45} (h : T = testI blk PL q ((code.length : Int) + 1)) (hf : q = f) : testC blk PL f code = jas blk PL f (code ++ [T]) := by rw [h, hf]; rfl
set_option maxHeartbeats 4000000 in
set_option maxRecDepth 100000 in
theorem test_calls (w0 w : World) (g : List S47) (A A0 : Option Addr) (c c0 B : Nat) (vc vo : Value) (code : List S45) (order : List Int) (bA bF bP nA nF nP : Nat) (after PL : Int → Int) (fars : Int → Bool × Bool)
    (H : Ws w0 w g A c B vc vo code order bA bF bP nA nF nP after PL fars) (i : Int) (hi : i ∈ order) (blk : S47) (hb : rd_T47 g i = blk) (hn : (code.length + 3) * 8 ≤ 140737488355328) :
    Calls Try.prog 79 #[.pointer (some ⟨B, 0, none⟩), .int .i64 i, .agg #[.slice A0 blk.f0.length c0, .int .i64 blk.f1, .int .u16 blk.f2.f0, .int .u8 blk.f2.f1, .int .u8 blk.f2.f2, .int .u32 blk.f2.f3, .int .i64 blk.f3, .int .i64 blk.f4]] w fun e w' =>
      e = .returned (.tuple #[]) ∧ ∃ vc', Ws w0 w' g A c B vc' vo (testC blk PL (fars i) code) order bA bF bP nA nF nP after PL fars := by
  have b0 : w.cell? ⟨B, 0, none⟩ = some vc := (blk_cell H.me.blk 0).trans rfl
  have b4 : w.cell? ⟨B, 4, none⟩ = some (.map (some bP)) := (blk_cell H.me.blk 4).trans rfl
  have b5 : w.cell? ⟨B, 5, none⟩ = some (.map (some bF)) := (blk_cell H.me.blk 5).trans rfl
  have hBl := blk_lt H.me.blk
  have hBl1 : B < w.heap.size + 1 := by omega
  have hBl2 : B < w.heap.size + 1 + 1 := by omega
  obtain ⟨hi0, hi1⟩ := H.me.ordin i hi
  obtain ⟨hwy, hwn⟩ := H.me.goin i hi
  rw [hb] at hwy hwn
  have hwf : (Lit.int .i64 i).wf = true := WalkArith.wf_i64 (by have := Kd.C_max H.me.graph; omega)
  have lF : ∀ o, (Instr.lookup 67 (.map (some bF)) (.int .i64 i) false).run Try.prog (w.alloc o) = .ok (.agg #[.bool (fars i).1, .bool (fars i).2]) (w.alloc o) := fun o => MF_look (H.me.mF.below (below_alloc (Below.refl _ _) o)) i hwf
  obtain ⟨Ac, cc, rfl, hcc, hC⟩ := Kd.R_reads H.code
  have hu := Try.underlying26
  have HH := Aside0.mk H
  have hlc : code.length ≤ 9223372036854775807 := Kd.C_max hC
  clear H hC hb hi
  generalize hfi : fars i = fi at *
  have Hfi := Aside0.mk hfi
  clear hfi
  obtain ⟨fy, fn⟩ := fi
  dsimp only at lF
  go_enter Try.func79, Try.ntmps79
  go_wp2
  refine forget (fun W => Below w.heap.size w W ∧ W.heap[w.heap.size]? = some (.cells #[.slice A0 blk.f0.length c0, .int .i64 blk.f1, .int .u16 blk.f2.f0, .int .u8 blk.f2.f1, .int .u8 blk.f2.f2, .int .u32 blk.f2.f3, .int .i64 blk.f3, .int .i64 blk.f4] 47 (0, 0)) ∧ W.heap[w.heap.size + 1]? = some (.cells #[.bool fy, .bool fn] 121 (0, 0)) ∧ W.heap[w.heap.size + 1 + 1]? = some (.cells #[.int .u16 blk.f2.f0, .int .u8 blk.f2.f1, .int .u8 blk.f2.f2, .int .u32 blk.f2.f3] 45 (0, 0))) ⟨below_alloc (below_alloc (below_alloc (Below.refl _ _) _) _) _, blk_alloc (blk_alloc (blk_new _ _) _) _, blk_alloc (new2 _ _ _) _, new3 _ _ _ _⟩ ?_
  rintro W ⟨hb, hO, hF, hI⟩
  have u4 : W.cell? ⟨B, 4, none⟩ = some (.map (some bP)) := pw_cell_below hb b4
  have u6 : W.cell? ⟨w.heap.size, 6, none⟩ = some (.int .i64 blk.f3) := (blk_cell hO 6).trans rfl
  have u7 : W.cell? ⟨w.heap.size, 7, none⟩ = some (.int .i64 blk.f4) := (blk_cell hO 7).trans rfl
  have i1 : W.cell? ⟨w.heap.size + 1 + 1, 1, none⟩ = some (.int .u8 blk.f2.f1) := (blk_cell hI 1).trans rfl
  have i2 : W.cell? ⟨w.heap.size + 1 + 1, 2, none⟩ = some (.int .u8 blk.f2.f2) := (blk_cell hI 2).trans rfl
  have i1f := blk_frozen hI 1
  have i2f := blk_frozen hI 2
  have lY : (Instr.lookup 66 (.map (some bP)) (.int .i64 blk.f3) false).run Try.prog W.drew = .ok (.int .i64 (PL blk.f3)) W.drew := MI_look (HH.out.mP.below (below_drew1 hb)) blk.f3 hwy
  have lN : (Instr.lookup 66 (.map (some bP)) (.int .i64 blk.f4) false).run Try.prog W.drew = .ok (.int .i64 (PL blk.f4)) W.drew := MI_look (HH.out.mP.below (below_drew1 hb)) blk.f4 hwn
  have Keep4 : Aside0 (∀ W', Kp (fun k => k = w.heap.size + 1 + 1) W W' → (W'.cell? ⟨B, 4, none⟩ = some (.map (some bP)) ∧ W'.cell? ⟨w.heap.size, 6, none⟩ = some (.int .i64 blk.f3) ∧ W'.cell? ⟨w.heap.size, 7, none⟩ = some (.int .i64 blk.f4) ∧
      (Instr.lookup 66 (.map (some bP)) (.int .i64 blk.f3) false).run Try.prog W' = .ok (.int .i64 (PL blk.f3)) W' ∧ (Instr.lookup 66 (.map (some bP)) (.int .i64 blk.f4) false).run Try.prog W' = .ok (.int .i64 (PL blk.f4)) W')) := by
    refine ⟨fun W' kp => ?_⟩
    have hlt : B < W.heap.size := Nat.lt_of_lt_of_le hBl hb.size
    have hB' : W'.heap[B]? = _ := (kp.block B hlt (by omega)).trans (blk_below HH.out.me.blk hb)
    have hO' : W'.heap[w.heap.size]? = _ := (kp.block _ (blk_lt hO) (by omega)).trans hO
    have hm := HH.out.mP.below hb
    have hm' := hm.move (kp.block bP hm.lt (by have := HH.out.mP.lt; omega))
    exact ⟨(blk_cell hB' 4).trans rfl, (blk_cell hO' 6).trans rfl, (blk_cell hO' 7).trans rfl, MI_look hm' blk.f3 hwy, MI_look hm' blk.f4 hwn⟩
  have Hb := Aside0.mk hb
  have HO := Aside0.mk hO
  have HF := Aside0.mk hF
  have HI := Aside0.mk hI
  clear hb hO hF hI b0 b4 b5 lF
  refine start_ (n := 24) (S := fun w' => w'.cell? ⟨B, 4, none⟩ = some (.map (some bP)) ∧ w'.cell? ⟨w.heap.size, 6, none⟩ = some (.int .i64 blk.f3) ∧ w'.cell? ⟨w.heap.size, 7, none⟩ = some (.int .i64 blk.f4) ∧ (Instr.lookup 66 (.map (some bP)) (.int .i64 blk.f3) false).run Try.prog w' = .ok (.int .i64 (PL blk.f3)) w' ∧ (Instr.lookup 66 (.map (some bP)) (.int .i64 blk.f4) false).run Try.prog w' = .ok (.int .i64 (PL blk.f4)) w') (ds := [23]) #[false, false, false, false, false, false, false, false, false, false, false, false, false, false, false, false, false, false, false, false, false, false, false, false] (by kernel_rfl) rfl rfl ⟨u4, u6, u7, lY, lN⟩ (fun hHeld => ?_)
  refine pure_ (i := 0) (N := some 24) (v := ?_) (a' := ?_) #[true, false, false, false, false, false, false, false, false, false, false, false, false, false, false, false, false, false, false, false, false, false, false, false] rfl rfl (by kernel_rfl) (fun _ _ _ h => h) (Or.inl ⟨by rfl, ?_⟩) ?_ ?_
  rotate_left
  · intro w'
    go_simp
    with_reducible rfl
  rotate_left
  · simp only [Act.put, List.setIfInBounds_toArray, List.set_cons_zero, List.set_cons_succ, i64_w, i32_w]
    rfl
  refine pure_ (i := 1) (N := some 25) (v := ?_) (a' := ?_) #[true, true, false, false, false, false, false, false, false, false, false, false, false, false, false, false, false, false, false, false, false, false, false, false] rfl rfl (by kernel_rfl) (fun _ _ _ h => h) (Or.inl ⟨by rfl, ?_⟩) ?_ ?_
  rotate_left
  · intro w'
    go_simp
    with_reducible rfl
  rotate_left
  · simp only [Act.put, List.setIfInBounds_toArray, List.set_cons_zero, List.set_cons_succ, i64_w, i32_w]
    rfl
  refine pure_ (i := 2) (N := some 26) (v := ?_) (a' := ?_) #[true, true, true, false, false, false, false, false, false, false, false, false, false, false, false, false, false, false, false, false, false, false, false, false] rfl rfl (by kernel_rfl) (fun _ _ _ h => h) (Or.inl ⟨by rfl, ?_⟩) ?_ ?_
  rotate_left
  · intro w'
    go_simp
    with_reducible rfl
  rotate_left
  · simp only [Act.put, List.setIfInBounds_toArray, List.set_cons_zero, List.set_cons_succ, i64_w, i32_w]
    rfl
  refine pure_ (i := 4) (N := some 28) (v := ?_) (a' := ?_) #[true, true, true, false, true, false, false, false, false, false, false, false, false, false, false, false, false, false, false, false, false, false, false, false] rfl rfl (by kernel_rfl) (fun _ _ _ h => h) (Or.inl ⟨by rfl, ?_⟩) ?_ ?_
  rotate_left
  · intro w'
    go_simp
    with_reducible rfl
  rotate_left
  · simp only [Act.put, List.setIfInBounds_toArray, List.set_cons_zero, List.set_cons_succ, i64_w, i32_w]
    rfl
  refine pure_ (i := 7) (N := some 31) (v := ?_) (a' := ?_) #[true, true, true, false, true, false, false, true, false, false, false, false, false, false, false, false, false, false, false, false, false, false, false, false] rfl rfl (by kernel_rfl) (fun _ _ _ h => h) (Or.inl ⟨by rfl, ?_⟩) ?_ ?_
  rotate_left
  · intro w'
    go_simp
    with_reducible rfl
  rotate_left
  · simp only [Act.put, List.setIfInBounds_toArray, List.set_cons_zero, List.set_cons_succ, i64_w, i32_w]
    rfl
  refine pure_ (i := 10) (N := some 34) (v := ?_) (a' := ?_) #[true, true, true, false, true, false, false, true, false, false, true, false, false, false, false, false, false, false, false, false, false, false, false, false] rfl rfl (by kernel_rfl) (fun _ _ _ h => h) (Or.inl ⟨by rfl, ?_⟩) ?_ ?_
  rotate_left
  · intro w'
    go_simp
    with_reducible rfl
  rotate_left
  · simp only [Act.put, List.setIfInBounds_toArray, List.set_cons_zero, List.set_cons_succ, i64_w, i32_w]
    rfl
  refine pure_ (i := 11) (N := some 35) (v := ?_) (a' := ?_) #[true, true, true, false, true, false, false, true, false, false, true, true, false, false, false, false, false, false, false, false, false, false, false, false] rfl rfl (by kernel_rfl) (fun _ _ _ h => h) (Or.inl ⟨by rfl, ?_⟩) ?_ ?_
  rotate_left
  · intro w'
    go_simp
    with_reducible rfl
  rotate_left
  · simp only [Act.put, List.setIfInBounds_toArray, List.set_cons_zero, List.set_cons_succ, i64_w, i32_w]
    rfl
  refine pure_ (i := 12) (N := some 36) (v := ?_) (a' := ?_) #[true, true, true, false, true, false, false, true, false, false, true, true, true, false, false, false, false, false, false, false, false, false, false, false] rfl rfl (by kernel_rfl) (fun _ _ _ h => h) (Or.inl ⟨by rfl, ?_⟩) ?_ ?_
  rotate_left
  · intro w'
    go_simp
    with_reducible rfl
  rotate_left
  · simp only [Act.put, List.setIfInBounds_toArray, List.set_cons_zero, List.set_cons_succ, i64_w, i32_w]
    rfl
  refine pure_ (i := 14) (N := some 38) (v := ?_) (a' := ?_) #[true, true, true, false, true, false, false, true, false, false, true, true, true, false, true, false, false, false, false, false, false, false, false, false] rfl rfl (by kernel_rfl) (fun _ _ _ h => h) (Or.inl ⟨by rfl, ?_⟩) ?_ ?_
  rotate_left
  · intro w'
    go_simp
    with_reducible rfl
  rotate_left
  · simp only [Act.put, List.setIfInBounds_toArray, List.set_cons_zero, List.set_cons_succ, i64_w, i32_w]
    rfl
  refine pure_ (i := 17) (N := some 41) (v := ?_) (a' := ?_) #[true, true, true, false, true, false, false, true, false, false, true, true, true, false, true, false, false, true, false, false, false, false, false, false] rfl rfl (by kernel_rfl) (fun _ _ _ h => h) (Or.inl ⟨by rfl, ?_⟩) ?_ ?_
  rotate_left
  · intro w'
    go_simp
    with_reducible rfl
  rotate_left
  · simp only [Act.put, List.setIfInBounds_toArray, List.set_cons_zero, List.set_cons_succ, i64_w, i32_w]
    rfl
  refine take_ (i := 3) (N := some 27) (v := ?_) (a' := ?_) #[true, true, true, true, true, false, false, true, false, false, true, true, true, false, true, false, false, true, false, false, false, false, false, false] rfl rfl (by kernel_rfl) (fun _ _ _ h => h) (Or.inl ⟨by rfl, ?_⟩) hHeld ?_ ?_
  rotate_left
  · rintro w' ⟨s0, s1, s2, s3, s4⟩
    go_simp
    with_reducible rfl
  rotate_left
  · simp only [Act.put, List.setIfInBounds_toArray, List.set_cons_zero, List.set_cons_succ, i64_w, i32_w]
    rfl
  refine take_ (i := 5) (N := some 29) (v := ?_) (a' := ?_) #[true, true, true, true, true, true, false, true, false, false, true, true, true, false, true, false, false, true, false, false, false, false, false, false] rfl rfl (by kernel_rfl) (fun _ _ _ h => h) (Or.inl ⟨by rfl, ?_⟩) hHeld ?_ ?_
  rotate_left
  · rintro w' ⟨s0, s1, s2, s3, s4⟩
    go_simp
    with_reducible rfl
  rotate_left
  · simp only [Act.put, List.setIfInBounds_toArray, List.set_cons_zero, List.set_cons_succ, i64_w, i32_w]
    rfl
  refine take_ (i := 6) (N := some 30) (v := ?_) (a' := ?_) #[true, true, true, true, true, true, true, true, false, false, true, true, true, false, true, false, false, true, false, false, false, false, false, false] rfl rfl (by kernel_rfl) (fun _ _ _ h => h) (Or.inl ⟨by rfl, ?_⟩) hHeld ?_ ?_
  rotate_left
  · rintro w' ⟨s0, s1, s2, s3, s4⟩
    go_simp
    with_reducible rfl
  rotate_left
  · simp only [Act.put, List.setIfInBounds_toArray, List.set_cons_zero, List.set_cons_succ, i64_w, i32_w]
    rfl
  refine pure_ (i := 8) (N := some 32) (v := ?_) (a' := ?_) #[true, true, true, true, true, true, true, true, true, false, true, true, true, false, true, false, false, true, false, false, false, false, false, false] rfl rfl (by kernel_rfl) (fun _ _ _ h => h) (Or.inl ⟨by rfl, ?_⟩) ?_ ?_
  rotate_left
  · intro w'
    go_simp
    with_reducible rfl
  rotate_left
  · simp only [Act.put, List.setIfInBounds_toArray, List.set_cons_zero, List.set_cons_succ, i64_w, i32_w]
    rfl
  refine pure_ (i := 9) (N := some 33) (v := ?_) (a' := ?_) #[true, true, true, true, true, true, true, true, true, true, true, true, true, false, true, false, false, true, false, false, false, false, false, false] rfl rfl (by kernel_rfl) (fun _ _ _ h => h) (Or.inl ⟨by rfl, ?_⟩) ?_ ?_
  rotate_left
  · intro w'
    go_simp
    with_reducible rfl
  rotate_left
  · simp only [Act.put, List.setIfInBounds_toArray, List.set_cons_zero, List.set_cons_succ, i64_w, i32_w]
    rfl
  refine pure_ (i := 20) (N := some 44) (v := ?_) (a' := ?_) #[true, true, true, true, true, true, true, true, true, true, true, true, true, false, true, false, false, true, false, false, true, false, false, false] rfl rfl (by kernel_rfl) (fun _ _ _ h => h) (Or.inl ⟨by rfl, ?_⟩) ?_ ?_
  rotate_left
  · intro w'
    go_simp
    with_reducible rfl
  rotate_left
  · simp only [Act.put, List.setIfInBounds_toArray, List.set_cons_zero, List.set_cons_succ, i64_w, i32_w]
    rfl
  refine take_ (i := 13) (N := some 37) (v := ?_) (a' := ?_) #[true, true, true, true, true, true, true, true, true, true, true, true, true, true, true, false, false, true, false, false, true, false, false, false] rfl rfl (by kernel_rfl) (fun _ _ _ h => h) (Or.inl ⟨by rfl, ?_⟩) hHeld ?_ ?_
  rotate_left
  · rintro w' ⟨s0, s1, s2, s3, s4⟩
    go_simp
    with_reducible rfl
  rotate_left
  · simp only [Act.put, List.setIfInBounds_toArray, List.set_cons_zero, List.set_cons_succ, i64_w, i32_w]
    rfl
  refine take_ (i := 15) (N := some 39) (v := ?_) (a' := ?_) #[true, true, true, true, true, true, true, true, true, true, true, true, true, true, true, true, false, true, false, false, true, false, false, false] rfl rfl (by kernel_rfl) (fun _ _ _ h => h) (Or.inl ⟨by rfl, ?_⟩) hHeld ?_ ?_
  rotate_left
  · rintro w' ⟨s0, s1, s2, s3, s4⟩
    go_simp
    with_reducible rfl
  rotate_left
  · simp only [Act.put, List.setIfInBounds_toArray, List.set_cons_zero, List.set_cons_succ, i64_w, i32_w]
    rfl
  refine take_ (i := 16) (N := some 40) (v := ?_) (a' := ?_) #[true, true, true, true, true, true, true, true, true, true, true, true, true, true, true, true, true, true, false, false, true, false, false, false] rfl rfl (by kernel_rfl) (fun _ _ _ h => h) (Or.inl ⟨by rfl, ?_⟩) hHeld ?_ ?_
  rotate_left
  · rintro w' ⟨s0, s1, s2, s3, s4⟩
    go_simp
    with_reducible rfl
  rotate_left
  · simp only [Act.put, List.setIfInBounds_toArray, List.set_cons_zero, List.set_cons_succ, i64_w, i32_w]
    rfl
  refine pure_ (i := 18) (N := some 42) (v := ?_) (a' := ?_) #[true, true, true, true, true, true, true, true, true, true, true, true, true, true, true, true, true, true, true, false, true, false, false, false] rfl rfl (by kernel_rfl) (fun _ _ _ h => h) (Or.inl ⟨by rfl, ?_⟩) ?_ ?_
  rotate_left
  · intro w'
    go_simp
    with_reducible rfl
  rotate_left
  · simp only [Act.put, List.setIfInBounds_toArray, List.set_cons_zero, List.set_cons_succ, i64_w, i32_w]
    rfl
  refine pure_ (i := 19) (N := some 43) (v := ?_) (a' := ?_) #[true, true, true, true, true, true, true, true, true, true, true, true, true, true, true, true, true, true, true, true, true, false, false, false] rfl rfl (by kernel_rfl) (fun _ _ _ h => h) (Or.inl ⟨by rfl, ?_⟩) ?_ ?_
  rotate_left
  · intro w'
    go_simp
    with_reducible rfl
  rotate_left
  · simp only [Act.put, List.setIfInBounds_toArray, List.set_cons_zero, List.set_cons_succ, i64_w, i32_w]
    rfl
  refine one_ (i := 21) (N := none) #[true, true, true, true, true, true, true, true, true, true, true, true, true, true, true, true, true, true, true, true, true, true, false, false] rfl rfl (by kernel_rfl) (by decide) (fun K hK => ?_)
  refine skip_ (w1 := ?_) (by rfl) rfl ?_ ?_
  rotate_left
  · go_simp
    rfl
  refine hK.out _ _ ⟨(Keep4.out _ (((Kp.refl (fun k => k = w.heap.size + 1 + 1) W).set (.inl rfl) 1 _).below (below_drew1 (Below.refl _ _)))).1, (Keep4.out _ (((Kp.refl (fun k => k = w.heap.size + 1 + 1) W).set (.inl rfl) 1 _).below (below_drew1 (Below.refl _ _)))).2.1, (Keep4.out _ (((Kp.refl (fun k => k = w.heap.size + 1 + 1) W).set (.inl rfl) 1 _).below (below_drew1 (Below.refl _ _)))).2.2.1, (Keep4.out _ (((Kp.refl (fun k => k = w.heap.size + 1 + 1) W).set (.inl rfl) 1 _).below (below_drew1 (Below.refl _ _)))).2.2.2.1, (Keep4.out _ (((Kp.refl (fun k => k = w.heap.size + 1 + 1) W).set (.inl rfl) 1 _).below (below_drew1 (Below.refl _ _)))).2.2.2.2⟩ (fun hHeld => ?_)
  clear hK K
  refine pure_ (i := 22) (N := some 45) (v := ?_) (a' := ?_) #[true, true, true, true, true, true, true, true, true, true, true, true, true, true, true, true, true, true, true, true, true, true, true, false] rfl rfl (by kernel_rfl) (fun _ _ _ h => h) (Or.inl ⟨by rfl, ?_⟩) ?_ ?_
  rotate_left
  · intro w'
    go_simp
    with_reducible rfl
  rotate_left
  · simp only [Act.put, List.setIfInBounds_toArray, List.set_cons_zero, List.set_cons_succ, i64_w, i32_w]
    rfl
  refine last_ (i := 23) (N := none) #[true, true, true, true, true, true, true, true, true, true, true, true, true, true, true, true, true, true, true, true, true, true, true, true] rfl rfl (by kernel_rfl) (by decide) (fun K hK => ?_)
  refine skip_ (w1 := ?_) (by rfl) rfl ?_ ?_
  rotate_left
  · go_simp
    rfl
  refine hK.out _ _ ?_
  clear hK K
  refine done_ (by kernel_rfl) ?_
  go_upto_region 5 with (fail)
  have hne0 : w.heap.size ≠ w.heap.size + 1 + 1 := by omega
  have hne1 : w.heap.size + 1 ≠ w.heap.size + 1 + 1 := by omega
  have hle2 : w.heap.size ≤ w.heap.size + 1 + 1 := by omega
  refine forget (fun V => Below w.heap.size w V ∧ V.heap[w.heap.size]? = some (.cells #[.slice A0 blk.f0.length c0, .int .i64 blk.f1, .int .u16 blk.f2.f0, .int .u8 blk.f2.f1, .int .u8 blk.f2.f2, .int .u32 blk.f2.f3, .int .i64 blk.f3, .int .i64 blk.f4] 47 (0, 0)) ∧ V.heap[w.heap.size + 1]? = some (.cells #[.bool fy, .bool fn] 121 (0, 0)) ∧ V.heap[w.heap.size + 1 + 1]? = some (.cells #[.int .u16 blk.f2.f0, .int .u8 (IntKind.u8.wrap (wrap64 (PL blk.f3 - ((code.length : Int) + 1)))), .int .u8 (IntKind.u8.wrap (wrap64 (PL blk.f4 - ((code.length : Int) + 1)))), .int .u32 blk.f2.f3] 45 (0, 0)))
    ⟨below_drew1 (below_set (below_set Hb.out hle2) hle2), blk_drew (blk_far (blk_far HO.out hne0 _) hne0 _), blk_drew (blk_far (blk_far HF.out hne1 _) hne1 _), blk_drew (blk_put (blk_put HI.out 1 _ rfl) 2 _ rfl)⟩ ?_
  clear Hb HO HF HI u4 u6 u7 i1 i2 i1f i2f lY lN Keep4
  rintro V ⟨hb, hO, hF, hI⟩
  have y0 : V.cell? ⟨w.heap.size + 1, 0, none⟩ = some (.bool fy) := (blk_cell hF 0).trans rfl
  have y1 : V.cell? ⟨w.heap.size + 1, 1, none⟩ = some (.bool fn) := (blk_cell hF 1).trans rfl
  have i1 : V.cell? ⟨w.heap.size + 1 + 1, 1, none⟩ = some (.int .u8 (IntKind.u8.wrap (wrap64 (PL blk.f3 - ((code.length : Int) + 1))))) := (blk_cell hI 1).trans rfl
  have i2 : V.cell? ⟨w.heap.size + 1 + 1, 2, none⟩ = some (.int .u8 (IntKind.u8.wrap (wrap64 (PL blk.f4 - ((code.length : Int) + 1))))) := (blk_cell hI 2).trans rfl
  have i1f := blk_frozen hI 1
  have i2f := blk_frozen hI 2
  have Hb := Aside0.mk hb
  have HO := Aside0.mk hO
  have HF := Aside0.mk hF
  have HI := Aside0.mk hI
  clear hb hO hF hI
  cases fy <;> cases fn
  all_goals go_wp2
  refine forget (fun V => Below w.heap.size w V ∧ V.heap[w.heap.size]? = some (.cells #[.slice A0 blk.f0.length c0, .int .i64 blk.f1, .int .u16 blk.f2.f0, .int .u8 blk.f2.f1, .int .u8 blk.f2.f2, .int .u32 blk.f2.f3, .int .i64 blk.f3, .int .i64 blk.f4] 47 (0, 0)) ∧ V.heap[w.heap.size + 1]? = some (.cells #[.bool (fars i).1, .bool (fars i).2] 121 (0, 0)) ∧ ∃ T, Aside0 (T = testI blk PL (fars i) ((code.length : Int) + 1)) ∧ V.heap[w.heap.size + 1 + 1]? = some (.cells #[.int .u16 T.f0, .int .u8 T.f1, .int .u8 T.f2, .int .u32 T.f3] 45 (0, 0)))
    ⟨Hb.out, HO.out, by rw [Hfi.out]; exact HF.out, _, ⟨rfl⟩, by rw [Hfi.out]; exact HI.out⟩ ?_
  rotate_left
  refine forget (fun V => Below w.heap.size w V ∧ V.heap[w.heap.size]? = some (.cells #[.slice A0 blk.f0.length c0, .int .i64 blk.f1, .int .u16 blk.f2.f0, .int .u8 blk.f2.f1, .int .u8 blk.f2.f2, .int .u32 blk.f2.f3, .int .i64 blk.f3, .int .i64 blk.f4] 47 (0, 0)) ∧ V.heap[w.heap.size + 1]? = some (.cells #[.bool (fars i).1, .bool (fars i).2] 121 (0, 0)) ∧ ∃ T, Aside0 (T = testI blk PL (fars i) ((code.length : Int) + 1)) ∧ V.heap[w.heap.size + 1 + 1]? = some (.cells #[.int .u16 T.f0, .int .u8 T.f1, .int .u8 T.f2, .int .u32 T.f3] 45 (0, 0)))
    ⟨below_set (Hb.out) hle2, blk_far (HO.out) hne0 _, by rw [Hfi.out]; exact blk_far (HF.out) hne1 _, _, ⟨rfl⟩, by rw [Hfi.out]; exact blk_put (HI.out) 2 _ rfl⟩ ?_
  rotate_left
  refine forget (fun V => Below w.heap.size w V ∧ V.heap[w.heap.size]? = some (.cells #[.slice A0 blk.f0.length c0, .int .i64 blk.f1, .int .u16 blk.f2.f0, .int .u8 blk.f2.f1, .int .u8 blk.f2.f2, .int .u32 blk.f2.f3, .int .i64 blk.f3, .int .i64 blk.f4] 47 (0, 0)) ∧ V.heap[w.heap.size + 1]? = some (.cells #[.bool (fars i).1, .bool (fars i).2] 121 (0, 0)) ∧ ∃ T, Aside0 (T = testI blk PL (fars i) ((code.length : Int) + 1)) ∧ V.heap[w.heap.size + 1 + 1]? = some (.cells #[.int .u16 T.f0, .int .u8 T.f1, .int .u8 T.f2, .int .u32 T.f3] 45 (0, 0)))
    ⟨below_set (Hb.out) hle2, blk_far (HO.out) hne0 _, by rw [Hfi.out]; exact blk_far (HF.out) hne1 _, _, ⟨rfl⟩, by rw [Hfi.out]; exact blk_put (HI.out) 1 _ rfl⟩ ?_
  rotate_left
  refine forget (fun V => Below w.heap.size w V ∧ V.heap[w.heap.size]? = some (.cells #[.slice A0 blk.f0.length c0, .int .i64 blk.f1, .int .u16 blk.f2.f0, .int .u8 blk.f2.f1, .int .u8 blk.f2.f2, .int .u32 blk.f2.f3, .int .i64 blk.f3, .int .i64 blk.f4] 47 (0, 0)) ∧ V.heap[w.heap.size + 1]? = some (.cells #[.bool (fars i).1, .bool (fars i).2] 121 (0, 0)) ∧ ∃ T, Aside0 (T = testI blk PL (fars i) ((code.length : Int) + 1)) ∧ V.heap[w.heap.size + 1 + 1]? = some (.cells #[.int .u16 T.f0, .int .u8 T.f1, .int .u8 T.f2, .int .u32 T.f3] 45 (0, 0)))
    ⟨below_set (below_set (below_set (Hb.out) hle2) hle2) hle2, blk_far (blk_far (blk_far (HO.out) hne0 _) hne0 _) hne0 _, by rw [Hfi.out]; exact blk_far (blk_far (blk_far (HF.out) hne1 _) hne1 _) hne1 _, _, ⟨rfl⟩, by rw [Hfi.out]; exact blk_put (blk_put (blk_put (HI.out) 1 _ rfl) 2 _ rfl) 2 _ rfl⟩ ?_
  rotate_left
  all_goals
    clear Hb HO HF HI y0 y1 i1 i2 i1f i2f
    rintro V2 ⟨hb, hO, hF, ⟨t0, t1, t2, t3⟩, HT, hI⟩
    have HV := Aside0.mk (HH.out.stay hb)
    have VB := Aside0.mk HV.out.me.blk
    have v0 : V2.cell? ⟨B, 0, none⟩ = some (.slice Ac code.length cc) := (blk_cell VB.out 0).trans rfl
    have vf := blk_frozen VB.out 0
    have z0 : V2.cell? ⟨w.heap.size + 1 + 1, 0, none⟩ = some (.int .u16 t0) := (blk_cell hI 0).trans rfl
    have z1 : V2.cell? ⟨w.heap.size + 1 + 1, 1, none⟩ = some (.int .u8 t1) := (blk_cell hI 1).trans rfl
    have z2 : V2.cell? ⟨w.heap.size + 1 + 1, 2, none⟩ = some (.int .u8 t2) := (blk_cell hI 2).trans rfl
    have z3 : V2.cell? ⟨w.heap.size + 1 + 1, 3, none⟩ = some (.int .u32 t3) := (blk_cell hI 3).trans rfl
    have HO := Aside0.mk hO
    have HF := Aside0.mk hF
    clear hb hO hF hI
    refine start_ (n := 13) (S := fun w' => w'.cell? ⟨B, 0, none⟩ = some (.slice Ac code.length cc) ∧ w'.frozen? ⟨B, 0, none⟩ = false ∧ w'.cell? ⟨w.heap.size + 1 + 1, 0, none⟩ = some (.int .u16 t0) ∧ w'.cell? ⟨w.heap.size + 1 + 1, 1, none⟩ = some (.int .u8 t1) ∧ w'.cell? ⟨w.heap.size + 1 + 1, 2, none⟩ = some (.int .u8 t2) ∧ w'.cell? ⟨w.heap.size + 1 + 1, 3, none⟩ = some (.int .u32 t3)) (ds := [8, 12]) #[false, false, false, false, false, false, false, false, false, false, false, false, false] (by kernel_rfl) rfl rfl ⟨v0, vf, z0, z1, z2, z3⟩ (fun hHeld => ?_)
    refine pure_ (i := 0) (N := some 55) (v := ?_) (a' := ?_) #[true, false, false, false, false, false, false, false, false, false, false, false, false] rfl rfl (by kernel_rfl) (fun _ _ _ h => h) (Or.inl ⟨by rfl, ?_⟩) ?_ ?_
    rotate_left
    · intro w'
      go_simp
      with_reducible rfl
    rotate_left
    · simp only [Act.put, List.setIfInBounds_toArray, List.set_cons_zero, List.set_cons_succ, i64_w, i32_w]
      rfl
    refine pure_ (i := 1) (N := some 56) (v := ?_) (a' := ?_) #[true, true, false, false, false, false, false, false, false, false, false, false, false] rfl rfl (by kernel_rfl) (fun _ _ _ h => h) (Or.inl ⟨by rfl, ?_⟩) ?_ ?_
    rotate_left
    · intro w'
      go_simp
      with_reducible rfl
    rotate_left
    · simp only [Act.put, List.setIfInBounds_toArray, List.set_cons_zero, List.set_cons_succ, i64_w, i32_w]
      rfl
    refine pure_ (i := 2) (N := some 57) (v := ?_) (a' := ?_) #[true, true, true, false, false, false, false, false, false, false, false, false, false] rfl rfl (by kernel_rfl) (fun _ _ _ h => h) (Or.inl ⟨by rfl, ?_⟩) ?_ ?_
    rotate_left
    · intro w'
      go_simp
      with_reducible rfl
    rotate_left
    · simp only [Act.put, List.setIfInBounds_toArray, List.set_cons_zero, List.set_cons_succ, i64_w, i32_w]
      rfl
    refine pure_ (i := 3) (N := some 58) (v := ?_) (a' := ?_) #[true, true, true, true, false, false, false, false, false, false, false, false, false] rfl rfl (by kernel_rfl) (fun _ _ _ h => h) (Or.inl ⟨by rfl, ?_⟩) ?_ ?_
    rotate_left
    · intro w'
      go_simp
      with_reducible rfl
    rotate_left
    · simp only [Act.put, List.setIfInBounds_toArray, List.set_cons_zero, List.set_cons_succ, i64_w, i32_w]
      rfl
    refine pure_ (i := 4) (N := some 59) (v := ?_) (a' := ?_) #[true, true, true, true, true, false, false, false, false, false, false, false, false] rfl rfl (by kernel_rfl) (fun _ _ _ h => h) (Or.inl ⟨by rfl, ?_⟩) ?_ ?_
    rotate_left
    · intro w'
      go_simp
      with_reducible rfl
    rotate_left
    · simp only [Act.put, List.setIfInBounds_toArray, List.set_cons_zero, List.set_cons_succ, i64_w, i32_w]
      rfl
    refine take_ (i := 5) (N := some 60) (v := ?_) (a' := ?_) #[true, true, true, true, true, true, false, false, false, false, false, false, false] rfl rfl (by kernel_rfl) (fun _ _ _ h => h) (Or.inl ⟨by rfl, ?_⟩) hHeld ?_ ?_
    rotate_left
    · rintro w' ⟨s0, s1, s2, s3, s4, s5⟩
      go_simp
      with_reducible rfl
    rotate_left
    · simp only [Act.put, List.setIfInBounds_toArray, List.set_cons_zero, List.set_cons_succ, i64_w, i32_w]
      rfl
    refine take_ (i := 6) (N := some 61) (v := ?_) (a' := ?_) #[true, true, true, true, true, true, true, false, false, false, false, false, false] rfl rfl (by kernel_rfl) (fun _ _ _ h => h) (Or.inl ⟨by rfl, ?_⟩) hHeld ?_ ?_
    rotate_left
    · rintro w' ⟨s0, s1, s2, s3, s4, s5⟩
      go_simp
      with_reducible rfl
    rotate_left
    · simp only [Act.put, List.setIfInBounds_toArray, List.set_cons_zero, List.set_cons_succ, i64_w, i32_w]
      rfl
    refine one_ (i := 7) (N := some 62) #[true, true, true, true, true, true, true, true, false, false, false, false, false] rfl rfl (by kernel_rfl) (by decide) (fun K hK => ?_)
    refine value_ (w1 := ?_) (v := ?_) (by rfl) rfl ?_ ?_
    rotate_left 2
    · go_simp
      constructor
      · rfl
      · rfl
    refine hK.out _ _ ⟨(pw_cell_below (below_drew1 (below_alloc (Below.refl _ _) _)) v0), (blk_frozen (blk_below (w := V2) VB.out (below_drew1 (below_alloc (Below.refl _ _) _))) 0), (pw_cell_below (below_drew1 (below_alloc (Below.refl _ _) _)) z0), (pw_cell_below (below_drew1 (below_alloc (Below.refl _ _) _)) z1), (pw_cell_below (below_drew1 (below_alloc (Below.refl _ _) _)) z2), (pw_cell_below (below_drew1 (below_alloc (Below.refl _ _) _)) z3)⟩ (fun hHeld => ?_)
    clear hK K
    refine norm_ (a' := ?_) ?_ ?_
    rotate_left
    · show Act.put _ (some 62) _ = _
      simp only [Act.put, List.setIfInBounds_toArray, List.set_cons_zero, List.set_cons_succ, i64_w, i32_w]
      rfl
    refine last_ (i := 8) (N := some 63) #[true, true, true, true, true, true, true, true, true, false, false, false, false] rfl rfl (by kernel_rfl) (by decide) (fun K hK => ?_)
    refine R_append_drew k45 (w0 := w0) (W := V2) w0.heap.size (.tmp 60) (.tmp 62) 26 45 (.agg #[.int .u16 0, .int .u8 0, .int .u8 0, .int .u32 0]) 8 (by rfl) (by rfl) hu info45 rfl (by decide) (by decide) (.slice Ac code.length cc) code ⟨t0, t1, t2, t3⟩ [.int .u16 t0, .int .u8 t1, .int .u8 t2, .int .u32 t3] (by rfl) (by rfl) (k45_mkM _ _ _ ⟨t0, t1, t2, t3⟩) HV.out.code HV.out.me.below HV.out.me.below.size (by omega) ?_
    intro v1 w1 hR hB hG
    obtain ⟨A1, cc1, rfl⟩ := Kd.R_slice hR
    have HB1 := Aside0.mk (((((Kp.refl (fun k => some k = (Value.slice Ac code.length cc).ownBlock) V2).below (below_drew1 (Below.refl _ _))).grown hG (fun b hb => .inl hb.symm)).block B (blk_lt VB.out) (Kd.R_ne HV.out.code VB.out (by decide))).trans VB.out)
    have w10 : w1.cell? ⟨B, 0, none⟩ = some (.slice Ac code.length cc) := (blk_cell HB1.out 0).trans rfl
    have w1f := blk_frozen HB1.out 0
    refine hK.out _ _ ?_
    clear hK K
    refine norm_ (a' := ?_) ?_ ?_
    rotate_left
    · show Act.put _ (some 63) _ = _
      simp only [Act.put, List.setIfInBounds_toArray, List.set_cons_zero, List.set_cons_succ, i64_w, i32_w]
      rfl
    refine pure_ (i := 9) (N := some 64) (v := ?_) (a' := ?_) #[true, true, true, true, true, true, true, true, true, true, false, false, false] rfl rfl (by kernel_rfl) (fun _ _ _ h => h) (Or.inl ⟨by rfl, ?_⟩) ?_ ?_
    rotate_left
    · intro w'
      go_simp
      with_reducible rfl
    rotate_left
    · simp only [Act.put, List.setIfInBounds_toArray, List.set_cons_zero, List.set_cons_succ, i64_w, i32_w]
      rfl
    refine pure_ (i := 10) (N := some 65) (v := ?_) (a' := ?_) #[true, true, true, true, true, true, true, true, true, true, true, false, false] rfl rfl (by kernel_rfl) (fun _ _ _ h => h) (Or.inl ⟨by rfl, ?_⟩) ?_ ?_
    rotate_left
    · intro w'
      go_simp
      with_reducible rfl
    rotate_left
    · simp only [Act.put, List.setIfInBounds_toArray, List.set_cons_zero, List.set_cons_succ, i64_w, i32_w]
      rfl
    refine pure_ (i := 11) (N := some 66) (v := ?_) (a' := ?_) #[true, true, true, true, true, true, true, true, true, true, true, true, false] rfl rfl (by kernel_rfl) (fun _ _ _ h => h) (Or.inl ⟨by rfl, ?_⟩) ?_ ?_
    rotate_left
    · intro w'
      go_simp
      with_reducible rfl
    rotate_left
    · simp only [Act.put, List.setIfInBounds_toArray, List.set_cons_zero, List.set_cons_succ, i64_w, i32_w]
      rfl
    refine last_ (i := 12) (N := none) #[true, true, true, true, true, true, true, true, true, true, true, true, true] rfl rfl (by kernel_rfl) (by decide) (fun K hK => ?_)
    refine skip_ (w1 := ?_) (by rfl) rfl ?_ ?_
    rotate_left
    · go_simp
      rfl
    refine hK.out _ _ ?_
    clear hK K
    refine done_ (by kernel_rfl) ?_
    go_upto_region 12 with (fail)
    have kv : Kp (fun k => k = B ∨ some k = (Value.slice Ac code.length cc).ownBlock) V2 w1 := (((Kp.refl (fun k => k = B ∨ some k = (Value.slice Ac code.length cc).ownBlock) V2).below (below_drew1 (Below.refl _ _))).grown hG (fun b hb => .inl (.inr hb.symm)))
    have kv1 := kv.set (.inl (.inl rfl)) 0 (.slice A1 (code.length + 1) cc1)
    refine forget (fun V => (∃ vc3, Ws w0 V g A c B vc3 vo (code ++ [⟨t0, t1, t2, t3⟩]) order bA bF bP nA nF nP after PL fars) ∧ V.heap[w.heap.size]? = some (.cells #[.slice A0 blk.f0.length c0, .int .i64 blk.f1, .int .u16 blk.f2.f0, .int .u8 blk.f2.f1, .int .u8 blk.f2.f2, .int .u32 blk.f2.f3, .int .i64 blk.f3, .int .i64 blk.f4] 47 (0, 0)) ∧ V.heap[w.heap.size + 1]? = some (.cells #[.bool (fars i).1, .bool (fars i).2] 121 (0, 0)))
      ⟨⟨_, HV.out.wrote kv1 (blk_put HB1.out 0 _ rfl) (by have := Kd.R_set hR HB1.out (by decide) 0 (.slice A1 (code.length + 1) cc1); rw [List.length_append, List.length_singleton] at this; exact this)⟩, HV.out.loc kv1 HO.out (by decide) (by decide), HV.out.loc kv1 HF.out (by decide) (by decide)⟩ ?_
    clear w10 w1f HB1 kv kv1 hR hG hB HV VB HO HF v0 vf z0 z1 z2 z3
    rintro V3 ⟨⟨vc3, hs⟩, hO, hF⟩
    rw [Hfi.out] at hF
    have q0 := (blk_cell hF 0)
    have q1 := (blk_cell hF 1)
    have q6 : V3.cell? ⟨w.heap.size, 6, none⟩ = some (.int .i64 blk.f3) := (blk_cell hO 6).trans rfl
    have q7 : V3.cell? ⟨w.heap.size, 7, none⟩ = some (.int .i64 blk.f4) := (blk_cell hO 7).trans rfl
    have HS := Aside0.mk hs
    have HO := Aside0.mk hO
    have HF := Aside0.mk hF
    clear hs hO hF
  · go_wp2
    go_end0
    exact ⟨rfl, vc3, by rw [testC_eq HT.out Hfi.out]; exact HS.out⟩
  · go_wp2_with fail
    refine (ja_calls w0 _ g A c B vc3 vo _ order bA bF bP nA nF nP after PL fars HS.out blk.f4 hwn (by rw [List.length_append, List.length_singleton]; omega)).mono ?_
    rintro e w' ⟨rfl, vc4, hs, kp⟩
    have HS4 := Aside0.mk hs
    clear hs kp
    go_wp2
    go_end0
    exact ⟨rfl, vc4, by rw [testC_eq HT.out Hfi.out]; exact HS4.out⟩
  · go_wp2_with fail
    refine (ja_calls w0 _ g A c B vc3 vo _ order bA bF bP nA nF nP after PL fars HS.out blk.f3 hwy (by rw [List.length_append, List.length_singleton]; omega)).mono ?_
    rintro e w' ⟨rfl, vc4, hs, kp⟩
    have r1 := (blk_cell (HS.out.loc kp HF.out (by decide) (by decide)) 1)
    have HS4 := Aside0.mk hs
    clear hs kp
    go_wp2
    go_end0
    exact ⟨rfl, vc4, by rw [testC_eq HT.out Hfi.out]; exact HS4.out⟩
  · go_wp2_with fail
    refine (ja_calls w0 _ g A c B vc3 vo _ order bA bF bP nA nF nP after PL fars HS.out blk.f3 hwy (by rw [List.length_append, List.length_singleton]; omega)).mono ?_
    rintro e w' ⟨rfl, vc4, hs, kp⟩
    have r1 := (blk_cell (HS.out.loc kp HF.out (by decide) (by decide)) 1)
    have r7 : w'.cell? ⟨w.heap.size, 7, none⟩ = some (.int .i64 blk.f4) := (blk_cell (HS.out.loc kp HO.out (by decide) (by decide)) 7).trans rfl
    have HS4 := Aside0.mk hs
    clear hs kp
    go_wp2_with fail
    refine (ja_calls w0 _ g A c B vc4 vo _ order bA bF bP nA nF nP after PL fars HS4.out blk.f4 hwn (by rw [List.length_append, List.length_append, List.length_singleton, List.length_singleton]; omega)).mono ?_
    rintro e w'' ⟨rfl, vc5, hs, kp⟩
    have HS5 := Aside0.mk hs
    clear hs kp
    go_wp2
    go_end0
    exact ⟨rfl, vc5, by rw [testC_eq HT.out Hfi.out]; exact HS5.out⟩
end Go.Proofs.Ytdkalnkplgfgoaa.Ln
namespace Go.Proofs.Ytdkalnkplgfgoaa.Ln
open Go.RowKit Go.Proofs.YtdkalnkplgfgoaaW.PrintWords Go.Proofs.YtdkalnkplgfgoaaW.PrintLast Go.Proofs.YtdkalnkplgfgoaaW.PrintMore
set_option linter.unusedVariables false
section
variable {P : Program} {α : Type}
theorem rows_run (d : Kd α) {Rr : α → List Value → Prop} {W : World} (base : Nat) (t ty e : TypeId) (i0 : TypeInfo) (z : Value) (bytes : Nat)
    (ht : P.underlying t = some (.slice e)) (hi : P.info? e = some i0) (hz0 : i0.zero = some z) (hz1 : i0.size = d.sz) (hz2 : i0.bytes = bytes) (hz : z.cells.size = d.sz) (hs0 : 0 < d.sz)
    (v : Value) (xs ys : List α) (A : Option Addr) (m c : Nat) (ok okp : Nat → Prop)
    (HO : d.R e W base ok v xs) (HR : ReadsRow Rr d.sz W A m ys) (hKM : ∀ x cs, Rr x cs → d.M W base okp x cs) (hokp : ∀ k, okp k → ok k ∧ some k ≠ v.ownBlock) (hfresh : ∀ k, W.heap.size ≤ k → ok k)
    (hbase : base ≤ W.heap.size) (hlen : xs.length + m ≤ 140737488355328) (hl : (xs.length + m) * bytes ≤ 140737488355328) :
    ∃ v1 w1, (Builtin.append_ #[t, t] ty #[v, .slice A m c]).run P W = .ok v1 w1 ∧ d.R e w1 base ok v1 (xs ++ ys) ∧ W.grownBy w1 v.ownBlock ∧ (v1.ownBlock = v.ownBlock ∨ ∃ b, v1.ownBlock = some b ∧ W.heap.size ≤ b) := by
  have hm : ys.length = m := HR.1
  obtain ⟨hok, inner, hown, hr⟩ := HO
  rcases A with _ | ad
  · have h0 : m = 0 := by
      rcases Nat.eq_zero_or_pos m with h0 | h0
      · exact h0
      · obtain ⟨ad, h, _⟩ := HR.2.2 h0
        cases h
    subst h0
    obtain rfl : ys = [] := List.eq_nil_of_length_eq_zero hm
    refine ⟨v, W, ?_, by rw [List.append_nil]; exact ⟨hok, inner, hown, hr⟩, World.grownBy.refl W _, .inl rfl⟩
    rcases hown.2 with ⟨rfl, hn⟩ | ⟨g, cap, cur, rfl, _, _, hnc, _⟩
    · simp [Builtin.append_, run_underlying ht, sizeOf, typeInfo, hi, Builtin.lenOf, Builtin.firstCells]
    · simp [Builtin.append_, run_underlying ht, sizeOf, typeInfo, hi, Builtin.lenOf, Builtin.firstCells, hnc, storeCells]
  · obtain ⟨news, hnr, hnc⟩ := ReadsRow.inner_ HR
    have hnM : Reps (d.M W base okp) d.sz ys news := hnr.imp_ (fun p c hp => hKM p c hp)
    have hone : ∀ u ∈ news, u.oneCell' = true := by
      intro u hu
      obtain ⟨q, hq, rfl⟩ := List.mem_iff_getElem.1 hu
      have hql : q / d.sz < ys.length := by
        rw [Nat.div_lt_iff_lt_mul hs0]
        rw [← hnM.1]
        exact hq
      have hc := hnM.2 (q / d.sz) _ (List.getElem?_eq_getElem hql)
      refine d.K_one (d.K_of_M hc) _ ?_
      rw [List.mem_iff_getElem?]
      refine ⟨q % d.sz, ?_⟩
      rw [List.getElem?_take, if_pos (Nat.mod_lt _ hs0), List.getElem?_drop, Nat.mul_comm, Nat.div_add_mod, List.getElem?_eq_getElem hq]
    obtain ⟨v1, w1, hrun, h2, hg, _, hat⟩ := run_append_own_at (P := P) W base t ty e i0 z d.sz bytes ht hi hz0 hz1 hz2 hz hs0 v xs.length inner hown ad m c news (by rw [hnM.1, hm]) hnc hone (by simp only [maxLen]; omega) hl hbase
    have hat' : v1.ownBlock = v.ownBlock ∨ ∃ b, v1.ownBlock = some b ∧ W.heap.size ≤ b := by
      rcases hat with hat | hat
      · exact .inl hat
      · exact .inr ⟨_, hat, Nat.le_refl _⟩
    have hne : ∀ k, some k ≠ v.ownBlock → k < W.heap.size → some k ≠ v1.ownBlock := by
      intro k hk hlt
      rcases hat' with hat | ⟨b, hb, hle⟩
      · rw [hat]; exact hk
      · rw [hb]
        intro he
        injection he with he
        omega
    have step : ∀ {q : α} {c : List Value} {o : Nat → Prop}, d.M W base o q c → (∀ k, o k → ok k ∧ some k ≠ v.ownBlock) → d.M w1 base (fun k => ok k ∧ some k ≠ v1.ownBlock) q c := by
      intro q c o hq ho
      have h1 := d.M_move (w1 := w1) (fun k hk => hg.block k hk.2.2.1 (ho k hk.1).2) (d.M_bound hq)
      exact d.M_mono (fun k hk => ⟨(ho k hk.1).1, hne k (ho k hk.1).2 hk.2.2.1⟩) h1
    refine ⟨v1, w1, hrun, ⟨fun k hk => ?_, inner ++ news, by rw [List.length_append, hm]; exact h2, Kd.reps_append (hr.imp_ (fun _ _ hq => step hq (fun _ hk => hk))) (hnM.imp_ (fun _ _ hq => step hq hokp))⟩, hg, hat'⟩
    rcases hat' with hat | ⟨b, hb, hle⟩
    · exact hok k (hat ▸ hk)
    · rw [hb] at hk
      injection hk with hk
      exact hfresh k (by omega)
variable {ops : Array Oper} {o : Oper} {a : Act} {Q : Exit → Act → World → Prop} {Kc : Act → World → Prop}
theorem R_rows_step (d : Kd α) {Rr : α → List Value → Prop} {w0 W : World} (base : Nat) (s x : Operand) (t e : TypeId) (z : Value) (bytes : Nat) (hg : o.guard = none)
    (ho : o.op = .call { callee := .builtin .append, args := #[s, x], argTypes := #[t, t] })
    (ht : P.underlying t = some (.slice e)) (hinfo : (P.info? e).map (fun i => (i.zero, i.size, i.bytes)) = some (some z, d.sz, bytes)) (hz : z.cells.size = d.sz) (hs0 : 0 < d.sz) (hb0 : 0 < bytes)
    (v : Value) (xs ys : List α) (A : Option Addr) (m c : Nat) (hs : a.eval s = v) (hx : a.eval x = .slice A m c)
    (HO : d.R e W base (fun _ => True) v xs) (HR : ReadsRow Rr d.sz W A m ys) (hKM : ∀ x cs, Rr x cs → d.M W base (fun _ => False) x cs)
    (HB : Below base w0 W) (hbase : base ≤ W.heap.size) (hl : (xs.length + m) * bytes ≤ 140737488355328)
    (h : ∀ v1 w1, d.R e w1 base (fun _ => True) v1 (xs ++ ys) → Below base w0 w1 → W.grownBy w1 v.ownBlock → Kc (a.put o.dst v1) w1) :
    if Region.wanted o (yielded ops a.tmps) = true then Oper.wp P o a W Kc Q else Kc (a.put o.dst undef) W := by
  have hw : Region.wanted o (yielded ops a.tmps) = true := by simp [Region.wanted, hg]
  rw [if_pos hw]
  obtain ⟨i0, hi, hzz⟩ := Option.map_eq_some_iff.1 hinfo
  simp only [Prod.mk.injEq] at hzz
  obtain ⟨hz0, hz1, hz2⟩ := hzz
  have hlen : xs.length + m ≤ 140737488355328 := Nat.le_trans (Nat.le_mul_of_pos_right _ hb0) hl
  have hown := (Kd.R_own HO)
  obtain ⟨v1, w1, hr1, h1, hg1, hat⟩ := rows_run d base t o.type e i0 z bytes ht hi hz0 hz1 hz2 hz hs0 v xs ys A m c (fun _ => True) (fun _ => False) HO HR hKM (fun _ h => h.elim) (fun _ _ => trivial) hbase hlen hl
  unfold Oper.wp execOp
  simp only [ho, resolve, invoke, builtin, Sem.run_bind, Sem.run_pure, Result.andThen_ok, List.map_toArray, List.map_cons, List.map_nil, hs, hx, hr1]
  obtain ⟨inner, hown⟩ := hown
  exact h v1 w1 h1 (HB.grown hg1 hbase (own_base hown)) hg1
end
end Go.Proofs.Ytdkalnkplgfgoaa.Ln
namespace Go.Proofs.Ytdkalnkplgfgoaa.Ln
open Go.RowKit Go.Maps Go.Proofs.YtdkalnkplgfgoaaW.PrintWords Go.Proofs.YtdkalnkplgfgoaaW.PrintLast Go.Proofs.YtdkalnkplgfgoaaW.PrintMore Go.Proofs.Ytdkalnkplgfgoaa.PA
set_option linter.unusedVariables false
set_option linter.unusedSimpArgs false
def writeC (b : S47) (a : Int) (PL : Int → Int) (f : Bool × Bool) (code : List S45) : List S45 :=
  if b.f1 = 1 then (code ++ b.f0) ++ [b.f2] else if b.f1 = 2 then (if b.f3 = a then code ++ b.f0 else (code ++ b.f0) ++ [jaI (PL b.f3) ((code ++ b.f0).length : Int)]) else testC b PL f (code ++ b.f0)
set_option maxHeartbeats 4000000 in
set_option maxRecDepth 100000 in
theorem write_calls (w0 w : World) (g : List S47) (A : Option Addr) (c B : Nat) (vc vo : Value) (code : List S45) (order : List Int) (bA bF bP nA nF nP : Nat) (after PL : Int → Int) (fars : Int → Bool × Bool)
    (H : Ws w0 w g A c B vc vo code order bA bF bP nA nF nP after PL fars) (i : Int) (hi : i ∈ order) (hn : (code.length + (rd_T47 g i).f0.length + 3) * 8 ≤ 140737488355328) :
    Calls Try.prog 46 #[.pointer (some ⟨B, 0, none⟩), .int .i64 i] w fun e w' =>
      e = .returned (.tuple #[]) ∧ ∃ vc', Ws w0 w' g A c B vc' vo (writeC (rd_T47 g i) (after i) PL (fars i) code) order bA bF bP nA nF nP after PL fars := by
  have Hi := Aside0.mk hi
  have b1 : w.cell? ⟨B, 1, none⟩ = some (.slice A g.length c) := (blk_cell H.me.blk 1).trans rfl
  have hBl := blk_lt H.me.blk
  obtain ⟨hi0, hi1⟩ := H.me.ordin i hi
  obtain ⟨hwy, hwn⟩ := H.me.goin i hi
  have hwf : (Lit.int .i64 i).wf = true := WalkArith.wf_i64 (by have := Kd.C_max H.me.graph; omega)
  obtain ⟨ad, A0, c0, rfl, x0, x1, x2, x3, x4, x5, x6, x7, hl, hic⟩ := at_T47 (Kd.C_below H.me.graph H.me.below) i hi0 hi1
  obtain ⟨Ac, cc, rfl, hcc, hC⟩ := Kd.R_reads H.code
  have hu := Try.underlying26
  have HH := Aside0.mk H
  have HIC := Aside0.mk hic
  clear H hC hi hic hl
  generalize hblk : rd_T47 g i = blk at *
  have Hblk := Aside0.mk hblk
  clear hblk
  go_enter Try.func46, Try.ntmps46
  go_upto_region 1 with (fail)
  refine forget (fun W => Below w.heap.size w W ∧ W.heap[w.heap.size]? = some (.cells #[.slice A0 blk.f0.length c0, .int .i64 blk.f1, .int .u16 blk.f2.f0, .int .u8 blk.f2.f1, .int .u8 blk.f2.f2, .int .u32 blk.f2.f3, .int .i64 blk.f3, .int .i64 blk.f4] 47 (0, 0))) ⟨below_alloc (Below.refl _ _) _, blk_new _ _⟩ ?_
  clear b1 x0 x1 x2 x3 x4 x5 x6 x7
  rintro W ⟨hb, hO⟩
  have HV := Aside0.mk (HH.out.stay hb)
  have VB := Aside0.mk HV.out.me.blk
  have HC := Aside0.mk (Kd.C_below HIC.out hb)
  have HO := Aside0.mk hO
  have v0 : W.cell? ⟨B, 0, none⟩ = some (.slice Ac code.length cc) := (blk_cell VB.out 0).trans rfl
  have vf := blk_frozen VB.out 0
  have g0 : W.cell? ⟨w.heap.size, 0, none⟩ = some (.slice A0 blk.f0.length c0) := (blk_cell hO 0).trans rfl
  clear hb hO HH HIC
  refine start_ (n := 13) (S := fun w' => w'.cell? ⟨B, 0, none⟩ = some (.slice Ac code.length cc) ∧ w'.frozen? ⟨B, 0, none⟩ = false ∧ w'.cell? ⟨w.heap.size, 0, none⟩ = some (.slice A0 blk.f0.length c0)) (ds := [8, 12]) #[false, false, false, false, false, false, false, false, false, false, false, false, false] (by kernel_rfl) rfl rfl ⟨v0, vf, g0⟩ (fun hHeld => ?_)
  refine pure_ (i := 0) (N := some 12) (v := ?_) (a' := ?_) #[true, false, false, false, false, false, false, false, false, false, false, false, false] rfl rfl (by kernel_rfl) (fun _ _ _ h => h) (Or.inl ⟨by rfl, ?_⟩) ?_ ?_
  rotate_left
  · intro w'
    go_simp
    with_reducible rfl
  rotate_left
  · simp only [Act.put, List.setIfInBounds_toArray, List.set_cons_zero, List.set_cons_succ, i64_w, i32_w]
    rfl
  refine pure_ (i := 1) (N := some 13) (v := ?_) (a' := ?_) #[true, true, false, false, false, false, false, false, false, false, false, false, false] rfl rfl (by kernel_rfl) (fun _ _ _ h => h) (Or.inl ⟨by rfl, ?_⟩) ?_ ?_
  rotate_left
  · intro w'
    go_simp
    with_reducible rfl
  rotate_left
  · simp only [Act.put, List.setIfInBounds_toArray, List.set_cons_zero, List.set_cons_succ, i64_w, i32_w]
    rfl
  refine pure_ (i := 2) (N := some 14) (v := ?_) (a' := ?_) #[true, true, true, false, false, false, false, false, false, false, false, false, false] rfl rfl (by kernel_rfl) (fun _ _ _ h => h) (Or.inl ⟨by rfl, ?_⟩) ?_ ?_
  rotate_left
  · intro w'
    go_simp
    with_reducible rfl
  rotate_left
  · simp only [Act.put, List.setIfInBounds_toArray, List.set_cons_zero, List.set_cons_succ, i64_w, i32_w]
    rfl
  refine pure_ (i := 3) (N := some 15) (v := ?_) (a' := ?_) #[true, true, true, true, false, false, false, false, false, false, false, false, false] rfl rfl (by kernel_rfl) (fun _ _ _ h => h) (Or.inl ⟨by rfl, ?_⟩) ?_ ?_
  rotate_left
  · intro w'
    go_simp
    with_reducible rfl
  rotate_left
  · simp only [Act.put, List.setIfInBounds_toArray, List.set_cons_zero, List.set_cons_succ, i64_w, i32_w]
    rfl
  refine pure_ (i := 4) (N := some 16) (v := ?_) (a' := ?_) #[true, true, true, true, true, false, false, false, false, false, false, false, false] rfl rfl (by kernel_rfl) (fun _ _ _ h => h) (Or.inl ⟨by rfl, ?_⟩) ?_ ?_
  rotate_left
  · intro w'
    go_simp
    with_reducible rfl
  rotate_left
  · simp only [Act.put, List.setIfInBounds_toArray, List.set_cons_zero, List.set_cons_succ, i64_w, i32_w]
    rfl
  refine pure_ (i := 6) (N := some 18) (v := ?_) (a' := ?_) #[true, true, true, true, true, false, true, false, false, false, false, false, false] rfl rfl (by kernel_rfl) (fun _ _ _ h => h) (Or.inl ⟨by rfl, ?_⟩) ?_ ?_
  rotate_left
  · intro w'
    go_simp
    with_reducible rfl
  rotate_left
  · simp only [Act.put, List.setIfInBounds_toArray, List.set_cons_zero, List.set_cons_succ, i64_w, i32_w]
    rfl
  refine take_ (i := 5) (N := some 17) (v := ?_) (a' := ?_) #[true, true, true, true, true, true, true, false, false, false, false, false, false] rfl rfl (by kernel_rfl) (fun _ _ _ h => h) (Or.inl ⟨by rfl, ?_⟩) hHeld ?_ ?_
  rotate_left
  · rintro w' ⟨s0, s1, s2⟩
    go_simp
    with_reducible rfl
  rotate_left
  · simp only [Act.put, List.setIfInBounds_toArray, List.set_cons_zero, List.set_cons_succ, i64_w, i32_w]
    rfl
  refine take_ (i := 7) (N := some 19) (v := ?_) (a' := ?_) #[true, true, true, true, true, true, true, true, false, false, false, false, false] rfl rfl (by kernel_rfl) (fun _ _ _ h => h) (Or.inl ⟨by rfl, ?_⟩) hHeld ?_ ?_
  rotate_left
  · rintro w' ⟨s0, s1, s2⟩
    go_simp
    with_reducible rfl
  rotate_left
  · simp only [Act.put, List.setIfInBounds_toArray, List.set_cons_zero, List.set_cons_succ, i64_w, i32_w]
    rfl
  refine last_ (i := 8) (N := some 20) #[true, true, true, true, true, true, true, true, true, false, false, false, false] rfl rfl (by kernel_rfl) (by decide) (fun K hK => ?_)
  refine R_rows_step k45 (Rr := k45.K W) (w0 := w0) (W := W.drew) w0.heap.size (.tmp 17) (.tmp 19) 26 45 (.agg #[.int .u16 0, .int .u8 0, .int .u8 0, .int .u32 0]) 8 (by rfl) (by rfl) hu info45 rfl (by decide) (by decide) (.slice Ac code.length cc) code blk.f0 A0 blk.f0.length c0 (by rfl) (by rfl) (Kd.R_drew HV.out.code) HC.out (fun x cs h => by obtain rfl := k45_open h; exact k45_mkM _ _ _ x) (below_drew1 HV.out.me.below) HV.out.me.below.size (by omega) ?_
  intro v1 w1 hR hB hG
  obtain ⟨A1, cc1, rfl⟩ := Kd.R_slice hR
  have HB1 := Aside0.mk (((((Kp.refl (fun k => some k = (Value.slice Ac code.length cc).ownBlock) W).below (below_drew1 (Below.refl _ _))).grown hG (fun b hb => .inl hb.symm)).block B (blk_lt VB.out) (Kd.R_ne HV.out.code VB.out (by decide))).trans VB.out)
  have w10 : w1.cell? ⟨B, 0, none⟩ = some (.slice Ac code.length cc) := (blk_cell HB1.out 0).trans rfl
  have w1f := blk_frozen HB1.out 0
  refine hK.out _ _ ?_
  clear hK K
  refine norm_ (a' := ?_) ?_ ?_
  rotate_left
  · show Act.put _ (some 20) _ = _
    simp only [Act.put, List.setIfInBounds_toArray, List.set_cons_zero, List.set_cons_succ, i64_w, i32_w]
    rfl
  refine pure_ (i := 9) (N := some 21) (v := ?_) (a' := ?_) #[true, true, true, true, true, true, true, true, true, true, false, false, false] rfl rfl (by kernel_rfl) (fun _ _ _ h => h) (Or.inl ⟨by rfl, ?_⟩) ?_ ?_
  rotate_left
  · intro w'
    go_simp
    with_reducible rfl
  rotate_left
  · simp only [Act.put, List.setIfInBounds_toArray, List.set_cons_zero, List.set_cons_succ, i64_w, i32_w]
    rfl
  refine pure_ (i := 10) (N := some 22) (v := ?_) (a' := ?_) #[true, true, true, true, true, true, true, true, true, true, true, false, false] rfl rfl (by kernel_rfl) (fun _ _ _ h => h) (Or.inl ⟨by rfl, ?_⟩) ?_ ?_
  rotate_left
  · intro w'
    go_simp
    with_reducible rfl
  rotate_left
  · simp only [Act.put, List.setIfInBounds_toArray, List.set_cons_zero, List.set_cons_succ, i64_w, i32_w]
    rfl
  refine pure_ (i := 11) (N := some 23) (v := ?_) (a' := ?_) #[true, true, true, true, true, true, true, true, true, true, true, true, false] rfl rfl (by kernel_rfl) (fun _ _ _ h => h) (Or.inl ⟨by rfl, ?_⟩) ?_ ?_
  rotate_left
  · intro w'
    go_simp
    with_reducible rfl
  rotate_left
  · simp only [Act.put, List.setIfInBounds_toArray, List.set_cons_zero, List.set_cons_succ, i64_w, i32_w]
    rfl
  refine last_ (i := 12) (N := none) #[true, true, true, true, true, true, true, true, true, true, true, true, true] rfl rfl (by kernel_rfl) (by decide) (fun K hK => ?_)
  refine skip_ (w1 := ?_) (by rfl) rfl ?_ ?_
  rotate_left
  · go_simp
    rfl
  refine hK.out _ _ ?_
  clear hK K
  refine done_ (by kernel_rfl) ?_
  go_upto_region 2 with (fail)
  have kv : Kp (fun k => k = B ∨ some k = (Value.slice Ac code.length cc).ownBlock) W w1 := (((Kp.refl (fun k => k = B ∨ some k = (Value.slice Ac code.length cc).ownBlock) W).below (below_drew1 (Below.refl _ _))).grown hG (fun b hb => .inl (.inr hb.symm)))
  have kv1 := kv.set (.inl (.inl rfl)) 0 (.slice A1 (code.length + blk.f0.length) cc1)
  refine forget (fun V => (∃ vc3, Ws w0 V g (some ad) c B vc3 vo (code ++ blk.f0) order bA bF bP nA nF nP after PL fars) ∧ V.heap[w.heap.size]? = some (.cells #[.slice A0 blk.f0.length c0, .int .i64 blk.f1, .int .u16 blk.f2.f0, .int .u8 blk.f2.f1, .int .u8 blk.f2.f2, .int .u32 blk.f2.f3, .int .i64 blk.f3, .int .i64 blk.f4] 47 (0, 0)))
    ⟨⟨_, HV.out.wrote kv1 (blk_put HB1.out 0 _ rfl) (by have := Kd.R_set hR HB1.out (by decide) 0 (.slice A1 (code.length + blk.f0.length) cc1); rw [List.length_append] at this; exact this)⟩, HV.out.loc kv1 HO.out (by decide) (by decide)⟩ ?_
  clear w10 w1f HB1 kv kv1 hR hG hB HV VB HC HO v0 vf g0
  rintro V ⟨⟨vc3, hs⟩, hO⟩
  obtain ⟨Ad, cd, rfl, hcd, _⟩ := Kd.R_reads hs.code
  have hle : (code ++ blk.f0).length = code.length + blk.f0.length := List.length_append
  have HLE := Aside0.mk hle
  rw [hle] at hs
  have HV := Aside0.mk hs
  have VB := Aside0.mk hs.me.blk
  have HO := Aside0.mk hO
  have l1 : V.cell? ⟨w.heap.size, 1, none⟩ = some (.int .i64 blk.f1) := (blk_cell hO 1).trans rfl
  clear hs hle hcd hcc
  by_cases c1 : blk.f1 = 1
  · have c1b : (blk.f1 == 1) = true := beq_iff_eq.mpr c1
    have l2 : V.cell? ⟨w.heap.size, 2, none⟩ = some (.int .u16 blk.f2.f0) := (blk_cell hO 2).trans rfl
    have l3 : V.cell? ⟨w.heap.size, 3, none⟩ = some (.int .u8 blk.f2.f1) := (blk_cell hO 3).trans rfl
    have l4 : V.cell? ⟨w.heap.size, 4, none⟩ = some (.int .u8 blk.f2.f2) := (blk_cell hO 4).trans rfl
    have l5 : V.cell? ⟨w.heap.size, 5, none⟩ = some (.int .u32 blk.f2.f3) := (blk_cell hO 5).trans rfl
    have d0 : V.cell? ⟨B, 0, none⟩ = some (.slice Ad (code.length + blk.f0.length) cd) := (blk_cell VB.out 0).trans rfl
    have df := blk_frozen VB.out 0
    have C1 := Aside0.mk c1
    clear hO c1
    go_wp2
    refine start_ (n := 14) (S := fun w' => w'.cell? ⟨B, 0, none⟩ = some (.slice Ad (code.length + blk.f0.length) cd) ∧ w'.frozen? ⟨B, 0, none⟩ = false ∧ w'.cell? ⟨w.heap.size, 2, none⟩ = some (.int .u16 blk.f2.f0) ∧ w'.cell? ⟨w.heap.size, 3, none⟩ = some (.int .u8 blk.f2.f1) ∧ w'.cell? ⟨w.heap.size, 4, none⟩ = some (.int .u8 blk.f2.f2) ∧ w'.cell? ⟨w.heap.size, 5, none⟩ = some (.int .u32 blk.f2.f3)) (ds := [9, 13]) #[false, false, false, false, false, false, false, false, false, false, false, false, false, false] (by kernel_rfl) rfl rfl ⟨d0, df, l2, l3, l4, l5⟩ (fun hHeld => ?_)
    refine pure_ (i := 0) (N := some 32) (v := ?_) (a' := ?_) #[true, false, false, false, false, false, false, false, false, false, false, false, false, false] rfl rfl (by kernel_rfl) (fun _ _ _ h => h) (Or.inl ⟨by rfl, ?_⟩) ?_ ?_
    rotate_left
    · intro w'
      go_simp
      with_reducible rfl
    rotate_left
    · simp only [Act.put, List.setIfInBounds_toArray, List.set_cons_zero, List.set_cons_succ, i64_w, i32_w]
      rfl
    refine pure_ (i := 1) (N := some 33) (v := ?_) (a' := ?_) #[true, true, false, false, false, false, false, false, false, false, false, false, false, false] rfl rfl (by kernel_rfl) (fun _ _ _ h => h) (Or.inl ⟨by rfl, ?_⟩) ?_ ?_
    rotate_left
    · intro w'
      go_simp
      with_reducible rfl
    rotate_left
    · simp only [Act.put, List.setIfInBounds_toArray, List.set_cons_zero, List.set_cons_succ, i64_w, i32_w]
      rfl
    refine pure_ (i := 2) (N := some 34) (v := ?_) (a' := ?_) #[true, true, true, false, false, false, false, false, false, false, false, false, false, false] rfl rfl (by kernel_rfl) (fun _ _ _ h => h) (Or.inl ⟨by rfl, ?_⟩) ?_ ?_
    rotate_left
    · intro w'
      go_simp
      with_reducible rfl
    rotate_left
    · simp only [Act.put, List.setIfInBounds_toArray, List.set_cons_zero, List.set_cons_succ, i64_w, i32_w]
      rfl
    refine pure_ (i := 3) (N := some 35) (v := ?_) (a' := ?_) #[true, true, true, true, false, false, false, false, false, false, false, false, false, false] rfl rfl (by kernel_rfl) (fun _ _ _ h => h) (Or.inl ⟨by rfl, ?_⟩) ?_ ?_
    rotate_left
    · intro w'
      go_simp
      with_reducible rfl
    rotate_left
    · simp only [Act.put, List.setIfInBounds_toArray, List.set_cons_zero, List.set_cons_succ, i64_w, i32_w]
      rfl
    refine pure_ (i := 4) (N := some 36) (v := ?_) (a' := ?_) #[true, true, true, true, true, false, false, false, false, false, false, false, false, false] rfl rfl (by kernel_rfl) (fun _ _ _ h => h) (Or.inl ⟨by rfl, ?_⟩) ?_ ?_
    rotate_left
    · intro w'
      go_simp
      with_reducible rfl
    rotate_left
    · simp only [Act.put, List.setIfInBounds_toArray, List.set_cons_zero, List.set_cons_succ, i64_w, i32_w]
      rfl
    refine pure_ (i := 6) (N := some 38) (v := ?_) (a' := ?_) #[true, true, true, true, true, false, true, false, false, false, false, false, false, false] rfl rfl (by kernel_rfl) (fun _ _ _ h => h) (Or.inl ⟨by rfl, ?_⟩) ?_ ?_
    rotate_left
    · intro w'
      go_simp
      with_reducible rfl
    rotate_left
    · simp only [Act.put, List.setIfInBounds_toArray, List.set_cons_zero, List.set_cons_succ, i64_w, i32_w]
      rfl
    refine take_ (i := 5) (N := some 37) (v := ?_) (a' := ?_) #[true, true, true, true, true, true, true, false, false, false, false, false, false, false] rfl rfl (by kernel_rfl) (fun _ _ _ h => h) (Or.inl ⟨by rfl, ?_⟩) hHeld ?_ ?_
    rotate_left
    · rintro w' ⟨s0, s1, s2, s3, s4, s5⟩
      go_simp
      with_reducible rfl
    rotate_left
    · simp only [Act.put, List.setIfInBounds_toArray, List.set_cons_zero, List.set_cons_succ, i64_w, i32_w]
      rfl
    refine take_ (i := 7) (N := some 39) (v := ?_) (a' := ?_) #[true, true, true, true, true, true, true, true, false, false, false, false, false, false] rfl rfl (by kernel_rfl) (fun _ _ _ h => h) (Or.inl ⟨by rfl, ?_⟩) hHeld ?_ ?_
    rotate_left
    · rintro w' ⟨s0, s1, s2, s3, s4, s5⟩
      go_simp
      with_reducible rfl
    rotate_left
    · simp only [Act.put, List.setIfInBounds_toArray, List.set_cons_zero, List.set_cons_succ, i64_w, i32_w]
      rfl
    refine one_ (i := 8) (N := some 40) #[true, true, true, true, true, true, true, true, true, false, false, false, false, false] rfl rfl (by kernel_rfl) (by decide) (fun K hK => ?_)
    refine value_ (w1 := ?_) (v := ?_) (by rfl) rfl ?_ ?_
    rotate_left 2
    · go_simp
      constructor
      · rfl
      · rfl
    refine hK.out _ _ ⟨(pw_cell_below (below_drew1 (below_alloc (Below.refl _ _) _)) d0), (blk_frozen (blk_below (w := V) VB.out (below_drew1 (below_alloc (Below.refl _ _) _))) 0), (pw_cell_below (below_drew1 (below_alloc (Below.refl _ _) _)) l2), (pw_cell_below (below_drew1 (below_alloc (Below.refl _ _) _)) l3), (pw_cell_below (below_drew1 (below_alloc (Below.refl _ _) _)) l4), (pw_cell_below (below_drew1 (below_alloc (Below.refl _ _) _)) l5)⟩ (fun hHeld => ?_)
    clear hK K
    refine norm_ (a' := ?_) ?_ ?_
    rotate_left
    · show Act.put _ (some 40) _ = _
      simp only [Act.put, List.setIfInBounds_toArray, List.set_cons_zero, List.set_cons_succ, i64_w, i32_w]
      rfl
    refine last_ (i := 9) (N := some 41) #[true, true, true, true, true, true, true, true, true, true, false, false, false, false] rfl rfl (by kernel_rfl) (by decide) (fun K hK => ?_)
    refine R_append_drew k45 (w0 := w0) (W := V) w0.heap.size (.tmp 37) (.tmp 40) 26 45 (.agg #[.int .u16 0, .int .u8 0, .int .u8 0, .int .u32 0]) 8 (by rfl) (by rfl) hu info45 rfl (by decide) (by decide) (.slice Ad (code.length + blk.f0.length) cd) (code ++ blk.f0) blk.f2 [.int .u16 blk.f2.f0, .int .u8 blk.f2.f1, .int .u8 blk.f2.f2, .int .u32 blk.f2.f3] (by rfl) (by rfl) (k45_mkM _ _ _ blk.f2) HV.out.code HV.out.me.below HV.out.me.below.size (by rw [List.length_append]; omega) ?_
    intro v1 w1 hR hB hG
    obtain ⟨A1, cc1, rfl⟩ := Kd.R_slice hR
    have HB1 := Aside0.mk (((((Kp.refl (fun k => some k = (Value.slice Ad (code.length + blk.f0.length) cd).ownBlock) V).below (below_drew1 (Below.refl _ _))).grown hG (fun b hb => .inl hb.symm)).block B (blk_lt VB.out) (Kd.R_ne HV.out.code VB.out (by decide))).trans VB.out)
    have w10 : w1.cell? ⟨B, 0, none⟩ = some (.slice Ad (code.length + blk.f0.length) cd) := (blk_cell HB1.out 0).trans rfl
    have w1f := blk_frozen HB1.out 0
    refine hK.out _ _ ?_
    clear hK K
    refine norm_ (a' := ?_) ?_ ?_
    rotate_left
    · show Act.put _ (some 41) _ = _
      simp only [Act.put, List.setIfInBounds_toArray, List.set_cons_zero, List.set_cons_succ, i64_w, i32_w]
      rfl
    refine pure_ (i := 10) (N := some 42) (v := ?_) (a' := ?_) #[true, true, true, true, true, true, true, true, true, true, true, false, false, false] rfl rfl (by kernel_rfl) (fun _ _ _ h => h) (Or.inl ⟨by rfl, ?_⟩) ?_ ?_
    rotate_left
    · intro w'
      go_simp
      with_reducible rfl
    rotate_left
    · simp only [Act.put, List.setIfInBounds_toArray, List.set_cons_zero, List.set_cons_succ, i64_w, i32_w]
      rfl
    refine pure_ (i := 11) (N := some 43) (v := ?_) (a' := ?_) #[true, true, true, true, true, true, true, true, true, true, true, true, false, false] rfl rfl (by kernel_rfl) (fun _ _ _ h => h) (Or.inl ⟨by rfl, ?_⟩) ?_ ?_
    rotate_left
    · intro w'
      go_simp
      with_reducible rfl
    rotate_left
    · simp only [Act.put, List.setIfInBounds_toArray, List.set_cons_zero, List.set_cons_succ, i64_w, i32_w]
      rfl
    refine pure_ (i := 12) (N := some 44) (v := ?_) (a' := ?_) #[true, true, true, true, true, true, true, true, true, true, true, true, true, false] rfl rfl (by kernel_rfl) (fun _ _ _ h => h) (Or.inl ⟨by rfl, ?_⟩) ?_ ?_
    rotate_left
    · intro w'
      go_simp
      with_reducible rfl
    rotate_left
    · simp only [Act.put, List.setIfInBounds_toArray, List.set_cons_zero, List.set_cons_succ, i64_w, i32_w]
      rfl
    refine last_ (i := 13) (N := none) #[true, true, true, true, true, true, true, true, true, true, true, true, true, true] rfl rfl (by kernel_rfl) (by decide) (fun K hK => ?_)
    refine skip_ (w1 := ?_) (by rfl) rfl ?_ ?_
    rotate_left
    · go_simp
      rfl
    refine hK.out _ _ ?_
    clear hK K
    refine done_ (by kernel_rfl) ?_
    go_wp2
    go_end0
    have kv : Kp (fun k => k = B ∨ some k = (Value.slice Ad (code.length + blk.f0.length) cd).ownBlock) V w1 := (((Kp.refl (fun k => k = B ∨ some k = (Value.slice Ad (code.length + blk.f0.length) cd).ownBlock) V).below (below_drew1 (Below.refl _ _))).grown hG (fun b hb => .inl (.inr hb.symm)))
    have kv1 := kv.set (.inl (.inl rfl)) 0 (.slice A1 (code.length + blk.f0.length + 1) cc1)
    exact ⟨rfl, _, by
      rw [show writeC blk (after i) PL (fars i) code = (code ++ blk.f0) ++ [blk.f2] from if_pos C1.out]
      exact HV.out.wrote kv1 (blk_put HB1.out 0 _ rfl) (by have := Kd.R_set hR HB1.out (by decide) 0 (.slice A1 (code.length + blk.f0.length + 1) cc1); rw [List.length_append, List.length_singleton, HLE.out] at this; exact this)⟩
  · have c1b : (blk.f1 == 1) = false := beq_eq_false_iff_ne.mpr c1
    by_cases c2 : blk.f1 = 2
    · have c2b : (blk.f1 == 2) = true := beq_iff_eq.mpr c2
      have l6 : V.cell? ⟨w.heap.size, 6, none⟩ = some (.int .i64 blk.f3) := (blk_cell hO 6).trans rfl
      have d3 : V.cell? ⟨B, 3, none⟩ = some (.map (some bA)) := (blk_cell VB.out 3).trans rfl
      have lA : ∀ n, (Instr.lookup 66 (.map (some bA)) (.int .i64 i) false).run Try.prog (V.drewN n) = .ok (.int .i64 (after i)) (V.drewN n) := fun n => MI_look (HV.out.me.mA.below (pw_below_drewN (Below.refl _ _) n)) i hwf
      by_cases c3 : blk.f3 = after i
      · have c3b : (blk.f3 != after i) = false := bne_eq_false_iff_eq.mpr c3
        have e : writeC blk (after i) PL (fars i) code = code ++ blk.f0 := by unfold writeC; rw [if_neg c1, if_pos c2, if_pos c3]
        have E := Aside0.mk e
        clear hO c1 c2 c3 e
        go_wp2
        go_quiet (fail)
        go_wp2
        go_end0
        exact ⟨rfl, _, by rw [E.out]; exact HV.out.stay (pw_below_drewN (Below.refl _ _) _)⟩
      · have c3b : (blk.f3 != after i) = true := bne_iff_ne.mpr c3
        have e : writeC blk (after i) PL (fars i) code = (code ++ blk.f0) ++ [jaI (PL blk.f3) ((code ++ blk.f0).length : Int)] := by unfold writeC; rw [if_neg c1, if_pos c2, if_neg c3]
        have E := Aside0.mk e
        clear hO c1 c2 c3 e
        go_wp2
        go_quiet (fail)
        go_wp2_with fail
        refine (ja_calls w0 _ g _ c B _ vo _ order bA bF bP nA nF nP after PL fars (HV.out.stay (pw_below_drewN (Below.refl _ _) _)) blk.f3 hwy (by rw [HLE.out]; omega)).mono ?_
        rintro e w' ⟨rfl, vc4, hs, kp⟩
        have HS4 := Aside0.mk hs
        clear hs kp
        go_wp2
        go_end0
        exact ⟨rfl, vc4, by rw [E.out]; exact HS4.out⟩
    · have c2b : (blk.f1 == 2) = false := beq_eq_false_iff_ne.mpr c2
      have e : writeC blk (after i) PL (fars i) code = testC blk PL (fars i) (code ++ blk.f0) := by unfold writeC; rw [if_neg c1, if_neg c2]
      have E := Aside0.mk e
      have m0 := (blk_cell hO 0)
      have m2 := (blk_cell hO 2)
      have m3 := (blk_cell hO 3)
      have m4 := (blk_cell hO 4)
      have m5 := (blk_cell hO 5)
      have m6 := (blk_cell hO 6)
      have m7 := (blk_cell hO 7)
      clear hO c1 c2 e
      go_wp2_with fail
      refine (test_calls w0 _ g _ A0 c c0 B _ vo _ order bA bF bP nA nF nP after PL fars HV.out i Hi.out blk Hblk.out (by rw [HLE.out]; omega)).mono ?_
      rintro e w' ⟨rfl, vc4, hs⟩
      have HS4 := Aside0.mk hs
      clear hs
      go_wp2
      go_end0
      exact ⟨rfl, vc4, by rw [E.out]; exact HS4.out⟩
end Go.Proofs.Ytdkalnkplgfgoaa.Ln
namespace Go.Proofs.Ytdkalnkplgfgoaa.Ln
open Go.RowKit Go.Maps Go.Proofs.YtdkalnkplgfgoaaW.PrintWords Go.Proofs.YtdkalnkplgfgoaaW.PrintLast Go.Proofs.YtdkalnkplgfgoaaW.PrintMore Go.Proofs.Ytdkalnkplgfgoaa.PA
set_option linter.unusedVariables false
set_option linter.unusedSimpArgs false
def goalsL (b : S47) : List Int := if b.f1 = 2 then [b.f3] else if b.f1 = 3 then [b.f3, b.f4] else []
/-- Where one can come to. -/
inductive Rch (g : List S47) : Int → Prop where
  | zero : Rch g 0
  | step {i x : Int} : Rch g i → 0 ≤ i → i < (g.length : Int) → x ∈ goalsL (rd_T47 g i) → Rch g x
/-- Reach under way: R what has been found, L what is still to be looked at, X what is being looked at. -/
structure RSt (w wr : World) (g : List S47) (go co : Nat) (R : List Bool) (vl : Value) (L : List Int) (X : Int → Prop) : Prop where
  below : Below w.heap.size w wr
  out : Kd.bool.R 4 wr w.heap.size (fun _ => True) (.slice (some ⟨go, 0, none⟩) g.length co) R
  lst : (Kd.int .i64).R 3 wr w.heap.size (fun _ => True) vl L
  len : R.length = g.length
  zero : rdOf false R 0 = true
  snd : ∀ i : Int, 0 ≤ i → i < g.length → rdOf false R i = true → Rch g i
  inL : ∀ i, i ∈ L → 0 ≤ i ∧ i < (g.length : Int) ∧ rdOf false R i = true
  cls : ∀ i : Int, 0 ≤ i → i < g.length → rdOf false R i = true → i ∈ L ∨ X i ∨ ∀ x ∈ goalsL (rd_T47 g i), rdOf false R x = true
theorem rdOf_set {R : List Bool} {i x : Int} (h0 : 0 ≤ i) (hi : i < R.length) (hx : 0 ≤ x) : rdOf false (R.set i.toNat true) x = if x = i then true else rdOf false R x := by
  unfold rdOf
  rw [List.getD_eq_getElem?_getD, List.getD_eq_getElem?_getD, List.getElem?_set]
  by_cases e : x = i
  · subst e
    rw [if_pos rfl, if_pos rfl, if_pos (by omega)]; rfl
  · rw [if_neg e, if_neg (by omega)]
theorem rdOf_rep {n : Nat} {x : Int} : rdOf false (List.replicate n false) x = false := by
  unfold rdOf
  rw [List.getD_eq_getElem?_getD, List.getElem?_replicate]
  split <;> rfl
theorem count_set {R : List Bool} {i : Nat} (hi : i < R.length) (h : R.getD i false = false) : (R.set i true).count false + 1 = R.count false := by
  induction R generalizing i with
  | nil => simp at hi
  | cons b R ih =>
    cases i with
    | zero =>
      have : b = false := by simpa using h
      subst this
      simp
    | succ i =>
      have := ih (i := i) (by simpa using hi) (by simpa using h)
      simp only [List.set_cons_succ, List.count_cons]
      omega
theorem last_split {L : List Int} {m : Nat} (h : L.length = m + 1) : L = L.take m ++ [rdOf (0 : Int) L (m : Int)] := by
  have := List.take_append_drop m L
  rw [List.drop_eq_getElem_cons (by omega), List.drop_eq_nil_of_le (by omega)] at this
  unfold rdOf
  rw [Int.toNat_natCast, List.getD_eq_getElem?_getD, List.getElem?_eq_getElem (by omega)]
  exact this.symm
/-- The inner loop: the first j goals of x are found. -/
structure RIn (w wr : World) (g : List S47) (go co : Nat) (R : List Bool) (vl : Value) (L : List Int) (x : Int) (vg : Value) (gs : List Int) (j : Nat) : Prop where
  st : RSt w wr g go co R vl L (fun i => i = x)
  lst : (Kd.int .i64).R 3 wr w.heap.size (fun k => some k ≠ vg.ownBlock) vl L
  row : (Kd.int .i64).R 3 wr w.heap.size (fun k => some k = vg.ownBlock) vg gs
  done : ∀ i, i ∈ gs.take j → rdOf false R i = true
theorem RSt.back {w wr wr' : World} {g : List S47} {go co m cl : Nat} {R : List Bool} {A : Option Addr} {L : List Int} {x : Int} (H : RSt w wr g go co R (.slice A (m + 1) cl) L (fun _ => False)) (hm : L.length = m + 1) (hx : x = rdOf (0 : Int) L (m : Int)) (hb : Below wr.heap.size wr wr') :
    RSt w wr' g go co R (.slice A m cl) (L.take m) (fun i => i = x) := by
  have hs := last_split hm
  refine ⟨H.below.trans ⟨hb.os, hb.tape, hb.output, hb.size, fun i hi => hb.block i (Nat.lt_of_lt_of_le hi H.below.size)⟩, Kd.R_below H.out hb, Kd.R_below (Kd.R_take H.lst (by omega)) hb, H.len, H.zero, H.snd, fun i hi => H.inL i (List.mem_of_mem_take hi), fun i h0 h1 h2 => ?_⟩
  rcases H.cls i h0 h1 h2 with h | h | h
  · rw [hs] at h
    rcases List.mem_append.1 h with h | h
    · exact .inl h
    · exact .inr (.inl (by rw [hx]; exact List.mem_singleton.1 h))
  · exact h.elim
  · exact .inr (.inr h)
theorem RSt.close {w wr : World} {g : List S47} {go co : Nat} {R : List Bool} {vl : Value} {L : List Int} {x : Int} (H : RSt w wr g go co R vl L (fun i => i = x)) (h : ∀ y ∈ goalsL (rd_T47 g x), rdOf false R y = true) : RSt w wr g go co R vl L (fun _ => False) := by
  refine ⟨H.below, H.out, H.lst, H.len, H.zero, H.snd, H.inL, fun i h0 h1 h2 => ?_⟩
  rcases H.cls i h0 h1 h2 with h3 | h3 | h3
  · exact .inl h3
  · subst h3; exact .inr (.inr h)
  · exact .inr (.inr h3)
theorem take_snoc {gs : List Int} {j : Nat} (h : j < gs.length) : gs.take (j + 1) = gs.take j ++ [rd gs (j : Int)] := by
  rw [List.take_succ_eq_append_getElem h]
  unfold rd
  rw [Int.toNat_natCast, List.getD_eq_getElem?_getD, List.getElem?_eq_getElem h]
  rfl
theorem RIn.next {w wr : World} {g : List S47} {go co : Nat} {R : List Bool} {vl : Value} {L : List Int} {x : Int} {vg : Value} {gs : List Int} {j : Nat} (H : RIn w wr g go co R vl L x vg gs j) (h : j < gs.length) :
    ∀ R' : List Bool, (∀ i, 0 ≤ i → rdOf false R i = true → rdOf false R' i = true) → (∀ y ∈ gs, 0 ≤ y) → rdOf false R' (rd gs (j : Int)) = true → ∀ i, i ∈ gs.take (j + 1) → rdOf false R' i = true := by
  intro R' hm h0 hy i hi
  rw [take_snoc h] at hi
  rcases List.mem_append.1 hi with h1 | h1
  · exact hm i (h0 i (List.mem_of_mem_take h1)) (H.done i h1)
  · rw [List.mem_singleton.1 h1]; exact hy
theorem RIn.found {w wr w1 : World} {g : List S47} {go co : Nat} {R : List Bool} {vl v1 : Value} {L : List Int} {x y : Int} {vg : Value} {gs : List Int} {j : Nat} (H : RIn w wr g go co R vl L x vg gs j) (hR : R.length = g.length)
    (hy0 : 0 ≤ y) (hy1 : y < (g.length : Int)) (hRy : rdOf false R y = false) (hm : ∀ y ∈ gs, y ∈ goalsL (rd_T47 g x)) (hmem : y ∈ gs) (hx : Rch g x) (hx0 : 0 ≤ x) (hx1 : x < (g.length : Int)) (h0 : ∀ y ∈ gs, 0 ≤ y)
    (hd : ∀ R' : List Bool, (∀ i, 0 ≤ i → rdOf false R i = true → rdOf false R' i = true) → (∀ y ∈ gs, 0 ≤ y) → rdOf false R' y = true → ∀ i, i ∈ gs.take (j + 1) → rdOf false R' i = true)
    (hl : (Kd.int .i64).R 3 (wr.setCell ⟨go, y.toNat, none⟩ (.bool true)) w.heap.size (fun k => some k ≠ vg.ownBlock) vl L) (hr : (Kd.int .i64).R 3 (wr.setCell ⟨go, y.toNat, none⟩ (.bool true)) w.heap.size (fun k => some k = vg.ownBlock) vg gs)
    (ho : Kd.bool.R 4 (wr.setCell ⟨go, y.toNat, none⟩ (.bool true)) w.heap.size (fun _ => True) (.slice (some ⟨go, 0, none⟩) g.length co) (R.set y.toNat true)) (hb : Below w.heap.size w w1)
    (hl1 : (Kd.int .i64).R 3 w1 w.heap.size (fun k => some k ≠ vg.ownBlock) v1 (L ++ [y])) (hg : (wr.setCell ⟨go, y.toNat, none⟩ (.bool true)).grownBy w1 vl.ownBlock) :
    RIn w w1 g go co (R.set y.toNat true) v1 (L ++ [y]) x vg gs (j + 1) := by
  have hset : ∀ i, 0 ≤ i → rdOf false (R.set y.toNat true) i = if i = y then true else rdOf false R i := fun i hi => rdOf_set hy0 (by rw [hR]; omega) hi
  have hmono : ∀ i, 0 ≤ i → rdOf false R i = true → rdOf false (R.set y.toNat true) i = true := fun i hi h => by rw [hset i hi, h]; split <;> rfl
  refine ⟨⟨hb, Kd.R_over ho hl (by decide) hg, Kd.R_mono hl1 (fun _ _ => trivial), by rw [List.length_set]; exact H.st.len, hmono 0 (Int.le_refl 0) H.st.zero, fun i h0 h1 h2 => ?_, fun i hi => ?_, fun i h0 h1 h2 => ?_⟩, hl1, Kd.R_grown hr hg (fun k hk he => hl.1 k he.symm hk), hd _ hmono h0 (by rw [hset y hy0, if_pos rfl])⟩
  · rw [hset i h0] at h2
    by_cases e : i = y
    · subst e; exact .step hx hx0 hx1 (hm _ hmem)
    · rw [if_neg e] at h2; exact H.st.snd i h0 h1 h2
  · rcases List.mem_append.1 hi with h | h
    · obtain ⟨a, b, c⟩ := H.st.inL i h
      exact ⟨a, b, hmono i a c⟩
    · rw [List.mem_singleton.1 h]
      exact ⟨hy0, hy1, by rw [hset y hy0, if_pos rfl]⟩
  · rw [hset i h0] at h2
    by_cases e : i = y
    · exact .inl (List.mem_append_right _ (by rw [e]; exact List.mem_singleton_self _))
    · rw [if_neg e] at h2
      rcases H.st.cls i h0 h1 h2 with h3 | h3 | h3
      · exact .inl (List.mem_append_left _ h3)
      · exact .inr (.inl h3)
      · refine .inr (.inr fun z hz => ?_)
        have := h3 z hz
        by_cases hz0 : 0 ≤ z
        · exact hmono z hz0 this
        · unfold rdOf at this ⊢
          rw [show z.toNat = 0 by omega] at this ⊢
          have h4 := hmono 0 (Int.le_refl 0) H.st.zero
          unfold rdOf at h4
          exact h4
theorem goals_eq (b : S47) : graph_goals.f b.f0 b.f1 b.f2.f0 b.f2.f1 b.f2.f2 b.f2.f3 b.f3 b.f4 = some (goalsL b) := by
  unfold graph_goals.f goalsL
  split
  · rfl
  · split <;> rfl
theorem rch_of {w wr : World} {g : List S47} {go co : Nat} {R : List Bool} {vl : Value} (H : RSt w wr g go co R vl [] (fun _ => False)) (hg : ∀ i : Int, 0 ≤ i → i < g.length → ∀ x ∈ goalsL (rd_T47 g i), 0 ≤ x ∧ x < (g.length : Int)) {i : Int} (h : Rch g i) :
    rdOf false R i = true := by
  induction h with
  | zero => exact H.zero
  | step h a b c ih =>
    rcases H.cls _ a b ih with h1 | h1 | h1
    · cases h1
    · exact h1.elim
    · exact h1 _ c
set_option maxHeartbeats 4000000 in
set_option maxRecDepth 100000 in
theorem reach_calls (k : Nat) (w : World) (g : List S47) (A : Option Addr) (c : Nat) (HG : Kd.C k47 w A g.length g) (hc : g.length ≤ c) (ht : graph_taken.f k g = some 0) (h0 : 0 < g.length) (hn : g.length ≤ 4096)
    (hg : ∀ i : Int, 0 ≤ i → i < g.length → ∀ x ∈ goalsL (rd_T47 g i), 0 ≤ x ∧ x < (g.length : Int)) (hv : ∀ i : Int, 0 ≤ i → i < g.length → (rd_T47 g i).f1 = 1 ∨ (rd_T47 g i).f1 = 2 ∨ (rd_T47 g i).f1 = 3) :
    Calls Try.prog 44 #[.slice A g.length c] w fun e w' => ∃ (R : List Bool) (v : Value), e = .returned (.tuple #[v, .int .i64 0]) ∧ Kd.bool.R 4 w' w.heap.size (fun _ => True) v R ∧ Below w.heap.size w w' ∧ R.length = g.length ∧ (∀ i : Int, 0 ≤ i → i < g.length → (rdOf false R i = true ↔ Rch g i)) := by
  have HGA := Aside0.mk HG
  have HCA := Aside0.mk hc
  have HT := Aside0.mk ht
  have Hg := Aside0.mk hg
  have Hv := Aside0.mk hv
  clear HG hc ht hg hv
  have hub := Try.underlying73
  go_enter Try.func44, Try.ntmps44
  go_wp2
  go_step3
  go_wp2_with fail
  refine (graph_taken.calls k A c g 0 _ HGA.out HCA.out HT.out).mono ?_
  rintro e w1 ⟨rfl, hb⟩
  have HB1 := Aside0.mk hb
  clear hb
  go_wp2_with (first | ((with_reducible refine gate_dst (N := 17) rfl ?_); refine Kd.R_make Kd.bool w.heap.size 4 rfl (N := 17) rfl 73 _ _ rfl (g.length : Int) rfl rfl hub (.bool false) 1 info4 rfl (by decide) (by omega) false (w0 := w) (ok := fun _ => True) (okp := fun _ => True) rfl (fun _ hk => hk) trivial (by omega) (by omega) HB1.out HB1.out.size ?_; intro v1 w2 ho hb hgr hnew; clear hgr hnew; rw [Int.toNat_natCast] at ho; obtain ⟨go, co, rfl, gb, gl, cl, hcl⟩ := Kd.R_form ho (by rw [List.length_replicate]; omega); rw [List.length_replicate] at ho ⊢; clear hcl cl gb; have HO := Aside0.mk ho; have HB2 := Aside0.mk hb; clear ho hb HB1; have s0 := Kd.R_cell false (g := go) (by rw [List.length_replicate]; exact HO.out) 0 (by omega) (by rw [List.length_replicate]; omega); obtain ⟨s0, s1⟩ := s0; replace s0 : w2.cell? ⟨go, 0, none⟩ = some (.bool (rdOf false (List.replicate g.length false) 0)) := s0; replace s1 : w2.frozen? ⟨go, 0, none⟩ = false := s1))
  have hst : Aside0 (RSt w ((w2.setCell ⟨go, 0, none⟩ (.bool true)).alloc (.cells #[.int .i64 0] 3)) g go co ((List.replicate g.length false).set 0 true) (.slice (some ⟨w2.heap.size, 0, none⟩) 1 1) [0] (fun _ => False)) := by
    have hsz : (w2.setCell ⟨go, 0, none⟩ (.bool true)).heap.size = w2.heap.size := by simp [World.setCell]
    have hb := below_set (v := .bool true) (j := 0) HB2.out (Kd.R_base HO.out go rfl)
    have hp := (Kd.R_put (xs := List.replicate g.length false) (g := go) (by rw [List.length_replicate]; exact HO.out) 0 true).1
    have hl := own_lit (w2.setCell ⟨go, 0, none⟩ (.bool true)) w.heap.size 3 .i64 [0] (by rw [hsz]; exact HB2.out.size) (by simp)
    rw [hsz] at hl
    have h1 : rdOf false ((List.replicate g.length false).set 0 true) 0 = true := by
      have := rdOf_set (R := List.replicate g.length false) (i := 0) (x := 0) (by omega) (by rw [List.length_replicate]; omega) (by omega)
      rw [if_pos rfl] at this
      exact this
    have h2 : ∀ i : Int, 0 ≤ i → rdOf false ((List.replicate g.length false).set 0 true) i = true → i = 0 := by
      intro i hi h
      have := rdOf_set (R := List.replicate g.length false) (i := 0) (x := i) (by omega) (by rw [List.length_replicate]; omega) hi
      rw [rdOf_rep] at this
      by_cases e : i = 0
      · exact e
      · rw [if_neg e] at this
        have h' : rdOf false ((List.replicate g.length false).set (0 : Int).toNat true) i = true := h
        rw [this] at h'
        cases h'
    refine ⟨⟨below_alloc hb _, Kd.R_alloc (by rw [List.length_replicate] at hp; exact hp) _, Kd.R_of_own (enc := Value.int .i64) (h1 := fun _ => rfl) hl (fun _ _ => trivial), by simp, h1, fun i hi0 _ h => by rw [h2 i hi0 h]; exact .zero, fun i hi => ?_, fun i hi0 _ h => .inl (by rw [h2 i hi0 h]; exact List.mem_singleton_self _)⟩⟩
    rw [List.mem_singleton.1 hi]
    exact ⟨by omega, by omega, h1⟩
  have hcs := count_set (R := List.replicate g.length false) (i := 0) (by rw [List.length_replicate]; omega) (rdOf_rep (n := g.length) (x := 0))
  rw [List.count_replicate_self] at hcs
  have HCS := Aside0.mk hcs
  clear hcs
  go_step3
  go_wp2
  go_loopg [6] (2 * g.length + 1) (fun kq v6 w' => ∃ (R : List Bool) (L : List Int), Aside0 (2 * R.count false + L.length ≤ kq ∧ kq ≤ 2 * g.length + 1) ∧ Aside0 (RSt w w' g go co R v6 L (fun _ => False)))
  case atStart => exact ⟨_, _, ⟨by have := HCS.out; rw [List.length_singleton]; omega⟩, hst⟩
  case round =>
    clear hst s0 s1 HCS
    obtain ⟨R, L, HK, HS⟩ := hrel
    obtain ⟨Al, cl, rfl, hcl, _⟩ := Kd.R_reads HS.out.lst
    have hLm : L.length ≤ 9223372036854775807 := Kd.C_max (Kd.R_reads' HS.out.lst).2.2
    by_cases hL : L.length = 0
    · have hL0 : L = [] := List.eq_nil_of_length_eq_zero hL
      subst hL0
      have hR := HS.out.out
      have HR := Aside0.mk hR
      clear hR
      go_wp2
      rw [Exit.noGoto_ret]
      go_ret2
      exact ⟨R, _, rfl, HR.out, HS.out.below, HS.out.len, fun i hi0 hi1 => ⟨HS.out.snd i hi0 hi1, rch_of HS.out Hg.out⟩⟩
    · obtain ⟨m, hm⟩ : ∃ m, L.length = m + 1 := ⟨L.length - 1, by omega⟩
      obtain ⟨gl0, cl', e, _, _, _⟩ := Kd.R_form HS.out.lst (by omega)
      injection e with e1 _ e2
      subst e1
      subst e2
      have hcell := (Kd.R_cell (0 : Int) HS.out.lst (m : Int) (by omega) (by omega)).1
      rw [Int.toNat_natCast] at hcell
      have hx : rdOf (0 : Int) L (m : Int) ∈ L := by
        rw [last_split hm]
        exact List.mem_append_right _ (by rw [← last_split hm]; exact List.mem_singleton_self _)
      obtain ⟨x, hxe⟩ : ∃ x, x = rdOf (0 : Int) L (m : Int) := ⟨_, rfl⟩
      rw [← hxe] at hcell hx
      obtain ⟨hx0, hx1, hxR⟩ := HS.out.inL x hx
      have hgx := Hg.out x hx0 hx1
      have hSx := HS.out.snd x hx0 hx1 hxR
      have HS1 := HS.out
      rw [hm] at HS1
      have Hm := Aside0.mk hm
      have Hxe := Aside0.mk hxe
      have HS2 := Aside0.mk HS1
      have Hgx := Aside0.mk hgx
      have HSx := Aside0.mk hSx
      rw [hm]
      have hm' : m ≤ 9223372036854775806 := by omega
      have hcl' : m + 1 ≤ cl := by omega
      have hK1 : 2 * R.count false + m + 1 ≤ gk := by have := HK.out; omega
      have hK2 : gk ≤ 2 * g.length + 1 := HK.out.2
      clear HS HS1 hm hxe hgx hSx hx hxR hcl hL HK hLm
      obtain ⟨ad, A0, c0, rfl, x0, x1, x2, x3, x4, x5, x6, x7, hl, hic⟩ := at_T47 (Kd.C_below HGA.out HS2.out.below) x hx0 hx1
      have HIC := Aside0.mk hic
      have HLC := Aside0.mk hl
      clear hic hl
      generalize hblk : rd_T47 g x = blk at *
      have Hblk := Aside0.mk hblk
      clear hblk
      by_cases e1 : blk.f1 = 1
      · have e1b : (blk.f1 == 1) = true := beq_iff_eq.mpr e1
        have E1 := Aside0.mk e1
        clear e1
        go_wp2
        have HF := Aside0.mk ((HS2.out.back Hm.out Hxe.out (Below.refl _ _)).close (by
          intro y hy
          rw [Hblk.out] at hy
          unfold goalsL at hy
          rw [E1.out] at hy
          exact absurd hy (by simp)))
        obtain ⟨k1, rfl⟩ : ∃ k1, gk = k1 + 1 := ⟨gk - 1, by omega⟩
        go_roundg k1
        case measure => omega
        case rel => exact ⟨R, L.take m, ⟨by rw [List.length_take]; omega⟩, HF⟩
      · have e1b : (blk.f1 == 1) = false := beq_eq_false_iff_ne.mpr e1
        clear e1
        go_wp2_with fail
        refine (graph_goals.calls A0 c0 blk.f0 blk.f1 blk.f2.f0 blk.f2.f1 blk.f2.f2 blk.f2.f3 blk.f3 blk.f4 (goalsL blk) _ HIC.out HLC.out (goals_eq blk)).mono ?_
        rintro e w3 ⟨vg, rfl, hvg, hb⟩
        obtain ⟨k1, rfl⟩ : ∃ k1, gk = k1 + 1 := ⟨gk - 1, by omega⟩
        have hst3 := HS2.out.back Hm.out Hxe.out hb
        have HI3 := Aside0.mk (RIn.mk (j := 0) hst3 (Kd.R_mono (Kd.R_elder (Kd.R_take HS2.out.lst (by have := Hm.out; omega)) hvg hb) (fun _ h => h.2)) (Kd.R_tight rfl (Kd.R_lower hvg HS2.out.below.size)) (by intro i hi; simp at hi))
        obtain ⟨Ag, cg, rfl⟩ := Kd.R_slice hvg
        have hgl : (goalsL blk).length ≤ 2 := by unfold goalsL; split; simp; split <;> simp
        have hgm : ∀ y ∈ goalsL blk, y ∈ goalsL (rd_T47 g x) := by rw [Hblk.out]; exact fun _ h => h
        have Hgm := Aside0.mk hgm
        clear hvg hb hst3 HS2 hgm x0 x1 x2 x3 x4 x5 x6 x7 hcell e1b Hm Hxe
        generalize hgs : goalsL blk = gs at *
        have GSE : ∀ y ∈ goalsL blk, y ∈ gs := by rw [hgs]; exact fun _ h => h
        clear hgs
        have hui := Try.underlying70
        go_wp2
        go_loopw [6, 47] (fun v6 v47 wr => ∃ (j : Nat) (R : List Bool) (L : List Int), j ≤ gs.length ∧ v47 = .int .i64 j ∧ Aside0 (2 * R.count false + L.length ≤ k1) ∧ Aside0 (RIn w wr g go co R v6 L x (.slice Ag gs.length cg) gs j)) (fun _ v47 _ => gs.length - (intOf v47).toNat)
        case atStart => exact ⟨0, R, L.take m, Nat.zero_le _, rfl, ⟨by rw [List.length_take]; omega⟩, HI3⟩
        case round =>
          clear HI3 hK1
          obtain ⟨j, R, L, hj, rfl, HK, HI⟩ := hrel
          obtain ⟨Al, cl, rfl, hcl, hCl⟩ := Kd.R_reads HI.out.lst
          by_cases hlt : j < gs.length
          · obtain ⟨adg, rfl, hgc⟩ := Kd.at_int (Kd.R_reads' HI.out.row).2.2 (j : Int) (by omega) (by omega)
            rw [Int.toNat_natCast] at hgc
            have hmem := rd_mem hlt
            have hdone := RIn.next HI.out hlt
            generalize rd gs (j : Int) = y at *
            obtain ⟨hy0, hy1⟩ := Hgx.out y hmem
            have hRl := HI.out.st.len
            have hcy := Kd.R_cell false (xs := R) (g := go) (by rw [hRl]; exact HI.out.st.out) y hy0 (by rw [hRl]; omega)
            obtain ⟨hcy, hfy⟩ := hcy
            have Hmem := Aside0.mk hmem
            have Hdone := Aside0.mk hdone
            have HRl := Aside0.mk hRl
            clear hmem hdone hRl hCl
            generalize hRy : rdOf false R y = b at *
            have HRy := Aside0.mk hRy
            clear hRy
            cases b
            · obtain ⟨cls, hcls⟩ := Kd.R_typed HI.out.st.out go rfl
              have HL1 := Aside0.mk (Kd.R_set HI.out.lst hcls (by decide) y.toNat (.bool true))
              have HR1 := Aside0.mk (Kd.R_set HI.out.row hcls (by decide) y.toNat (.bool true))
              have HO1 := Aside0.mk (Kd.R_put (xs := R) (g := go) (by rw [HRl.out]; exact HI.out.st.out) y true).1
              have HB1 := Aside0.mk (below_set (v := .bool true) (j := y.toNat) HI.out.st.below (Kd.R_base HI.out.st.out go rfl))
              clear hcls
              have HSZ : Aside0 ((wr.setCell ⟨go, y.toNat, none⟩ (.bool true)).heap.size = wr.heap.size) := ⟨by simp [World.setCell]⟩
              have hll : (L.length + 1) * 8 ≤ 140737488355328 := by have := HK.out; omega
              go_wp2_with (at_builtin; refine Kd.R_append (Kd.int .i64) (w0 := w) (W := wr.setCell ⟨go, y.toNat, none⟩ (.bool true)) w.heap.size rfl (.tmp 59) (.tmp 61) 70 3 (.int .i64 0) 8 rfl hui info3 rfl (by decide) (by decide) (.slice Al L.length cl) L y [.int .i64 y] (fun k => some k ≠ (Value.slice (some adg) gs.length cg).ownBlock) (fun _ => False) rfl (by rw [HSZ.out]; rfl) rfl (fun _ h => h.elim) (Kd.fresh' (Kd.R_lt HR1.out)) HL1.out HB1.out HB1.out.size hll ?_; intro v1 w1 ho hb hg hat)
              have HI2 := Aside0.mk (RIn.found HI.out HRl.out hy0 hy1 HRy.out Hgm.out Hmem.out HSx.out hx0 hx1 (fun y hy => (Hgx.out y hy).1) Hdone.out HL1.out HR1.out (by have := HO1.out; rw [HRl.out] at this; exact this) hb ho hg)
              have HK2 := count_set (R := R) (i := y.toNat) (by rw [HRl.out]; omega) HRy.out
              clear ho hb hg hat HO1 HL1 HR1 HB1
              go_roundw
              case rel => exact ⟨j + 1, R.set y.toNat true, L ++ [y], by omega, by go_num, ⟨by rw [List.length_append, List.length_singleton]; have := HK.out; omega⟩, HI2⟩
              case measure => simp [intOf]; omega
            · have HI2 := Aside0.mk (RIn.mk (j := j + 1) HI.out.st HI.out.lst HI.out.row (Hdone.out R (fun _ _ h => h) (fun y hy => (Hgx.out y hy).1) HRy.out))
              go_wp2
              go_roundw
              case rel => exact ⟨j + 1, R, L, by omega, by go_num, HK, HI2⟩
              case measure => simp [intOf]; omega
          · have hjl : j = gs.length := by omega
            subst hjl
            have HF := Aside0.mk (HI.out.st.close (by rw [Hblk.out]; intro y hy; exact HI.out.done y (by rw [List.take_length]; exact GSE y hy)))
            go_wp2
            go_roundg k1
            case measure => omega
            case rel => exact ⟨R, L, ⟨HK.out, by omega⟩, HF⟩
end Go.Proofs.Ytdkalnkplgfgoaa.Ln
namespace Go.Proofs.Ytdkalnkplgfgoaa.Ln
open Go.RowKit Go.Maps Go.Proofs.YtdkalnkplgfgoaaW.PrintWords Go.Proofs.YtdkalnkplgfgoaaW.PrintLast Go.Proofs.YtdkalnkplgfgoaaW.PrintMore Go.Proofs.Ytdkalnkplgfgoaa.PA
set_option linter.unusedVariables false
set_option linter.unusedSimpArgs false
theorem linear_err (k : Nat) (w : World) (g : List S47) (A : Option Addr) (c : Nat) (HG : Kd.C k47 w A g.length g) (hc : g.length ≤ c) (r1 r2 : Int) (hm : graph_Measure.f k g = some (r1, r2)) (hr : r2 ≠ 0) :
    Calls Try.prog 16 #[.slice A g.length c] w fun e w' => e = .returned (.tuple #[.slice none 0 0, .int .i64 180]) ∧ Below w.heap.size w w' := by
  have h1 : (r2 != 0) = true := bne_iff_ne.mpr hr
  have HGA := Aside0.mk HG
  have HCA := Aside0.mk hc
  have HM := Aside0.mk hm
  clear HG hc hm hr
  go_enter Try.func16, Try.ntmps16
  go_wp2_with (go_at_call 42; refine (graph_Measure.calls k A c g r1 r2 _ HGA.out HCA.out HM.out).mono ?_; rintro e w1 ⟨rfl, hb⟩)
  go_ret2
  exact ⟨rfl, hb⟩
theorem linear_long (k : Nat) (w : World) (g : List S47) (A : Option Addr) (c : Nat) (HG : Kd.C k47 w A g.length g) (hc : g.length ≤ c) (r1 : Int) (hm : graph_Measure.f k g = some (r1, 0)) (hr : 4096 < r1) :
    Calls Try.prog 16 #[.slice A g.length c] w fun e w' => e = .returned (.tuple #[.slice none 0 0, .int .i64 181]) ∧ Below w.heap.size w w' := by
  have h1 : decide (r1 > 4096) = true := decide_eq_true hr
  have HGA := Aside0.mk HG
  have HCA := Aside0.mk hc
  have HM := Aside0.mk hm
  clear HG hc hm
  go_enter Try.func16, Try.ntmps16
  go_wp2_with (go_at_call 42; refine (graph_Measure.calls k A c g r1 0 _ HGA.out HCA.out HM.out).mono ?_; rintro e w1 ⟨rfl, hb⟩)
  go_ret2
  exact ⟨rfl, hb⟩
/-- The blocks that can be come to, in order, and behind each the one that stands behind it. -/
def stepO (R : List Bool) : Nat → List Int × (Int → Int)
  | 0 => ([], fun _ => 0)
  | k + 1 => if rdOf false R (k : Int) then ((stepO R k).1 ++ [(k : Int)], if (stepO R k).1.length = 0 then (stepO R k).2 else upd (stepO R k).2 (rd (stepO R k).1 ((stepO R k).1.length - 1)) (k : Int)) else stepO R k
/-- The rounds of place. -/
def plIt (g : List S47) (after : Int → Int) (order : List Int) : Nat → (Int → Bool × Bool) → Option ((Int → Int) × (Int → Bool × Bool))
  | 0, _ => none
  | k + 1, f => if (frGo g (plGo g after f order 0 (fun _ => 0)) order f false).2 then plIt g after order k (frGo g (plGo g after f order 0 (fun _ => 0)) order f false).1 else some (plGo g after f order 0 (fun _ => 0), (frGo g (plGo g after f order 0 (fun _ => 0)) order f false).1)
def wrGo (g : List S47) (after PL : Int → Int) (f : Int → Bool × Bool) : List Int → List S45 → List S45
  | [], c => c
  | i :: r, c => wrGo g after PL f r (writeC (rd_T47 g i) (after i) PL (f i) c)
def sumL (g : List S47) : List Int → Nat
  | [] => 0
  | i :: r => (rd_T47 g i).f0.length + 3 + sumL g r
/-- In the first loop. -/
structure L1 (w wr : World) (g : List S47) (A : Option Addr) (c B : Nat) (vo : Value) (order : List Int) (bA bF nA : Nat) (after : Int → Int) (vR : Value) (R : List Bool) : Prop where
  below : Below w.heap.size w wr
  blk : wr.heap[B]? = some (.cells #[.slice none 0 0, .slice A g.length c, vo, .map (some bA), .map none, .map (some bF)] 72 (0, 0))
  ord : (Kd.int .i64).R 3 wr w.heap.size (fun _ => True) vo order
  mA : MI wr bA nA after
  mF : MF wr bF 0 (fun _ => (false, false))
  bools : Kd.bool.R 4 wr w.heap.size (fun _ => True) vR R
  hB : w.heap.size ≤ B
  hA : w.heap.size ≤ bA
  hF : w.heap.size ≤ bF
  ne : bA ≠ bF
theorem L1.move {w wr w1 : World} {g : List S47} {A : Option Addr} {c B : Nat} {vo vo1 : Value} {order order1 : List Int} {bA bF nA nA1 : Nat} {after after1 : Int → Int} {vR : Value} {R : List Bool}
    (H : L1 w wr g A c B vo order bA bF nA after vR R) (kp : Kp (fun k => k = B ∨ k = bA ∨ some k = vo.ownBlock) wr w1)
    (blk : w1.heap[B]? = some (.cells #[.slice none 0 0, .slice A g.length c, vo1, .map (some bA), .map none, .map (some bF)] 72 (0, 0)))
    (ord : (Kd.int .i64).R 3 w1 w.heap.size (fun _ => True) vo1 order1) (mA : MI w1 bA nA1 after1) : L1 w w1 g A c B vo1 order1 bA bF nA1 after1 vR R := by
  have hty := Kd.R_typed H.ord
  obtain ⟨es, cl, hF⟩ := H.mF.ismap
  refine ⟨kp.toBelow H.below H.below.size ?_, blk, ord, mA, H.mF.move (kp.block bF H.mF.lt ?_), R_kp H.bools ?_ kp, H.hB, H.hA, H.hF, H.ne⟩
  · rintro k (rfl | rfl | h)
    · exact H.hB
    · exact H.hA
    · exact Kd.R_base H.ord k h.symm
  · rintro (rfl | h | h)
    · have := H.blk; rw [hF] at this; cases this
    · exact H.ne h.symm
    · obtain ⟨cells, hc⟩ := hty bF h.symm
      rw [hF] at hc; cases hc
  · rintro k (rfl | rfl | h)
    · exact .inl ⟨_, _, _, H.blk, by decide⟩
    · exact .inr H.mA.ismap
    · obtain ⟨cells, hc⟩ := hty k h.symm
      exact .inl ⟨_, _, _, hc, by decide⟩
theorem L1.stay {w wr w1 : World} {g : List S47} {A : Option Addr} {c B : Nat} {vo : Value} {order : List Int} {bA bF nA nA1 : Nat} {after : Int → Int} {vR : Value} {R : List Bool}
    (H : L1 w wr g A c B vo order bA bF nA after vR R) (hb : Below wr.heap.size wr w1) (hn : nA ≤ nA1) : L1 w w1 g A c B vo order bA bF nA1 after vR R :=
  H.move ((Kp.refl _ _).below hb) (blk_below H.blk hb) (Kd.R_below H.ord hb) (MapF.mono (H.mA.below hb) hn)
theorem L1.ne_AB {w wr : World} {g : List S47} {A : Option Addr} {c B : Nat} {vo : Value} {order : List Int} {bA bF nA : Nat} {after : Int → Int} {vR : Value} {R : List Bool}
    (H : L1 w wr g A c B vo order bA bF nA after vR R) : bA ≠ B := by
  obtain ⟨es, cl, h⟩ := H.mA.ismap
  rintro rfl
  rw [H.blk] at h
  cases h
theorem Kd.R_notmap {α : Type} {d : Kd α} {e : Nat} {w : World} {base b : Nat} {ok : Nat → Prop} {v : Value} {xs : List α} (h : d.R e w base ok v xs) (hm : ∃ es c, w.heap[b]? = some (.map es c)) : d.R e w base (fun x => x ≠ b) v xs := by
  obtain ⟨es, c, hm⟩ := hm
  refine Kd.R_mono (Kd.R_bound h) ?_
  rintro k ⟨_, _, _, q, hq, cells, hc⟩ rfl
  rw [hm] at hc
  cases hc
theorem rd_mem_last {l : List Int} (h : ¬ l.length = 0) : rd l ((l.length : Int) - 1) ∈ l := by
  have := rd_mem (l := l) (k := l.length - 1) (by omega)
  rwa [show ((l.length - 1 : Nat) : Int) = (l.length : Int) - 1 by omega] at this
theorem stepO_in (R : List Bool) : ∀ (k : Nat) (i : Int), i ∈ (stepO R k).1 → 0 ≤ i ∧ i < (k : Int)
  | 0, i, h => by simp [stepO] at h
  | k + 1, i, h => by
    unfold stepO at h
    split at h
    · rcases List.mem_append.1 h with h | h
      · have := stepO_in R k i h; omega
      · rw [List.mem_singleton.1 h]; omega
    · have := stepO_in R k i h; omega
theorem jas_len (b : S47) (PL : Int → Int) (f : Bool × Bool) (code : List S45) : (jas b PL f code).length ≤ code.length + 2 := by
  unfold jas
  obtain ⟨fy, fn⟩ := f
  cases fy <;> cases fn <;> simp
theorem writeC_len (b : S47) (a : Int) (PL : Int → Int) (f : Bool × Bool) (code : List S45) : (writeC b a PL f code).length ≤ code.length + b.f0.length + 3 := by
  unfold writeC
  split
  · simp; omega
  · split
    · split
      · simp
      · simp; omega
    · have := jas_len b PL f (code ++ b.f0 ++ [testI b PL f (((code ++ b.f0).length : Int) + 1)])
      unfold testC
      simp at this ⊢
      omega
theorem stepO_len (R : List Bool) : ∀ k : Nat, (stepO R k).1.length ≤ k
  | 0 => Nat.le_refl _
  | k + 1 => by
    have := stepO_len R k
    unfold stepO
    split
    · rw [List.length_append, List.length_singleton]; omega
    · omega
set_option maxHeartbeats 4000000 in
set_option maxRecDepth 100000 in
theorem linear_ok (k kp : Nat) (w : World) (g : List S47) (A : Option Addr) (c : Nat) (HG : Kd.C k47 w A g.length g) (hc : g.length ≤ c) (r1 : Int) (hm : graph_Measure.f k g = some (r1, 0)) (hr : r1 ≤ 4096)
    (ht : graph_taken.f k g = some 0) (h0 : 0 < g.length) (hn : g.length ≤ 4096)
    (hg : ∀ i : Int, 0 ≤ i → i < g.length → ∀ x ∈ goalsL (rd_T47 g i), 0 ≤ x ∧ x < (g.length : Int)) (hv : ∀ i : Int, 0 ≤ i → i < g.length → (rd_T47 g i).f1 = 1 ∨ (rd_T47 g i).f1 = 2 ∨ (rd_T47 g i).f1 = 3)
    (hw : ∀ i : Int, 0 ≤ i → i < g.length → (Lit.int .i64 (rd_T47 g i).f3).wf = true ∧ (Lit.int .i64 (rd_T47 g i).f4).wf = true)
    (hkp : kp ≤ 10000)
    (hp : ∀ R : List Bool, R.length = g.length → (∀ i : Int, 0 ≤ i → i < g.length → (rdOf false R i = true ↔ Rch g i)) → (plIt g (stepO R g.length).2 (stepO R g.length).1 kp (fun _ => (false, false))).isSome = true)
    (hs : ∀ R : List Bool, sumL g (stepO R g.length).1 ≤ 1000000) :
    Calls Try.prog 16 #[.slice A g.length c] w fun e w' => ∃ (R : List Bool) (PL : Int → Int) (f : Int → Bool × Bool) (v : Value), e = .returned (.tuple #[v, .int .i64 0]) ∧ R.length = g.length ∧ (∀ i : Int, 0 ≤ i → i < g.length → (rdOf false R i = true ↔ Rch g i)) ∧
      plIt g (stepO R g.length).2 (stepO R g.length).1 kp (fun _ => (false, false)) = some (PL, f) ∧ k45.R 45 w' w.heap.size (fun _ => True) v (wrGo g (stepO R g.length).2 PL f (stepO R g.length).1 []) ∧ Below w.heap.size w w' := by
  have hmm := @run_makeMap Try.prog
  have h1 : decide (r1 > 4096) = false := decide_eq_false (by omega)
  have HGA := Aside0.mk HG
  have HCA := Aside0.mk hc
  have HM := Aside0.mk hm
  have HT := Aside0.mk ht
  have Hg := Aside0.mk hg
  have Hv := Aside0.mk hv
  have Hw := Aside0.mk hw
  have Hp := Aside0.mk hp
  have Hs := Aside0.mk hs
  clear HG hc hm ht hg hv hw hp hs hr
  go_enter Try.func16, Try.ntmps16
  go_wp2_with fail
  refine (graph_Measure.calls k A c g r1 0 _ HGA.out HCA.out HM.out).mono ?_
  rintro e w1 ⟨rfl, hb⟩
  have HB1 := Aside0.mk hb
  clear hb
  go_wp2_with fail
  have hbW : Below w1.heap.size w1 (((w1.alloc (.map #[] 0)).alloc (.map #[] 0)).alloc (.cells #[.slice none 0 0, .slice A g.length c, .slice none 0 0, .map (some w1.heap.size), .map none, .map (some (w1.heap.size + 1))] 72)) := below_alloc (below_alloc (below_alloc (Below.refl _ _) _) _) _
  have hmA : MI (((w1.alloc (.map #[] 0)).alloc (.map #[] 0)).alloc (.cells #[.slice none 0 0, .slice A g.length c, .slice none 0 0, .map (some w1.heap.size), .map none, .map (some (w1.heap.size + 1))] 72)) w1.heap.size 0 (fun _ => 0) := (MapF.made w1 Try.prog 3 (.int .i64 0)).below (below_alloc (below_alloc (Below.refl _ _) _) _)
  have hmF : MF (((w1.alloc (.map #[] 0)).alloc (.map #[] 0)).alloc (.cells #[.slice none 0 0, .slice A g.length c, .slice none 0 0, .map (some w1.heap.size), .map none, .map (some (w1.heap.size + 1))] 72)) (w1.heap.size + 1) 0 (fun _ => (false, false)) := by
    have := (MapF.made (w1.alloc (.map #[] 0)) Try.prog 3 (.agg #[.bool false, .bool false])).below (below_alloc (Below.refl _ _) (.cells #[.slice none 0 0, .slice A g.length c, .slice none 0 0, .map (some w1.heap.size), .map none, .map (some (w1.heap.size + 1))] 72))
    rw [World.size_alloc] at this
    exact this
  have hblk := new3 w1 (.map #[] 0) (.map #[] 0) (.cells #[.slice none 0 0, .slice A g.length c, .slice none 0 0, .map (some w1.heap.size), .map none, .map (some (w1.heap.size + 1))] 72)
  have hbw := below_step HB1.out hbW
  have HS0 := Aside0.mk (fun w2 (hb : Below _ _ w2) v R (hr : Kd.bool.R 4 w2 _ (fun _ => True) v R) => L1.mk (w := w) (wr := w2) (g := g) (A := A) (c := c) (B := w1.heap.size + 2) (vo := .slice none 0 0) (order := []) (bA := w1.heap.size) (bF := w1.heap.size + 1) (nA := 0) (after := fun _ => 0)
    (below_step hbw hb) (blk_below hblk hb) (Kd.R_nil _ _ _ _ _) (hmA.below hb) (hmF.below hb) (Kd.R_lower hr hbw.size) (by have := HB1.out.size; omega) HB1.out.size (by have := HB1.out.size; omega) (by omega))
  have HBW := Aside0.mk hbw
  clear hbW hmA hmF hblk hbw
  refine (reach_calls k _ g A c (Kd.C_below HGA.out HBW.out) HCA.out HT.out h0 hn Hg.out Hv.out).mono ?_
  rintro e w2 ⟨R, vR, rfl, hR, hb, hRl, hRr⟩
  have HL0 := Aside0.mk (HS0.out w2 hb vR R hR)
  have HRl := Aside0.mk hRl
  have HRr := Aside0.mk hRr
  clear HS0 HBW hb hRr
  obtain ⟨go, co, rfl, _, _, _, _⟩ := Kd.R_form hR (by omega)
  rw [hRl] at HL0
  rw [hRl]
  clear hR hRl
  obtain ⟨B, hB⟩ : ∃ B, B = w1.heap.size + 1 + 1 := ⟨_, rfl⟩
  rw [← hB]
  rw [show w1.heap.size + 2 = B from hB.symm] at HL0
  generalize w1.heap.size = bA at *
  have hne : bA ≠ bA + 1 := by omega
  obtain ⟨bF, hF⟩ : ∃ bF, bF = bA + 1 := ⟨_, rfl⟩
  rw [← hF] at HL0
  clear hB hF hne
  go_wp2
  go_loopw [34] (fun v34 wr => ∃ (k : Nat) (vo : Value), k ≤ g.length ∧ v34 = .int .i64 k ∧ Aside0 (L1 w wr g A c B vo (stepO R k).1 bA bF k (stepO R k).2 (.slice (some ⟨go, 0, none⟩) g.length co) R)) (fun v34 _ => g.length - (intOf v34).toNat)
  case atStart => exact ⟨0, .slice none 0 0, Nat.zero_le _, rfl, HL0⟩
  case round =>
    clear HL0
    obtain ⟨k, vo, hk, rfl, HL⟩ := hrel
    by_cases hlt : k < g.length
    · have hui := Try.underlying70
      have hlen := stepO_len R k
      obtain ⟨Ao, co1, rfl⟩ := Kd.R_slice HL.out.ord
      have hcy := Kd.R_cell false (xs := R) (g := go) (by rw [HRl.out]; exact HL.out.bools) (k : Int) (by omega) (by rw [HRl.out]; omega)
      obtain ⟨hcy, hfy⟩ := hcy
      rw [Int.toNat_natCast] at hcy hfy
      have b2 : wr.cell? ⟨B, 2, none⟩ = some (.slice Ao (stepO R k).1.length co1) := (blk_cell HL.out.blk 2).trans rfl
      have b3 : wr.cell? ⟨B, 3, none⟩ = some (.map (some bA)) := (blk_cell HL.out.blk 3).trans rfl
      by_cases hb : rdOf false R (k : Int) = true
      · rw [hb] at hcy
        by_cases hz : (stepO R k).1.length = 0
        · have hzb : decide (0 < (stepO R k).1.length) = false := decide_eq_false (by omega)
          have HE : Aside0 (stepO R (k + 1) = ((stepO R k).1 ++ [(k : Int)], (stepO R k).2)) := ⟨by show (if rdOf false R (k : Int) then _ else _) = _; rw [if_pos hb, if_pos hz]⟩
          clear hb hz b3
          have HL4 := Aside0.mk (HL.out)
          have bw2 : wr.cell? ⟨B, 2, none⟩ = some (.slice Ao (stepO R k).1.length co1) := (blk_cell HL.out.blk 2).trans rfl
          go_wp2_with (at_builtin; go_loud (refine Kd.R_append (Kd.int .i64) (w0 := w) (W := wr) w.heap.size rfl (.tmp 66) (.tmp 68) 70 3 (.int .i64 0) 8 rfl hui info3 rfl (by decide) (by decide) (.slice Ao (stepO R k).1.length co1) (stepO R k).1 (k : Int) [.int .i64 (k : Int)] (fun _ => True) (fun _ => False) rfl rfl rfl (fun _ h => h.elim) (fun _ _ => trivial) HL4.out.ord HL4.out.below HL4.out.below.size (by omega) ?_); intro v1 w4 ho hb hg hat; obtain ⟨A1, cc1, rfl⟩ := Kd.R_slice ho; have HG := Aside0.mk hg; have HO := Aside0.mk ho; have HB5 := Aside0.mk (blk_grown HL4.out.blk hg (Kd.R_ne HL4.out.ord HL4.out.blk (by decide))); have bx2 : w4.cell? ⟨B, 2, none⟩ = some (.slice Ao (stepO R k).1.length co1) := (blk_cell HB5.out 2).trans rfl; have bf2 := blk_frozen HB5.out 2; clear ho hb hg hat bw2)
          have kq : Kp (fun x => x = B ∨ x = bA ∨ some x = (Value.slice Ao (stepO R k).1.length co1).ownBlock) wr w4 := (Kp.refl _ _).grown HG.out (fun b hb => .inl (.inr (.inr hb.symm)))
          have kq1 := kq.set (.inl (.inl rfl)) 2 (.slice A1 ((stepO R k).1.length + 1) cc1)
          have hmm2 := (HL4.out.mA.kept HG.out (by intro e; obtain ⟨es, cl, hA⟩ := HL4.out.mA.ismap; obtain ⟨cells, hc⟩ := Kd.R_typed HL4.out.ord bA e.symm; rw [hA] at hc; cases hc))
          have HN := Aside0.mk (HL4.out.move kq1 (blk_put HB5.out 2 _ rfl) (by have := Kd.R_set HO.out HB5.out (by decide) 2 (.slice A1 ((stepO R k).1.length + 1) cc1); rw [List.length_append, List.length_singleton] at this; exact this) (MapF.mono (hmm2.move (Below.heap_setCell _ _ _ _ (HL4.out.ne_AB))) (show k ≤ k + 1 by omega)))
          clear kq kq1 hmm2 HG HO HB5 bx2 bf2 HL4
          go_roundw
          case rel => exact ⟨k + 1, _, by omega, by go_num, by rw [HE.out]; exact HN⟩
          case measure => simp [intOf]; omega
        · have hzb : decide (0 < (stepO R k).1.length) = true := decide_eq_true (by omega)
          have HE : Aside0 (stepO R (k + 1) = ((stepO R k).1 ++ [(k : Int)], upd (stepO R k).2 (rd (stepO R k).1 ((stepO R k).1.length - 1)) (k : Int))) := ⟨by show (if rdOf false R (k : Int) then _ else _) = _; rw [if_pos hb, if_neg hz]⟩
          have hcast : (((stepO R k).1.length - 1 : Nat) : Int) = ((stepO R k).1.length : Int) - 1 := by omega
          obtain ⟨ado, rfl, hco⟩ := Kd.at_int (Kd.R_reads' HL.out.ord).2.2 (((stepO R k).1.length - 1 : Nat) : Int) (by omega) (by omega)
          rw [Int.toNat_natCast, hcast] at hco
          clear hcast
          have hwl : (Lit.int .i64 (rd (stepO R k).1 (((stepO R k).1.length : Int) - 1))).wf = true := by
            obtain ⟨ho1, ho2⟩ := stepO_in R k _ (rd_mem_last hz)
            exact WalkArith.wf_i64 (by omega)
          obtain ⟨w3, hrun, hm3, hg3⟩ := MapF.store (HL.out.mA.below (below_drew1 (Below.refl _ _))) lawI Try.underlying3 Try.underlying66 (by unfold maxLen; omega) (rd (stepO R k).1 (((stepO R k).1.length : Int) - 1)) hwl (.int .i64 (k : Int))
          rw [upd_int] at hm3
          have HM3 := Aside0.mk hm3
          have HG3 := Aside0.mk hg3
          clear hm3 hg3 hb hz
          have hq0 : (0 : Int) ≤ ((stepO R k).1.length : Int) - 1 := by have := of_decide_eq_true hzb; omega
          go_wp2
          go_region
          go_upto_region 15 with (fail)
          have HL3 := Aside0.mk (HL.out.move (w1 := w3) (((Kp.refl _ wr).below (below_drew1 (Below.refl _ _))).grown HG3.out (fun b hb => .inl (.inr (.inl (Option.some.inj hb).symm)))) (blk_grown (blk_drew HL.out.blk) HG3.out (by intro e; injection e with e; exact HL.out.ne_AB e.symm)) (Kd.R_grown (ok := fun x => x ≠ bA) (Kd.R_notmap (Kd.R_drew HL.out.ord) HL.out.mA.ismap) HG3.out (fun x hx e => hx (Option.some.inj e)) |> fun h => Kd.R_mono h (fun _ _ => trivial)) HM3.out)
          clear hrun hco b2 b3 HM3 HG3 HL hzb hwl
          have HL4 := Aside0.mk (HL3.out)
          have bw2 : w3.cell? ⟨B, 2, none⟩ = some (.slice (some ado) (stepO R k).1.length co1) := (blk_cell HL3.out.blk 2).trans rfl
          go_wp2_with (at_builtin; refine Kd.R_append (Kd.int .i64) (w0 := w) (W := w3) w.heap.size rfl (.tmp 66) (.tmp 68) 70 3 (.int .i64 0) 8 rfl hui info3 rfl (by decide) (by decide) (.slice (some ado) (stepO R k).1.length co1) (stepO R k).1 (k : Int) [.int .i64 (k : Int)] (fun _ => True) (fun _ => False) rfl rfl rfl (fun _ h => h.elim) (fun _ _ => trivial) HL4.out.ord HL4.out.below HL4.out.below.size (by omega) ?_; intro v1 w4 ho hb hg hat; obtain ⟨A1, cc1, rfl⟩ := Kd.R_slice ho; have HG := Aside0.mk hg; have HO := Aside0.mk ho; have HB5 := Aside0.mk (blk_grown HL4.out.blk hg (Kd.R_ne HL4.out.ord HL4.out.blk (by decide))); have bx2 : w4.cell? ⟨B, 2, none⟩ = some (.slice (some ado) (stepO R k).1.length co1) := (blk_cell HB5.out 2).trans rfl; have bf2 := blk_frozen HB5.out 2; clear ho hb hg hat bw2)
          have kq : Kp (fun x => x = B ∨ x = bA ∨ some x = (Value.slice (some ado) (stepO R k).1.length co1).ownBlock) w3 w4 := (Kp.refl _ _).grown HG.out (fun b hb => .inl (.inr (.inr hb.symm)))
          have kq1 := kq.set (.inl (.inl rfl)) 2 (.slice A1 ((stepO R k).1.length + 1) cc1)
          have hmm2 := (HL4.out.mA.kept HG.out (by intro e; obtain ⟨es, cl, hA⟩ := HL4.out.mA.ismap; obtain ⟨cells, hc⟩ := Kd.R_typed HL4.out.ord bA e.symm; rw [hA] at hc; cases hc))
          have HN := Aside0.mk (HL4.out.move kq1 (blk_put HB5.out 2 _ rfl) (by have := Kd.R_set HO.out HB5.out (by decide) 2 (.slice A1 ((stepO R k).1.length + 1) cc1); rw [List.length_append, List.length_singleton] at this; exact this) (MapF.mono (hmm2.move (Below.heap_setCell _ _ _ _ (HL4.out.ne_AB))) (show k + 1 ≤ k + 1 by omega)))
          clear kq kq1 hmm2 HG HO HB5 bx2 bf2 HL4
          go_roundw
          case rel => exact ⟨k + 1, _, by omega, by go_num, by rw [HE.out]; exact HN⟩
          case measure => simp [intOf]; omega
      · have HE : Aside0 (stepO R (k + 1) = stepO R k) := ⟨by show (if rdOf false R (k : Int) then _ else _) = _; rw [if_neg hb]⟩
        rw [Bool.eq_false_iff.mpr hb] at hcy
        clear hb
        go_wp2
        have HN := Aside0.mk (HL.out.stay (Below.refl _ _) (Nat.le_succ k))
        go_roundw
        case rel => exact ⟨k + 1, _, by omega, by go_num, by rw [HE.out]; exact HN⟩
        case measure => simp [intOf]; omega
    · have hkl : k = g.length := by omega
      subst hkl
      clear hlt hk
      obtain ⟨⟨PL, F⟩, hres⟩ := Option.isSome_iff_exists.1 (Hp.out R HRl.out HRr.out)
      have HRes := Aside0.mk hres
      have hsum := Hs.out R
      have hol := stepO_len R g.length
      have hin := stepO_in R g.length
      have HW0 := Aside0.mk (Wr.mk HL.out.below HL.out.blk HGA.out HL.out.ord hin (fun i hi => Hw.out i (hin i hi).1 (hin i hi).2) HL.out.mA HL.out.mF HL.out.hB HL.out.hA HL.out.hF HL.out.ne)
      clear hres hin HL
      generalize hso : stepO R g.length = so at *
      have HSO := Aside0.mk hso
      clear hso
      obtain ⟨order, after⟩ := so
      dsimp only at HRes hsum hol HW0
      have HSum := Aside0.mk hsum
      clear hsum
      go_wp2
      go_loopg [74] kp (fun kq _ w' => ∃ (f : Int → Bool × Bool) (vp : Value) (nF : Nat), Aside0 (plIt g after order kq f = some (PL, F)) ∧ Aside0 (nF + kq * 4096 ≤ kp * 4096) ∧ Aside0 (Wr w w' g A c B (.slice none 0 0) vo vp order bA bF g.length nF after f))
      case atStart => exact ⟨_, _, 0, HRes, ⟨by omega⟩, HW0⟩
      case round =>
        clear HW0
        obtain ⟨f, vp, nF, HP, HN, HW⟩ := hrel
        cases gk with
        | zero => exact absurd HP.out (by simp [plIt])
        | succ kq =>
          have hPI := HP.out
          unfold plIt at hPI
          have HPI := Aside0.mk hPI
          clear hPI HP
          go_wp2_with fail
          refine (place_calls w _ g A c B _ vo vp order bA bF g.length nF after f HW.out (by unfold maxLen; have := HN.out; omega)).mono ?_
          rintro e w5 ⟨rfl, hW5, hM5, hk5⟩
          have hbp := HW.out.below.size
          generalize plGo g after f order 0 (fun _ => 0) = PL1 at *
          generalize hfr : frGo g PL1 order f false = fr at *
          obtain ⟨f1, b1⟩ := fr
          have HW5 := Aside0.mk hW5
          have HM5 := Aside0.mk hM5
          clear hW5 hM5 hk5 hfr HW
          dsimp only at HPI HW5
          cases b1
          · have hend : PL1 = PL ∧ f1 = F := by have := HPI.out; simpa using this
            obtain ⟨rfl, rfl⟩ := hend
            have HWs := Aside0.mk (Ws.mk HW5.out (Kd.R_nil _ _ _ _ _) HM5.out hbp)
            have HL0 := Aside0.mk (show ([] : List S45).length + sumL g order ≤ 1000000 by have := HSum.out; simpa using this)
            clear HPI HN HW5 HM5 hbp
            obtain ⟨Ao, co1, rfl⟩ := Kd.R_slice HWs.out.me.ord
            have b2 : w5.cell? ⟨B, 2, none⟩ = some (.slice Ao order.length co1) := (blk_cell HWs.out.me.blk 2).trans rfl
            generalize wr.heap.size = bP at *
            generalize nF + order.length = nF1 at *
            go_wp2
            go_loopw [80] (fun v80 wr => ∃ (k : Nat) (vc : Value) (code : List S45), k ≤ order.length ∧ v80 = .int .i64 k ∧ Aside0 (wrGo g after PL1 f1 (order.drop k) code = wrGo g after PL1 f1 order []) ∧ Aside0 (code.length + sumL g (order.drop k) ≤ 1000000) ∧ Aside0 (Ws w wr g A c B vc (.slice Ao order.length co1) code order bA bF bP g.length nF1 order.length after PL1 f1)) (fun v80 _ => order.length - (intOf v80).toNat)
            case atStart => exact ⟨0, _, [], Nat.zero_le _, rfl, ⟨rfl⟩, HL0, HWs⟩
            case round =>
              clear HWs HL0 b2
              obtain ⟨k, vc, code, hk, rfl, HC, HLn, HS⟩ := hrel
              by_cases hlt : k < order.length
              · obtain ⟨ado, rfl, hco⟩ := Kd.at_int (Kd.R_reads' HS.out.me.ord).2.2 (k : Int) (by omega) (by omega)
                rw [Int.toNat_natCast] at hco
                have hmem := rd_mem hlt
                have hdr := rd_drop hlt
                generalize rd order (k : Int) = i at *
                have Hmem := Aside0.mk hmem
                have hC := HC.out
                have hL := HLn.out
                rw [hdr] at hC hL
                have HC1 := Aside0.mk hC
                have HL1 := Aside0.mk hL
                clear hmem hdr hC hL HC HLn
                go_wp2_with fail
                refine (write_calls w _ g A c B vc _ code order bA bF bP g.length nF1 order.length after PL1 f1 HS.out i Hmem.out (by have := HL1.out; unfold sumL at this; omega)).mono ?_
                rintro e w7 ⟨rfl, vc', hs⟩
                have HS7 := Aside0.mk hs
                have HL7 := Aside0.mk (show (writeC (rd_T47 g i) (after i) PL1 (f1 i) code).length + sumL g (order.drop (k + 1)) ≤ 1000000 by have := HL1.out; unfold sumL at this; have := writeC_len (rd_T47 g i) (after i) PL1 (f1 i) code; omega)
                clear hs HL1 HS
                go_wp2
                go_roundw
                case rel => exact ⟨k + 1, vc', _, by omega, by go_num, HC1, HL7, HS7⟩
                case measure => simp [intOf]; omega
              · have hkl : k = order.length := by omega
                subst hkl
                have hC := HC.out
                rw [List.drop_length] at hC
                have HC1 := Aside0.mk hC
                have b0 : wr.cell? ⟨B, 0, none⟩ = some vc := (blk_cell HS.out.me.blk 0).trans rfl
                obtain ⟨Ac, cc, rfl⟩ := Kd.R_slice HS.out.code
                clear hC HC HLn hlt hk
                go_wp2
                go_ret2
                exact ⟨R, PL1, f1, _, rfl, HRl.out, HRr.out, by rw [HSO.out]; exact HRes.out, by rw [HSO.out]; show Kd.R _ _ _ _ _ _ (wrGo g after PL1 f1 order []); rw [← HC1.out]; exact HS.out.code, HS.out.me.below⟩
          · have HP2 := Aside0.mk (show plIt g after order kq f1 = some (PL, F) by have := HPI.out; simpa using this)
            clear HPI HM5
            go_wp2
            go_roundg kq
            case measure => omega
            case rel => exact ⟨f1, _, _, HP2, ⟨by have := HN.out; omega⟩, HW5⟩
end Go.Proofs.Ytdkalnkplgfgoaa.Ln
namespace Go.Proofs.Ytdkalnkplgfgoaa.Ln
open Go.RowKit Go.Proofs.YtdkalnkplgfgoaaW.PrintWords Go.Proofs.YtdkalnkplgfgoaaW.PrintLast Go.Proofs.YtdkalnkplgfgoaaW.PrintMore Go.Proofs.Ytdkalnkplgfgoaa.PA
set_option linter.unusedVariables false
set_option linter.unusedSimpArgs false
def knL : List Int := [0, 32, 40, 48, 64, 72, 80, 96, 128, 1, 97, 129, 177, 2, 3, 132, 6, 22, 7, 135, 5, 21, 29, 37, 45, 53, 61, 69, 77, 4, 12, 20, 28, 36, 44, 52, 60, 68, 76, 84, 92, 100, 108, 116, 124, 148, 156, 164, 172]
/-- Is it a code? -/
def kn (c : Int) : Bool := decide (c ∈ knL)
def jmB (c : Int) : Bool := decide (c ∈ ([21, 29, 37, 45, 53, 61, 69, 77] : List Int))
def reB (c : Int) : Bool := decide (c = 6 ∨ c = 22)
def usK (c : Int) : Bool := kn c && !decide (c ∈ ([128, 129, 132, 22, 7, 135, 12, 28, 44, 60, 76, 92, 108, 124, 156, 172, 29, 45, 61, 77] : List Int))
def clsF (c : Int) : Int := if kn c then wrap64 (Go.bits .and .u16 c 7) else -1
/-- May it stand in a block's Code? -/
def stB (c K : Int) : Bool := kn c && !jmB c && !reB c && !decide (c = 5) && (!decide (c = 2 ∨ c = 3 ∨ c = 96 ∨ c = 97) || decide (K < 16)) && (!decide (c = 52 ∨ c = 148) || decide (K ≠ 0)) && (!decide (c = 100 ∨ c = 116) || decide (K ≤ 31))
theorem kn_no {c : Int} (h : kn c = false) : ∀ x ∈ knL, c ≠ x := fun x hx e => by
  have := of_decide_eq_false h
  exact this (e ▸ hx)
theorem known_no {c : Int} (h : kn c = false) (k : Nat) : insn_Known.f (k + 8) c = some false ∧ riddleref2_Known.f (k + 8) c = some false ∧ insn_test.f (k + 8) c = some false ∧ insn_alu.f (k + 8) c = some false ∧ riddleref2_Jump.f c = some false ∧ riddleref2_Operation.f (k + 8) c = some false ∧ riddleref2_Return.f c = some false := by
  have H := kn_no h
  simp only [knL, List.forall_mem_cons] at H
  obtain ⟨h0, h1, h2, h3, h4, h5, h6, h7, h8, h9, h10, h11, h12, h13, h14, h15, h16, h17, h18, h19, h20, h21, h22, h23, h24, h25, h26, h27, h28, h29, h30, h31, h32, h33, h34, h35, h36, h37, h38, h39, h40, h41, h42, h43, h44, h45, h46, h47, h48, -⟩ := H
  refine ⟨?_, ?_, ?_, ?_, ?_, ?_, ?_⟩
  · simp [insn_Known.f, insn_Known.j0, insn_Known.j1, insn_Known.j2, insn_alu.f, insn_alu.j0, insn_alu.j1, insn_test.f, insn_test.j0, *]
  · simp [riddleref2_Known.f, riddleref2_Known.j0, riddleref2_Known.j1, riddleref2_Jump.f, riddleref2_Operation.f, riddleref2_Operation.j0, *]
  · simp [insn_test.f, insn_test.j0, *]
  · simp [insn_alu.f, insn_alu.j0, insn_alu.j1, *]
  · simp [riddleref2_Jump.f, *]
  · simp [riddleref2_Operation.f, riddleref2_Operation.j0, *]
  · simp [riddleref2_Return.f, *]
theorem known_yes (k : Nat) : ∀ c ∈ knL, insn_Known.f (k + 8) c = some true ∧ riddleref2_Known.f (k + 8) c = some true ∧ insn_test.f (k + 8) c = some (jmB c) ∧ riddleref2_Jump.f c = some (jmB c) ∧ riddleref2_Return.f c = some (reB c) ∧ (∃ u2 u3, insn_Uses.f (k + 8) c = some (usK c, u2, u3)) ∧ (∃ u2 u3, riddleref2_Uses.f (k + 8) c = some (usK c, u2, u3)) := by
  simp only [knL, List.forall_mem_cons]
  refine ⟨?_, ?_, ?_, ?_, ?_, ?_, ?_, ?_, ?_, ?_, ?_, ?_, ?_, ?_, ?_, ?_, ?_, ?_, ?_, ?_, ?_, ?_, ?_, ?_, ?_, ?_, ?_, ?_, ?_, ?_, ?_, ?_, ?_, ?_, ?_, ?_, ?_, ?_, ?_, ?_, ?_, ?_, ?_, ?_, ?_, ?_, ?_, ?_, ?_, by simp⟩
  all_goals exact ⟨rfl, rfl, rfl, rfl, rfl, ⟨_, _, rfl⟩, ⟨_, _, rfl⟩⟩
theorem known_f (c : Int) (k : Nat) : insn_Known.f (k + 8) c = some (kn c) ∧ riddleref2_Known.f (k + 8) c = some (kn c) := by
  cases h : kn c
  · exact ⟨(known_no h k).1, (known_no h k).2.1⟩
  · have := known_yes k c (of_decide_eq_true h)
    exact ⟨this.1, this.2.1⟩
theorem jm_kn {c : Int} (h : kn c = false) : jmB c = false ∧ reB c = false ∧ usK c = false := by
  refine ⟨?_, ?_, by unfold usK; rw [h]; rfl⟩
  · unfold jmB
    refine decide_eq_false fun hc => ?_
    simp only [List.mem_cons, List.not_mem_nil, or_false] at hc
    rcases hc with rfl | rfl | rfl | rfl | rfl | rfl | rfl | rfl <;> exact absurd h (by decide)
  · unfold reB
    refine decide_eq_false fun hc => ?_
    rcases hc with rfl | rfl <;> exact absurd h (by decide)
theorem jump_f (c : Int) : riddleref2_Jump.f c = some (jmB c) := by
  cases h : kn c
  · rw [(jm_kn h).1]; exact (known_no h 0).2.2.2.2.1
  · exact (known_yes 0 c (of_decide_eq_true h)).2.2.2.1
theorem return_f (c : Int) : riddleref2_Return.f c = some (reB c) := by
  cases h : kn c
  · rw [(jm_kn h).2.1]; exact (known_no h 0).2.2.2.2.2.2
  · exact (known_yes 0 c (of_decide_eq_true h)).2.2.2.2.1
theorem class_f (c : Int) (k : Nat) : insn_Class.f (k + 8) c = some (clsF c) ∧ riddleref2_Class.f (k + 8) c = some (clsF c) := by
  unfold insn_Class.f riddleref2_Class.f
  rw [(known_f c k).1, (known_f c k).2]
  unfold clsF
  rw [Option.bind_some]
  constructor <;> split <;> rfl
theorem uses_f (c : Int) (k : Nat) : (∃ u2 u3, insn_Uses.f (k + 8) c = some (usK c, u2, u3)) ∧ (∃ u2 u3, riddleref2_Uses.f (k + 8) c = some (usK c, u2, u3)) := by
  cases h : kn c
  · rw [(jm_kn h).2.2]
    unfold insn_Uses.f riddleref2_Uses.f
    rw [(known_f c k).1, (known_f c k).2, h]
    exact ⟨⟨_, _, rfl⟩, ⟨_, _, rfl⟩⟩
  · exact (known_yes k c (of_decide_eq_true h)).2.2.2.2.2
theorem cls_yes : ∀ c ∈ knL, clsF c ≠ -1 ∧ ¬ clsF c < 0 ∧ (clsF c = 5 ↔ c = 5 ∨ jmB c = true) ∧ (clsF c = 6 ↔ reB c = true) := by
  decide +kernel
theorem cls_no {c : Int} (h : kn c = false) : clsF c = -1 := by unfold clsF; rw [h]; rfl
theorem cls_ret (c : Int) : clsF c = 6 ↔ reB c = true := by
  cases h : kn c
  · rw [cls_no h, (jm_kn h).2.1]; decide
  · exact (cls_yes c (of_decide_eq_true h)).2.2.2
theorem cls_jmp (c : Int) : clsF c = 5 ↔ c = 5 ∨ jmB c = true := by
  cases h : kn c
  · rw [cls_no h, (jm_kn h).1]
    have := kn_no h 5 (by decide)
    constructor
    · intro h; exact absurd h (by decide)
    · rintro (h | h)
      · exact absurd h this
      · exact absurd h (by decide)
  · exact (cls_yes c (of_decide_eq_true h)).2.2.1
theorem jm_ne5 {c : Int} (h : jmB c = true) : c ≠ 5 := by rintro rfl; exact absurd h (by decide)
/-- What is wrong with an instruction by itself. -/
def flF (c K : Int) : Int := if kn c then (if (c = 2 ∨ c = 3 ∨ c = 96 ∨ c = 97) ∧ K ≥ 16 then 43 else if (c = 52 ∨ c = 148) ∧ K = 0 then 44 else if (c = 100 ∨ c = 116) ∧ K > 31 then 45 else 0) else 42
theorem fault_f (c jt jf K : Int) (k : Nat) : riddleref4_Fault.f (k + 8) c jt jf K = some (flF c K) := by
  unfold riddleref4_Fault.f
  rw [(known_f c k).2]
  unfold flF
  cases h : kn c
  · rfl
  · simp only [Option.bind_some, if_true]
    by_cases a : c = 2 ∨ c = 3 ∨ c = 96 ∨ c = 97
    · rcases a with rfl | rfl | rfl | rfl <;> by_cases b : K ≥ 16 <;> simp [riddleref4_Fault.j0, riddleref4_Fault.j1, b] <;> omega
    · have a1 : c ≠ 2 := fun e => a (.inl e)
      have a2 : c ≠ 3 := fun e => a (.inr (.inl e))
      have a3 : c ≠ 96 := fun e => a (.inr (.inr (.inl e)))
      have a4 : c ≠ 97 := fun e => a (.inr (.inr (.inr e)))
      by_cases b : c = 52 ∨ c = 148
      · rcases b with rfl | rfl <;> by_cases d : K = 0 <;> simp [riddleref4_Fault.j0, riddleref4_Fault.j1, d]
      · have b1 : c ≠ 52 := fun e => b (.inl e)
        have b2 : c ≠ 148 := fun e => b (.inr e)
        by_cases d : c = 100 ∨ c = 116
        · rcases d with rfl | rfl <;> by_cases e : K > 31 <;> simp [riddleref4_Fault.j0, riddleref4_Fault.j1, e] <;> omega
        · have d1 : c ≠ 100 := fun e => d (.inl e)
          have d2 : c ≠ 116 := fun e => d (.inr e)
          simp [riddleref4_Fault.j0, riddleref4_Fault.j1, a1, a2, a3, a4, b1, b2, d1, d2]
theorem stB_ref (c K : Int) : stB c K = (!decide (clsF c < 0) && !decide (clsF c = 5) && !decide (clsF c = 6) && decide (flF c K = 0)) := by
  cases h : kn c
  · rw [cls_no h]; unfold stB; rw [h]; rfl
  · have h1 := (cls_yes c (of_decide_eq_true h)).2.1
    have e5 : decide (clsF c = 5) = (decide (c = 5) || jmB c) := by
      rw [Bool.eq_iff_iff]; simp only [decide_eq_true_eq, Bool.or_eq_true]; exact cls_jmp c
    have e6 : decide (clsF c = 6) = reB c := by
      rw [Bool.eq_iff_iff]; simp only [decide_eq_true_eq]; exact cls_ret c
    rw [e5, e6, decide_eq_false h1]
    unfold stB flF
    rw [h]
    by_cases a : c = 2 ∨ c = 3 ∨ c = 96 ∨ c = 97 <;> by_cases a1 : c = 52 ∨ c = 148 <;> by_cases a2 : c = 100 ∨ c = 116 <;> by_cases b1 : K ≥ 16 <;> by_cases b2 : K = 0 <;> by_cases b3 : K > 31 <;> simp [a, a1, a2, b1, b2, b3] <;> first | omega | (cases jmB c <;> cases reB c <;> cases decide (c = 5) <;> simp <;> omega)
theorem straight_f (c jt jf K : Int) (k : Nat) : graph_straight.f (k + 8) c jt jf K = some (stB c K) := by
  unfold graph_straight.f
  rw [(class_f c k).1]
  simp only [Option.bind_some]
  cases h : kn c
  · rw [cls_no h, if_pos rfl]; unfold stB; rw [h]; rfl
  · have h1 := (cls_yes c (of_decide_eq_true h)).1
    rw [if_neg h1]
    by_cases h5 : clsF c = 5
    · rw [if_pos h5, stB_ref, h5]; simp
    rw [if_neg h5]
    by_cases h6 : clsF c = 6
    · rw [if_pos h6, stB_ref, h6]; simp
    rw [if_neg h6]
    have h0 := (cls_yes c (of_decide_eq_true h)).2.1
    have es : stB c K = decide (flF c K = 0) := by rw [stB_ref]; simp [h0, h5, h6]
    rw [es]
    unfold flF
    rw [h]
    by_cases a : c = 2 ∨ c = 3 ∨ c = 96 ∨ c = 97
    · rcases a with rfl | rfl | rfl | rfl <;> by_cases b : K ≥ 16 <;> simp [graph_straight.j0, graph_straight.j1, b] <;> omega
    · have a1 : c ≠ 2 := fun e => a (.inl e)
      have a2 : c ≠ 3 := fun e => a (.inr (.inl e))
      have a3 : c ≠ 96 := fun e => a (.inr (.inr (.inl e)))
      have a4 : c ≠ 97 := fun e => a (.inr (.inr (.inr e)))
      by_cases b : c = 52 ∨ c = 148
      · rcases b with rfl | rfl <;> by_cases d : K = 0 <;> simp [graph_straight.j0, graph_straight.j1, d]
      · have b1 : c ≠ 52 := fun e => b (.inl e)
        have b2 : c ≠ 148 := fun e => b (.inr e)
        by_cases d : c = 100 ∨ c = 116
        · rcases d with rfl | rfl <;> by_cases e : K > 31 <;> simp [graph_straight.j0, graph_straight.j1, e] <;> omega
        · have d1 : c ≠ 100 := fun e => d (.inl e)
          have d2 : c ≠ 116 := fun e => d (.inr e)
          simp [graph_straight.j0, graph_straight.j1, a1, a2, a3, a4, b1, b2, d1, d2]
/-- What a block's Code bears. -/
theorem stB_not {c K : Int} (h : stB c K = true) : c ≠ 6 ∧ c ≠ 22 ∧ c ≠ 5 ∧ jmB c = false ∧ flF c K = 0 := by
  have h2 := h
  rw [stB_ref] at h2
  simp only [Bool.and_eq_true, Bool.not_eq_true', decide_eq_false_iff_not, decide_eq_true_eq] at h2
  have e6 := mt (cls_ret c).2 h2.1.2
  have e5 := mt (cls_jmp c).2 h2.1.1.2
  unfold reB at e6
  simp only [decide_eq_true_eq, not_or] at e6 e5
  refine ⟨e6.1, e6.2, e5.1, by simpa using e5.2, h2.2⟩
theorem fl_jm {c : Int} (K : Int) (h : jmB c = true) : flF c K = 0 := by
  have : c ∈ ([21, 29, 37, 45, 53, 61, 69, 77] : List Int) := of_decide_eq_true h
  simp only [List.mem_cons, List.not_mem_nil, or_false] at this
  rcases this with rfl | rfl | rfl | rfl | rfl | rfl | rfl | rfl <;> rfl
theorem fl_re {c : Int} (K : Int) (h : reB c = true) : flF c K = 0 := by
  have : c = 6 ∨ c = 22 := of_decide_eq_true h
  rcases this with rfl | rfl <;> rfl
theorem re_not {c : Int} (h : reB c = true) : jmB c = false ∧ c ≠ 5 := by
  have : c = 6 ∨ c = 22 := of_decide_eq_true h
  rcases this with rfl | rfl <;> exact ⟨rfl, by decide⟩
theorem jm_not {c : Int} (h : jmB c = true) : c ≠ 6 ∧ c ≠ 22 ∧ c ≠ 5 := by
  refine ⟨?_, ?_, ?_⟩ <;> rintro rfl <;> exact absurd h (by decide)
end Go.Proofs.Ytdkalnkplgfgoaa.Ln
namespace Go.Proofs.Ytdkalnkplgfgoaa.Ln
open Go.RowKit Go.Proofs.YtdkalnkplgfgoaaW.PrintWords Go.Proofs.YtdkalnkplgfgoaaW.PrintLast Go.Proofs.YtdkalnkplgfgoaaW.PrintMore Go.Proofs.Ytdkalnkplgfgoaa.PA
set_option linter.unusedVariables false
set_option linter.unusedSimpArgs false
theorem w64 {n : Int} (h0 : -9223372036854775808 ≤ n) (h1 : n < 9223372036854775808) : wrap64 n = n := by
  unfold wrap64; omega
def codeB (c : List S45) : Bool := c.all (fun i => stB i.f0 i.f3)
def bareB (i : S45) : Bool := decide (i.f1 = 0) && decide (i.f2 = 0) && (usK i.f0 || decide (i.f3 = 0))
def endB (b : S47) : Bool :=
  if b.f1 = 1 then reB b.f2.f0 && bareB b.f2 && decide (b.f3 = 0) && decide (b.f4 = 0)
  else if b.f1 = 2 then decide (b.f2.f0 = 0 ∧ b.f2.f1 = 0 ∧ b.f2.f2 = 0 ∧ b.f2.f3 = 0) && decide (b.f4 = 0)
  else if b.f1 = 3 then jmB b.f2.f0 && bareB b.f2 else false
def goalB (b : S47) (at_ n : Int) : Bool := (decide (b.f1 = 1) || decide (at_ < b.f3 ∧ b.f3 < n)) && (!decide (b.f1 = 3) || decide (at_ < b.f4 ∧ b.f4 < n))
def tkL (n : Int) : List S47 → Int → Int → Bool
  | [], _, _ => true
  | b :: r, i, left => decide ((b.f0.length : Int) ≤ left) && codeB b.f0 && endB b && goalB b i n && tkL n r (i + 1) (left - b.f0.length)
/-- Does graph take it? -/
def TkB (g : List S47) : Bool := decide (0 < g.length) && decide (g.length ≤ 4096) && tkL g.length g 0 4096
def msL : List S47 → Int
  | [] => 0
  | b :: r => (b.f0.length : Int) + 1 + (if b.f1 = 3 then 2 else 0) + msL r
/-- The bound on what is read. -/
def Fit (g : List S47) : Prop := ∀ b ∈ g, (b.f0.length : Int) ≤ 140737488351232
theorem rdI_at {c : List S45} {j : Nat} (h : j < c.length) : rd_T45 c (j : Int) = c[j] := by
  unfold rd_T45
  rw [Int.toNat_natCast, List.getD_eq_getElem?_getD, List.getElem?_eq_getElem h]
  rfl
theorem rdB_at {g : List S47} {j : Nat} (h : j < g.length) : rd_T47 g (j : Int) = g[j] := by
  unfold rd_T47
  rw [Int.toNat_natCast, List.getD_eq_getElem?_getD, List.getElem?_eq_getElem h]
  rfl
/-- Both loops over a block's Code. -/
theorem code_l (c : List S45) (hl : (c.length : Int) ≤ 140737488351232) : ∀ (d j : Nat), c.length - j = d → j ≤ c.length → ∀ k, d + 9 ≤ k → riddleref15_code.l0 k c (j : Int) = some ((c.drop j).all (fun i => stB i.f0 i.f3)) := by
  intro d
  induction d with
  | zero =>
    intro j hd hj k hk
    obtain ⟨k, rfl⟩ : ∃ m, k = m + 1 := ⟨k - 1, by omega⟩
    have : j = c.length := by omega
    subst this
    rw [riddleref15_code.l0]
    rw [if_neg (by omega), List.drop_length]
    rfl
  | succ d ih =>
    intro j hd hj k hk
    obtain ⟨k, rfl⟩ : ∃ m, k = m + 9 := ⟨k - 9, by omega⟩
    have hlt : j < c.length := by omega
    show riddleref15_code.l0 (k + 8 + 1) _ _ = _
    rw [riddleref15_code.l0]
    rw [if_pos (by omega), if_pos (by omega), rdI_at hlt, (class_f _ k).2, fault_f, List.drop_eq_getElem_cons hlt, List.all_cons, stB_ref, w64 (n := (j : Int) + 1) (by omega) (by omega)]
    have := ih (j + 1) (by omega) (by omega) (k + 8) (by omega)
    rw [show ((j + 1 : Nat) : Int) = (j : Int) + 1 by omega] at this
    rw [this]
    simp only [Option.bind_some]
    by_cases a : clsF (c[j]).f0 < 0
    · rw [if_pos a]; simp [a]
    rw [if_neg a]
    by_cases a5 : clsF (c[j]).f0 = 5
    · rw [if_pos a5]; simp [a5]
    rw [if_neg a5]
    by_cases a6 : clsF (c[j]).f0 = 6
    · rw [if_pos a6]; simp [a6]
    rw [if_neg a6]
    by_cases f : flF (c[j]).f0 (c[j]).f3 = 0
    · rw [if_pos f]; simp [a, a5, a6, f]
    · rw [if_neg f]; simp [f]
theorem code_f (c : List S45) (hl : (c.length : Int) ≤ 140737488351232) (k : Nat) (hk : c.length + 9 ≤ k) : riddleref15_code.f k c = some (codeB c) := by
  have := code_l c hl c.length 0 rfl (by omega) k hk
  unfold riddleref15_code.f
  rw [show ((0 : Nat) : Int) = 0 from rfl] at this
  rw [this]
  rfl
theorem end_f (b : S47) (k : Nat) : riddleref15_end.f (k + 8) b.f0 b.f1 b.f2.f0 b.f2.f1 b.f2.f2 b.f2.f3 b.f3 b.f4 = some (endB b) := by
  have hu : bareB b.f2 = (decide (b.f2.f1 = 0) && decide (b.f2.f2 = 0) && (usK b.f2.f0 || decide (b.f2.f3 = 0))) := rfl
  obtain ⟨u2, u3, e⟩ := (uses_f b.f2.f0 k).2
  have hj : ∀ x, riddleref15_end.j0 (k + 8) x b.f0 b.f1 b.f2.f0 b.f2.f1 b.f2.f2 b.f2.f3 b.f3 b.f4 = some (!x && (if b.f1 = 1 then reB b.f2.f0 && decide (b.f3 = 0) && decide (b.f4 = 0)
      else if b.f1 = 2 then decide (b.f2.f0 = 0 ∧ b.f2.f1 = 0 ∧ b.f2.f2 = 0 ∧ b.f2.f3 = 0) && decide (b.f4 = 0) else if b.f1 = 3 then jmB b.f2.f0 else false)) := by
    intro x
    show riddleref15_end.j0 (k + 7 + 1) x _ _ _ _ _ _ _ _ = _
    rw [riddleref15_end.j0]; simp only [return_f, jump_f, Option.bind_some]
    cases x
    · rw [if_neg (by decide)]
      by_cases e1 : b.f1 = 1
      · rw [if_pos e1, if_pos e1]
        cases reB b.f2.f0 <;> simp
        by_cases e3 : b.f3 = 0 <;> simp [e3]
        exact rfl
      rw [if_neg e1, if_neg e1]
      by_cases e2 : b.f1 = 2
      · rw [if_pos e2, if_pos e2]
        by_cases q : b.f2.f0 = 0 ∧ b.f2.f1 = 0 ∧ b.f2.f2 = 0 ∧ b.f2.f3 = 0
        · rw [if_pos (by simp [q])]; simp [q]; exact rfl
        · rw [if_neg (by simpa using q)]; rw [decide_eq_false q]; rfl
      rw [if_neg e2, if_neg e2]
      by_cases e3 : b.f1 = 3
      · rw [if_pos e3, if_pos e3]; rfl
      · rw [if_neg e3, if_neg e3]; rfl
    · rw [if_pos rfl]; rfl
  unfold riddleref15_end.f
  rw [e]
  simp only [Option.bind_some, hj]
  have hz : usK 0 = true := rfl
  unfold endB
  rw [hu]
  by_cases q1 : b.f2.f1 = 0 <;> by_cases q2 : b.f2.f2 = 0 <;> by_cases q3 : b.f2.f3 = 0 <;> cases u : usK b.f2.f0 <;> by_cases e1 : b.f1 = 1 <;> by_cases e2 : b.f1 = 2 <;> by_cases e3 : b.f1 = 3 <;> simp [q1, q2, q3, e1, e2, e3] <;> (try (intro h0; rw [h0] at u; exact absurd u (by decide)))
theorem goals_f (b : S47) (i n : Int) : riddleref15_goals.f b.f0 b.f1 b.f2.f0 b.f2.f1 b.f2.f2 b.f2.f3 b.f3 b.f4 i n = some (goalB b i n) := by
  unfold riddleref15_goals.f goalB
  by_cases e1 : b.f1 = 1
  · rw [if_pos e1, if_neg (by omega)]; simp [e1]
  rw [if_neg e1]
  by_cases a : b.f3 ≤ i
  · rw [if_pos a, decide_eq_false (by omega : ¬ (i < b.f3 ∧ b.f3 < n))]; simp [e1]
  rw [if_neg a]
  by_cases a2 : b.f3 ≥ n
  · rw [if_pos a2, decide_eq_false (by omega : ¬ (i < b.f3 ∧ b.f3 < n))]; simp [e1]
  rw [if_neg a2, decide_eq_true (by omega : i < b.f3 ∧ b.f3 < n)]
  by_cases e3 : b.f1 = 3
  · rw [if_pos e3]
    by_cases c : b.f4 > i
    · rw [if_pos c]; simp [e3, c]
    · rw [if_neg c, decide_eq_false (by omega : ¬ (i < b.f4 ∧ b.f4 < n))]; simp [e3]
  · rw [if_neg e3]; simp [e3]
end Go.Proofs.Ytdkalnkplgfgoaa.Ln
