/- Lemmas and walks for the statements of the texts ZLZ..: the declarations that they need, taken together by a program of this session. Conditions: as each says. -/
import Derived.Test.YtdkalnkplgfgoaaZLk
namespace Go.Proofs.Ytdkalnkplgfgoaa.Ln
open Go.RowKit Go.Maps Go.Proofs.YtdkalnkplgfgoaaW.PrintWords Go.Proofs.YtdkalnkplgfgoaaW.PrintLast Go.Proofs.YtdkalnkplgfgoaaW.PrintMore Go.Proofs.Ytdkalnkplgfgoaa.PA
set_option linter.unusedVariables false
set_option linter.unusedSimpArgs false
/-- A row that was just made, of what lies elsewhere. -/
theorem C_made {α : Type} (d : Kd α) (W : World) (e : Nat) (xs : List α) (inner : List Value) (hrep : Reps (d.K W) d.sz xs inner) (hm : xs.length ≤ 9223372036854775807) :
    d.C (W.alloc (.cells inner.toArray e)) (some ⟨W.heap.size, 0, none⟩) xs.length xs := by
  refine ⟨rfl, hm, fun _ => ⟨_, rfl, fun j p hj => ?_⟩⟩
  have hjl : j < xs.length := (List.getElem?_eq_some_iff.1 hj).1
  have hk := hrep.2 j p hj
  refine ⟨_, d.K_len hk, d.K_below (below_alloc (Below.refl _ _) _) hk, fun i u hu => ?_⟩
  have hil : i < d.sz := by
    have := (List.getElem?_eq_some_iff.1 hu).1
    rw [d.K_len hk] at this
    exact this
  rw [List.getElem?_take, if_pos hil, List.getElem?_drop] at hu
  have := blk_cell (blk_new W (.cells inner.toArray e)) (j * d.sz + i)
  rw [List.getElem?_toArray, hu] at this
  have ha : (⟨W.heap.size, 0, none⟩ : Addr).add (j * d.sz + i) = ⟨W.heap.size, j * d.sz + i, none⟩ := by
    rw [Go.WideShapes.add_plain, Nat.zero_add]
  rw [ha]
  exact this
theorem Reps.cons3 {α : Type} {R : α → List Value → Prop} {size : Nat} {p q r : α} {c1 c2 c3 : List Value} (h1 : R p c1) (l1 : c1.length = size) (h2 : R q c2) (l2 : c2.length = size) (h3 : R r c3) (l3 : c3.length = size) : Reps R size [p, q, r] (c1 ++ c2 ++ c3) := by
  have := Reps.snoc (Reps.snoc (Reps.snoc (Reps.none R size) h1 l1) h2 l2) h3 l3
  simpa using this
def gFar (n m : Nat) (k : Int) : List S47 := [⟨[⟨128, 0, 0, 0⟩], 3, ⟨37, 0, 0, 3⟩, 2, 1⟩, ⟨List.replicate n ⟨4, 0, 0, k⟩, 1, ⟨22, 0, 0, 0⟩, 0, 0⟩, ⟨List.replicate m ⟨20, 0, 0, k⟩, 1, ⟨22, 0, 0, 0⟩, 0, 0⟩]
theorem far_len (n m : Nat) (k : Int) : (gFar n m k).length = 3 := rfl
theorem codeB_rep (n : Nat) (i : S45) (h : stB i.f0 i.f3 = true) : codeB (List.replicate n i) = true := by
  unfold codeB
  rw [List.all_eq_true]
  intro x hx
  rw [List.eq_of_mem_replicate hx]
  exact h
theorem far_tk (n m : Nat) (k : Int) (hn : n < 2000) (hm : m < 2000) : TkB (gFar n m k) = true := by
  unfold TkB gFar
  simp only [tkL, codeB_rep n ⟨4, 0, 0, k⟩ rfl, codeB_rep m ⟨20, 0, 0, k⟩ rfl, List.length_replicate, List.length_cons, List.length_nil, Bool.and_eq_true, decide_eq_true_eq]
  refine ⟨⟨by decide, by decide⟩, ⟨⟨⟨⟨by omega, rfl⟩, rfl⟩, rfl⟩, ⟨⟨⟨⟨by omega, trivial⟩, rfl⟩, rfl⟩, ⟨⟨⟨⟨by omega, trivial⟩, rfl⟩, rfl⟩, trivial⟩⟩⟩⟩
theorem far_ms (n m : Nat) (k : Int) : msL (gFar n m k) = (n : Int) + m + 6 := by
  simp only [gFar, msL, List.length_replicate, List.length_cons, List.length_nil]
  simp
  omega
theorem far_fit (n m : Nat) (k : Int) (hn : n < 2000) (hm : m < 2000) : Fit (gFar n m k) := by
  intro b hb
  simp only [gFar, List.mem_cons, List.not_mem_nil, or_false] at hb
  rcases hb with rfl | rfl | rfl <;> simp <;> omega
theorem far_k (n m : Nat) (k : Int) (hk : 0 ≤ k) : ∀ b ∈ gFar n m k, (∀ i ∈ b.f0, 0 ≤ i.f3) ∧ 0 ≤ b.f2.f3 := by
  intro b hb
  simp only [gFar, List.mem_cons, List.not_mem_nil, or_false] at hb
  rcases hb with rfl | rfl | rfl
  · refine ⟨fun i hi => ?_, by decide⟩
    rw [List.mem_singleton.1 hi]; decide
  · refine ⟨fun i hi => ?_, (by decide : (0 : Int) ≤ 0)⟩
    rw [List.eq_of_mem_replicate hi]; exact hk
  · refine ⟨fun i hi => ?_, (by decide : (0 : Int) ≤ 0)⟩
    rw [List.eq_of_mem_replicate hi]; exact hk
theorem rep_snoc {α : Type} (n : Nat) (x : α) : List.replicate n x ++ [x] = List.replicate (n + 1) x := by
  rw [List.replicate_succ']
/-- A block under way, since the world wS: its code so far. -/
structure AB (wS wr : World) (b : Nat) (v : Value) (i : Nat) (ins : S45) : Prop where
  kp : Kp (fun k => k = b) wS wr
  blk : wr.heap[b]? = some (.cells #[v, .int .i64 1, .int .u16 22, .int .u8 0, .int .u8 0, .int .u32 0, .int .i64 0, .int .i64 0] 47 (0, 0))
  row : k45.R 45 wr wS.heap.size (fun _ => True) v (List.replicate i ins)
  lt : b < wS.heap.size
theorem AB.next {wS wr w4 : World} {b i : Nat} {v v1 : Value} {ins : S45} (H : AB wS wr b v i ins) (ho : k45.R 45 w4 wS.heap.size (fun _ => True) v1 (List.replicate i ins ++ [ins])) (hg : wr.grownBy w4 v.ownBlock) :
    AB wS (w4.setCell ⟨b, 0, none⟩ v1) b v1 (i + 1) ins ∧ w4.cell? ⟨b, 0, none⟩ = some v ∧ w4.frozen? ⟨b, 0, none⟩ = false := by
  have hb4 := blk_grown H.blk hg (Kd.R_ne H.row H.blk (by decide))
  refine ⟨⟨(H.kp.grown hg (fun k hk => .inr (Kd.R_base H.row k hk))).set (.inl rfl) 0 _, blk_put hb4 0 _ rfl, ?_, H.lt⟩, (blk_cell hb4 0).trans rfl, blk_frozen hb4 0⟩
  rw [rep_snoc] at ho
  exact Kd.R_set ho hb4 (by decide) 0 _
set_option maxHeartbeats 4000000 in
set_option maxRecDepth 100000 in
theorem far_calls (w : World) (many more k : Int) (n m : Nat) (hn : (Go.bits .and .i64 many 9223372036854775807).tmod 2000 = n) (hm : (Go.bits .and .i64 more 9223372036854775807).tmod 2000 = m) (hn2 : n < 2000) (hm2 : m < 2000)
    (hk : 0 ≤ k) (pk : List Int) (Ap : Option Addr) (cp : Nat) (HP : Kd.C (Kd.int .u8) w Ap pk.length pk) (hcp : pk.length ≤ cp) :
    Calls Try.prog 5 #[.int .i64 many, .int .i64 more, .int .u32 k, .slice Ap pk.length cp] w fun e w' => e = .returned (.bool true) ∧ Below w.heap.size w w' := by
  have HN := Aside0.mk hn
  have HM := Aside0.mk hm
  have HP1 := Aside0.mk HP
  have HP2 := Aside0.mk hcp
  clear hn hm HP hcp
  go_enter Try.func5, Try.ntmps5
  go_wp2_with fail
  refine (riddlelaw0_Low.calls many _ _ rfl).mono ?_
  rintro e w0 ⟨rfl, ha⟩
  have HB0 : Aside0 (Below w.heap.size w w0) := ⟨by obtain ⟨nd, rfl⟩ := ha; exact pw_below_drewN (Below.refl _ _) _⟩
  clear ha
  go_wp2_with fail
  refine (riddlelaw0_Low.calls more _ _ rfl).mono ?_
  rintro e w1 ⟨rfl, ha⟩
  have HB1 : Aside0 (Below w.heap.size w w1) := ⟨by obtain ⟨nd, rfl⟩ := ha; exact pw_below_drewN HB0.out _⟩
  clear ha HB0
  have hn := HN.out
  have hm := HM.out
  go_wp2
  refine forget (fun W => ∃ b1 b2, b1 = w1.heap.size ∧ b2 = w1.heap.size + 1 ∧ W.heap[b1]? = some (.cells #[.slice none 0 0, .int .i64 1, .int .u16 22, .int .u8 0, .int .u8 0, .int .u32 0, .int .i64 0, .int .i64 0] 47 (0, 0)) ∧ W.heap[b2]? = some (.cells #[.slice none 0 0, .int .i64 1, .int .u16 22, .int .u8 0, .int .u8 0, .int .u32 0, .int .i64 0, .int .i64 0] 47 (0, 0)) ∧ Below w.heap.size w W ∧ w.heap.size ≤ b1) ⟨_, _, rfl, rfl, blk_below (blk_new _ _) (below_alloc (Below.refl _ _) _), new2 _ _ _, below_alloc (below_alloc HB1.out _) _, HB1.out.size⟩ ?_
  rintro wS ⟨b1, b2, e1, e2, hb1, hb2, hb, hsz⟩
  rw [← e2, ← e1]
  have hne : b1 ≠ b2 := by omega
  have hsz2 : w.heap.size ≤ b2 := by omega
  have HBS := Aside0.mk hb
  have HS1 := Aside0.mk (AB.mk (ins := ⟨4, 0, 0, k⟩) (i := 0) (Kp.refl _ wS) hb1 (Kd.R_nil _ _ _ _ _) (blk_lt hb1))
  have HK2 := Aside0.mk hb2
  clear e1 e2 hb1 hb2 hb HB1
  have hui := Try.underlying26
  go_loopw [13] (fun v13 wr => ∃ (i : Nat) (v : Value), i ≤ n ∧ v13 = .int .i64 i ∧ Aside0 (AB wS wr b1 v i ⟨4, 0, 0, k⟩)) (fun v13 _ => n - (intOf v13).toNat)
  case atStart => exact ⟨0, _, Nat.zero_le _, rfl, HS1⟩
  case round =>
    clear HS1
    obtain ⟨i, v, hi, rfl, HA⟩ := hrel
    by_cases hlt : i < n
    · have hltb : decide (i < n) = true := decide_eq_true hlt
      obtain ⟨At, ct, ev⟩ := Kd.R_slice HA.out.row
      rw [List.length_replicate] at ev
      subst ev
      have c0 : wr.cell? ⟨b1, 0, none⟩ = some _ := (blk_cell HA.out.blk 0).trans rfl
      go_wp2_with (at_builtin; go_loud (refine Kd.R_append k45 (w0 := wr) (W := wr) wS.heap.size rfl (.tmp 33) (.tmp 36) 26 45 (.agg #[.int .u16 0, .int .u8 0, .int .u8 0, .int .u32 0]) 8 rfl hui info45 rfl (by decide) (by decide) _ _ ⟨4, 0, 0, k⟩ [.int .u16 4, .int .u8 0, .int .u8 0, .int .u32 k] (fun _ => True) (fun _ => False) rfl rfl (k45_mkM _ _ _ ⟨4, 0, 0, k⟩) (fun _ h => h.elim) (fun _ _ => trivial) HA.out.row (Below.refl _ _) HA.out.kp.size (by rw [List.length_replicate]; omega) ?_); intro v1 w4 ho hb hg hat; obtain ⟨A1, cc1, e1⟩ := Kd.R_slice ho; rw [rep_snoc, List.length_replicate] at e1; subst e1; have HN := Aside0.mk (HA.out.next ho hg); obtain ⟨x0, x1⟩ := HN.out.2; clear ho hb hg hat)
      go_roundw
      case rel => exact ⟨i + 1, _, by omega, by go_num, ⟨HN.out.1⟩⟩
      case measure => simp [intOf]; omega
    · have hltb : decide (i < n) = false := decide_eq_false hlt
      have hin : i = n := by omega
      subst hin
      clear hlt hi
      obtain ⟨wo, rfl⟩ : ∃ wo : World, wo = wr := ⟨_, rfl⟩
      obtain ⟨A1, cc1, ev⟩ := Kd.R_slice HA.out.row
      rw [List.length_replicate] at ev
      subst ev
      have HS2 := Aside0.mk (AB.mk (ins := ⟨20, 0, 0, k⟩) (i := 0) (Kp.refl _ wo) ((HA.out.kp.block b2 (blk_lt HK2.out) (fun e => hne e.symm)).trans HK2.out) (Kd.R_nil _ _ _ _ _) (by have := blk_lt HK2.out; have := HA.out.kp.size; omega))
      have HKo := Aside0.mk ((HA.out.kp.block b2 (blk_lt HK2.out) (fun e => hne e.symm)).trans HK2.out)
      clear HK2
      go_wp2
      go_loopw [14] (fun v14 wr => ∃ (j : Nat) (v : Value), j ≤ m ∧ v14 = .int .i64 j ∧ Aside0 (AB wo wr b2 v j ⟨20, 0, 0, k⟩)) (fun v14 _ => m - (intOf v14).toNat)
      case atStart => exact ⟨0, _, Nat.zero_le _, rfl, HS2⟩
      case round =>
        clear HS2
        obtain ⟨j, v, hj, rfl, HB⟩ := hrel
        by_cases hlt : j < m
        · have hltb : decide (j < m) = true := decide_eq_true hlt
          obtain ⟨At, ct, ev⟩ := Kd.R_slice HB.out.row
          rw [List.length_replicate] at ev
          subst ev
          have c0 : wr.cell? ⟨b2, 0, none⟩ = some _ := (blk_cell HB.out.blk 0).trans rfl
          go_wp2_with (at_builtin; go_loud (refine Kd.R_append k45 (w0 := wr) (W := wr) wo.heap.size rfl (.tmp 45) (.tmp 48) 26 45 (.agg #[.int .u16 0, .int .u8 0, .int .u8 0, .int .u32 0]) 8 rfl hui info45 rfl (by decide) (by decide) _ _ ⟨20, 0, 0, k⟩ [.int .u16 20, .int .u8 0, .int .u8 0, .int .u32 k] (fun _ => True) (fun _ => False) rfl rfl (k45_mkM _ _ _ ⟨20, 0, 0, k⟩) (fun _ h => h.elim) (fun _ _ => trivial) HB.out.row (Below.refl _ _) HB.out.kp.size (by rw [List.length_replicate]; omega) ?_); intro v1 w4 ho hb hg hat; obtain ⟨A1, cc1, e1⟩ := Kd.R_slice ho; rw [rep_snoc, List.length_replicate] at e1; subst e1; have HN := Aside0.mk (HB.out.next ho hg); obtain ⟨x0, x1⟩ := HN.out.2; clear ho hb hg hat)
          go_roundw
          case rel => exact ⟨j + 1, _, by omega, by go_num, ⟨HN.out.1⟩⟩
          case measure => simp [intOf]; omega
        · have hltb : decide (j < m) = false := decide_eq_false hlt
          have hjm : j = m := by omega
          subst hjm
          clear hlt hj
          obtain ⟨A2, cc2, ev⟩ := Kd.R_slice HB.out.row
          rw [List.length_replicate] at ev
          subst ev
          have hb1 := (HB.out.kp.block b1 (by have := HA.out.kp.size; have := HA.out.lt; omega) hne).trans HA.out.blk
          have hr1 := R_kp HA.out.row (S := fun k => k = b2) (fun k e => .inl ⟨_, _, _, e ▸ HKo.out, by decide⟩) HB.out.kp
          have HR1 := Aside0.mk (Kd.R_reads' hr1)
          have HR2 := Aside0.mk (Kd.R_reads' HB.out.row)
          have hbw : Below w.heap.size w wr := HB.out.kp.toBelow (HA.out.kp.toBelow HBS.out HBS.out.size (fun q e => e ▸ hsz)) (by have := HBS.out.size; have := HA.out.kp.size; omega) (fun q e => e ▸ hsz2)
          have HBW := Aside0.mk hbw
          have x0 : wr.cell? ⟨b1, 0, none⟩ = some _ := (blk_cell hb1 0).trans rfl
          have x1 : wr.cell? ⟨b1, 1, none⟩ = some _ := (blk_cell hb1 1).trans rfl
          have x2 : wr.cell? ⟨b1, 2, none⟩ = some _ := (blk_cell hb1 2).trans rfl
          have x3 : wr.cell? ⟨b1, 3, none⟩ = some _ := (blk_cell hb1 3).trans rfl
          have x4 : wr.cell? ⟨b1, 4, none⟩ = some _ := (blk_cell hb1 4).trans rfl
          have x5 : wr.cell? ⟨b1, 5, none⟩ = some _ := (blk_cell hb1 5).trans rfl
          have x6 : wr.cell? ⟨b1, 6, none⟩ = some _ := (blk_cell hb1 6).trans rfl
          have x7 : wr.cell? ⟨b1, 7, none⟩ = some _ := (blk_cell hb1 7).trans rfl
          have y0 : wr.cell? ⟨b2, 0, none⟩ = some _ := (blk_cell HB.out.blk 0).trans rfl
          have y1 : wr.cell? ⟨b2, 1, none⟩ = some _ := (blk_cell HB.out.blk 1).trans rfl
          have y2 : wr.cell? ⟨b2, 2, none⟩ = some _ := (blk_cell HB.out.blk 2).trans rfl
          have y3 : wr.cell? ⟨b2, 3, none⟩ = some _ := (blk_cell HB.out.blk 3).trans rfl
          have y4 : wr.cell? ⟨b2, 4, none⟩ = some _ := (blk_cell HB.out.blk 4).trans rfl
          have y5 : wr.cell? ⟨b2, 5, none⟩ = some _ := (blk_cell HB.out.blk 5).trans rfl
          have y6 : wr.cell? ⟨b2, 6, none⟩ = some _ := (blk_cell HB.out.blk 6).trans rfl
          have y7 : wr.cell? ⟨b2, 7, none⟩ = some _ := (blk_cell HB.out.blk 7).trans rfl
          have hl1 := blk_lt hb1
          have hl2 := blk_lt HB.out.blk
          clear hb1 hr1 hbw
          go_wp2_with fail
          have hg0 := C_made k45 wr 45 [⟨128, 0, 0, 0⟩] [.int .u16 128, .int .u8 0, .int .u8 0, .int .u32 0] (Reps.one (k45_mk wr ⟨128, 0, 0, 0⟩) rfl) (by decide)
          have hgr := C_made k47 (wr.alloc (.cells [.int .u16 128, .int .u8 0, .int .u8 0, .int .u32 0].toArray 45)) 47 (gFar i j k) _ (Reps.cons3 (k47_mk _ ⟨[⟨128, 0, 0, 0⟩], 3, ⟨37, 0, 0, 3⟩, 2, 1⟩ (c0 := 1) (by decide) hg0) rfl (k47_mk _ ⟨List.replicate i ⟨4, 0, 0, k⟩, 1, ⟨22, 0, 0, 0⟩, 0, 0⟩ (A0 := A1) (c0 := cc1) (by rw [List.length_replicate]; exact HR1.out.2.1) (Kd.C_alloc HR1.out.2.2 _)) rfl (k47_mk _ ⟨List.replicate j ⟨20, 0, 0, k⟩, 1, ⟨22, 0, 0, 0⟩, 0, 0⟩ (A0 := A2) (c0 := cc2) (by rw [List.length_replicate]; exact HR2.out.2.1) (Kd.C_alloc HR2.out.2.2 _)) rfl) (by rw [far_len]; omega)
          simp only [List.length_replicate] at hgr
          rw [World.size_alloc] at hgr
          have HG := Aside0.mk hgr
          clear hg0 hgr HR1 HR2
          have htk := far_tk i j k hn2 hm2
          have hF := far_fit i j k hn2 hm2
          have hms : msL (gFar i j k) ≤ 4096 := by rw [far_ms]; omega
          have hkk := far_k i j k hk
          have HT := Aside0.mk (And.intro htk (And.intro hF (And.intro hms hkk)))
          clear htk hF hms hkk
          refine (riddlelaw0_CopyBlocks.calls 10000 _ 3 (gFar i j k) (gFar i j k) _ HG.out (by rw [far_len]; omega) (cpb HT.out.1)).mono ?_
          rintro e w2 ⟨v, rfl, hs, hb⟩
          obtain ⟨Ac, cc, rfl⟩ := Kd.R_slice (Kd.S_R hs)
          have HS := Aside0.mk (Kd.R_reads' (Kd.S_R hs))
          have HGc := Aside0.mk (Kd.C_below HG.out hb)
          have HB2 := Aside0.mk (below_step (below_alloc (below_alloc HBW.out _) _) hb)
          clear hs hb HBW HG
          go_wp2_with fail
          refine (linear_calls _ (gFar i j k) Ac cc HS.out.2.2 HS.out.2.1 HT.out.2.1 HT.out.1 HT.out.2.2.1).mono ?_
          rintro e w3 ⟨p, v, O, after, PL, f, rfl, L, hlen, hr, hb⟩
          obtain ⟨Aq, cq, rfl⟩ := Kd.R_slice hr
          have HL := Aside0.mk L
          have HQ := Aside0.mk (Kd.R_reads' hr)
          have HG3 := Aside0.mk (Kd.C_below HGc.out hb)
          have HB3 := Aside0.mk (below_step HB2.out hb)
          clear L hlen hr hb HB2 HS HGc
          by_cases hpk : pk.length ≤ 65536
          · have h1 : decide (65536 < pk.length) = false := decide_eq_false (by omega)
            have h2 : decide ((65536 : Int) < (pk.length : Int)) = false := decide_eq_false (by omega)
            have HPK := Aside0.mk hpk
            clear hpk
            have hrun : ∀ q : List Int, q.length ≤ 65536 → ∀ W (Ap : Option Addr) (cp : Nat), Below w3.heap.size w3 W → Kd.C (Kd.int .u8) W Ap q.length q → q.length ≤ cp → Calls Try.prog 25 #[.slice (some ⟨wr.heap.size + 1, 0, none⟩) 3 3, .slice Aq p.length cq, .slice Ap q.length cp] W fun e w' => e = .returned (.bool true) ∧ Below W.heap.size W w' := by
              intro q hq W Ap cp hb hC hc
              obtain ⟨v, fl, s, hg, T, hle, hv⟩ := HL.out.runs q
              exact same_calls 10000 5000 5000 W (gFar i j k) _ 3 p Aq cq q Ap cp (Kd.C_below HG3.out hb) (by rw [far_len]; omega) (Kd.C_below HQ.out.2.2 hb) HQ.out.2.1 hC hc hq (by rw [rtakes _ HT.out.2.1 10000 (Nat.le_refl _), HT.out.1]) (fun b hb i hi => (HT.out.2.2.2 b hb).1 i hi) (fun b hb => by have := (tk_mem HT.out.1 hb).1; omega) (HL.out.code HT.out.2.2.2 q hq 10000 (Nat.le_refl _)) (HL.out.k0 HT.out.2.2.2) (by decide) v fl s hg T hv hle
            have HRun := Aside0.mk hrun
            clear hrun
            go_wp2_with fail
            refine (HRun.out pk HPK.out _ Ap cp (Below.refl _ _) (Kd.C_below HP1.out HB3.out) HP2.out).mono ?_
            rintro e w4 ⟨rfl, hb⟩
            have HB4 := Aside0.mk hb
            clear hb
            go_wp2_with fail
            refine (HRun.out [] (by decide) _ none 0 HB4.out (Kd.C_nil _ _) (Nat.le_refl _)).mono ?_
            rintro e w5 ⟨rfl, hb⟩
            have HB5 := Aside0.mk (below_step HB4.out hb)
            clear hb HB4
            go_wp2_with fail
            have hc4 := C_made (Kd.int .u8) w5 5 [1, 2, 3, 4] [.int .u8 1, .int .u8 2, .int .u8 3, .int .u8 4] (Kd.reps_scalar (enc := Value.int .u8) [1, 2, 3, 4]) (by decide)
            refine (HRun.out [1, 2, 3, 4] (by decide) _ _ 4 (below_alloc HB5.out _) hc4 (Nat.le_refl _)).mono ?_
            rintro e w6 ⟨rfl, hb⟩
            have HB6 := Aside0.mk (below_step HB3.out (below_step (below_alloc HB5.out _) hb))
            clear hb hc4 HB5 HB3
            go_wp2_with fail
            refine (awake_calls _).mono ?_
            rintro e w7 ⟨rfl, hb⟩
            have HB7 := Aside0.mk (below_step HB6.out hb)
            clear hb
            go_wp2
            go_ret
            exact ⟨rfl, HB7.out⟩
          · have h1 : decide (65536 < pk.length) = true := decide_eq_true (by omega)
            have h2 : decide ((65536 : Int) < (pk.length : Int)) = true := decide_eq_true (by omega)
            go_wp2_with fail
            refine (awake_calls _).mono ?_
            rintro e w7 ⟨rfl, hb⟩
            have HB7 := Aside0.mk (below_step HB3.out hb)
            clear hb
            go_wp2
            go_ret
            exact ⟨rfl, HB7.out⟩
theorem low_nn (x : Int) : 0 ≤ Go.bits .and .i64 x 9223372036854775807 := by
  have h : Go.bits .and .i64 x 9223372036854775807 = IntKind.i64.wrap ((BitVec.ofInt 64 x &&& BitVec.ofInt 64 9223372036854775807).toNat : Int) := rfl
  have h1 : (BitVec.ofInt 64 x &&& BitVec.ofInt 64 9223372036854775807).toNat ≤ 9223372036854775807 := by
    rw [BitVec.toNat_and]
    exact Nat.le_trans Nat.and_le_right (by decide)
  rw [h, IntKind.wrap_i64]
  omega
theorem low_mod (x : Int) (q : Nat) (hq : 0 < q) : ∃ n : Nat, (Go.bits .and .i64 x 9223372036854775807).tmod q = n ∧ n < q := by
  have h := low_nn x
  obtain ⟨m, hm⟩ := Int.eq_ofNat_of_zero_le h
  rw [hm]
  exact ⟨m % q, by rw [← Int.ofNat_tmod], Nat.mod_lt _ hq⟩
theorem far_all (w : World) (many more k : Int) (hk : 0 ≤ k) (pk : List Int) (Ap : Option Addr) (cp : Nat) (HP : Kd.C (Kd.int .u8) w Ap pk.length pk) (hcp : pk.length ≤ cp) :
    Calls Try.prog 5 #[.int .i64 many, .int .i64 more, .int .u32 k, .slice Ap pk.length cp] w fun e w' => e = .returned (.bool true) ∧ Below w.heap.size w w' := by
  obtain ⟨n, hn, hn2⟩ := low_mod many 2000 (by decide)
  obtain ⟨m, hm, hm2⟩ := low_mod more 2000 (by decide)
  exact far_calls w many more k n m hn hm hn2 hm2 hk pk Ap cp HP hcp
end Go.Proofs.Ytdkalnkplgfgoaa.Ln
namespace Go.Proofs.Ytdkalnkplgfgoaa.Ln
open Go.RowKit Go.Maps Go.Proofs.YtdkalnkplgfgoaaW.PrintWords Go.Proofs.YtdkalnkplgfgoaaW.PrintLast Go.Proofs.YtdkalnkplgfgoaaW.PrintMore Go.Proofs.Ytdkalnkplgfgoaa.PA
set_option linter.unusedVariables false
set_option linter.unusedSimpArgs false
/-- A rung. -/
def ladB (n : Nat) (far : Bool) (i : Nat) : S47 := ⟨[⟨0, 0, 0, i⟩, ⟨129, 0, 0, 0⟩], 3, ⟨if far then 45 else 29, 0, 0, 0⟩, if far then (i : Int) + 1 else (n : Int) + 1, if far then (n : Int) + 1 else (i : Int) + 1⟩
def ladE : List S47 := [⟨[], 1, ⟨6, 0, 0, 5⟩, 0, 0⟩, ⟨[], 1, ⟨22, 0, 0, 0⟩, 0, 0⟩]
def ladG (n : Nat) (far : Bool) : List S47 := (List.range' 0 n).map (ladB n far) ++ ladE
theorem lad_len (n : Nat) (far : Bool) : (ladG n far).length = n + 2 := by simp [ladG, ladE]
theorem lad_tkL (n : Nat) (far : Bool) : ∀ (m i : Nat) (left : Int), i + m = n → 2 * (m : Int) ≤ left → tkL ((n : Int) + 2) ((List.range' i m).map (ladB n far) ++ ladE) i left = true
  | 0, i, left, h, hl => by
    simp only [List.range'_zero, List.map_nil, List.nil_append, ladE, tkL, List.length_nil, Bool.and_eq_true, decide_eq_true_eq]
    refine ⟨⟨⟨⟨by omega, rfl⟩, rfl⟩, rfl⟩, ⟨⟨⟨by omega, rfl⟩, rfl⟩, rfl⟩, trivial⟩
  | m + 1, i, left, h, hl => by
    have ih := lad_tkL n far m (i + 1) (left - 2) (by omega) (by omega)
    rw [show ((i + 1 : Nat) : Int) = (i : Int) + 1 by omega] at ih
    rw [List.range'_succ, List.map_cons, List.cons_append, tkL]
    simp only [Bool.and_eq_true, decide_eq_true_eq]
    have hlen : ((ladB n far i).f0.length : Int) = 2 := rfl
    refine ⟨⟨⟨⟨by rw [hlen]; omega, rfl⟩, ?_⟩, ?_⟩, by rw [hlen]; exact ih⟩
    · cases far <;> rfl
    · unfold goalB
      cases far <;> simp [ladB] <;> omega
theorem lad_tk (n : Nat) (far : Bool) (hn : n ≤ 1200) : TkB (ladG n far) = true := by
  have := lad_tkL n far n 0 4096 (by omega) (by omega)
  unfold TkB
  rw [lad_len, show ((n + 2 : Nat) : Int) = (n : Int) + 2 by omega]
  simp only [Bool.and_eq_true, decide_eq_true_eq]
  exact ⟨⟨by omega, by omega⟩, this⟩
theorem lad_msL (n : Nat) (far : Bool) : ∀ (m i : Nat), msL ((List.range' i m).map (ladB n far) ++ ladE) = 5 * (m : Int) + 2
  | 0, i => rfl
  | m + 1, i => by
    have ih := lad_msL n far m (i + 1)
    rw [List.range'_succ, List.map_cons, List.cons_append, msL, ih]
    have hlen : ((ladB n far i).f0.length : Int) = 2 := rfl
    have h1 : (ladB n far i).f1 = 3 := rfl
    rw [hlen, if_pos h1]
    omega
theorem lad_ms (n : Nat) (far : Bool) : msL (ladG n far) = 5 * (n : Int) + 2 := lad_msL n far n 0
theorem lad_mem {n : Nat} {far : Bool} {b : S47} (h : b ∈ ladG n far) : (∃ i, b = ladB n far i) ∨ b ∈ ladE := by
  rcases List.mem_append.1 h with h | h
  · obtain ⟨i, _, rfl⟩ := List.mem_map.1 h
    exact .inl ⟨i, rfl⟩
  · exact .inr h
theorem lad_fit (n : Nat) (far : Bool) : Fit (ladG n far) := by
  intro b hb
  rcases lad_mem hb with ⟨i, rfl⟩ | hb
  · show ((2 : Nat) : Int) ≤ _
    omega
  · simp only [ladE, List.mem_cons, List.not_mem_nil, or_false] at hb
    rcases hb with rfl | rfl <;> simp
theorem lad_k (n : Nat) (far : Bool) : ∀ b ∈ ladG n far, (∀ i ∈ b.f0, 0 ≤ i.f3) ∧ 0 ≤ b.f2.f3 := by
  intro b hb
  rcases lad_mem hb with ⟨i, rfl⟩ | hb
  · refine ⟨fun x hx => ?_, (by decide : (0 : Int) ≤ 0)⟩
    simp only [ladB, List.mem_cons, List.not_mem_nil, or_false] at hx
    rcases hx with rfl | rfl
    · show (0 : Int) ≤ (i : Int); omega
    · decide
  · simp only [ladE, List.mem_cons, List.not_mem_nil, or_false] at hb
    rcases hb with rfl | rfl <;> exact ⟨fun i hi => (by cases hi), by decide⟩
/-- The two instructions of a rung, just made; and the block that holds them. -/
theorem lad_new (w wr : World) (i : Nat) (o : Obj) (b : S47) (hb : b.f0 = [⟨0, 0, 0, (i : Int)⟩, ⟨129, 0, 0, 0⟩]) (hB : w.heap.size ≤ wr.heap.size) :
    k47.M ((wr.alloc (.cells #[.int .u16 0, .int .u8 0, .int .u8 0, .int .u32 i, .int .u16 129, .int .u8 0, .int .u8 0, .int .u32 0] 45)).alloc o) w.heap.size (fun k => wr.heap.size ≤ k) b
      [.slice (some ⟨wr.heap.size, 0, none⟩) 2 2, .int .i64 b.f1, .int .u16 b.f2.f0, .int .u8 b.f2.f1, .int .u8 b.f2.f2, .int .u32 b.f2.f3, .int .i64 b.f3, .int .i64 b.f4] := by
  have h1 := R_made k45 wr 45 [⟨0, 0, 0, (i : Int)⟩, ⟨129, 0, 0, 0⟩] [.int .u16 0, .int .u8 0, .int .u8 0, .int .u32 i, .int .u16 129, .int .u8 0, .int .u8 0, .int .u32 0]
    (Reps.snoc (Reps.one (k45_mkM wr _ _ ⟨0, 0, 0, (i : Int)⟩) rfl) (k45_mkM wr _ _ ⟨129, 0, 0, 0⟩) rfl) (by simp)
  have h2 := Kd.R_lower (Kd.R_mono (ok' := fun k => wr.heap.size ≤ k) (Kd.R_bound (Kd.R_alloc h1 o)) (fun k hk => hk.2.1)) hB
  exact k47_mkM _ _ _ b (by rw [hb]; exact h2)
/-- A row that was just made, element by element. -/
theorem reads_made {α : Type} {R : α → List Value → Prop} {size : Nat} (hl : ∀ x cs, R x cs → cs.length = size) (W : World) (e : Nat) (xs : List α) (inner : List Value) (hrep : Reps R size xs inner) (hm : xs.length ≤ 9223372036854775807) :
    ReadsRow R size (W.alloc (.cells inner.toArray e)) (some ⟨W.heap.size, 0, none⟩) xs.length xs := by
  refine ⟨rfl, hm, fun _ => ⟨_, rfl, fun j p hj => ?_⟩⟩
  have hk := hrep.2 j p hj
  refine ⟨_, hl _ _ hk, hk, fun i u hu => ?_⟩
  have hil : i < size := by
    have := (List.getElem?_eq_some_iff.1 hu).1
    rw [hl _ _ hk] at this
    exact this
  rw [List.getElem?_take, if_pos hil, List.getElem?_drop] at hu
  have := blk_cell (blk_new W (.cells inner.toArray e)) (j * size + i)
  rw [List.getElem?_toArray, hu] at this
  have ha : (⟨W.heap.size, 0, none⟩ : Addr).add (j * size + i) = ⟨W.heap.size, j * size + i, none⟩ := by
    rw [Go.WideShapes.add_plain, Nat.zero_add]
  rw [ha]
  exact this
theorem ladE_reads (W : World) (base : Nat) : ReadsRow (fun x cs => ∀ W, k47.M W base (fun _ => False) x cs) 8 (W.alloc (.cells #[.slice none 0 0, .int .i64 1, .int .u16 6, .int .u8 0, .int .u8 0, .int .u32 5, .int .i64 0, .int .i64 0, .slice none 0 0, .int .i64 1, .int .u16 22, .int .u8 0, .int .u8 0, .int .u32 0, .int .i64 0, .int .i64 0] 47)) (some ⟨W.heap.size, 0, none⟩) 2 ladE :=
  reads_made (fun x cs h => k47.K_len (k47.K_of_M (h W))) W 47 ladE _ (Reps.snoc (Reps.one (p := (⟨[], 1, ⟨6, 0, 0, 5⟩, 0, 0⟩ : S47)) (c := [.slice none 0 0, .int .i64 1, .int .u16 6, .int .u8 0, .int .u8 0, .int .u32 5, .int .i64 0, .int .i64 0]) (fun W => k47_mkM W _ _ ⟨[], 1, ⟨6, 0, 0, 5⟩, 0, 0⟩ (Kd.R_nil _ _ _ _ _)) rfl) (p := (⟨[], 1, ⟨22, 0, 0, 0⟩, 0, 0⟩ : S47)) (c := [.slice none 0 0, .int .i64 1, .int .u16 22, .int .u8 0, .int .u8 0, .int .u32 0, .int .i64 0, .int .i64 0]) (fun W => k47_mkM W _ _ ⟨[], 1, ⟨22, 0, 0, 0⟩, 0, 0⟩ (Kd.R_nil _ _ _ _ _)) rfl) (by decide)
/-- make([]byte, q). -/
theorem mk_run (z : Int) (m : Nat) (hz : z = m) (hm : m ≤ 2000) (W : World) : (Instr.makeSlice 38 (.int .i64 z) (.int .i64 z)).run Try.prog W = .ok (.slice (some ⟨W.heap.size, 0, none⟩) m m) (W.alloc (.cells (madeCells #[.int .u8 0] m) 5)) := by
  obtain ⟨i0, hi, hzz⟩ := Option.map_eq_some_iff.1 info5
  simp only [Prod.mk.injEq] at hzz
  obtain ⟨hz0, hz1, hz2⟩ := hzz
  have hr := run_make (P := Try.prog) W 38 5 i0 (.int .u8 0) Try.underlying38 hi hz0 .i64 .i64 z z (by omega) (Int.le_refl _) (by rw [hz2]; omega) (by omega)
  rw [hz1, hz] at hr
  rw [hz, hr, Int.toNat_natCast, Nat.mul_one]
  rfl
theorem mk_reads (m : Nat) (hm : m ≤ 2000) (W : World) : (Kd.int .u8).C (W.alloc (.cells (madeCells #[.int .u8 0] m) 5)) (some ⟨W.heap.size, 0, none⟩) (List.replicate m (0 : Int)).length (List.replicate m 0) := by
  have h := Kd.reps_made (R := (Kd.int .u8).K W) (z := .int .u8 0) (size := 1) (z0 := (0 : Int)) rfl (by decide) rfl m
  rw [Nat.mul_one] at h
  exact C_made (Kd.int .u8) W 5 (List.replicate m 0) (madeCells #[.int .u8 0] m).toList h (by rw [List.length_replicate]; omega)
theorem lad_snoc (n : Nat) (far : Bool) (i : Nat) : (List.range' 0 i).map (ladB n far) ++ [ladB n far i] = (List.range' 0 (i + 1)).map (ladB n far) := by
  rw [List.range'_1_concat, List.map_append, Nat.zero_add]
  rfl
theorem R_notown {α : Type} {d : Kd α} {e : Nat} {w : World} {base : Nat} {ok : Nat → Prop} {v : Value} {xs : List α} (h : d.R e w base ok v xs) : ∀ k, w.heap.size ≤ k → True ∧ some k ≠ v.ownBlock :=
  fun k hk => ⟨trivial, fun e => by have := Kd.R_lt h k e.symm; omega⟩
set_option maxHeartbeats 4000000 in
set_option maxRecDepth 100000 in
theorem lad_calls (w : World) (many : Int) (far : Bool) (q n : Nat) (hq : (Go.bits .and .i64 many 9223372036854775807).tmod 1200 = q) (hq2 : q < 1200) (hn : n = q + 1)
    (pk : List Int) (Ap : Option Addr) (cp : Nat) (HP : Kd.C (Kd.int .u8) w Ap pk.length pk) (hcp : pk.length ≤ cp) :
    Calls Try.prog 6 #[.int .i64 many, .bool far, .slice Ap pk.length cp] w fun e w' => e = .returned (.bool true) ∧ Below w.heap.size w w' := by
  have HN := Aside0.mk hq
  have HP1 := Aside0.mk HP
  have HP2 := Aside0.mk hcp
  clear hq HP hcp
  go_enter Try.func6, Try.ntmps6
  go_wp2_with fail
  refine (riddlelaw0_Low.calls many _ _ rfl).mono ?_
  rintro e w0 ⟨rfl, ha⟩
  have HB0 : Aside0 (Below w.heap.size w w0) := ⟨by obtain ⟨nd, rfl⟩ := ha; exact pw_below_drewN (Below.refl _ _) _⟩
  clear ha
  have hq := HN.out
  go_wp2
  have HNQ := Aside0.mk hn
  rw [show (q : Int) + 1 = (n : Int) by omega]
  have hn1 : n ≤ 1200 := by omega
  have hn0 : 1 ≤ n := by omega
  clear hn hq hq2 HN
  have hui := Try.underlying22
  have HR0 := Aside0.mk (Kd.R_nil k47 47 w0 w.heap.size (fun _ => True))
  go_loopw [8, 9] (fun v8 v9 wr => ∃ i : Nat, i ≤ n ∧ v9 = .int .i64 i ∧ Aside0 (k47.R 47 wr w.heap.size (fun _ => True) v8 ((List.range' 0 i).map (ladB n far))) ∧ Aside0 (Below w.heap.size w wr)) (fun _ v9 _ => n - (intOf v9).toNat)
  case atStart => exact ⟨0, Nat.zero_le _, rfl, HR0, HB0⟩
  case round =>
    clear HR0 HB0
    obtain ⟨i, hi, rfl, HR, HB⟩ := hrel
    by_cases hlt : i < n
    · have hltb : decide (i < n) = true := decide_eq_true hlt
      obtain ⟨At, ct, ev⟩ := Kd.R_slice HR.out
      rw [List.length_map, List.length_range'] at ev
      subst ev
      have hsz := HB.out.size
      have hno := Aside0.mk (R_notown HR.out)
      cases far with
      | true =>
        have HM := Aside0.mk (fun o => lad_new w wr i o (ladB n true i) rfl hsz)
        go_wp2_with (at_builtin; go_loud (refine Kd.R_append k47 (w0 := w) w.heap.size rfl (.tmp 42) (.tmp 44) 22 47 (.agg #[.slice none 0 0, .int .i64 0, .int .u16 0, .int .u8 0, .int .u8 0, .int .u32 0, .int .i64 0, .int .i64 0]) 56 rfl hui info47 rfl (by decide) (by decide) _ _ (ladB n true i) _ (fun _ => True) (fun k => wr.heap.size ≤ k) rfl (by rw [World.size_alloc, World.size_alloc]; rfl) (HM.out _) hno.out (fun _ _ => trivial) (Kd.R_alloc (Kd.R_alloc HR.out _) _) (below_alloc (below_alloc HB.out _) _) (below_alloc (below_alloc HB.out _) _).size (by rw [List.length_map, List.length_range']; omega) ?_); intro v1 w4 ho hb hg hat; rw [lad_snoc] at ho; obtain ⟨A1, cc1, e1⟩ := Kd.R_slice ho; rw [List.length_map, List.length_range'] at e1; subst e1; have HN := Aside0.mk ho; have HB4 := Aside0.mk hb; clear ho hb hg hat)
        go_roundw
        case rel => exact ⟨i + 1, by omega, by go_num, HN, HB4⟩
        case measure => simp [intOf]; omega
      | false =>
        have HM := Aside0.mk (fun o => lad_new w wr i o (ladB n false i) rfl hsz)
        go_wp2_with (at_builtin; go_loud (refine Kd.R_append k47 (w0 := w) w.heap.size rfl (.tmp 42) (.tmp 44) 22 47 (.agg #[.slice none 0 0, .int .i64 0, .int .u16 0, .int .u8 0, .int .u8 0, .int .u32 0, .int .i64 0, .int .i64 0]) 56 rfl hui info47 rfl (by decide) (by decide) _ _ (ladB n false i) _ (fun _ => True) (fun k => wr.heap.size ≤ k) rfl (by rw [World.size_alloc, World.size_alloc]; rfl) (HM.out _) hno.out (fun _ _ => trivial) (Kd.R_alloc (Kd.R_alloc HR.out _) _) (below_alloc (below_alloc HB.out _) _) (below_alloc (below_alloc HB.out _) _).size (by rw [List.length_map, List.length_range']; omega) ?_); intro v1 w4 ho hb hg hat; rw [lad_snoc] at ho; obtain ⟨A1, cc1, e1⟩ := Kd.R_slice ho; rw [List.length_map, List.length_range'] at e1; subst e1; have HN := Aside0.mk ho; have HB4 := Aside0.mk hb; clear ho hb hg hat)
        go_roundw
        case rel => exact ⟨i + 1, by omega, by go_num, HN, HB4⟩
        case measure => simp [intOf]; omega
    · have hltb : decide (i < n) = false := decide_eq_false hlt
      have hin : i = n := by omega
      subst hin
      clear hlt hi
      obtain ⟨At, ct, ev⟩ := Kd.R_slice HR.out
      rw [List.length_map, List.length_range'] at ev
      subst ev
      have HE := Aside0.mk (ladE_reads wr w.heap.size)
      go_wp2_with (first | (at_builtin; go_loud (refine Kd.R_append_rows k47 (Rr := fun x cs => ∀ W, k47.M W w.heap.size (fun _ => False) x cs) (w0 := w) w.heap.size rfl (.tmp 46) (.tmp 51) 22 47 (.agg #[.slice none 0 0, .int .i64 0, .int .u16 0, .int .u8 0, .int .u8 0, .int .u32 0, .int .i64 0, .int .i64 0]) 56 rfl hui info47 rfl (by decide) (by decide) _ _ ladE _ 2 2 (fun _ => True) (fun _ => False) rfl rfl (Kd.R_alloc HR.out _) HE.out (fun x cs h => h _) (fun _ h => h.elim) (fun _ _ => trivial) (below_alloc HB.out _) (below_alloc HB.out _).size (by rw [List.length_map, List.length_range']; omega) ?_); intro v1 w4 ho hb hg hat; have HG := Aside0.mk (show k47.R 47 w4 w.heap.size (fun _ => True) v1 (ladG i far) from ho); have HB4 := Aside0.mk hb; clear ho hb hg hat) | fail)
      obtain ⟨Ag, cg, e1⟩ := Kd.R_slice HG.out
      rw [lad_len] at e1
      subst e1
      have HGC := Aside0.mk (show Kd.C k47 w4 Ag (ladG i far).length (ladG i far) ∧ (ladG i far).length ≤ cg by rw [← lad_len i far] at HG; exact ⟨(Kd.R_reads' HG.out).2.2, (Kd.R_reads' HG.out).2.1⟩)
      have HL := Aside0.mk (lad_len i far)
      have HT := Aside0.mk (And.intro (lad_tk i far hn1) (And.intro (lad_fit i far) (And.intro (lad_ms i far) (lad_k i far))))
      generalize ladG i far = g at *
      rw [← HL.out]
      clear HG HE HR HB
      refine (riddlelaw0_CopyBlocks.calls 10000 _ cg g g _ HGC.out.1 HGC.out.2 (cpb HT.out.1)).mono ?_
      rintro e w2 ⟨v, rfl, hs, hb⟩
      obtain ⟨Ac, cc, rfl⟩ := Kd.R_slice (Kd.S_R hs)
      have HS := Aside0.mk (Kd.R_reads' (Kd.S_R hs))
      have HG2 := Aside0.mk (Kd.C_below HGC.out.1 hb)
      have HB2 := Aside0.mk (below_step HB4.out hb)
      clear hs hb HB4
      go_wp2_with fail
      by_cases hms : 5 * (i : Int) + 2 ≤ 4096
      · refine (linear_calls _ g Ac cc HS.out.2.2 HS.out.2.1 HT.out.2.1 HT.out.1 (by rw [HT.out.2.2.1]; exact hms)).mono ?_
        rintro e w3 ⟨p, v, O, after, PL, f, rfl, L, hlen, hr, hb⟩
        obtain ⟨Aq, cq, rfl⟩ := Kd.R_slice hr
        have HLy := Aside0.mk L
        have HQ := Aside0.mk (Kd.R_reads' hr)
        have HG3 := Aside0.mk (Kd.C_below HG2.out hb)
        have HB3 := Aside0.mk (below_step HB2.out hb)
        clear L hlen hr hb HB2 HS HG2
        by_cases hpk : pk.length ≤ 65536
        · have h1 : decide (65536 < pk.length) = false := decide_eq_false (by omega)
          have h2 : decide ((65536 : Int) < (pk.length : Int)) = false := decide_eq_false (by omega)
          have HPK := Aside0.mk hpk
          clear hpk
          have hrun : ∀ q : List Int, q.length ≤ 65536 → ∀ W (Ap : Option Addr) (cp : Nat), Below w3.heap.size w3 W → Kd.C (Kd.int .u8) W Ap q.length q → q.length ≤ cp → Calls Try.prog 25 #[.slice Ag g.length cg, .slice Aq p.length cq, .slice Ap q.length cp] W fun e w' => e = .returned (.bool true) ∧ Below W.heap.size W w' := by
            intro q hq W Ap cp hb hC hc
            obtain ⟨v, fl, s, hg, T, hle, hv⟩ := HLy.out.runs q
            exact same_calls 10000 5000 5000 W g Ag cg p Aq cq q Ap cp (Kd.C_below HG3.out hb) HGC.out.2 (Kd.C_below HQ.out.2.2 hb) HQ.out.2.1 hC hc hq (by rw [rtakes _ HT.out.2.1 10000 (Nat.le_refl _), HT.out.1]) (fun b hb i hi => (HT.out.2.2.2 b hb).1 i hi) (fun b hb => by have := (tk_mem HT.out.1 hb).1; omega) (HLy.out.code HT.out.2.2.2 q hq 10000 (Nat.le_refl _)) (HLy.out.k0 HT.out.2.2.2) (by decide) v fl s hg T hv hle
          have hmake : ∀ m : Nat, m ≤ 2000 → ∀ W, Below w3.heap.size w3 W → Calls Try.prog 25 #[.slice Ag g.length cg, .slice Aq p.length cq, .slice (some ⟨W.heap.size, 0, none⟩) m m] (W.alloc (.cells (madeCells #[.int .u8 0] m) 5)) fun e w' => e = .returned (.bool true) ∧ Below W.heap.size W w' := by
            intro m hm W hb
            have := hrun (List.replicate m 0) (by rw [List.length_replicate]; omega) _ _ m (below_alloc hb (.cells (madeCells #[.int .u8 0] m) 5)) (mk_reads m hm W) (by rw [List.length_replicate]; omega)
            rw [List.length_replicate] at this
            refine this.mono ?_
            rintro e w' ⟨rfl, hb2⟩
            exact ⟨rfl, below_step (below_alloc (Below.refl _ _) _) hb2⟩
          have HRun := Aside0.mk hrun
          have HMk := Aside0.mk hmake
          have k1 := mk_run ((i : Int) / 2) (i / 2) (by omega) (by omega)
          have k2 := mk_run ((i : Int) - 1) (i - 1) (by omega) (by omega)
          have k3 := mk_run (i : Int) i rfl (by omega)
          clear hrun hmake
          go_wp2_with fail
          refine (HRun.out pk HPK.out _ Ap cp (Below.refl _ _) (Kd.C_below HP1.out HB3.out) HP2.out).mono ?_
          rintro e w5 ⟨rfl, hb⟩
          have HB5 := Aside0.mk hb
          clear hb
          go_wp2_with fail
          refine (HMk.out (i / 2) (by omega) _ HB5.out).mono ?_
          rintro e w6 ⟨rfl, hb⟩
          have HB6 := Aside0.mk (below_step HB5.out hb)
          clear hb HB5
          go_wp2_with fail
          refine (HMk.out (i - 1) (by omega) _ HB6.out).mono ?_
          rintro e w7 ⟨rfl, hb⟩
          have HB7 := Aside0.mk (below_step HB6.out hb)
          clear hb HB6
          go_wp2_with fail
          refine (HMk.out i (by omega) _ HB7.out).mono ?_
          rintro e w8 ⟨rfl, hb⟩
          have HB8 := Aside0.mk (below_step HB3.out (below_step HB7.out hb))
          clear hb HB7
          go_wp2_with fail
          refine (awake_calls _).mono ?_
          rintro e w9 ⟨rfl, hb⟩
          have HB9 := Aside0.mk (below_step HB8.out hb)
          clear hb
          go_wp2
          go_ret
          exact ⟨rfl, HB9.out⟩
        · have h1 : decide (65536 < pk.length) = true := decide_eq_true (by omega)
          have h2 : decide ((65536 : Int) < (pk.length : Int)) = true := decide_eq_true (by omega)
          go_wp2_with fail
          refine (awake_calls _).mono ?_
          rintro e w9 ⟨rfl, hb⟩
          have HB9 := Aside0.mk (below_step HB3.out hb)
          clear hb
          go_wp2
          go_ret
          exact ⟨rfl, HB9.out⟩
      · refine (linear_much _ g Ac cc HS.out.2.2 HS.out.2.1 HT.out.2.1 HT.out.1 (by rw [HT.out.2.2.1]; omega)).mono ?_
        rintro e w3 ⟨rfl, hb⟩
        have HB3 := Aside0.mk (below_step HB2.out hb)
        clear hb
        go_wp2_with fail
        refine (awake_calls _).mono ?_
        rintro e w9 ⟨rfl, hb⟩
        have HB9 := Aside0.mk (below_step HB3.out hb)
        clear hb
        go_wp2
        go_ret
        exact ⟨rfl, HB9.out⟩
theorem lad_all (w : World) (many : Int) (far : Bool) (pk : List Int) (Ap : Option Addr) (cp : Nat) (HP : Kd.C (Kd.int .u8) w Ap pk.length pk) (hcp : pk.length ≤ cp) :
    Calls Try.prog 6 #[.int .i64 many, .bool far, .slice Ap pk.length cp] w fun e w' => e = .returned (.bool true) ∧ Below w.heap.size w w' := by
  obtain ⟨q, hq, hq2⟩ := low_mod many 1200 (by decide)
  exact lad_calls w many far q (q + 1) hq hq2 rfl pk Ap cp HP hcp
end Go.Proofs.Ytdkalnkplgfgoaa.Ln
