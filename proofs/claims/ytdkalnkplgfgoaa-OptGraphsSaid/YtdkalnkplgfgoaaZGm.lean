/- Lemmas and walks for the statements of the texts ZGZ..: the declarations that they need, taken together by a program of this session. Conditions: as each says. -/
import Derived.Test.YtdkalnkplgfgoaaZGc
import Derived.Test.YtdkalnkplgfgoaaZGk
import Derived.Test.YtdkalnkplgfgoaaZGl
set_option maxHeartbeats 4000000
set_option maxRecDepth 100000
set_option linter.unusedVariables false
set_option linter.unusedSimpArgs false
namespace Go.Proofs.Ytdkalnkplgfgoaa.Ln
open Go.RowKit Go.Maps Go.Proofs.YtdkalnkplgfgoaaW.PrintWords Go.Proofs.YtdkalnkplgfgoaaW.PrintLast Go.Proofs.YtdkalnkplgfgoaaW.PrintMore Go.Proofs.Ytdkalnkplgfgoaa.PA Go.Proofs.Ytdkalnkplgfgoaa.Rd
theorem cpbG_l (g : List S47) (hg : g.length < 2513169434916) (hc : ∀ b ∈ g, b.f0.length < 17592186044416) : ∀ (d j : Nat), g.length - j = d → j ≤ g.length → ∀ k, d + 1 ≤ k → aW.l0 k g (g.take j) (j : Int) = some g := by
 intro d
 induction d with
 | zero =>
  intro j hd hj k hk
  obtain ⟨k, rfl⟩ : ∃ m, k = m + 1 := ⟨k - 1, by omega⟩
  rw [aW.l0, if_neg (by omega), List.take_of_length_le (by omega)]
 | succ d ih =>
  intro j hd hj k hk
  obtain ⟨k, rfl⟩ : ∃ m, k = m + 1 := ⟨k - 1, by omega⟩
  have hlt : j < g.length := by omega
  rw [aW.l0, if_pos (by omega), if_pos (by omega), iN hlt, cpi7 _ (hc _ (List.getElem_mem hlt)), Option.bind_some, if_pos (by rw [List.length_take]; omega), w64 (n := (j : Int) + 1) (by omega) (by omega)]
  have := ih (j + 1) (by omega) (by omega) k (by omega)
  rw [show ((j + 1 : Nat) : Int) = (j : Int) + 1 by omega, List.take_succ_eq_append_getElem hlt] at this
  exact this
theorem cpbG (g : List S47) (hg : g.length < 2513169434916) (hc : ∀ b ∈ g, b.f0.length < 17592186044416) : aW.f (g.length + 1) g = some g :=
 cpbG_l g hg hc g.length 0 rfl (by omega) (g.length + 1) (by omega)
theorem R_fromG {α : Type} {d : Kd α} {e base : Nat} {w w1 : World} {v : Value} {xs : List α} {S : Nat → Prop} (h : d.R e w base (fun _ => True) v xs) (k : Kp S w w1) (hS : ∀ x, base ≤ x → ¬ S x) : d.R e w1 base (fun _ => True) v xs :=
 Kd.gP (Kd.o8 (Kd.gP (ok' := fun x => base ≤ x) (Kd.jG h) (fun x hx => hx.2.1)) (fun x hx hlt => k.block x hlt (hS x hx))) (fun _ _ => trivial)
structure vC (g : List S47) : Prop where
 fit : Fit g
 code : ∀ b ∈ g, (b.f0.length + 4) * 8 ≤ 140737488355328
 long : (g.length + 2) * 56 ≤ 140737488355328
theorem za {g : List S47} (h : ∀ b ∈ g, WB b) (hl : g.length * 56 ≤ 140737488351232) : vC g := by
 have kw : reachBytes = 140737488351232 := by decide
 refine ⟨fun b hb => ?_, fun b hb => ?_, by omega⟩
 · have := (h b hb).2.1
   rw [kw] at this
   omega
 have := (h b hb).2.1
 rw [kw] at this
 omega
theorem szB_sum (g : List S47) : (g.map szB).sum ≤ (g.map (fun b => b.f0.length)).sum + g.length := by
 induction g with
 | nil => exact Nat.le_refl _
 | cons b r ih =>
  rw [List.map_cons, List.map_cons, List.sum_cons, List.sum_cons, List.length_cons]
  have : szB b ≤ b.f0.length + 1 := by unfold szB; split <;> omega
  omega
theorem size_l (x : List S47) (hx : x.length ≤ 4096) : ∀ (d j : Nat), x.length - j = d → j ≤ x.length → ∀ (a : Nat), a + ((x.drop j).map szB).sum ≤ 100000 → ∀ k, bP.l0 (k + d + 1) x (a : Int) (j : Int) = some (((a + ((x.drop j).map szB).sum : Nat)) : Int) := by
 intro d
 induction d with
 | zero =>
  intro j hd hj a ha k
  have hjl : j = x.length := by omega
  subst hjl
  rw [bP.l0, if_neg (by omega), List.drop_length]; rfl
 | succ d ih =>
  intro j hd hj a ha k
  have hlt : j < x.length := by omega
  rw [List.drop_eq_getElem_cons hlt, List.map_cons, List.sum_cons] at ha ⊢
  rw [show k + (d + 1) + 1 = (k + d + 1) + 1 by omega, bP.l0, if_pos (by omega), if_pos (by omega), iN hlt]
  have hw := w64 (n := (j : Int) + 1) (by omega) (by omega)
  have hs : szB x[j] = x[j].f0.length + (if x[j].f1 = 2 then 0 else 1) := rfl
  have hj1 : (j : Int) + 1 = ((j + 1 : Nat) : Int) := by omega
  have h5 := ih (j + 1) (by omega) (by omega) (a + szB x[j]) (by omega) k
  obtain ⟨s, es⟩ : ∃ s, s = szB x[j] := ⟨_, rfl⟩
  obtain ⟨n, en⟩ : ∃ n, n = x[j].f0.length := ⟨_, rfl⟩
  rw [← es] at hs ha h5 ⊢
  rw [← en] at hs ⊢
  clear es en ih
  by_cases e : x[j].f1 = 2
  · rw [if_pos e] at hs ⊢
    rw [hw, w64 (n := (a : Int) + (n : Int)) (by omega) (by omega), show (a : Int) + (n : Int) = ((a + s : Nat) : Int) by omega, hj1, h5, Nat.add_assoc]
  rw [if_neg e] at hs ⊢
  rw [hw, w64 (n := (a : Int) + (n : Int)) (by omega) (by omega), w64 (n := (a : Int) + (n : Int) + 1) (by omega) (by omega), show (a : Int) + (n : Int) + 1 = ((a + s : Nat) : Int) by omega, hj1, h5, Nat.add_assoc]
theorem BJ {x : List S47} (hx : GOk x) : bP.f 10000 x = some ((szG x : Nat) : Int) := by
 have hf := hx.few
 have hs := hx.sum
 have h2 := szB_sum x
 have h := size_l x hx.few x.length 0 rfl (by omega) 0 (by rw [List.drop_zero]; omega) (10000 - x.length - 1)
 rw [List.drop_zero, Nat.zero_add, show 10000 - x.length - 1 + x.length + 1 = 10000 by omega] at h
 exact h
theorem Ay {x : List S47} (hx : GOk x) : bu.f 10000 x = some ((msG x : Nat) : Int) := by
 rw [Bw hx.tk 10000 (Nat.le_refl _), msL_eq]; rfl
theorem Wr8.far {S : Nat → Prop} {w w1 : World} {B gb cap : Nat} {bs : List (Value × S47)} {tl : List Value} (h : Wr8 w B gb cap bs tl) (k : Kp S w w1) (hS : ∀ x, B ≤ x → ¬ S x) : Wr8 w1 B gb cap bs tl :=
 ⟨(k.block gb (av h.row) (hS _ h.lo.1)).trans h.row, h.size, h.le, h.max, fun n p hp => by
  rcases h.code n p hp with h1 | ⟨g, c, t, h2, h3⟩
  · exact .inl h1
  exact .inr ⟨g, c, t, h2, ⟨(k.block g (av h3.blk) (hS _ (h.lo.2 p (List.mem_of_getElem? hp) g (by rw [h2]; rfl)))).trans h3.blk, h3.len, h3.max, h3.size⟩⟩, h.sep, h.lo⟩
theorem xc (w : World) (g : List S47) (A : Option Addr) (c : Nat) (HG0 : Kd.C k47 w A g.length g) (hc : g.length ≤ c) (hG : GOk g) :
 Calls Try.prog 27 #[.slice A g.length c] w fun e w' => ∃ gb cap bs tl, e = .returned (.tuple #[.slice (some ⟨gb, 0, none⟩) bs.length cap, .int .i64 0]) ∧ Wr8 w' w.heap.size gb cap bs tl ∧ bs.map (·.2) = nH (phG g + 1) g ∧ Below w.heap.size w w' := by
 obtain ⟨r, hr, he⟩ := zi g hG.fit 10000 (Nat.le_refl _)
 obtain ⟨r1, r2⟩ := r
 obtain rfl : r2 = 0 := he.2 hG.tk
 exact pQ w g A c 10000 r1 HG0 hc hr hG
theorem qL (w : World) (g : List S47) (A : Option Addr) (c : Nat) (HG0 : Kd.C k47 w A g.length g) (hc : g.length ≤ c) (hF : Fit g) (hn : TkB g = false) :
 Calls Try.prog 27 #[.slice A g.length c] w fun e w' => e = .returned (.tuple #[.slice none 0 0, .int .i64 170]) ∧ Below w.heap.size w w' := by
 obtain ⟨r, hr, he⟩ := zi g hF 10000 (Nat.le_refl _)
 obtain ⟨r1, r2⟩ := r
 exact pO w g A c 10000 r1 r2 HG0 hc hr (fun h => by have h3 := he.1 h; rw [hn] at h3; cases h3)
theorem rX (w : World) (g : List S47) (A : Option Addr) (c : Nat) (HG : Kd.C k47 w A g.length g) (hc : g.length ≤ c) (H : vC g) (hn : TkB g = false) :
 Calls Try.prog 7 #[.slice A g.length c] w fun e w' => e = .returned (.bool true) ∧ Below w.heap.size w w' := by
 have HGA := aa.mk HG
 have HCA := aa.mk hc
 have HF := aa.mk H
 have HN := aa.mk hn
 have HCP := aa.mk (cpbG g (by have := H.long; omega) (fun b hb => by have := H.code b hb; omega))
 clear HG hc H hn
 go_enter Try.func7, Try.ntmps7
 go_upto_region 2 with (go_at_call 15; refine (nW w g A c HGA.out HCA.out HF.out.code HF.out.long).mono ?_; rintro e w2 ⟨gb, cap, bs, rfl, hl, hb⟩; have HL2 := aa.mk hl; have HB2 := aa.mk hb; clear hl hb)
 go_upto_region 3 with (go_at_call 27; refine (qL w2 g _ cap (HL2.out.C (by have := HF.out.long; omega)) (by have := (lQ HL2.out.row).2.2.1; omega) HF.out.fit HN.out).mono ?_; rintro e w3 ⟨rfl, hb⟩; have HL3 := aa.mk (HL2.out.below hb); have HB3 := aa.mk (ax HB2.out hb); have HX := aa.mk (show gb < w2.heap.size ∧ ∀ p ∈ bs, p.1 < w2.heap.size from ⟨Kd.R_lt HL2.out.row gb rfl, HL2.out.ltb⟩); clear hb)
 go_upto_region 5 with (go_at_call 17; refine (nV w w3 g A c gb cap bs HL3.out HGA.out HCA.out HB3.out HF.out.code HF.out.long w2.heap.size HX.out.1 HX.out.2).mono ?_; rintro e w4 ⟨rfl, hk⟩; have HB4 := aa.mk (hk.fK HB3.out HB3.out.size (fun k hk => hk.1)); clear hk)
 go_upto_region 6 with (first
  | (go_at_call 18; refine (aW.calls (g.length + 1) A c g g _ (Kd.dN HGA.out HB4.out) HCA.out HCP.out).mono ?_; rintro e w5 ⟨v, rfl, hs, hb⟩; obtain ⟨Ac, cc, rfl⟩ := Kd.gQ (Kd.S_R hs); have HS := aa.mk (Kd.dE (Kd.S_R hs)); have HB5 := aa.mk (ax HB4.out hb); clear hs hb)
  | (go_at_call 27; refine (qL w5 g Ac cc HS.out.2.2 HS.out.2.1 HF.out.fit HN.out).mono ?_; rintro e w6 ⟨rfl, hb⟩; have HB6 := aa.mk (ax HB5.out hb); clear hb))
 go_wp2_with (first
  | (go_at_call 28; refine (dM.calls 10000 A c g false w6 (Kd.dN HGA.out HB6.out) HCA.out (by rw [uW g HF.out.fit 10000 (Nat.le_refl _), HN.out])).mono ?_; rintro e w7 ⟨rfl, hb⟩; have HB7 := aa.mk (ax HB6.out hb); clear hb)
  | (go_at_call 29; refine (lS _).mono ?_; rintro e w8 ⟨rfl, hb⟩; have HB8 := aa.mk (ax HB7.out hb); clear hb))
 go_ret
 exact ⟨rfl, HB8.out⟩
theorem Wr8.cx {w : World} {B gb cap : Nat} {bs : List (Value × S47)} {tl : List Value} {X : List S47} (h : Wr8 w B gb cap bs tl) (e : bs.map (·.2) = X) : Kd.C k47 w (some ⟨gb, 0, none⟩) X.length X ∧ X.length ≤ cap := by
 subst e
 rw [List.length_map]
 exact ⟨h.c, h.le⟩
theorem Wr8.lts {w : World} {B gb cap : Nat} {bs : List (Value × S47)} {tl : List Value} (h : Wr8 w B gb cap bs tl) : gb < w.heap.size ∧ ∀ p ∈ bs, ∀ g, p.1.ownBlock = some g → g < w.heap.size := by
 refine ⟨av h.row, fun p hp g hg => ?_⟩
 obtain ⟨n, hn⟩ := List.getElem?_of_mem hp
 rcases h.code n p hn with ⟨h1, _⟩ | ⟨g', c, t, h2, h3⟩
 · rw [h1] at hg; cases hg
 rw [h2] at hg
 injection hg with hg
 have := av h3.blk
 have e2 : g' = g := hg
 omega
theorem qM (w : World) (g X : List S47) (A : Option Addr) (c : Nat) (HG0 : Kd.C k47 w A g.length g) (hc : g.length ≤ c) (hG : GOk g) (hX : X = nH (phG g + 1) g) :
 Calls Try.prog 27 #[.slice A g.length c] w fun e w' => ∃ gb cap bs tl, e = .returned (.tuple #[.slice (some ⟨gb, 0, none⟩) X.length cap, .int .i64 0]) ∧ Wr8 w' w.heap.size gb cap bs tl ∧ bs.map (·.2) = X ∧ Below w.heap.size w w' :=
 (xc w g A c HG0 hc hG).mono fun e w' ⟨gb, cap, bs, tl, h1, h2, h3, h4⟩ => ⟨gb, cap, bs, tl, by rw [h1, show bs.length = X.length by rw [hX, ← h3, List.length_map]], h2, by rw [h3, hX], h4⟩
theorem qx (w : World) (g : List S47) (A : Option Addr) (c : Nat) (HG : Kd.C k47 w A g.length g) (hc : g.length ≤ c) (H : vC g) (hG : GOk g) :
 Calls Try.prog 7 #[.slice A g.length c] w fun e w' => e = .returned (.bool true) ∧ Below w.heap.size w w' := by
 obtain ⟨X, eX⟩ : ∃ X, X = nH (phG g + 1) g := ⟨_, rfl⟩
 have hI : xO g X := by rw [eX]; exact impr_of hG
 have hXo := hI.done.gok
 obtain ⟨sg, esg⟩ : ∃ s : Int, s = ((szG g : Nat) : Int) := ⟨_, rfl⟩
 obtain ⟨sx, esx⟩ : ∃ s : Int, s = ((szG X : Nat) : Int) := ⟨_, rfl⟩
 obtain ⟨mg, emg⟩ : ∃ s : Int, s = ((msG g : Nat) : Int) := ⟨_, rfl⟩
 obtain ⟨mx, emx⟩ : ∃ s : Int, s = ((msG X : Nat) : Int) := ⟨_, rfl⟩
 have hsz : decide (sg < sx) = false := decide_eq_false (by have := hI.sz; omega)
 have hms : decide (mg < mx) = false := decide_eq_false (by have := hI.ms; omega)
 have hsgf : bP.f 10000 g = some sg := by rw [esg]; exact BJ hG
 have hsxf : bP.f 10000 X = some sx := by rw [esx]; exact BJ hXo
 have hmgf : bu.f 10000 g = some mg := by rw [emg]; exact Ay hG
 have hmxf : bu.f 10000 X = some mx := by rw [emx]; exact Ay hXo
 have HNU := aa.mk (And.intro hsgf (And.intro hsxf (And.intro hmgf hmxf)))
 have HTG : aa (dM.f 10000 g = some true) := ⟨by rw [uW g hG.fit 10000 (Nat.le_refl _), hG.tk]⟩
 have HTX : aa (dM.f 10000 X = some true) := ⟨by rw [uW X hXo.fit 10000 (Nat.le_refl _), hXo.tk]⟩
 have HGA := aa.mk HG
 have HCA := aa.mk hc
 have HF := aa.mk H
 have HOK := aa.mk (And.intro hG (And.intro hI eX))
 have HXL : aa ((∀ b ∈ X, b.f0.length ≤ 100000000000000) ∧ X.length ≤ 100000000000000) := ⟨⟨fun b hb => by obtain ⟨j, hj⟩ := List.getElem?_of_mem hb; have := hXo.len hj; omega, by have := hXo.few; omega⟩⟩
 have HCP := aa.mk (cpbG g (by have := H.long; omega) (fun b hb => by have := H.code b hb; omega))
 clear HG hc H hG hI hXo hsgf hsxf hmgf hmxf esg esx emg emx eX
 go_enter Try.func7, Try.ntmps7
 go_upto_region 2 with (go_at_call 15; refine (nW w g A c HGA.out HCA.out HF.out.code HF.out.long).mono ?_; rintro e w2 ⟨gb, cap, bs, rfl, hl, hb⟩; have HL2 := aa.mk hl; have HB2 := aa.mk hb; clear hl hb)
 go_upto_region 3 with (go_at_call 27; refine (qM w2 g X _ cap (HL2.out.C (by have := HF.out.long; omega)) (by have := (lQ HL2.out.row).2.2.1; omega) HOK.out.1 HOK.out.2.2).mono ?_; rintro e w3 ⟨gx, cx, bx, tx, rfl, hwx, ex, hb⟩; have HL3 := aa.mk (HL2.out.below hb); have HB3 := aa.mk (ax HB2.out hb); have HX3 := aa.mk hwx; have EX := aa.mk ex; have hz3 := hb.size; have HXB := aa.mk (show gb < w2.heap.size ∧ ∀ p ∈ bs, p.1 < w2.heap.size from ⟨Kd.R_lt HL2.out.row gb rfl, HL2.out.ltb⟩); clear hb hwx ex)
 have HLT := aa.mk HX3.out.lts
 go_upto_region 5 with (go_at_call 17; refine (nV w w3 g A c gb cap bs HL3.out HGA.out HCA.out HB3.out HF.out.code HF.out.long w2.heap.size HXB.out.1 HXB.out.2).mono ?_; rintro e w4 ⟨rfl, hk⟩; have HB4 := aa.mk (hk.fK HB3.out HB3.out.size (fun k hk => hk.1)); have HX4 := aa.mk (HX3.out.far hk (fun x hx hS => by omega)); have hz4 := hk.size; clear hk)
 clear HL2 HL3 HX3 HXB
 go_upto_region 6 with (first
  | (go_at_call 18; refine (aW.calls (g.length + 1) A c g g _ (Kd.dN HGA.out HB4.out) HCA.out HCP.out).mono ?_; rintro e w5 ⟨v, rfl, hs, hb⟩; obtain ⟨Ac, cc, rfl⟩ := Kd.gQ (Kd.S_R hs); have HS := aa.mk (Kd.dE (Kd.S_R hs)); have HB5 := aa.mk (ax HB4.out hb); have HX5 := aa.mk (HX4.out.below hb); have hz5 := hb.size; clear hs hb)
  | (go_at_call 27; refine (qM w5 g X Ac cc HS.out.2.2 HS.out.2.1 HOK.out.1 HOK.out.2.2).mono ?_; rintro e w6 ⟨gy, cy, bY, ty, rfl, hwy, ey, hb⟩; have HB6 := aa.mk (ax HB5.out hb); have HY6 := aa.mk hwy; have EY := aa.mk ey; have HX6 := aa.mk (HX5.out.below hb); clear hb hwy ey))
 clear HS HX4 HX5
 go_upto_region 8 with (go_at_call 28; refine (dM.calls 10000 A c g true w6 (Kd.dN HGA.out HB6.out) HCA.out HTG.out).mono ?_; rintro e w7 ⟨rfl, hb⟩; have HB7 := aa.mk (ax HB6.out hb); have HX7 := aa.mk (HX6.out.below hb); have HY7 := aa.mk (HY6.out.below hb); clear hb)
 clear HX6 HY6
 go_wp2_with fail
 refine (lh w7 X _ _ cx cy (HX7.out.cx EX.out).1 (HX7.out.cx EX.out).2 (HY7.out.cx EY.out).1 (HY7.out.cx EY.out).2 HXL.out.1 HXL.out.2).mono ?_
 rintro e w8 ⟨rfl, hd⟩
 have HB8 := aa.mk (ax HB7.out hd.below)
 have HX8 := aa.mk (HX7.out.below hd.below)
 have HY8 := aa.mk (HY7.out.below hd.below)
 clear hd HX7 HY7
 go_wp2_with fail
 refine (dM.calls 10000 _ cx X true w8 (HX8.out.cx EX.out).1 (HX8.out.cx EX.out).2 HTX.out).mono ?_
 rintro e w9 ⟨rfl, hb⟩
 have HB9 := aa.mk (ax HB8.out hb)
 have HX9 := aa.mk (HX8.out.below hb)
 have HY9 := aa.mk (HY8.out.below hb)
 clear hb HX8 HY8
 go_wp2_with fail
 refine (bP.calls 10000 _ cx X sx w9 (HX9.out.cx EX.out).1 (HX9.out.cx EX.out).2 HNU.out.2.1).mono ?_
 rintro e w10 ⟨rfl, hd⟩
 have HB10 := aa.mk (ax HB9.out hd.below)
 have HX10 := aa.mk (HX9.out.below hd.below)
 have HY10 := aa.mk (HY9.out.below hd.below)
 clear hd HX9 HY9
 go_wp2_with fail
 refine (bP.calls 10000 A c g sg w10 (Kd.dN HGA.out HB10.out) HCA.out HNU.out.1).mono ?_
 rintro e w11 ⟨rfl, hd⟩
 have HB11 := aa.mk (ax HB10.out hd.below)
 have HX11 := aa.mk (HX10.out.below hd.below)
 have HY11 := aa.mk (HY10.out.below hd.below)
 clear hd HX10 HY10
 go_wp2_with fail
 refine (bu.calls 10000 _ cx X mx w11 (HX11.out.cx EX.out).1 (HX11.out.cx EX.out).2 HNU.out.2.2.2).mono ?_
 rintro e w12 ⟨rfl, hd⟩
 have HB12 := aa.mk (ax HB11.out hd.below)
 have HX12 := aa.mk (HX11.out.below hd.below)
 have HY12 := aa.mk (HY11.out.below hd.below)
 clear hd HX11 HY11
 go_wp2_with fail
 refine (bu.calls 10000 A c g mg w12 (Kd.dN HGA.out HB12.out) HCA.out HNU.out.2.2.1).mono ?_
 rintro e w13 ⟨rfl, hd⟩
 have HB13 := aa.mk (ax HB12.out hd.below)
 have HX13 := aa.mk (HX12.out.below hd.below)
 have HY13 := aa.mk (HY12.out.below hd.below)
 clear hd HX12 HY12
 go_wp2_with fail
 refine (uu w13 _ X cx (HX13.out.cx EX.out).1 (HX13.out.cx EX.out).2 HOK.out.2.1.done.gok HOK.out.2.1.done.gone).mono ?_
 rintro e w14 ⟨rfl, hb⟩
 have HB14 := aa.mk (ax HB13.out hb)
 have HX14 := aa.mk (HX13.out.below hb)
 have HY14 := aa.mk (HY13.out.below hb)
 clear hb HX13 HY13
 go_wp2_with fail
 refine (aW.calls 10000 _ cy X X w14 (HY14.out.cx EY.out).1 (HY14.out.cx EY.out).2 (cpb7 HOK.out.2.1.done.gok)).mono ?_
 rintro e w15 ⟨v, rfl, hs, hb⟩
 obtain ⟨Ak, ck, rfl⟩ := Kd.gQ (Kd.S_R hs)
 have HK15 := aa.mk (Kd.S_R hs)
 have HB15 := aa.mk (ax HB14.out hb)
 have HX15 := aa.mk (HX14.out.below hb)
 have HY15 := aa.mk (HY14.out.below hb)
 have hz14 : w3.heap.size ≤ w14.heap.size := by have h1 := HY14.out.lts.1; have h2 := HY14.out.lo.1; omega
 clear hs hb HX14 HY14
 have hxl : bx.length = X.length := by rw [← EX.out, List.length_map]
 have HSPB := aa.mk (sF w15 w2.heap.size w3.heap.size gx cx bx tx HX15.out (by rw [hxl]; exact HOK.out.2.1.done.gok.few) (fun p hp => by
  have hm : p.2 ∈ X := by rw [← EX.out]; exact List.mem_map_of_mem hp
  obtain ⟨j, hj⟩ := List.getElem?_of_mem hm
  exact HOK.out.2.1.done.gok.len hj) HLT.out.1 HLT.out.2)
 rw [hxl] at HSPB
 go_wp2_with fail
 refine HSPB.out.mono ?_
 rintro e w16 ⟨rfl, hk⟩
 have HB16 := aa.mk (hk.fK HB15.out HB15.out.size (fun k hk => by have := HB2.out.size; omega))
 have HY16 := aa.mk (HY15.out.far hk (fun x hx hS => by omega))
 have HK16 := aa.mk (R_fromG HK15.out hk (fun x hx hS => by omega))
 clear hk HY15 HK15 HX15
 go_wp2_with fail
 refine (lh w16 X _ _ cy ck (HY16.out.cx EY.out).1 (HY16.out.cx EY.out).2 (Kd.dE HK16.out).2.2 (Kd.dE HK16.out).2.1 HXL.out.1 HXL.out.2).mono ?_
 rintro e w17 ⟨rfl, hd⟩
 have HB17 := aa.mk (ax HB16.out hd.below)
 clear hd
 go_wp2_with fail
 refine (lS _).mono ?_
 rintro e w18 ⟨rfl, hb⟩
 have HB18 := aa.mk (ax HB17.out hb)
 clear hb
 go_wp2
 go_ret
 exact ⟨rfl, HB18.out⟩
theorem ou (w : World) (g : List S47) (A : Option Addr) (c : Nat) (HG : Kd.C k47 w A g.length g) (hc : g.length ≤ c) (H : vC g) (hk : KR g) :
 Calls Try.prog 7 #[.slice A g.length c] w fun e w' => e = .returned (.bool true) ∧ Below w.heap.size w w' := by
 cases htk : TkB g
 · exact rX w g A c HG hc H htk
 exact qx w g A c HG hc H (zm htk hk)
end Go.Proofs.Ytdkalnkplgfgoaa.Ln
