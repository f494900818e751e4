/- Lemmas and walks for the statements of the texts ZDZ..: the declarations that they need, taken together by a program of this session. Conditions: as each says. -/
import Derived.Test.YtdkalnkplgfgoaaZDe
import Derived.Test.YtdkalnkplgfgoaaZDk
import Derived.Test.YtdkalnkplgfgoaaZDl
set_option maxHeartbeats 4000000
set_option maxRecDepth 100000
set_option linter.unusedVariables false
set_option linter.unusedSimpArgs false
namespace Go.Proofs.Ytdkalnkplgfgoaa.Ln
open Go.RowKit Go.Maps Go.Proofs.YtdkalnkplgfgoaaW.PrintWords Go.Proofs.YtdkalnkplgfgoaaW.PrintLast Go.Proofs.YtdkalnkplgfgoaaW.PrintMore Go.Proofs.Ytdkalnkplgfgoaa.PA
theorem vD {α : Type} (d : Kd α) (W : World) (base : Nat) (hb : base ≤ W.heap.size) (e : Nat) (xs : List α) (inner : List Value) (hrep : fu (d.M W base (fun _ => True)) d.sz xs inner) (hm : xs.length ≤ 9223372036854775807) :
 d.R e (W.alloc (.cells inner.toArray e)) base (fun _ => True) (.slice (some ⟨W.heap.size, 0, none⟩) xs.length xs.length) xs := by
 refine ⟨fun _ _ => trivial, inner, ?_, ?_⟩
 · have h2 := World.ownsRow_lit (base := base) (e := e) (size := d.sz) W inner.toArray xs.length hb (by simpa [maxLen] using hm) (by simpa using hrep.1)
   simpa using h2
 refine hrep.kg (fun p c hp => d.M_mono (fun k hk => ⟨trivial, fun he => ?_⟩) (d.qU (d.M_bound hp) (ai (Below.refl _ _) _)))
 have h3 : k = W.heap.size := by simpa [Value.ownBlock] using he
 have := hk.2.2.1
 omega
theorem pre_row (W : World) (k : Int) : k47.R 47 (((W.alloc (.cells #[.int .u16 0, .int .u8 0, .int .u8 0, .int .u32 k, .int .u16 4, .int .u8 0, .int .u8 0, .int .u32 1, .int .u16 0, .int .u8 0, .int .u8 0, .int .u32 0] 45)).alloc (.cells #[.int .u16 128, .int .u8 0, .int .u8 0, .int .u32 0] 45)).alloc
 (.cells #[.slice none 0 0, .int .i64 2, .int .u16 0, .int .u8 0, .int .u8 0, .int .u32 0, .int .i64 1, .int .i64 0, .slice (some ⟨W.heap.size, 0, none⟩) 3 3, .int .i64 3, .int .u16 21, .int .u8 0, .int .u8 0, .int .u32 0, .int .i64 3, .int .i64 2, .slice (some ⟨W.heap.size + 1, 0, none⟩) 1 1, .int .i64 1, .int .u16 22, .int .u8 0, .int .u8 0, .int .u32 0, .int .i64 0, .int .i64 0] 47))
 W.heap.size (fun _ => True) (.slice (some ⟨W.heap.size + 1 + 1, 0, none⟩) 3 3) (kD k) := by
 have q1 := vC k45 W 45 [⟨0, 0, 0, k⟩, ⟨4, 0, 0, 1⟩, ⟨0, 0, 0, 0⟩] [.int .u16 0, .int .u8 0, .int .u8 0, .int .u32 k, .int .u16 4, .int .u8 0, .int .u8 0, .int .u32 1, .int .u16 0, .int .u8 0, .int .u8 0, .int .u32 0]
  (fu.snoc (fu.snoc (fu.one' (jg _ _ _ ⟨0, 0, 0, k⟩) rfl) (jg _ _ _ ⟨4, 0, 0, 1⟩) rfl) (jg _ _ _ ⟨0, 0, 0, 0⟩) rfl) (by simp)
 obtain ⟨W1, e1⟩ : ∃ W1, W1 = W.alloc (.cells #[.int .u16 0, .int .u8 0, .int .u8 0, .int .u32 k, .int .u16 4, .int .u8 0, .int .u8 0, .int .u32 1, .int .u16 0, .int .u8 0, .int .u8 0, .int .u32 0] 45) := ⟨_, rfl⟩
 have q1' : k45.R 45 W1 W.heap.size (fun _ => True) (.slice (some ⟨W.heap.size, 0, none⟩) 3 3) [⟨0, 0, 0, k⟩, ⟨4, 0, 0, 1⟩, ⟨0, 0, 0, 0⟩] := by rw [e1]; exact q1
 have z1 : W1.heap.size = W.heap.size + 1 := by rw [e1, World.size_alloc]
 rw [← e1]
 clear e1 q1
 have q2 := vD k45 W1 W.heap.size (by omega) 45 [⟨128, 0, 0, 0⟩] [.int .u16 128, .int .u8 0, .int .u8 0, .int .u32 0] (fu.one' (jg _ _ _ ⟨128, 0, 0, 0⟩) rfl) (by decide)
 obtain ⟨W2, e2⟩ : ∃ W2, W2 = W1.alloc (.cells #[.int .u16 128, .int .u8 0, .int .u8 0, .int .u32 0] 45) := ⟨_, rfl⟩
 have q2' : k45.R 45 W2 W.heap.size (fun _ => True) (.slice (some ⟨W.heap.size + 1, 0, none⟩) 1 1) [⟨128, 0, 0, 0⟩] := by rw [e2, ← z1]; exact q2
 have q1'' : k45.R 45 W2 W.heap.size (fun _ => True) (.slice (some ⟨W.heap.size, 0, none⟩) 3 3) [⟨0, 0, 0, k⟩, ⟨4, 0, 0, 1⟩, ⟨0, 0, 0, 0⟩] := by rw [e2]; exact Kd.eO q1' _
 have z2 : W2.heap.size = W.heap.size + 1 + 1 := by rw [e2, World.size_alloc, z1]
 rw [← e2]
 clear e2 q2 q1'
 have h := vD k47 W2 W.heap.size (by omega) 47 (kD k) [.slice none 0 0, .int .i64 2, .int .u16 0, .int .u8 0, .int .u8 0, .int .u32 0, .int .i64 1, .int .i64 0, .slice (some ⟨W.heap.size, 0, none⟩) 3 3, .int .i64 3, .int .u16 21, .int .u8 0, .int .u8 0, .int .u32 0, .int .i64 3, .int .i64 2, .slice (some ⟨W.heap.size + 1, 0, none⟩) 1 1, .int .i64 1, .int .u16 22, .int .u8 0, .int .u8 0, .int .u32 0, .int .i64 0, .int .i64 0]
  (fu.snoc (fu.snoc (fu.one' (jY W2 W.heap.size (fun _ => True) ⟨[], 2, ⟨0, 0, 0, 0⟩, 1, 0⟩ (Kd.kK _ _ _ _ _)) rfl) (jY W2 W.heap.size (fun _ => True) ⟨[⟨0, 0, 0, k⟩, ⟨4, 0, 0, 1⟩, ⟨0, 0, 0, 0⟩], 3, ⟨21, 0, 0, 0⟩, 3, 2⟩ q1'') rfl)
    (jY W2 W.heap.size (fun _ => True) ⟨[⟨128, 0, 0, 0⟩], 1, ⟨22, 0, 0, 0⟩, 0, 0⟩ q2') rfl) (by simp [kD])
 rw [z2] at h
 exact h
theorem cpb1 (b : S47) (h : b.f0.length ≤ 4096) : bv.f 10000 [b] = some [b] :=
 yO [b] (by simp) (fun b' hb => by rcases List.mem_singleton.1 hb with rfl; omega) 1 0 rfl (by simp) 10000 (by omega)
theorem C_one {w : World} {ad : Addr} {g : List S47} {c i : Nat} {b : S47} (h : Kd.C k47 w (some ad) g.length g) (hb : g[i]? = some b) (hc : g.length ≤ c) : Kd.C k47 w (some (ad.add (i * 8))) [b].length [b] := by
 have hi := (List.getElem?_eq_some_iff.1 hb).1
 have h1 := Kd.C_drop (m := i) (c := c) h (by omega) hc
 rw [if_neg (by omega)] at h1
 have h2 := Kd.C_take (m := 1) h1 (by rw [List.length_drop]; omega)
 have e : (g.drop i).take 1 = [b] := by
  rw [List.drop_eq_getElem_cons hi]
  have : g[i] = b := by rw [List.getElem?_eq_getElem hi] at hb; injection hb
  rw [this]; rfl
 rw [e] at h2
 exact h2
theorem R_one {w : World} {base gv cv : Nat} {b : S47} (h : k47.R 47 w base (fun _ => True) (.slice (some ⟨gv, 0, none⟩) 1 cv) [b]) :
 ∃ v0, k45.R 45 w base (fun _ => True) v0 b.f0 ∧ ∀ j u, (b8 (v0, b))[j]? = some u → w.cell? ⟨gv, j, none⟩ = some u := by
 obtain ⟨cs, _, hM, hcc⟩ := Kd.R_get h z47 0 (by omega) (by omega)
 have e : ([b] : List S47).getD (0 : Int).toNat z47 = b := rfl
 rw [e] at hM
 obtain ⟨v0, rfl, h0⟩ := xg hM
 refine ⟨v0, Kd.ic h0 (fun _ _ => trivial), fun j u hu => ?_⟩
 have := hcc j u hu
 simp only [Int.toNat_zero, Nat.zero_mul, Nat.zero_add] at this
 rw [Go.WideShapes.add_plain, Nat.zero_add] at this
 exact this
theorem pz (w : World) (g : List S47) (A : Option Addr) (c : Nat) (pk : List Int) (Ap : Option Addr) (cp : Nat) (k : Int) (HG : Kd.C k47 w A g.length g) (hc : g.length ≤ c)
 (HP : Kd.C (Kd.int .u8) w Ap pk.length pk) (hcp : pk.length ≤ cp) (hG : GOk g) (hpk : pk.length ≤ 65536) (hk : Rg k) (h60 : g.length ≤ 60) (hs : szG g ≤ 2000) (sg : Int) (esg : bQ.f 10000 g = some sg) (hsg : decide (2000 < sg) = false) :
 Calls Try.prog 11 #[.slice A g.length c, .slice Ap pk.length cp, .int .u32 k] w fun e w' => e = .returned (.bool true) ∧ Below w.heap.size w w' := by
 have h1 : decide (65536 < pk.length) = false := decide_eq_false (by omega)
 have h2 : decide ((65536 : Int) < (pk.length : Int)) = false := decide_eq_false (by omega)
 have h3 : decide (60 < g.length) = false := decide_eq_false (by omega)
 have h4 : decide ((60 : Int) < (g.length : Int)) = false := decide_eq_false (by omega)
 have hu45 := Try.underlying45
 have hu47 := Try.underlying47
 have hui := Try.underlying22
 have HTG : aa (dI.f 10000 g = some true) := ⟨by rw [r9 g hG.fit 10000 (Nat.le_refl _), hG.tk]⟩
 have HGA := aa.mk HG
 have HCA := aa.mk hc
 have HP1 := aa.mk HP
 have HP2 := aa.mk hcp
 have HSG := aa.mk esg
 have HOK := aa.mk (And.intro hG (And.intro (pad_ok (k := k) hG hk h60 hs) (And.intro hpk (And.intro h60 hk))))
 clear HG hc HP hcp hG hpk hk h60 hs esg
 go_enter Try.func11, Try.ntmps11
 go_upto_region 3 with (first
  | (go_at_call 28; refine (dI.calls 10000 A c g true w HGA.out HCA.out HTG.out).mono ?_; rintro e w1 ⟨rfl, hb⟩; have HB1 := aa.mk hb; clear hb)
  | (go_at_call 31; refine (bQ.calls 10000 A c g sg w1 (Kd.dE HGA.out HB1.out) HCA.out HSG.out).mono ?_; rintro e w2 ⟨rfl, hd⟩; have HB2 := aa.mk (ax HB1.out hd.below); clear hd))
 go_upto_region 4 with (fail)
 refine forget (fun X => ∃ gx, gx = w2.heap.size + 1 + 1 ∧ Below w2.heap.size w2 X ∧ k47.R 47 X w2.heap.size (fun _ => True) (.slice (some ⟨gx, 0, none⟩) 3 3) (kD k ++ (g.take 0).map shB)) ⟨_, rfl, ai (ai (ai (Below.refl _ _) _) _) _, by rw [List.take_zero, List.map_nil, List.append_nil]; exact pre_row _ k⟩ ?_
 rintro X ⟨gx, egx, hb, hr⟩
 rw [← egx]
 have HBX := aa.mk hb
 have HRX := aa.mk hr
 clear egx hb hr
 go_wp2
 go_loopw [7, 8] (fun v7 v8 wr => ∃ i : Nat, i ≤ g.length ∧ v8 = .int .i64 i ∧ aa (k47.R 47 wr w2.heap.size (fun _ => True) v7 (kD k ++ (g.take i).map shB)) ∧ aa (Below w2.heap.size w2 wr)) (fun _ v8 _ => g.length - (intOf v8).toNat)
 case atStart => exact ⟨0, Nat.zero_le _, rfl, HRX, HBX⟩
 case round =>
  clear HRX HBX
  obtain ⟨i, hi, rfl, HR, HB⟩ := hrel
  obtain ⟨At, ct, ev⟩ := Kd.ig HR.out
  by_cases hlt : i < g.length
  · obtain ⟨z, ez⟩ : ∃ z : Int, z = (i : Int) := ⟨_, rfl⟩
    rw [← ez]
    rw [List.length_append, List.length_map, List.length_take, Nat.min_eq_left hi] at ev
    subst ev
    have i0 : (0 : Int) ≤ z := by omega
    have i1 : z < (g.length : Int) := by omega
    have h60 := HOK.out.2.2.2.1
    have ew : wrap64 (z + 1) = z + 1 := by unfold wrap64; omega
    have i2 : (0 : Int) ≤ wrap64 (z + 1) := by rw [ew]; omega
    have i3 : wrap64 (z + 1) ≤ (g.length : Int) := by rw [ew]; omega
    have i4 : z ≤ wrap64 (z + 1) := by rw [ew]; omega
    have i5 : wrap64 (z + 1) ≤ (c : Int) := by have := HCA.out; rw [ew]; omega
    have hz := HOK.out.1.some_
    have EZ := aa.mk ez
    have EW := aa.mk ew
    have HG2 : aa (Kd.C k47 w2 A g.length g) := ⟨Kd.dE HGA.out HB2.out⟩
    have HGw : aa (Kd.C k47 wr A g.length g) := ⟨Kd.dE HG2.out HB.out⟩
    obtain ⟨ad, rfl⟩ := iG HG2 z (decide_eq_true i0) (decide_eq_true i1)
    obtain ⟨b, hbk⟩ : ∃ b, g[i]? = some b := ⟨_, List.getElem?_eq_getElem hlt⟩
    have hbo := HOK.out.1.all i b hbk
    have hbl := HOK.out.1.len hbk
    have eN : (wrap64 (z + 1)).toNat - z.toNat = 1 := by rw [ew]; omega
    have eZ : z.toNat = i := by omega
    have i6 : ¬ c = z.toNat := by have := HCA.out; omega
    have HCB : aa (Calls Try.prog 18 #[.slice (some (ad.add (z.toNat * 8))) ((wrap64 (z + 1)).toNat - z.toNat) (c - z.toNat)] wr fun e w' => ∃ gv cv, e = .returned (.slice (some ⟨gv, 0, none⟩) 1 cv) ∧ k47.R 47 w' wr.heap.size (fun _ => True) (.slice (some ⟨gv, 0, none⟩) 1 cv) [b] ∧ Below wr.heap.size wr w') := ⟨by
     rw [eN, eZ]
     refine (bv.calls 10000 (some (ad.add (i * 8))) (c - i) [b] [b] wr (C_one HGw.out hbk HCA.out) (by have := HCA.out; simp only [List.length_singleton]; omega) (cpb1 b hbl)).mono ?_
     rintro e w' ⟨v, rfl, hs, hb⟩
     obtain ⟨gv, cv, rfl, _⟩ := Kd.oO (Kd.S_R hs) (by simp)
     exact ⟨gv, cv, rfl, Kd.S_R hs, hb⟩⟩
    have HBO := aa.mk (And.intro hbk hbo)
    clear ez ew hi h60 hz eN eZ hbk hbo hbl
    go_upto_region 8 with (go_at_call 18; refine HCB.out.mono ?_; rintro e w5 ⟨gv, cv, rfl, hr5, hb5⟩; obtain ⟨v0, hv0, hcl⟩ := R_one hr5; obtain ⟨A1, c1, rfl⟩ := Kd.ig hv0; have x0 := hcl 0 _ rfl; have x1 := hcl 1 _ rfl; have x2 := hcl 2 _ rfl; have x3 := hcl 3 _ rfl; have x4 := hcl 4 _ rfl; have x5 := hcl 5 _ rfl; have x6 := hcl 6 _ rfl; have x7 := hcl 7 _ rfl; have HV5 := aa.mk (And.intro hv0 hb5); clear hr5 hb5 hcl hv0)
    clear HCB
    refine forget (fun Y => ∃ gt, gt = w5.heap.size ∧ Below wr.heap.size wr Y ∧ Y.heap[gt]? = some (.cells (b8 (.slice A1 b.f0.length c1, b)).toArray 47 (0, 0)) ∧ k45.R 45 Y wr.heap.size (fun _ => True) (.slice A1 b.f0.length c1) b.f0 ∧ wr.heap.size ≤ gt) ⟨_, rfl, ai HV5.out.2 _, heap_alloc_new _ _, Kd.eO HV5.out.1 _, HV5.out.2.size⟩ ?_
    clear x0 x1 x2 x3 x4 x5 x6 x7 HV5
    rintro Y ⟨gt, egt, hbY, hbt, hvY, hgt⟩
    rw [← egt]
    have HY := aa.mk (And.intro hbY (And.intro hbt (And.intro hvY hgt)))
    have y1 : Y.cell? ⟨gt, 1, none⟩ = some (.int .i64 b.f1) := (ae hbt 1).trans rfl
    have y6 : Y.cell? ⟨gt, 6, none⟩ = some (.int .i64 b.f3) := (ae hbt 6).trans rfl
    have y7 : Y.cell? ⟨gt, 7, none⟩ = some (.int .i64 b.f4) := (ae hbt 7).trans rfl
    have f6 := af hbt 6
    have f7 := af hbt 7
    have hy := bu HBO.out.2.goal
    have hn := dG HBO.out.2.goal
    have hfew := HOK.out.2.2.2.1
    clear hbY hbt hvY hgt egt
    rcases dX HBO.out.2.ends with ⟨e1, -⟩ | ⟨e1, -⟩ | ⟨e1, -⟩
    case' inl =>
     have HSH : aa (shB b = b) := ⟨by unfold shB; rw [if_pos e1, if_neg (by omega)]⟩
     rw [e1] at y1
     clear hy hn hfew e1
     go_upto_region 12 with (fail)
     refine forget (fun Z => Below wr.heap.size wr Z ∧ Z.heap[gt]? = some (.cells (b8 (.slice A1 b.f0.length c1, shB b)).toArray 47 (0, 0)) ∧ k45.R 45 Z wr.heap.size (fun _ => True) (.slice A1 b.f0.length c1) b.f0) (by
      rw [HSH.out]
      first
      | exact ⟨HY.out.1, HY.out.2.1, HY.out.2.2.1⟩
      | exact ⟨ax HY.out.1 (aC (Below.refl _ _) _), aZ HY.out.2.1 _, Kd.eQ HY.out.2.2.1 _⟩) ?_
    case' inr.inl =>
     have e3 : wrap64 (b.f3 + 3) = b.f3 + 3 := by have := hy (by omega); unfold wrap64; omega
     have HSH : aa (wrap64 (b.f3 + 3) = b.f3 + 3 ∧ shB b = ⟨b.f0, b.f1, b.f2, b.f3 + 3, b.f4⟩) := ⟨e3, by unfold shB; rw [if_neg (by omega), if_neg (by omega)]⟩
     rw [e1] at y1
     clear hy hn hfew e1 e3
     go_upto_region 12 with (fail)
     refine forget (fun Z => Below wr.heap.size wr Z ∧ Z.heap[gt]? = some (.cells (b8 (.slice A1 b.f0.length c1, shB b)).toArray 47 (0, 0)) ∧ k45.R 45 Z wr.heap.size (fun _ => True) (.slice A1 b.f0.length c1) b.f0) (by
      rw [HSH.out.1, HSH.out.2]
      first
      | exact ⟨dA HY.out.1 HY.out.2.2.2, aN HY.out.2.1 6 _ rfl, Kd.sJ HY.out.2.2.1 HY.out.2.1 (by decide) 6 _⟩
      | exact ⟨dA (ax HY.out.1 (aC (Below.refl _ _) _)) HY.out.2.2.2, aN (aZ HY.out.2.1 _) 6 _ rfl, Kd.sJ (Kd.eQ HY.out.2.2.1 _) (aZ HY.out.2.1 _) (by decide) 6 _⟩) ?_
    case' inr.inr =>
     have e3 : wrap64 (b.f3 + 3) = b.f3 + 3 := by have := hy (by omega); unfold wrap64; omega
     have e4 : wrap64 (b.f4 + 3) = b.f4 + 3 := by have := hn e1; unfold wrap64; omega
     have HSH : aa (wrap64 (b.f3 + 3) = b.f3 + 3 ∧ wrap64 (b.f4 + 3) = b.f4 + 3 ∧ shB b = ⟨b.f0, b.f1, b.f2, b.f3 + 3, b.f4 + 3⟩) := ⟨e3, e4, by unfold shB; rw [if_neg (by omega), if_pos e1]⟩
     rw [e1] at y1
     clear hy hn hfew e1 e3 e4
     go_upto_region 12 with (fail)
     refine forget (fun Z => Below wr.heap.size wr Z ∧ Z.heap[gt]? = some (.cells (b8 (.slice A1 b.f0.length c1, shB b)).toArray 47 (0, 0)) ∧ k45.R 45 Z wr.heap.size (fun _ => True) (.slice A1 b.f0.length c1) b.f0) (by
      rw [HSH.out.1, HSH.out.2.1, HSH.out.2.2]
      exact ⟨dA (dA HY.out.1 HY.out.2.2.2) HY.out.2.2.2, aN (aN HY.out.2.1 6 _ rfl) 7 _ rfl, Kd.sJ (Kd.sJ HY.out.2.2.1 HY.out.2.1 (by decide) 6 _) (aN HY.out.2.1 6 _ rfl) (by decide) 7 _⟩) ?_
    all_goals
     clear y1 y6 y7 f6 f7 HSH HY
     rintro Z ⟨hbZ, hbt, hvZ⟩
     have y0 : Z.cell? ⟨gt, 0, none⟩ = some (.slice A1 b.f0.length c1) := (ae hbt 0).trans rfl
     have y1 : Z.cell? ⟨gt, 1, none⟩ = some (.int .i64 (shB b).f1) := (ae hbt 1).trans rfl
     have y2 : Z.cell? ⟨gt, 2, none⟩ = some (.int .u16 (shB b).f2.f0) := (ae hbt 2).trans rfl
     have y3 : Z.cell? ⟨gt, 3, none⟩ = some (.int .u8 (shB b).f2.f1) := (ae hbt 3).trans rfl
     have y4 : Z.cell? ⟨gt, 4, none⟩ = some (.int .u8 (shB b).f2.f2) := (ae hbt 4).trans rfl
     have y5 : Z.cell? ⟨gt, 5, none⟩ = some (.int .u32 (shB b).f2.f3) := (ae hbt 5).trans rfl
     have y6 : Z.cell? ⟨gt, 6, none⟩ = some (.int .i64 (shB b).f3) := (ae hbt 6).trans rfl
     have y7 : Z.cell? ⟨gt, 7, none⟩ = some (.int .i64 (shB b).f4) := (ae hbt 7).trans rfl
     have HM : aa (k47.M Z w2.heap.size (fun q => wr.heap.size ≤ q) (shB b) [.slice A1 b.f0.length c1, .int .i64 (shB b).f1, .int .u16 (shB b).f2.f0, .int .u8 (shB b).f2.f1, .int .u8 (shB b).f2.f2, .int .u32 (shB b).f2.f3, .int .i64 (shB b).f3, .int .i64 (shB b).f4]) :=
      ⟨jY Z w2.heap.size _ (shB b) (Kd.jE (Kd.ic (Kd.jD hvZ) (fun q hq => hq.2.1)) HB.out.size)⟩
     have HRZ : aa (k47.R 47 Z w2.heap.size (fun _ => True) (.slice At ((kD k).length + i) ct) (kD k ++ (g.take i).map shB)) := ⟨Kd.iC HR.out hbZ⟩
     have HBZ : aa (Below w2.heap.size w2 Z) := ⟨ax HB.out hbZ⟩
     have HNO : aa (∀ q, wr.heap.size ≤ q → True ∧ some q ≠ (Value.slice At ((kD k).length + i) ct).ownBlock) := ⟨fun q hq => ⟨trivial, fun e => by have := Kd.R_lt HR.out q e.symm; omega⟩⟩
     have HLN : aa (((kD k ++ (g.take i).map shB).length + 1) * 56 ≤ 140737488355328) := ⟨by
      have := HOK.out.2.2.2.1
      rw [List.length_append, List.length_map, List.length_take]; simp [kD]; omega⟩
     have HSN : aa (kD k ++ (g.take i).map shB ++ [shB b] = kD k ++ (g.take (i + 1)).map shB) := ⟨by
      rw [List.append_assoc, List.take_add_one, HBO.out.1, List.map_append]; rfl⟩
     clear hbZ hbt hvZ
     go_wp2_with (at_builtin; go_loud (refine Kd.jI k47 (w0 := w2) (W := Z) w2.heap.size rfl (.tmp 76) (.tmp 78) 22 47 (.agg #[.slice none 0 0, .int .i64 0, .int .u16 0, .int .u8 0, .int .u8 0, .int .u32 0, .int .i64 0, .int .i64 0]) 56 rfl hui ni rfl (by decide) (by decide) _ _ (shB b) _ (fun _ => True) (fun q => wr.heap.size ≤ q) rfl rfl HM.out HNO.out (fun _ _ => trivial) HRZ.out HBZ.out HBZ.out.size HLN.out ?_); intro v1 w9 ho hb hg hat; rw [HSN.out] at ho; have HN := aa.mk ho; have HB9 := aa.mk hb; clear ho hb hg hat)
     go_roundw
     case rel => exact ⟨i + 1, hlt, by rw [EW.out, EZ.out]; rfl, HN, HB9⟩
     case measure => (have q1 := EW.out; have q2 := EZ.out); simp [intOf, q1]; omega
  have hkl : i = g.length := by omega
  subst hkl
  obtain ⟨X9, eX9⟩ : ∃ X9, X9 = kD k ++ g.map shB := ⟨_, rfl⟩
  rw [List.take_length, ← eX9] at ev
  subst ev
  have HR9 : aa (k47.R 47 wr w2.heap.size (fun _ => True) (.slice At X9.length ct) X9) := ⟨by have h := HR.out; rw [List.take_length, ← eX9] at h; exact h⟩
  have HXo : aa (GOk X9) := ⟨by rw [eX9]; exact HOK.out.2.1⟩
  have HBw : aa (Below w.heap.size w wr) := ⟨ax HB2.out HB.out⟩
  obtain ⟨v, f, t, n, hr, ht, hg⟩ := gok_run HOK.out.1 pk
  obtain ⟨t2, ht2, hr2⟩ : ∃ t2, t2 ≤ 8200 ∧ Rn X9 pk 0 z16 v f t2 := ⟨0 + (4 + t), by omega, by rw [eX9]; exact pad_run HOK.out.1 hr⟩
  have HRU := aa.mk (And.intro hg hr2)
  clear HR HB hi hlt eX9 hr ht hg hr2
  go_upto_region 14 with (first
   | (go_at_call 18; refine (bv.calls 10000 At ct X9 X9 wr (Kd.dP HR9.out).2.2 (Kd.dP HR9.out).2.1 (cpb7 HXo.out)).mono ?_; rintro e w5 ⟨v5, rfl, hs, hb⟩; obtain ⟨Ac, cc, rfl⟩ := Kd.ig (Kd.S_R hs); have HS := aa.mk (Kd.dP (Kd.S_R hs)); have HB5 := aa.mk (ax HBw.out hb); clear hs hb)
   | (go_at_call 27; refine (uw w5 X9 Ac cc HS.out.2.2 HS.out.2.1 HXo.out).mono ?_; rintro e w6 ⟨gy, cy, y, rfl, hy, hcy, hI, hb⟩; have HY6 := aa.mk (And.intro hy (And.intro hcy hI)); have HB6 := aa.mk (ax HB5.out hb); clear hy hcy hI hb))
  obtain ⟨t3, ht3, hr3⟩ := HY6.out.2.2.run pk v f t2 HRU.out.2
  obtain ⟨m, hm⟩ := wh HY6.out.2.2.done.gok hr3
  have hm0 := hm 0 (by omega)
  rw [Nat.zero_add] at hm0
  have HRY := aa.mk hm0
  have HYK := aa.mk HY6.out.2.2.done.gok
  have HYG := aa.mk HY6.out.2.2.done.gone
  clear hm hm0 hr3 HS HR9 ht2 ht3
  go_upto_region 15 with (go_at_call 37; refine (sV 10000 n w6 g _ c pk Ap cp (Kd.dE HGA.out HB6.out) HCA.out (Kd.dE HP1.out HB6.out) HP2.out HOK.out.2.2.1 HTG.out HOK.out.1.nn.1 HOK.out.1.nn.2 v f t HRU.out.1).mono ?_; rintro e w7 ⟨rfl, hb⟩; have HB7 := aa.mk hb; clear hb)
  refine forget (fun X => ∃ ga, ga = w7.heap.size ∧ Below w6.heap.size w6 X ∧ X.heap[ga]? = some (.cells #[.int .u32 v, .int .i64 f, .int .i64 t] 59 (0, 0))) ⟨_, rfl, ai HB7.out _, heap_alloc_new _ _⟩ ?_
  rintro X ⟨ga, ega, hbx, ha⟩
  rw [← ega]
  have HXa := aa.mk (And.intro hbx ha)
  have HBXw : aa (Below w.heap.size w X) := ⟨ax HB6.out hbx⟩
  clear ega hbx ha
  go_upto_region 16 with (go_at_call 37; refine (sV 10000 m X y _ cy pk Ap cp (Kd.dE HY6.out.1 HXa.out.1) HY6.out.2.1 (Kd.dE HP1.out HBXw.out) HP2.out HOK.out.2.2.1 (by rw [r9 y HYK.out.fit 10000 (Nat.le_refl _), HYK.out.tk]) HYK.out.nn.1 HYK.out.nn.2 v f t3 HRY.out).mono ?_; rintro e w8 ⟨rfl, hb⟩; have HB8 := aa.mk hb; clear hb)
  refine forget (fun Y => ∃ gb, gb = w8.heap.size ∧ Below X.heap.size X Y ∧ Y.heap[ga]? = some (.cells #[.int .u32 v, .int .i64 f, .int .i64 t] 59 (0, 0)) ∧ Y.heap[gb]? = some (.cells #[.int .u32 v, .int .i64 f, .int .i64 t3] 59 (0, 0))) ⟨_, rfl, ai HB8.out _, aj (aj HXa.out.2 HB8.out) (ai (Below.refl _ _) _), heap_alloc_new _ _⟩ ?_
  rintro Y ⟨gb, egb, hby, hya, hyb⟩
  rw [← egb]
  have HYa := aa.mk (And.intro hby (And.intro hya hyb))
  have HBY : aa (Below w.heap.size w Y) := ⟨ax HBXw.out hby⟩
  clear egb hby hya hyb
  go_wp2_with (first
   | (go_at_call 32; refine (uo Y _ y cy (Kd.dE (Kd.dE HY6.out.1 HXa.out.1) HYa.out.1) HY6.out.2.1 HYK.out HYG.out).mono ?_; rintro e w9 ⟨rfl, hb⟩; have HB9 := aa.mk (ax HBY.out hb); have k0 : w9.cell? ⟨ga, 0, none⟩ = some (.int .u32 v) := (ae (aj HYa.out.2.1 hb) 0).trans rfl; have l0 : w9.cell? ⟨gb, 0, none⟩ = some (.int .u32 v) := (ae (aj HYa.out.2.2 hb) 0).trans rfl; clear hb)
   | (go_at_call 29; refine (iI _).mono ?_; rintro e w10 ⟨rfl, hb⟩; have HB10 := aa.mk (ax HB9.out hb); clear hb))
  go_ret
  exact ⟨rfl, HB10.out⟩
theorem szG_i {g : List S47} (hG : GOk g) : ∃ sg : Int, bQ.f 10000 g = some sg ∧ sg = ((szG g : Nat) : Int) := ⟨_, size_f hG, rfl⟩
theorem pE (w : World) (g : List S47) (A : Option Addr) (c : Nat) (pk : List Int) (Ap : Option Addr) (cp : Nat) (k : Int) (HG : Kd.C k47 w A g.length g) (hc : g.length ≤ c) (hF : Fit g) (hn : TkB g = false) :
 Calls Try.prog 11 #[.slice A g.length c, .slice Ap pk.length cp, .int .u32 k] w fun e w' => e = .returned (.bool true) ∧ Below w.heap.size w w' := by
 have HR := aa.mk (dI.calls 10000 A c g false w HG hc (by rw [r9 g hF 10000 (Nat.le_refl _), hn]))
 clear HG hc hF hn
 go_enter Try.func11, Try.ntmps11
 go_wp2_with (first | (go_at_call 28; refine HR.out.mono ?_; rintro e w1 ⟨rfl, hb⟩; have HB1 := aa.mk hb; clear hb) | (go_at_call 29; refine (iI w1).mono ?_; rintro e w2 ⟨rfl, hb⟩; have HB2 := aa.mk hb; clear hb))
 go_ret
 exact ⟨rfl, ax HB1.out HB2.out⟩
theorem pF (w : World) (g : List S47) (A : Option Addr) (c : Nat) (pk : List Int) (Ap : Option Addr) (cp : Nat) (k : Int) (HG : Kd.C k47 w A g.length g) (hc : g.length ≤ c) (hG : GOk g) (hn : 65536 < pk.length ∨ 60 < g.length ∨ 2000 < szG g) :
 Calls Try.prog 11 #[.slice A g.length c, .slice Ap pk.length cp, .int .u32 k] w fun e w' => e = .returned (.bool true) ∧ Below w.heap.size w w' := by
 have HR := aa.mk (dI.calls 10000 A c g true w HG hc (by rw [r9 g hG.fit 10000 (Nat.le_refl _), hG.tk]))
 obtain ⟨sg, hsg, esg⟩ := szG_i hG
 have HS := aa.mk (fun W (hW : Below w.heap.size w W) => bQ.calls 10000 A c g sg W (Kd.dE HG hW) hc hsg)
 obtain ⟨L, eL⟩ : ∃ L, L = g.length := ⟨_, rfl⟩
 obtain ⟨P, eP⟩ : ∃ P, P = pk.length := ⟨_, rfl⟩
 rw [← eL] at HR HS hn ⊢
 rw [← eP] at hn ⊢
 have hs2 : 65536 < P ∨ 60 < L ∨ (2000 : Int) < sg := by omega
 clear HG hc hG hsg hn esg eL eP
 have fin : True := trivial
 by_cases a1 : 65536 < P
 · have b1 : decide (65536 < P) = true := decide_eq_true a1
   have b2 : decide ((65536 : Int) < (P : Int)) = true := decide_eq_true (by omega)
   clear hs2 a1
   go_enter Try.func11, Try.ntmps11
   go_wp2_with (first | (go_at_call 28; refine HR.out.mono ?_; rintro e w1 ⟨rfl, hb⟩; have HB1 := aa.mk hb; clear hb) | (go_at_call 29; refine (iI w1).mono ?_; rintro e w2 ⟨rfl, hb⟩; have HB2 := aa.mk hb; clear hb))
   go_ret
   exact ⟨rfl, ax HB1.out HB2.out⟩
 have b1 : decide (65536 < P) = false := decide_eq_false a1
 have b2 : decide ((65536 : Int) < (P : Int)) = false := decide_eq_false (by omega)
 by_cases a2 : 60 < L
 · have b3 : decide (60 < L) = true := decide_eq_true a2
   have b4 : decide ((60 : Int) < (L : Int)) = true := decide_eq_true (by omega)
   clear hs2 a1 a2
   go_enter Try.func11, Try.ntmps11
   go_wp2_with (first | (go_at_call 28; refine HR.out.mono ?_; rintro e w1 ⟨rfl, hb⟩; have HB1 := aa.mk hb; clear hb) | (go_at_call 29; refine (iI w1).mono ?_; rintro e w2 ⟨rfl, hb⟩; have HB2 := aa.mk hb; clear hb))
   go_ret
   exact ⟨rfl, ax HB1.out HB2.out⟩
 have b3 : decide (60 < L) = false := decide_eq_false a2
 have b4 : decide ((60 : Int) < (L : Int)) = false := decide_eq_false (by omega)
 have b5 : decide ((2000 : Int) < sg) = true := decide_eq_true (by omega)
 clear hs2 a1 a2
 go_enter Try.func11, Try.ntmps11
 go_wp2_with (first | (go_at_call 28; refine HR.out.mono ?_; rintro e w1 ⟨rfl, hb⟩; have HB1 := aa.mk hb; clear hb) | (go_at_call 31; refine (HS.out w1 HB1.out).mono ?_; rintro e w3 ⟨rfl, hd⟩; have HB3 := aa.mk (ax HB1.out hd.below); clear hd) | (go_at_call 29; refine (iI w3).mono ?_; rintro e w2 ⟨rfl, hb⟩; have HB2 := aa.mk hb; clear hb))
 go_ret
 exact ⟨rfl, ax HB3.out HB2.out⟩
theorem nU (w : World) (g : List S47) (A : Option Addr) (c : Nat) (pk : List Int) (Ap : Option Addr) (cp : Nat) (k : Int) (HG : Kd.C k47 w A g.length g) (hc : g.length ≤ c)
 (HP : Kd.C (Kd.int .u8) w Ap pk.length pk) (hcp : pk.length ≤ cp) (hF : Fit g) (hk : KR g) (h0 : 0 ≤ k) (h1 : k < 4294967296) :
 Calls Try.prog 11 #[.slice A g.length c, .slice Ap pk.length cp, .int .u32 k] w fun e w' => e = .returned (.bool true) ∧ Below w.heap.size w w' := by
 cases htk : TkB g
 · exact pE w g A c pk Ap cp k HG hc hF htk
 have hG := zh htk hk
 by_cases h : 65536 < pk.length ∨ 60 < g.length ∨ 2000 < szG g
 · exact pF w g A c pk Ap cp k HG hc hG h
 obtain ⟨sg, hsg, esg⟩ := szG_i hG
 exact pz w g A c pk Ap cp k HG hc HP hcp hG (by omega) ⟨h0, h1⟩ (by omega) (by omega) sg hsg (decide_eq_false (by omega))
end Go.Proofs.Ytdkalnkplgfgoaa.Ln
