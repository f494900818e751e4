/- Lemmas and walks for the statements of the texts ZDZ..: the declarations that they need, taken together by a program of this session. Conditions: as each says. -/
import Derived.Deep.DeepCutAuto
import Derived.Deep.LoopGhost
import Derived.Test.YtdkalnkplgfgoaaZDb
import Derived.Test.YtdkalnkplgfgoaaZDc
import Derived.Test.YtdkalnkplgfgoaaZDd
import Derived.Test.YtdkalnkplgfgoaaZDf
import Derived.Test.YtdkalnkplgfgoaaZDj
set_option maxHeartbeats 8000000
set_option maxRecDepth 100000
set_option linter.unusedVariables false
set_option linter.unusedSimpArgs false
namespace Go.Proofs.Ytdkalnkplgfgoaa.Ln
open Go.RowKit Go.Maps Go.Proofs.YtdkalnkplgfgoaaW.PrintWords Go.Proofs.YtdkalnkplgfgoaaW.PrintLast Go.Proofs.YtdkalnkplgfgoaaW.PrintMore Go.Proofs.Ytdkalnkplgfgoaa.PA
theorem uj (w : World) (B : Bs) (gw gb cap : Nat) (bs : List (Value × S47)) (tl : List Value) (hW : Wk w B gw gb cap bs tl) (hG : GOk (bs.map (·.2))) :
 Calls Try.prog 87 #[.pointer (some ⟨gw, 0, none⟩)] w fun e w' => e = .returned (.bool (iT (bs.map (·.2))).2) ∧ (∃ gb' cap' bs' tl', bs'.map (·.2) = (iT (bs.map (·.2))).1 ∧ Wk w' B gw gb' cap' bs' tl') ∧ Below B.n w w' := by
 obtain ⟨L, eL⟩ : ∃ L, L = bs.length := ⟨_, rfl⟩
 have hL : L ≤ 4096 := by have := hG.few; rw [List.length_map] at this; omega
 have hL0 : 0 < L := by have := hG.some_; rw [List.length_map] at this; omega
 have hui := Try.underlying22
 have c0 : w.cell? ⟨gw, 0, none⟩ = some (.slice (some ⟨gb, 0, none⟩) L cap) := by rw [eL]; exact (ae hW.me 0).trans rfl
 have hmk := pq L hL
 have hmi := qG L hL
 obtain ⟨G, eG⟩ : ∃ G, G = bs.map (·.2) := ⟨_, rfl⟩
 rw [← eG] at hG ⊢
 have HGL : aa (G.length = L) := ⟨by rw [eG, List.length_map, eL]⟩
 have HGB : aa (∀ (i : Nat) (v : Value) (b : S47), bs[i]? = some (v, b) → G[i]? = some b) := ⟨fun i v b h => by rw [eG, List.getElem?_map, h]; rfl⟩
 obtain ⟨fi, efi⟩ : ∃ fi, fi = onG G 0 := ⟨_, rfl⟩
 obtain ⟨C, eC⟩ : ∃ C, C = fV G fi := ⟨_, rfl⟩
 have hfi : fi < L := by rw [efi]; have := (nQ hG G.length 0 hG.some_).2; rw [← HGL.out]; exact this
 have HON := aa.mk (pu w B gw gb cap bs tl hW G hG (by rw [HGL.out, eL]) 0 0 (fun i v b _ h => HGB.out i v b h) (by rw [HGL.out]; omega))
 rw [← efi] at HON
 have HW := aa.mk hW
 have HG := aa.mk hG
 have EL := aa.mk eL
 have EG := aa.mk eG
 have EC := aa.mk eC
 have EFI := aa.mk efi
 have HC0 : aa (C.length = L ∧ C.getD fi false = true) := ⟨⟨by rw [eC]; unfold fV; rw [yH, List.length_set, List.length_replicate, HGL.out], by rw [eC]; exact cm_t _ _ _ _ (by rw [dM (by rw [List.length_replicate, HGL.out]; exact hfi), if_pos rfl])⟩⟩
 clear hW hG eL eG eC efi
 go_enter Try.func87, Try.ntmps87
 go_upto_region 2 with (go_at_call 136; refine HON.out.mono ?_; rintro e w2 ⟨rfl, hw⟩; have hw' := hw.symm; clear hw; subst hw')
 clear HON
 go_upto_region 3 with (fail)
 refine forget (fun X => ∃ gc, gc = w.heap.size ∧ Below w.heap.size w X ∧ X.heap[gc]? = some (.cells (boC (List.replicate L false)) 4 (0, 0))) ⟨_, rfl, ai (Below.refl _ _) _, heap_alloc_new _ _⟩ ?_
 rintro X ⟨gc, egc, hbX, hX⟩
 rw [← egc]
 have EGC := aa.mk egc
 replace c0 : X.cell? ⟨gw, 0, none⟩ = some (.slice (some ⟨gb, 0, none⟩) L cap) := au hbX c0
 have HX := aa.mk (And.intro hbX hX)
 have k0 : X.cell? ⟨gc, fi, none⟩ = some (.bool ((List.replicate L false).getD fi false)) := (ae hX fi).trans (l6 (by rw [List.length_replicate]; exact hfi))
 have kz : X.frozen? ⟨gc, fi, none⟩ = false := af hX fi
 have i0 : (0 : Int) ≤ (fi : Int) := by omega
 have i1 : (fi : Int) < (L : Int) := by omega
 clear egc hbX hX hmk
 go_upto_region 4 with (fail)
 refine forget (fun Y => Below w.heap.size w Y ∧ Y.heap[gc]? = some (.cells (boC ((List.replicate L false).set fi true)) 4 (0, 0))) ⟨HX.out.1.setCell (by have := EGC.out; show _ ≤ gc; omega) _, aN HX.out.2 fi _ (vN fi true)⟩ ?_
 clear c0 k0 kz HX
 rintro Y ⟨hbY, hY⟩
 have c0 : Y.cell? ⟨gw, 0, none⟩ = some (.slice (some ⟨gb, 0, none⟩) L cap) := au hbY (by rw [EL.out]; exact (ae HW.out.me 0).trans rfl)
 have HY := aa.mk (And.intro hbY hY)
 clear hbY hY
 go_upto_region 5 with (fail)
 refine forget (fun Z => ∃ gn, gn = Y.heap.size ∧ DI w Z gc gn L C G 0 ((List.replicate L false).set fi true) (List.replicate L 0)) ⟨_, rfl, ⟨HY.out.1.alloc HY.out.1.size _, by rw [Deep.blk_alloc_lt _ _ _ (ay HY.out.2)]; exact HY.out.2, heap_alloc_new _ _, by rw [List.length_set, List.length_replicate], List.length_replicate, by have := EGC.out; omega, HY.out.1.size⟩, by rw [List.drop_zero, EC.out]; unfold fV; rw [HGL.out], fun j hj => by omega⟩ ?_
 clear c0 HY
 rintro Z ⟨gn, egn, hdi⟩
 rw [← egn]
 have HDI := aa.mk hdi
 have c0 : Z.cell? ⟨gw, 0, none⟩ = some (.slice (some ⟨gb, 0, none⟩) L cap) := au hdi.dr.low (by rw [EL.out]; exact (ae HW.out.me 0).trans rfl)
 clear egn hdi hmi
 go_wp2
 go_loopw [6, 34] (fun v6 v34 wr => ∃ (n : Nat) (c : List Bool) (nm : List Int), n ≤ L ∧ v34 = .int .i64 n ∧ v6 = .int .i64 (cB C n : Nat) ∧ aa (DI w wr gc gn L C G n c nm)) (fun _ v34 _ => L - (intOf v34).toNat)
 case atStart => exact ⟨0, _, _, Nat.zero_le _, rfl, rfl, HDI⟩
 case round =>
  clear HDI c0
  obtain ⟨n, c, nm, hn, rfl, rfl, HDI⟩ := hrel
  have hnum : cB C n ≤ n := by have := (iV (c := C) (Nat.zero_le n)).2; have e : cB C 0 = 0 := rfl; omega
  by_cases hlt : n < L
  · obtain ⟨v, b, hb⟩ : ∃ v b, bs[n]? = some (v, b) := ⟨(bs[n]'(by rw [← EL.out]; exact hlt)).1, (bs[n]'(by rw [← EL.out]; exact hlt)).2, List.getElem?_eq_getElem (by rw [← EL.out]; exact hlt)⟩
    have hGn := HGB.out n v b hb
    have hGd : G.drop n = b :: G.drop (n + 1) := by
     obtain ⟨h4, h5⟩ := List.getElem?_eq_some_iff.1 hGn
     rw [List.drop_eq_getElem_cons h4, h5]
    have hWr := HW.out.below HDI.out.dr.low
    have hcd : Cd wr v b.f0 := hWr.row.code n _ hb
    obtain ⟨Av, cv, rfl⟩ := hcd.slice
    have i2 : (0 : Int) ≤ (n : Int) := by omega
    have i3 : (n : Int) < (L : Int) := by omega
    have c0 : wr.cell? ⟨gw, 0, none⟩ = some (.slice (some ⟨gb, 0, none⟩) L cap) := by rw [EL.out]; exact (ae hWr.me 0).trans rfl
    have g := fun (jj : Nat) (hh : jj < 8) => (ae hWr.row.row (n * 8 + jj)).trans (cZ hb hh)
    have b0 : wr.cell? ⟨gb, n * 8, none⟩ = some (.slice Av b.f0.length cv) := g 0 (by omega)
    have b1 : wr.cell? ⟨gb, n * 8 + 1, none⟩ = some (.int .i64 b.f1) := g 1 (by omega)
    have b2 : wr.cell? ⟨gb, n * 8 + 2, none⟩ = some (.int .u16 b.f2.f0) := g 2 (by omega)
    have b3 : wr.cell? ⟨gb, n * 8 + 3, none⟩ = some (.int .u8 b.f2.f1) := g 3 (by omega)
    have b4 : wr.cell? ⟨gb, n * 8 + 4, none⟩ = some (.int .u8 b.f2.f2) := g 4 (by omega)
    have b5 : wr.cell? ⟨gb, n * 8 + 5, none⟩ = some (.int .u32 b.f2.f3) := g 5 (by omega)
    have b6 : wr.cell? ⟨gb, n * 8 + 6, none⟩ = some (.int .i64 b.f3) := g 6 (by omega)
    have b7 : wr.cell? ⟨gb, n * 8 + 7, none⟩ = some (.int .i64 b.f4) := g 7 (by omega)
    have HB0 := aa.mk (And.intro hb (And.intro hGn hGd))
    have HBK := aa.mk (HG.out.all n b hGn)
    clear g hb hGn hGd hWr hcd
    go_upto_region 9 with (fail)
    refine forget (fun X => ∃ gt, gt = wr.heap.size ∧ DT w X gc gn L c nm gt (.slice Av b.f0.length cv, b)) ⟨_, rfl, HDI.out.dr.below (ai (Below.refl _ _) _), heap_alloc_new _ _, HDI.out.dr.low.size⟩ ?_
    clear c0 b0 b1 b2 b3 b4 b5 b6 b7
    rintro X ⟨gt, egt, hdt⟩
    rw [← egt]
    have EGT := aa.mk egt
    have HDT := aa.mk hdt
    have k0 : X.cell? ⟨gc, n, none⟩ = some (.bool (c.getD n false)) := (ae hdt.dr.cm n).trans (l6 (by rw [hdt.dr.cl]; exact hlt))
    rw [HDI.out.at_ HG.out] at k0
    clear egt hdt
    cases hcn : C.getD n false with
    | false =>
     rw [hcn] at k0
     have HE := aa.mk (HDI.out.skip HG.out HB0.out.2.2 hcn HDT.out.dr)
     have HNN : aa (cB C n = cB C (n + 1)) := ⟨(nk (by rw [hcn]; decide)).symm⟩
     clear hcn HDI HDT
     go_wp2
     go_roundw
     case rel => exact ⟨n + 1, _, _, by omega, by go_num, by rw [HNN.out], HE⟩
     case measure => simp [intOf]; omega
    | true =>
     rw [hcn] at k0
     have HGO := aa.mk (fun (Y : World) => HDI.out.go (Y := Y) HG.out HB0.out.2.2 hlt hcn)
     have HNN : aa (cB C n + 1 = cB C (n + 1)) := ⟨(mD hcn).symm⟩
     have nz : X.frozen? ⟨gn, n, none⟩ = false := af HDT.out.dr.nb n
     have n0 : X.cell? ⟨gn, n, none⟩ = some (.int .i64 (nm.getD n 0)) := (ae HDT.out.dr.nb n).trans (ky (by rw [HDT.out.dr.nl]; exact hlt))
     clear hcn
     go_upto_region 11 with (fail)
     refine forget (fun Y => DT w Y gc gn L c (nm.set n (cB C n : Nat)) gt (.slice Av b.f0.length cv, b)) (HDT.out.tT n _) ?_
     clear k0 nz n0 HDI HDT
     intro Y hdt
     have HDT := aa.mk hdt
     have b1 : Y.cell? ⟨gt, 1, none⟩ = some (.int .i64 b.f1) := (ae hdt.bt 1).trans rfl
     have b6 : Y.cell? ⟨gt, 6, none⟩ = some (.int .i64 b.f3) := (ae hdt.bt 6).trans rfl
     have hec := dX HBK.out.ends
     have gy := bu HBK.out.goal
     have gnn := dG HBK.out.goal
     rw [HGL.out] at gy gnn
     have hcase : b.f1 = 1 ∨ b.f1 = 2 ∨ b.f1 = 3 := by rcases hec with h | h | h; exact .inl h.1; exact .inr (.inl h.1); exact .inr (.inr h.1)
     clear hdt hec
     rcases hcase with h1 | h1
     · have hmc : mkC b c = c := by unfold mkC; rw [if_pos h1]
       have HE := aa.mk (HGO.out Y (by rw [hmc]; exact HDT.out.dr))
       rw [h1] at b1
       clear h1 gy gnn HGO HDT b6 hmc
       go_wp2
       go_roundw
       case rel => exact ⟨n + 1, _, _, by omega, by go_num, by rw [← HNN.out]; go_num, HE⟩
       case measure => simp [intOf]; omega
     have hne1 : b.f1 ≠ 1 := by omega
     have gy2 := gy hne1
     obtain ⟨y, hy⟩ : ∃ y : Nat, b.f3 = (y : Int) := ⟨b.f3.toNat, by omega⟩
     have hyT : b.f3.toNat = y := by rw [hy]; rfl
     rw [hy] at b6
     have h1' : (b.f1 == 1) = false := bn hne1
     have i4 : (0 : Int) ≤ (y : Int) := by omega
     have i5 : (y : Int) < (L : Int) := by omega
     have hyL : y < L := by omega
     have kz : Y.frozen? ⟨gc, y, none⟩ = false := af HDT.out.dr.cm y
     have k0 : Y.cell? ⟨gc, y, none⟩ = some (.bool (c.getD y false)) := (ae HDT.out.dr.cm y).trans (l6 (by rw [HDT.out.dr.cl]; exact hyL))
     have HYT := aa.mk hyT
     clear hy gy gy2 hne1 hyT
     go_upto_region 14 with (fail)
     refine forget (fun Z => DT w Z gc gn L (c.set y true) (nm.set n (cB C n : Nat)) gt (.slice Av b.f0.length cv, b)) (HDT.out.setc y true) ?_
     clear b1 b6 kz k0 HDT
     intro Z hdt
     have HDT := aa.mk hdt
     have b1 : Z.cell? ⟨gt, 1, none⟩ = some (.int .i64 b.f1) := (ae hdt.bt 1).trans rfl
     have b7 : Z.cell? ⟨gt, 7, none⟩ = some (.int .i64 b.f4) := (ae hdt.bt 7).trans rfl
     clear hdt
     rcases h1 with h1 | h1
     · have hmc : mkC b c = c.set y true := by unfold mkC; rw [if_neg (by rw [h1]; decide), if_neg (by rw [h1]; decide), HYT.out]
       have HE := aa.mk (HGO.out Z (by rw [hmc]; exact HDT.out.dr))
       rw [h1] at b1
       clear h1 gnn HGO HDT b7 hmc h1'
       go_wp2
       go_roundw
       case rel => exact ⟨n + 1, _, _, by omega, by go_num, by rw [← HNN.out]; go_num, HE⟩
       case measure => simp [intOf]; omega
     have gn2 := gnn h1
     obtain ⟨m, hm⟩ : ∃ m : Nat, b.f4 = (m : Int) := ⟨b.f4.toNat, by omega⟩
     have hmT : b.f4.toNat = m := by rw [hm]; rfl
     rw [hm] at b7
     have i6 : (0 : Int) ≤ (m : Int) := by omega
     have i7 : (m : Int) < (L : Int) := by omega
     have hmL : m < L := by omega
     have kz : Z.frozen? ⟨gc, m, none⟩ = false := af HDT.out.dr.cm m
     have k0 : Z.cell? ⟨gc, m, none⟩ = some (.bool ((c.set y true).getD m false)) := (ae HDT.out.dr.cm m).trans (l6 (by rw [HDT.out.dr.cl]; exact hmL))
     have hmc : mkC b c = (c.set y true).set m true := by unfold mkC; rw [if_neg (by rw [h1]; decide), if_pos h1, HYT.out, hmT]
     have HE := aa.mk (HGO.out _ (by rw [hmc]; exact (HDT.out.setc m true).dr))
     rw [h1] at b1
     clear h1 gnn gn2 HGO HDT hmc h1' hm hmT
     go_wp2
     go_roundw
     case rel => exact ⟨n + 1, _, _, by omega, by go_num, by rw [← HNN.out]; go_num, HE⟩
     case measure => simp [intOf]; omega
  have hnl : n = L := by omega
  subst hnl
  have hcC := HDI.out.done HGL.out
  subst hcC
  have hWr := HW.out.below HDI.out.dr.low
  have c0 : wr.cell? ⟨gw, 0, none⟩ = some (.slice (some ⟨gb, 0, none⟩) n cap) := by rw [EL.out]; exact (ae hWr.me 0).trans rfl
  have HWr := aa.mk hWr
  clear hWr
  by_cases hq : cB c n = n
  · have hd : iT G = (G, false) := by
     unfold iT
     rw [← EFI.out, ← EC.out, HGL.out, if_pos hq]
    have HD := aa.mk hd
    clear hd
    rw [hq]
    go_wp2
    go_ret
    rw [HD.out]
    exact ⟨rfl, ⟨gb, cap, bs, tl, EG.out.symm, HWr.out⟩, ⟨HDI.out.dr.low.os, HDI.out.dr.low.tape, HDI.out.dr.low.output, HDI.out.dr.low.size, fun i hi => HDI.out.dr.low.block i (by have := ay HW.out.me; have := HW.out.lo; omega)⟩⟩
  have hd : iT G = (dpL c G 0, true) := by
   unfold iT
   rw [← EFI.out, ← EC.out, HGL.out, if_neg hq]
  have HD := aa.mk hd
  have hne : dpV c bs 0 ≠ [] := by
   intro e
   have e2 := vQ c bs 0
   rw [e, ← EG.out] at e2
   have e3 := yS c G 0
   rw [← e2, HGL.out, Nat.zero_add] at e3
   have e4 := kW hfi HC0.out.2
   have e5 : cB c 0 = 0 := rfl
   have e6 : (List.map (fun x : Value × S47 => x.2) []).length = 0 := rfl
   omega
  have HNE := aa.mk hne
  have hCl : ∀ (j : Nat) (b : S47), G[j]? = some b → c.getD j false = true → (b.f1 ≠ 1 → c.getD b.f3.toNat false = true) ∧ (b.f1 = 3 → c.getD b.f4.toNat false = true) := by
   intro j b hj hc
   have h := cm_cl G.length G 0 ((List.replicate G.length false).set fi true) (fun j b h => by rw [Nat.zero_add]; exact HG.out.all j b h) (by rw [List.length_set, List.length_replicate]) j b hj
   have e := EC.out
   unfold fV at e
   rw [Nat.zero_add, ← e] at h
   exact h hc
  have HCL := aa.mk hCl
  have hq' : ((cB c n : Int) == (n : Int)) = false := bn (by omega)
  have HO : aa (DO w wr gc gn n c nm bs 0 (.slice none 0 0)) := ⟨⟨HDI.out.dr, Kd.kK _ _ _ _ _⟩⟩
  have HNM := aa.mk HDI.out.nf
  clear hd hne hCl HDI HWr hq hnum
  obtain ⟨wo, rfl⟩ : ∃ wo : World, wo = wr := ⟨_, rfl⟩
  go_wp2
  go_loopw [9, 77] (fun v9 v77 wr => ∃ (k : Nat), k ≤ n ∧ v77 = .int .i64 k ∧ aa (DO w wr gc gn n c nm bs k v9)) (fun _ v77 _ => n - (intOf v77).toNat)
  case atStart => exact ⟨0, Nat.zero_le _, rfl, HO⟩
  case round =>
   clear HO c0
   obtain ⟨k, hk, rfl, HO⟩ := hrel
   by_cases hlt2 : k < n
   · obtain ⟨v, b, hb⟩ : ∃ v b, bs[k]? = some (v, b) := ⟨(bs[k]'(by rw [← EL.out]; exact hlt2)).1, (bs[k]'(by rw [← EL.out]; exact hlt2)).2, List.getElem?_eq_getElem (by rw [← EL.out]; exact hlt2)⟩
     have hGn := HGB.out k v b hb
     have hWr := HW.out.below HO.out.dr.low
     have hcd : Cd wr v b.f0 := hWr.row.code k _ hb
     obtain ⟨Av, cv, rfl⟩ := hcd.slice
     have i2 : (0 : Int) ≤ (k : Int) := by omega
     have i3 : (k : Int) < (n : Int) := by omega
     have c0 : wr.cell? ⟨gw, 0, none⟩ = some (.slice (some ⟨gb, 0, none⟩) n cap) := by rw [EL.out]; exact (ae hWr.me 0).trans rfl
     have g := fun (jj : Nat) (hh : jj < 8) => (ae hWr.row.row (k * 8 + jj)).trans (cZ hb hh)
     have b0 : wr.cell? ⟨gb, k * 8, none⟩ = some (.slice Av b.f0.length cv) := g 0 (by omega)
     have b1 : wr.cell? ⟨gb, k * 8 + 1, none⟩ = some (.int .i64 b.f1) := g 1 (by omega)
     have b2 : wr.cell? ⟨gb, k * 8 + 2, none⟩ = some (.int .u16 b.f2.f0) := g 2 (by omega)
     have b3 : wr.cell? ⟨gb, k * 8 + 3, none⟩ = some (.int .u8 b.f2.f1) := g 3 (by omega)
     have b4 : wr.cell? ⟨gb, k * 8 + 4, none⟩ = some (.int .u8 b.f2.f2) := g 4 (by omega)
     have b5 : wr.cell? ⟨gb, k * 8 + 5, none⟩ = some (.int .u32 b.f2.f3) := g 5 (by omega)
     have b6 : wr.cell? ⟨gb, k * 8 + 6, none⟩ = some (.int .i64 b.f3) := g 6 (by omega)
     have b7 : wr.cell? ⟨gb, k * 8 + 7, none⟩ = some (.int .i64 b.f4) := g 7 (by omega)
     have HB0 := aa.mk (And.intro hb hGn)
     have HBK := aa.mk (HG.out.all k b hGn)
     have HLN : aa (((dpV c (bs.take k) 0).map b8).length ≤ 4096) := ⟨by
      have h1 := dpV_le (C := c) (bs.take k) 0
      rw [List.length_take] at h1
      rw [List.length_map]
      omega⟩
     have k0 : wr.cell? ⟨gc, k, none⟩ = some (.bool (c.getD k false)) := (ae HO.out.dr.cm k).trans (l6 (by rw [HO.out.dr.cl]; exact hlt2))
     clear g hb hGn hWr hcd
     go_upto_region 23 with (fail)
     refine forget (fun X => ∃ gt, gt = wr.heap.size ∧ DT w X gc gn n c nm gt (.slice Av b.f0.length cv, b) ∧ Below wr.heap.size wr X) ⟨_, rfl, ⟨HO.out.dr.below (ai (Below.refl _ _) _), heap_alloc_new _ _, HO.out.dr.low.size⟩, ai (Below.refl _ _) _⟩ ?_
     rintro X ⟨gt, egt, hdt, hbx⟩
     rw [← egt]
     replace k0 := au hbx k0
     clear c0 b0 b1 b2 b3 b4 b5 b6 b7
     have EGT := aa.mk egt
     have HDT := aa.mk hdt
     have HBX := aa.mk hbx
     cases hcn : c.getD k false with
     | false =>
      rw [hcn] at k0
      have HE := aa.mk (HO.out.skip HB0.out.1 hcn hbx)
      clear egt hdt hbx hcn HDT HBX HO
      go_wp2
      go_roundw
      case rel => exact ⟨k + 1, by omega, by go_num, HE⟩
      case measure => simp [intOf]; omega
     | true =>
      rw [hcn] at k0
      have HCN := aa.mk hcn
      obtain ⟨d, ed⟩ : ∃ d, d = gN c b := ⟨_, rfl⟩
      have ED := aa.mk ed
      have hcl := HCL.out k b HB0.out.2 hcn
      have hec := dX HBK.out.ends
      have gy := bu HBK.out.goal
      have gnn := dG HBK.out.goal
      rw [HGL.out] at gy gnn
      have b1 : X.cell? ⟨gt, 1, none⟩ = some (.int .i64 b.f1) := (ae hdt.bt 1).trans rfl
      have b6 : X.cell? ⟨gt, 6, none⟩ = some (.int .i64 b.f3) := (ae hdt.bt 6).trans rfl
      have b7 : X.cell? ⟨gt, 7, none⟩ = some (.int .i64 b.f4) := (ae hdt.bt 7).trans rfl
      have z6 : X.frozen? ⟨gt, 6, none⟩ = false := af hdt.bt 6
      have hcase : b.f1 = 1 ∨ b.f1 = 2 ∨ b.f1 = 3 := by rcases hec with h | h | h; exact .inl h.1; exact .inr (.inl h.1); exact .inr (.inr h.1)
      clear egt hdt hbx hcn hec ed
      rcases hcase with h1 | h1
      · have ed1 : d = b := ED.out.trans (db1 h1)
        have HED1 := aa.mk (And.intro ed1 h1)
        rw [h1] at b1
        clear gy gnn hcl b6 b7 z6 h1 ed1
        go_upto_region 28 with (fail)
        have HTL : aa (DT w X gc gn n c nm gt (.slice Av b.f0.length cv, d) ∧ Below wr.heap.size wr X) := ⟨by rw [HED1.out.1]; exact HDT.out, HBX.out⟩
        clear HDT HBX b1 k0
        refine forget (fun Y => DT w Y gc gn n c nm gt (.slice Av b.f0.length cv, d) ∧ Below wr.heap.size wr Y) HTL.out ?_
        clear HTL
        rintro Y ⟨hdt, hby⟩
        have y0 : Y.cell? ⟨gt, 0, none⟩ = some (.slice Av b.f0.length cv) := (ae hdt.bt 0).trans rfl
        have y1 : Y.cell? ⟨gt, 1, none⟩ = some (.int .i64 d.f1) := (ae hdt.bt 1).trans rfl
        have y2 : Y.cell? ⟨gt, 2, none⟩ = some (.int .u16 d.f2.f0) := (ae hdt.bt 2).trans rfl
        have y3 : Y.cell? ⟨gt, 3, none⟩ = some (.int .u8 d.f2.f1) := (ae hdt.bt 3).trans rfl
        have y4 : Y.cell? ⟨gt, 4, none⟩ = some (.int .u8 d.f2.f2) := (ae hdt.bt 4).trans rfl
        have y5 : Y.cell? ⟨gt, 5, none⟩ = some (.int .u32 d.f2.f3) := (ae hdt.bt 5).trans rfl
        have y6 : Y.cell? ⟨gt, 6, none⟩ = some (.int .i64 d.f3) := (ae hdt.bt 6).trans rfl
        have y7 : Y.cell? ⟨gt, 7, none⟩ = some (.int .i64 d.f4) := (ae hdt.bt 7).trans rfl
        have HDY := aa.mk (And.intro hdt hby)
        clear hdt hby
        go_wp2_with (at_builtin; go_loud ((refine Kd.jI (Kd.raw 8) (w0 := w) (W := Y) w.heap.size rfl (.tmp 105) (.tmp 107) 22 47 (.agg #[.slice none 0 0, .int .i64 0, .int .u16 0, .int .u8 0, .int .u8 0, .int .u32 0, .int .i64 0, .int .i64 0]) 56 rfl hui ni rfl (by decide) (by decide) _ _ (b8 (.slice Av b.f0.length cv, d)) (b8 (.slice Av b.f0.length cv, d)) (fun _ => True) (fun _ => False) rfl rfl ⟨rfl, rfl, qZ rfl⟩ (fun _ h => h.elim) (fun _ _ => trivial) (Kd.iC HO.out.out HDY.out.2) HDY.out.1.dr.low HDY.out.1.dr.low.size (by have := HLN.out; omega) ?_); intro v1 w5 ho hb hg hat; have HN : aa (DO w w5 gc gn n c nm bs (k + 1) v1) := ⟨⟨HDY.out.1.dr.grown (Kd.iC HO.out.out HDY.out.2) hb hg, by rw [mg HB0.out.1, if_pos HCN.out, List.map_append]; have h := ho; rw [ED.out] at h; exact h⟩⟩; clear ho hb hg hat))
        go_roundw
        case rel => exact ⟨k + 1, by omega, by go_num, HN⟩
        case measure => simp [intOf]; omega
      have hne1 : b.f1 ≠ 1 := by omega
      have gy2 := gy hne1
      have hcy := hcl.1 hne1
      obtain ⟨y, hy⟩ : ∃ y : Nat, b.f3 = (y : Int) := ⟨b.f3.toNat, by omega⟩
      have hyT : b.f3.toNat = y := by rw [hy]; rfl
      rw [hyT] at hcy
      rw [hy] at b6
      have h1' : (b.f1 == 1) = false := bn hne1
      have i4 : (0 : Int) ≤ (y : Int) := by omega
      have i5 : (y : Int) < (n : Int) := by omega
      have hyL : y < n := by omega
      have n0 : X.cell? ⟨gn, y, none⟩ = some (.int .i64 (cB c y : Nat)) := by
       rw [← HNM.out y hyL hcy]; exact (ae HDT.out.dr.nb y).trans (ky (by rw [HDT.out.dr.nl]; exact hyL))
      have HYT := aa.mk (And.intro hyT hy)
      clear hy gy gy2 hne1 hyT hcy
      go_upto_region 26 with (fail)
      refine forget (fun Z => DT w Z gc gn n c nm gt (.slice Av b.f0.length cv, ⟨b.f0, b.f1, b.f2, (cB c y : Nat), b.f4⟩) ∧ Below wr.heap.size wr Z) ⟨HDT.out.sett (q' := (.slice Av b.f0.length cv, ⟨b.f0, b.f1, b.f2, (cB c y : Nat), b.f4⟩)) (j := 6) rfl, HBX.out.setCell (by have := EGT.out; show _ ≤ gt; omega) _⟩ ?_
      clear b1 b6 b7 z6 n0 k0 HDT HBX
      rintro Z ⟨hdt, hbx⟩
      have HDT := aa.mk hdt
      have HBX := aa.mk hbx
      have b1 : Z.cell? ⟨gt, 1, none⟩ = some (.int .i64 b.f1) := (ae hdt.bt 1).trans rfl
      have b7 : Z.cell? ⟨gt, 7, none⟩ = some (.int .i64 b.f4) := (ae hdt.bt 7).trans rfl
      have z7 : Z.frozen? ⟨gt, 7, none⟩ = false := af hdt.bt 7
      clear hdt hbx
      rcases h1 with h1 | h1
      · have ed1 : d = ⟨b.f0, b.f1, b.f2, (cB c y : Nat), b.f4⟩ := by rw [ED.out, db2 h1, HYT.out.1]
        have HED1 := aa.mk (And.intro ed1 h1)
        rw [h1] at b1
        clear gnn hcl b7 z7 h1 ed1 h1'
        go_upto_region 28 with (fail)
        have HTL : aa (DT w Z gc gn n c nm gt (.slice Av b.f0.length cv, d) ∧ Below wr.heap.size wr Z) := ⟨by rw [HED1.out.1]; exact HDT.out, HBX.out⟩
        clear HDT HBX b1
        refine forget (fun Y => DT w Y gc gn n c nm gt (.slice Av b.f0.length cv, d) ∧ Below wr.heap.size wr Y) HTL.out ?_
        clear HTL
        rintro Y ⟨hdt, hby⟩
        have y0 : Y.cell? ⟨gt, 0, none⟩ = some (.slice Av b.f0.length cv) := (ae hdt.bt 0).trans rfl
        have y1 : Y.cell? ⟨gt, 1, none⟩ = some (.int .i64 d.f1) := (ae hdt.bt 1).trans rfl
        have y2 : Y.cell? ⟨gt, 2, none⟩ = some (.int .u16 d.f2.f0) := (ae hdt.bt 2).trans rfl
        have y3 : Y.cell? ⟨gt, 3, none⟩ = some (.int .u8 d.f2.f1) := (ae hdt.bt 3).trans rfl
        have y4 : Y.cell? ⟨gt, 4, none⟩ = some (.int .u8 d.f2.f2) := (ae hdt.bt 4).trans rfl
        have y5 : Y.cell? ⟨gt, 5, none⟩ = some (.int .u32 d.f2.f3) := (ae hdt.bt 5).trans rfl
        have y6 : Y.cell? ⟨gt, 6, none⟩ = some (.int .i64 d.f3) := (ae hdt.bt 6).trans rfl
        have y7 : Y.cell? ⟨gt, 7, none⟩ = some (.int .i64 d.f4) := (ae hdt.bt 7).trans rfl
        have HDY := aa.mk (And.intro hdt hby)
        clear hdt hby
        go_wp2_with (at_builtin; go_loud ((refine Kd.jI (Kd.raw 8) (w0 := w) (W := Y) w.heap.size rfl (.tmp 105) (.tmp 107) 22 47 (.agg #[.slice none 0 0, .int .i64 0, .int .u16 0, .int .u8 0, .int .u8 0, .int .u32 0, .int .i64 0, .int .i64 0]) 56 rfl hui ni rfl (by decide) (by decide) _ _ (b8 (.slice Av b.f0.length cv, d)) (b8 (.slice Av b.f0.length cv, d)) (fun _ => True) (fun _ => False) rfl rfl ⟨rfl, rfl, qZ rfl⟩ (fun _ h => h.elim) (fun _ _ => trivial) (Kd.iC HO.out.out HDY.out.2) HDY.out.1.dr.low HDY.out.1.dr.low.size (by have := HLN.out; omega) ?_); intro v1 w5 ho hb hg hat; have HN : aa (DO w w5 gc gn n c nm bs (k + 1) v1) := ⟨⟨HDY.out.1.dr.grown (Kd.iC HO.out.out HDY.out.2) hb hg, by rw [mg HB0.out.1, if_pos HCN.out, List.map_append]; have h := ho; rw [ED.out] at h; exact h⟩⟩; clear ho hb hg hat))
        go_roundw
        case rel => exact ⟨k + 1, by omega, by go_num, HN⟩
        case measure => simp [intOf]; omega
      have gn2 := gnn h1
      have hcm := hcl.2 h1
      obtain ⟨m, hm⟩ : ∃ m : Nat, b.f4 = (m : Int) := ⟨b.f4.toNat, by omega⟩
      have hmT : b.f4.toNat = m := by rw [hm]; rfl
      rw [hmT] at hcm
      rw [hm] at b7
      have i6 : (0 : Int) ≤ (m : Int) := by omega
      have i7 : (m : Int) < (n : Int) := by omega
      have hmL : m < n := by omega
      have n0 : Z.cell? ⟨gn, m, none⟩ = some (.int .i64 (cB c m : Nat)) := by
       rw [← HNM.out m hmL hcm]; exact (ae HDT.out.dr.nb m).trans (ky (by rw [HDT.out.dr.nl]; exact hmL))
      have ed1 : d = ⟨b.f0, b.f1, b.f2, (cB c y : Nat), (cB c m : Nat)⟩ := by rw [ED.out, db3 h1, HYT.out.1, hmT]
      have HED1 := aa.mk (And.intro ed1 h1)
      rw [h1] at b1
      clear gnn gn2 hcl h1 ed1 h1' hm hmT hcm
      go_upto_region 28 with (fail)
      have HTL : aa (DT w (Z.setCell ⟨gt, 7, none⟩ (.int .i64 (cB c m : Nat))) gc gn n c nm gt (.slice Av b.f0.length cv, d) ∧ Below wr.heap.size wr (Z.setCell ⟨gt, 7, none⟩ (.int .i64 (cB c m : Nat)))) := ⟨by rw [HED1.out.1]; exact HDT.out.sett (q' := (.slice Av b.f0.length cv, ⟨b.f0, b.f1, b.f2, (cB c y : Nat), (cB c m : Nat)⟩)) (j := 7) rfl, HBX.out.setCell (by have := EGT.out; show _ ≤ gt; omega) _⟩
      clear HDT HBX b1 b7 z7 n0
      refine forget (fun Y => DT w Y gc gn n c nm gt (.slice Av b.f0.length cv, d) ∧ Below wr.heap.size wr Y) HTL.out ?_
      clear HTL
      rintro Y ⟨hdt, hby⟩
      have y0 : Y.cell? ⟨gt, 0, none⟩ = some (.slice Av b.f0.length cv) := (ae hdt.bt 0).trans rfl
      have y1 : Y.cell? ⟨gt, 1, none⟩ = some (.int .i64 d.f1) := (ae hdt.bt 1).trans rfl
      have y2 : Y.cell? ⟨gt, 2, none⟩ = some (.int .u16 d.f2.f0) := (ae hdt.bt 2).trans rfl
      have y3 : Y.cell? ⟨gt, 3, none⟩ = some (.int .u8 d.f2.f1) := (ae hdt.bt 3).trans rfl
      have y4 : Y.cell? ⟨gt, 4, none⟩ = some (.int .u8 d.f2.f2) := (ae hdt.bt 4).trans rfl
      have y5 : Y.cell? ⟨gt, 5, none⟩ = some (.int .u32 d.f2.f3) := (ae hdt.bt 5).trans rfl
      have y6 : Y.cell? ⟨gt, 6, none⟩ = some (.int .i64 d.f3) := (ae hdt.bt 6).trans rfl
      have y7 : Y.cell? ⟨gt, 7, none⟩ = some (.int .i64 d.f4) := (ae hdt.bt 7).trans rfl
      have HDY := aa.mk (And.intro hdt hby)
      clear hdt hby
      go_wp2_with (at_builtin; go_loud ((refine Kd.jI (Kd.raw 8) (w0 := w) (W := Y) w.heap.size rfl (.tmp 105) (.tmp 107) 22 47 (.agg #[.slice none 0 0, .int .i64 0, .int .u16 0, .int .u8 0, .int .u8 0, .int .u32 0, .int .i64 0, .int .i64 0]) 56 rfl hui ni rfl (by decide) (by decide) _ _ (b8 (.slice Av b.f0.length cv, d)) (b8 (.slice Av b.f0.length cv, d)) (fun _ => True) (fun _ => False) rfl rfl ⟨rfl, rfl, qZ rfl⟩ (fun _ h => h.elim) (fun _ _ => trivial) (Kd.iC HO.out.out HDY.out.2) HDY.out.1.dr.low HDY.out.1.dr.low.size (by have := HLN.out; omega) ?_); intro v1 w5 ho hb hg hat; have HN : aa (DO w w5 gc gn n c nm bs (k + 1) v1) := ⟨⟨HDY.out.1.dr.grown (Kd.iC HO.out.out HDY.out.2) hb hg, by rw [mg HB0.out.1, if_pos HCN.out, List.map_append]; have h := ho; rw [ED.out] at h; exact h⟩⟩; clear ho hb hg hat))
      go_roundw
      case rel => exact ⟨k + 1, by omega, by go_num, HN⟩
      case measure => simp [intOf]; omega
   have hkn : k = n := by omega
   subst hkn
   have hout := HO.out.out
   rw [List.take_of_length_le (by rw [← EL.out]; exact Nat.le_refl _)] at hout
   have hwk := drop_wk HW.out HO.out.dr.low hout HNE.out
   obtain ⟨gb2, cap2, tl2, e2, _, _, _, _, _⟩ := pJ hout HNE.out
   have HWK := aa.mk hwk
   have hme := (HW.out.below HO.out.dr.low).me
   have c0 : wr.cell? ⟨gw, 0, none⟩ = some (.slice (some ⟨gb, 0, none⟩) k cap) := by rw [EL.out]; exact (ae hme 0).trans rfl
   have z0 : wr.frozen? ⟨gw, 0, none⟩ = false := af hme 0
   have HE := aa.mk (vQ c bs 0)
   clear hout hwk HO hme
   subst e2
   go_wp2
   go_ret
   obtain ⟨gb', cap', tl', h1, h2⟩ := HWK.out
   rw [HD.out]
   exact ⟨rfl, ⟨gb', cap', _, by rw [HE.out, ← EG.out], tl', h1⟩, h2⟩
section
variable {P : Program} {α : Type}
theorem Bt (d : Kd α) {Rr : α → List Value → Prop} {W : World} (base : Nat) (t ty e : TypeId) (i0 : TypeInfo) (z : Value) (bytes : Nat)
 (ht : P.underlying t = some (.slice e)) (hi : P.info? e = some i0) (hz0 : i0.zero = some z) (hz1 : i0.size = d.sz) (hz2 : i0.bytes = bytes) (hz : z.cells.size = d.sz) (hs0 : 0 < d.sz)
 (v : Value) (xs ys : List α) (A : Option Addr) (m c : Nat) (ok okp : Nat → Prop)
 (HO : d.R e W base ok v xs) (HR : fo Rr d.sz W A m ys) (hKM : ∀ x cs, Rr x cs → d.M W base okp x cs) (hokp : ∀ k, okp k → ok k ∧ some k ≠ v.ownBlock) (hfresh : ∀ k, W.heap.size ≤ k → ok k)
 (hbase : base ≤ W.heap.size) (hlen : xs.length + m ≤ 140737488355328) (hl : (xs.length + m) * bytes ≤ 140737488355328) :
 ∃ v1 w1, (Builtin.append_ #[t, t] ty #[v, .slice A m c]).run P W = .ok v1 w1 ∧ d.R e w1 base ok v1 (xs ++ ys) ∧ W.grownBy w1 v.ownBlock ∧ (v1.ownBlock = v.ownBlock ∨ ∃ b, v1.ownBlock = some b ∧ W.heap.size ≤ b) := by
 have hm : ys.length = m := HR.1
 obtain ⟨hok, inner, hown, hr⟩ := HO
 rcases A with _ | ad
 · have h0 : m = 0 := by
    rcases Nat.eq_zero_or_pos m with h0 | h0
    · exact h0
    obtain ⟨ad, h, _⟩ := HR.2.2 h0
    cases h
   subst h0
   obtain rfl : ys = [] := List.eq_nil_of_length_eq_zero hm
   refine ⟨v, W, ?_, by rw [List.append_nil]; exact ⟨hok, inner, hown, hr⟩, World.grownBy.refl W _, .inl rfl⟩
   rcases hown.2 with ⟨rfl, hn⟩ | ⟨g, cap, cur, rfl, _, _, hnc, _⟩
   · simp [Builtin.append_, run_underlying ht, sizeOf, typeInfo, hi, Builtin.lenOf, Builtin.firstCells]
   simp [Builtin.append_, run_underlying ht, sizeOf, typeInfo, hi, Builtin.lenOf, Builtin.firstCells, hnc, storeCells]
 obtain ⟨news, hnr, hnc⟩ := fo.zJ HR
 have hnM : fu (d.M W base okp) d.sz ys news := hnr.kg (fun p c hp => hKM p c hp)
 have hone : ∀ u ∈ news, u.oneCell' = true := by
  intro u hu
  obtain ⟨q, hq, rfl⟩ := List.mem_iff_getElem.1 hu
  have hql : q / d.sz < ys.length := by
   rw [Nat.div_lt_iff_lt_mul hs0]
   rw [← hnM.1]
   exact hq
  have hc := hnM.2 (q / d.sz) _ (List.getElem?_eq_getElem hql)
  refine d.K_one (d.K_of_M hc) _ ?_
  rw [List.mem_iff_getElem?]
  refine ⟨q % d.sz, ?_⟩
  rw [List.getElem?_take, if_pos (Nat.mod_lt _ hs0), List.getElem?_drop, Nat.mul_comm, Nat.div_add_mod, List.getElem?_eq_getElem hq]
 obtain ⟨v1, w1, hrun, h2, hg, _, hat⟩ := run_append_own_at (P := P) W base t ty e i0 z d.sz bytes ht hi hz0 hz1 hz2 hz hs0 v xs.length inner hown ad m c news (by rw [hnM.1, hm]) hnc hone (by simp only [maxLen]; omega) hl hbase
 have hat' : v1.ownBlock = v.ownBlock ∨ ∃ b, v1.ownBlock = some b ∧ W.heap.size ≤ b := by
  rcases hat with hat | hat
  · exact .inl hat
  exact .inr ⟨_, hat, Nat.le_refl _⟩
 have hne : ∀ k, some k ≠ v.ownBlock → k < W.heap.size → some k ≠ v1.ownBlock := by
  intro k hk hlt
  rcases hat' with hat | ⟨b, hb, hle⟩
  · rw [hat]; exact hk
  rw [hb]
  intro he
  injection he with he
  omega
 have step : ∀ {q : α} {c : List Value} {o : Nat → Prop}, d.M W base o q c → (∀ k, o k → ok k ∧ some k ≠ v.ownBlock) → d.M w1 base (fun k => ok k ∧ some k ≠ v1.ownBlock) q c := by
  intro q c o hq ho
  have h1 := d.M_move (w1 := w1) (fun k hk => hg.block k hk.2.2.1 (ho k hk.1).2) (d.M_bound hq)
  exact d.M_mono (fun k hk => ⟨(ho k hk.1).1, hne k (ho k hk.1).2 hk.2.2.1⟩) h1
 refine ⟨v1, w1, hrun, ⟨fun k hk => ?_, inner ++ news, by rw [List.length_append, hm]; exact h2, Kd.nR (hr.kg (fun _ _ hq => step hq (fun _ hk => hk))) (hnM.kg (fun _ _ hq => step hq hokp))⟩, hg, hat'⟩
 rcases hat' with hat | ⟨b, hb, hle⟩
 · exact hok k (hat ▸ hk)
 rw [hb] at hk
 injection hk with hk
 exact hfresh k (by omega)
variable {ops : Array Oper} {o : Oper} {a : Act} {Q : Exit → Act → World → Prop} {Kc : Act → World → Prop}
end
section
variable {P : Program} {α : Type} {ops : Array Oper} {o : Oper} {a : Act} {Q : Exit → Act → World → Prop} {Kc : Act → World → Prop}
theorem wG (d : Kd α) {Rr : α → List Value → Prop} {w0 W : World} (base : Nat) (s x : Operand) (t e : TypeId) (z : Value) (bytes : Nat) (hg : o.guard = none)
 (ho : o.op = .call { callee := .builtin .append, args := #[s, x], argTypes := #[t, t] })
 (ht : P.underlying t = some (.slice e)) (hinfo : (P.info? e).map (fun i => (i.zero, i.size, i.bytes)) = some (some z, d.sz, bytes)) (hz : z.cells.size = d.sz) (hs0 : 0 < d.sz) (hb0 : 0 < bytes)
 (v : Value) (xs ys : List α) (A : Option Addr) (m c : Nat) (hs : a.eval s = v) (hx : a.eval x = .slice A m c)
 (HO : d.R e W base (fun _ => True) v xs) (HR : fo Rr d.sz W A m ys) (hKM : ∀ x cs, Rr x cs → d.M W base (fun _ => False) x cs)
 (HB : Below base w0 W) (hbase : base ≤ W.heap.size) (hl : (xs.length + m) * bytes ≤ 140737488355328)
 (h : ∀ v1 w1, d.R e w1 base (fun _ => True) v1 (xs ++ ys) → Below base w0 w1 → W.grownBy w1 v.ownBlock → (v1.ownBlock = v.ownBlock ∨ ∃ b, v1.ownBlock = some b ∧ W.heap.size ≤ b) → Kc (a.put o.dst v1) w1) :
 if Region.wanted o (yielded ops a.tmps) = true then Oper.wp P o a W Kc Q else Kc (a.put o.dst undef) W := by
 have hw : Region.wanted o (yielded ops a.tmps) = true := by simp [Region.wanted, hg]
 rw [if_pos hw]
 obtain ⟨i0, hi, hzz⟩ := Option.map_eq_some_iff.1 hinfo
 simp only [Prod.mk.injEq] at hzz
 obtain ⟨hz0, hz1, hz2⟩ := hzz
 have hlen : xs.length + m ≤ 140737488355328 := Nat.le_trans (Nat.le_mul_of_pos_right _ hb0) hl
 have hown := (Kd.qx HO)
 obtain ⟨v1, w1, hr1, h1, hg1, hat⟩ := Bt d base t o.type e i0 z bytes ht hi hz0 hz1 hz2 hz hs0 v xs ys A m c (fun _ => True) (fun _ => False) HO HR hKM (fun _ h => h.elim) (fun _ _ => trivial) hbase hlen hl
 unfold Oper.wp execOp
 simp only [ho, resolve, invoke, builtin, Sem.run_bind, Sem.run_pure, Result.andThen_ok, List.map_toArray, List.map_cons, List.map_nil, hs, hx, hr1]
 obtain ⟨inner, hown⟩ := hown
 exact h v1 w1 h1 (HB.grown hg1 hbase (jo hown)) hg1 hat
end
theorem Cd.c {w : World} {A : Option Addr} {n cap : Nat} {c : List S45} (h : Cd w (.slice A n cap) c) : k45.C w A n c := by
 have hr := og (base := 0) (ok := fun _ => True) h (fun _ _ => ⟨Nat.zero_le _, trivial⟩)
 obtain ⟨e, _, h2⟩ := Kd.dP hr
 rw [e]; exact h2
def uM (w : World) (gb n : Nat) (q : Value × S47) : World := (((((((w.setCell ⟨gb, n * 8, none⟩ q.1).setCell ⟨gb, n * 8 + 1, none⟩ (.int .i64 q.2.f1)).setCell ⟨gb, n * 8 + 2, none⟩ (.int .u16 q.2.f2.f0)).setCell ⟨gb, n * 8 + 3, none⟩ (.int .u8 q.2.f2.f1)).setCell ⟨gb, n * 8 + 4, none⟩ (.int .u8 q.2.f2.f2)).setCell ⟨gb, n * 8 + 5, none⟩ (.int .u32 q.2.f2.f3)).setCell ⟨gb, n * 8 + 6, none⟩ (.int .i64 q.2.f3)).setCell ⟨gb, n * 8 + 7, none⟩ (.int .i64 q.2.f4)
theorem tJ {W : World} {gb n : Nat} {bs : List (Value × S47)} {tl : List Value} {p : Value × S47} (h : W.heap[gb]? = some (.cells (bC bs tl) 47 (0, 0))) (hp : bs[n]? = some p) (q : Value × S47) : (uM W gb n q).heap[gb]? = some (.cells (bC (bs.set n q) tl) 47 (0, 0)) := by
 have h0 := bI (j := 0) h hp (q.1, p.2) (by omega) q.1 rfl
 have h1 := bI (j := 1) h0 (aK hp) (q.1, ⟨p.2.f0, q.2.f1, p.2.f2, p.2.f3, p.2.f4⟩) (by omega) (.int .i64 q.2.f1) rfl
 rw [set_set] at h1
 have h2 := bI (j := 2) h1 (aK hp) (q.1, ⟨p.2.f0, q.2.f1, ⟨q.2.f2.f0, p.2.f2.f1, p.2.f2.f2, p.2.f2.f3⟩, p.2.f3, p.2.f4⟩) (by omega) (.int .u16 q.2.f2.f0) rfl
 rw [set_set] at h2
 have h3 := bI (j := 3) h2 (aK hp) (q.1, ⟨p.2.f0, q.2.f1, ⟨q.2.f2.f0, q.2.f2.f1, p.2.f2.f2, p.2.f2.f3⟩, p.2.f3, p.2.f4⟩) (by omega) (.int .u8 q.2.f2.f1) rfl
 rw [set_set] at h3
 have h4 := bI (j := 4) h3 (aK hp) (q.1, ⟨p.2.f0, q.2.f1, ⟨q.2.f2.f0, q.2.f2.f1, q.2.f2.f2, p.2.f2.f3⟩, p.2.f3, p.2.f4⟩) (by omega) (.int .u8 q.2.f2.f2) rfl
 rw [set_set] at h4
 have h5 := bI (j := 5) h4 (aK hp) (q.1, ⟨p.2.f0, q.2.f1, q.2.f2, p.2.f3, p.2.f4⟩) (by omega) (.int .u32 q.2.f2.f3) rfl
 rw [set_set] at h5
 have h6 := bI (j := 6) h5 (aK hp) (q.1, ⟨p.2.f0, q.2.f1, q.2.f2, q.2.f3, p.2.f4⟩) (by omega) (.int .i64 q.2.f3) rfl
 rw [set_set] at h6
 have h7 := bI (j := 7) h6 (aK hp) q (by omega) (.int .i64 q.2.f4) rfl
 rw [set_set] at h7
 exact h7
theorem vY {S : Nat → Prop} {w W : World} {gb n : Nat} {q : Value × S47} (h : Kp S w W) (hS : S gb) : Kp S w (uM W gb n q) :=
 (((((((h.set (.inl hS) _ _).set (.inl hS) _ _).set (.inl hS) _ _).set (.inl hS) _ _).set (.inl hS) _ _).set (.inl hS) _ _).set (.inl hS) _ _).set (.inl hS) _ _
structure JR (w X : World) (gn L : Nat) (nm : List Int) : Prop where
 low : Below w.heap.size w X
 nb : X.heap[gn]? = some (.cells (inC nm) 3 (0, 0))
 nl : nm.length = L
 ln : w.heap.size ≤ gn
structure JT (w X : World) (gn L : Nat) (nm : List Int) (gt : Nat) (q : Value × S47) : Prop where
 jr : JR w X gn L nm
 bt : X.heap[gt]? = some (.cells (b8 q).toArray 47 (0, 0))
 lt : w.heap.size ≤ gt
section
variable {w X Y : World} {B : Bs} {gw gb cap gn gt L n a : Nat} {nm : List Int} {q : Value × S47} {G : List S47} {b nx : S47} {bs : List (Value × S47)} {tl : List Value} {fr : List Nat} {f : Bool} {T : List S47 × Bool}
theorem JR.below (h : JR w X gn L nm) (hb : Below X.heap.size X Y) : JR w Y gn L nm := ⟨ax h.low hb, aj h.nb hb, h.nl, h.ln⟩
theorem JR.tT (h : JR w X gn L nm) (j : Nat) (x : Int) : JR w (X.setCell ⟨gn, j, none⟩ (.int .i64 x)) gn L (nm.set j x) := ⟨h.low.setCell h.ln _, aN h.nb j _ (rF j x), by rw [List.length_set]; exact h.nl, h.ln⟩
theorem JT.tT (h : JT w X gn L nm gt q) (j : Nat) (x : Int) : JT w (X.setCell ⟨gn, j, none⟩ (.int .i64 x)) gn L (nm.set j x) gt q := ⟨h.jr.tT j x, (Deep.blk_setCell_other _ _ _ _ (bS h.bt h.jr.nb (by decide))).trans h.bt, h.lt⟩
structure JI (w X : World) (gn L : Nat) (G : List S47) (n : Nat) (nm : List Int) : Prop where
 jr : JR w X gn L nm
 eq : ∀ t, t < L → nm.getD t 0 = (jl (G.take n) t : Nat)
theorem cE_le (t : Nat) (b : S47) : cE t b ≤ 2 := by unfold cE; split <;> split <;> omega
theorem yJ (t : Nat) : ∀ G : List S47, jl G t ≤ 2 * G.length := by
 intro G
 induction G with
 | nil => exact Nat.le_refl _
 | cons b r ih =>
  have h : jl (b :: r) t = cE t b + jl r t := by unfold jl; rw [List.map_cons, List.sum_cons]
  have := cE_le t b
  rw [h, List.length_cons]; omega
theorem yK (h : G[n]? = some b) (t : Nat) : jl (G.take (n + 1)) t = jl (G.take n) t + cE t b := by
 obtain ⟨h1, rfl⟩ := List.getElem?_eq_some_iff.1 h
 unfold jl
 rw [List.take_succ_eq_append_getElem h1, List.map_append, List.sum_append]
 show _ + (cE t G[n] + 0) = _
 omega
theorem JI.next (h : JI w X gn L G n nm) (hb : G[n]? = some b) {nm' : List Int} (hY : JR w Y gn L nm') (e : ∀ t, t < L → nm'.getD t 0 = nm.getD t 0 + (cE t b : Nat)) : JI w Y gn L G (n + 1) nm' :=
 ⟨hY, fun t ht => by rw [e t ht, h.eq t ht, yK hb]; omega⟩
theorem cE1 (h : b.f1 = 1) (t : Nat) : cE t b = 0 := by unfold cE; rw [if_neg (by rw [h]; omega), if_neg (by rw [h]; omega)]
theorem cE2 (h : b.f1 = 2) (t : Nat) : cE t b = if b.f3.toNat = t then 1 else 0 := by
 unfold cE
 rw [if_neg (show ¬ (b.f1 = 3 ∧ b.f4.toNat = t) by rw [h]; omega), Nat.add_zero]
 by_cases e : b.f3.toNat = t
 · rw [if_pos ⟨by rw [h]; decide, e⟩, if_pos e]
 rw [if_neg (fun q => e q.2), if_neg e]
theorem cE3 (h : b.f1 = 3) (t : Nat) : cE t b = (if b.f3.toNat = t then 1 else 0) + (if b.f4.toNat = t then 1 else 0) := by
 unfold cE
 congr 1
 · by_cases e : b.f3.toNat = t
   · rw [if_pos ⟨by rw [h]; decide, e⟩, if_pos e]
   rw [if_neg (fun q => e q.2), if_neg e]
 by_cases e : b.f4.toNat = t
 · rw [if_pos ⟨h, e⟩, if_pos e]
 rw [if_neg (fun q => e q.2), if_neg e]
def frI (fr : List Nat) : List Int := fr.map (fun n : Nat => (n : Int))
theorem rD (fr : List Nat) (t : Nat) : (frI fr).getD t 0 = (fr.getD t 0 : Nat) := by
 unfold frI
 rw [List.getD_eq_getElem?_getD, List.getElem?_map, List.getD_eq_getElem?_getD]
 cases fr[t]? <;> rfl
theorem frI_set (fr : List Nat) (t : Nat) : (frI fr).set t 0 = frI (fr.set t 0) := by
 unfold frI
 rw [List.map_set]; rfl
theorem JI.done (h : JI w X gn L G L nm) (hL : G.length = L) : nm = frI (frG G) := by
 have hl : (frI (frG G)).length = L := by unfold frI frG; rw [List.length_map, List.length_map, List.length_range, hL]
 have hf := ze G
 apply List.ext_getElem?
 intro t
 by_cases ht : t < L
 · have e1 := h.eq t ht
   rw [List.take_of_length_le (by omega)] at e1
   have e2 := rD (frG G) t
   rw [hf.eq t (by omega)] at e2
   rw [List.getElem?_eq_getElem (by rw [h.jr.nl]; exact ht), List.getElem?_eq_getElem (by rw [hl]; exact ht)]
   rw [List.getD_eq_getElem?_getD, List.getElem?_eq_getElem (by rw [h.jr.nl]; exact ht)] at e1
   rw [List.getD_eq_getElem?_getD, List.getElem?_eq_getElem (by rw [hl]; exact ht)] at e2
   exact congrArg some (e1.trans e2.symm)
 rw [List.getElem?_eq_none (by rw [h.jr.nl]; omega), List.getElem?_eq_none (by rw [hl]; omega)]
structure JS (w X : World) (B : Bs) (gw gb cap : Nat) (tl : List Value) (gn L : Nat) (bs : List (Value × S47)) (fr : List Nat) : Prop where
 wk : Wk X B gw gb cap bs tl
 len : bs.length = L
 low : Below B.n w X
 nb : X.heap[gn]? = some (.cells (inC (frI fr)) 3 (0, 0))
 lo : B.n ≤ gn
 gok : GOk (bs.map (·.2))
 frk : sH (bs.map (·.2)) fr
theorem JS.below (h : JS w X B gw gb cap tl gn L bs fr) (hb : Below X.heap.size X Y) : JS w Y B gw gb cap tl gn L bs fr :=
 ⟨h.wk.below hb, h.len, h.low.trans ⟨hb.os, hb.tape, hb.output, hb.size, fun i hi => hb.block i (by have := ay h.wk.me; have := h.wk.lo; omega)⟩, aj h.nb hb, h.lo, h.gok, h.frk⟩
structure JL (w X : World) (B : Bs) (gw gb cap : Nat) (tl : List Value) (gn L : Nat) (T : List S47 × Bool) (a : Nat) (f : Bool) (bs : List (Value × S47)) (fr : List Nat) : Prop where
 js : JS w X B gw gb cap tl gn L bs fr
 res : T = ((jnL (L - a) (bs.map (·.2)) fr a).1, f || (jnL (L - a) (bs.map (·.2)) fr a).2)
structure JW (w X : World) (B : Bs) (gw gb cap : Nat) (tl : List Value) (gn L : Nat) (T : List S47 × Bool) (a : Nat) (f : Bool) (bs : List (Value × S47)) (fr : List Nat) : Prop where
 js : JS w X B gw gb cap tl gn L bs fr
 res : ∃ j, T = ((jnL (L - (a + 1)) (jnW j (bs.map (·.2)) fr a).1 (jnW j (bs.map (·.2)) fr a).2.1 (a + 1)).1, (f || (jnW j (bs.map (·.2)) fr a).2.2) || (jnL (L - (a + 1)) (jnW j (bs.map (·.2)) fr a).1 (jnW j (bs.map (·.2)) fr a).2.1 (a + 1)).2) ∧
  ∀ b, (bs.map (·.2))[a]? = some b → b.f1 = 2 → L ≤ j + b.f3.toNat
theorem JL.enter (h : JL w X B gw gb cap tl gn L T a f bs fr) (ha : a < L) : JW w X B gw gb cap tl gn L T a f bs fr := by
 refine ⟨h.js, L, ?_, fun b _ _ => by omega⟩
 have e := h.res
 rw [show L - a = (L - (a + 1)) + 1 by omega, jnL] at e
 rw [List.length_map, h.js.len] at e
 rw [e, Bool.or_assoc]
theorem JW.leave (h : JW w X B gw gb cap tl gn L T a f bs fr) (hn : jnY (bs.map (·.2)) fr a = none) : JL w X B gw gb cap tl gn L T (a + 1) f bs fr := by
 obtain ⟨j, e, _⟩ := h.res
 refine ⟨h.js, ?_⟩
 have e2 : jnW j (bs.map (·.2)) fr a = (bs.map (·.2), fr, false) := by
  cases j with
  | zero => rfl
  | succ j => rw [jnW, hn]
 rw [e2] at e
 rw [e, Bool.or_false]
theorem JW.step (h : JW w X B gw gb cap tl gn L T a f bs fr) {v v1 vn : Value} {y : Nat} (hyT : b.f3.toNat = y) (hb : bs[a]? = some (v, b)) (hx : bs[y]? = some (vn, nx)) (h2 : b.f1 = 2) (h1 : fr.getD y 0 = 1)
 (hwk : Wk Y B gw gb cap ((bs.set a (v1, mgB b nx)).set y (.slice none 0 0, jR)) tl) (hlow : Below B.n w Y) (hnb : Y.heap[gn]? = some (.cells (inC (frI (fr.set y 0))) 3 (0, 0))) :
 JW w Y B gw gb cap tl gn L T a true ((bs.set a (v1, mgB b nx)).set y (.slice none 0 0, jR)) (fr.set y 0) := by
 subst hyT
 have hy : jnY (bs.map (·.2)) fr a = some (b, nx) := by
  unfold jnY
  rw [List.getElem?_map, hb]
  dsimp only [Option.map_some]
  rw [if_pos ⟨h2, h1⟩, List.getElem?_map, hx]; rfl
 have hm := zN h.js.gok h.js.frk hy
 have eg : ((bs.set a (v1, mgB b nx)).set b.f3.toNat (.slice none 0 0, jR)).map (·.2) = jn1 (bs.map (·.2)) a b.f3.toNat b nx := by
  unfold jn1
  rw [List.map_set, List.map_set]
 obtain ⟨l1, l2, l3⟩ := hm.lt
 obtain ⟨j, e, hj⟩ := h.res
 have hL : (bs.map (·.2)).length = L := by rw [List.length_map, h.js.len]
 have hj1 := hj b (by rw [List.getElem?_map, hb]; rfl) h2
 obtain ⟨j', rfl⟩ : ∃ j', j = j' + 1 := ⟨j - 1, by omega⟩
 have ew : jnW (j' + 1) (bs.map (·.2)) fr a = ((jnW j' (jn1 (bs.map (·.2)) a b.f3.toNat b nx) (fr.set b.f3.toNat 0) a).1, (jnW j' (jn1 (bs.map (·.2)) a b.f3.toNat b nx) (fr.set b.f3.toNat 0) a).2.1, true) := by
  rw [jnW, hy]
 refine ⟨⟨hwk, by rw [List.length_set, List.length_set, h.js.len], hlow, hnb, h.js.lo, by rw [eg]; exact (lS.one hm).gok, by rw [eg]; exact fr_mg h.js.frk hm⟩, j', ?_, ?_⟩
 · rw [ew] at e
   rw [eg, e, Bool.or_true, Bool.true_or, Bool.true_or, Bool.true_or]
 intro c hc hc2
 rw [eg, hm.get.1] at hc
 cases hc
 have hgn := bu (h.js.gok.all _ nx hm.nx).goal (by show nx.f1 ≠ 1; have e3 : nx.f1 = 2 := hc2; omega)
 show L ≤ j' + nx.f3.toNat
 omega
theorem join_wk {U1 U : World} {v v1 vn : Value} {y : Nat} (h : JS w X B gw gb cap tl gn L bs fr) (hb : bs[a]? = some (v, b)) (hx : bs[y]? = some (vn, nx)) (hay : a ≠ y) (hk1 : Kp (fun x => x = gb ∨ x = gn ∨ some x = v.ownBlock) X U1)
 (hr1 : U1.heap[gb]? = some (.cells (bC (bs.set a (v1, mgB b nx)) tl) 47 (0, 0))) (hc : Cd U1 v1 (b.f0 ++ nx.f0)) (hat : v1.ownBlock = v.ownBlock ∨ ∃ g, v1.ownBlock = some g ∧ X.heap.size ≤ g) (hk2 : Kp (fun x => x = gb) U1 U)
 (hr2 : U.heap[gb]? = some (.cells (bC ((bs.set a (v1, mgB b nx)).set y (.slice none 0 0, jR)) tl) 47 (0, 0))) : Wk U B gw gb cap ((bs.set a (v1, mgB b nx)).set y (.slice none 0 0, jR)) tl ∧ Below B.n w U := by
 have hB : B.n ≤ X.heap.size := by have := ay h.wk.me; have := h.wk.lo; omega
 have w1 : Wk U1 B gw gb cap (bs.set a (v1, mgB b nx)) tl := by
  refine h.wk.step hb hk1 ?_ hr1 hc (fun g hg => ?_)
  · rintro x (e | e | e)
    · exact .inl e
    · subst e; exact .inr (.inr ⟨_, _, _, h.nb, by decide, by decide, by decide⟩)
    exact .inr (.inl e)
  rcases hat with e | ⟨g', e, hle⟩
  · exact .inl (by rw [← e]; exact hg)
  right
  have e2 : v1.ownBlock = some g := hg
  rw [e] at e2
  injection e2 with e2
  omega
 have w2 : Wk U B gw gb cap ((bs.set a (v1, mgB b nx)).set y (.slice none 0 0, jR)) tl :=
  w1.step (p := (vn, nx)) (by rw [List.getElem?_set_ne hay]; exact hx) hk2 (fun x e => .inl e) hr2 (.inl ⟨rfl, rfl⟩) (fun g hg => by cases hg)
 refine ⟨w2, w1.low (Kp.iO h.low hk1 hB ?_) hk2⟩
 rintro x (e | e | e)
 · subst e; exact h.wk.row.lo.1
 · subst e; exact h.lo
 exact h.wk.row.lo.2 _ (List.mem_of_getElem? hb) _ e.symm
def mJ (w : World) (gb a L : Nat) : Nat := if intOf (cellV w ⟨gb, a * 8 + 1, none⟩) = 2 then L - (intOf (cellV w ⟨gb, a * 8 + 6, none⟩)).toNat else 0
theorem mJ_eq {v : Value} (h : X.heap[gb]? = some (.cells (bC bs tl) 47 (0, 0))) (hb : bs[a]? = some (v, b)) : mJ X gb a L = if b.f1 = 2 then L - b.f3.toNat else 0 := by
 have e1 : X.cell? ⟨gb, a * 8 + 1, none⟩ = some (.int .i64 b.f1) := (ae h (a * 8 + 1)).trans (cZ hb (by omega))
 have e6 : X.cell? ⟨gb, a * 8 + 6, none⟩ = some (.int .i64 b.f3) := (ae h (a * 8 + 6)).trans (cZ hb (by omega))
 unfold mJ cellV
 rw [e1, e6]
 rfl
end
theorem uz (w : World) (B : Bs) (gw gb cap : Nat) (bs : List (Value × S47)) (tl : List Value) (hW : Wk w B gw gb cap bs tl) (hG : GOk (bs.map (·.2))) :
 Calls Try.prog 88 #[.pointer (some ⟨gw, 0, none⟩)] w fun e w' => e = .returned (.bool (jM (bs.map (·.2))).2) ∧ (∃ bs', bs'.map (·.2) = (jM (bs.map (·.2))).1 ∧ Wk w' B gw gb cap bs' tl) ∧ Below B.n w w' := by
 obtain ⟨L, eL⟩ : ∃ L, L = bs.length := ⟨_, rfl⟩
 have hL : L ≤ 4096 := by have := hG.few; rw [List.length_map] at this; omega
 have hL0 : 0 < L := by have := hG.some_; rw [List.length_map] at this; omega
 have hu := Try.underlying26
 have c0 : w.cell? ⟨gw, 0, none⟩ = some (.slice (some ⟨gb, 0, none⟩) L cap) := by rw [eL]; exact (ae hW.me 0).trans rfl
 have hmi := qG L hL
 obtain ⟨G, eG⟩ : ∃ G, G = bs.map (·.2) := ⟨_, rfl⟩
 rw [← eG] at hG ⊢
 have HGL : aa (G.length = L) := ⟨by rw [eG, List.length_map, eL]⟩
 have HGB : aa (∀ (i : Nat) (v : Value) (b : S47), bs[i]? = some (v, b) → G[i]? = some b) := ⟨fun i v b h => by rw [eG, List.getElem?_map, h]; rfl⟩
 have HW := aa.mk hW
 have HG := aa.mk hG
 have EL := aa.mk eL
 have EG := aa.mk eG
 clear hW hG eL eG
 go_enter Try.func88, Try.ntmps88
 go_upto_region 2 with (fail)
 refine forget (fun Z => ∃ gn, gn = w.heap.size ∧ JI w Z gn L G 0 (List.replicate L 0)) ⟨_, rfl, ⟨ai (Below.refl _ _) _, heap_alloc_new _ _, List.length_replicate, Nat.le_refl _⟩, fun t ht => by rw [List.take_zero, List.getD_eq_getElem?_getD, List.getElem?_replicate]; split <;> rfl⟩ ?_
 clear c0
 rintro Z ⟨gn, egn, hji⟩
 rw [← egn]
 have HJI := aa.mk hji
 have c0 : Z.cell? ⟨gw, 0, none⟩ = some (.slice (some ⟨gb, 0, none⟩) L cap) := au hji.jr.low (by rw [EL.out]; exact (ae HW.out.me 0).trans rfl)
 clear egn hji hmi
 go_wp2
 go_loopw [22] (fun v22 wr => ∃ (n : Nat) (nm : List Int), n ≤ L ∧ v22 = .int .i64 n ∧ aa (JI w wr gn L G n nm)) (fun v22 _ => L - (intOf v22).toNat)
 case atStart => exact ⟨0, _, Nat.zero_le _, rfl, HJI⟩
 case round =>
  clear HJI c0
  obtain ⟨n, nm, hn, rfl, HJI⟩ := hrel
  by_cases hlt : n < L
  · obtain ⟨v, b, hb⟩ : ∃ v b, bs[n]? = some (v, b) := ⟨(bs[n]'(by rw [← EL.out]; exact hlt)).1, (bs[n]'(by rw [← EL.out]; exact hlt)).2, List.getElem?_eq_getElem (by rw [← EL.out]; exact hlt)⟩
    have hGn := HGB.out n v b hb
    have hWr := HW.out.below HJI.out.jr.low
    have hcd : Cd wr v b.f0 := hWr.row.code n _ hb
    obtain ⟨Av, cv, rfl⟩ := hcd.slice
    have i2 : (0 : Int) ≤ (n : Int) := by omega
    have i3 : (n : Int) < (L : Int) := by omega
    have g := fun (jj : Nat) (hh : jj < 8) => (ae hWr.row.row (n * 8 + jj)).trans (cZ hb hh)
    have b0 : wr.cell? ⟨gb, n * 8, none⟩ = some (.slice Av b.f0.length cv) := g 0 (by omega)
    have b1 : wr.cell? ⟨gb, n * 8 + 1, none⟩ = some (.int .i64 b.f1) := g 1 (by omega)
    have b2 : wr.cell? ⟨gb, n * 8 + 2, none⟩ = some (.int .u16 b.f2.f0) := g 2 (by omega)
    have b3 : wr.cell? ⟨gb, n * 8 + 3, none⟩ = some (.int .u8 b.f2.f1) := g 3 (by omega)
    have b4 : wr.cell? ⟨gb, n * 8 + 4, none⟩ = some (.int .u8 b.f2.f2) := g 4 (by omega)
    have b5 : wr.cell? ⟨gb, n * 8 + 5, none⟩ = some (.int .u32 b.f2.f3) := g 5 (by omega)
    have b6 : wr.cell? ⟨gb, n * 8 + 6, none⟩ = some (.int .i64 b.f3) := g 6 (by omega)
    have b7 : wr.cell? ⟨gb, n * 8 + 7, none⟩ = some (.int .i64 b.f4) := g 7 (by omega)
    have HGN := aa.mk hGn
    have HBK := aa.mk (HG.out.all n b hGn)
    clear g hb hGn hWr hcd
    go_upto_region 5 with (fail)
    refine forget (fun X => ∃ gt, gt = wr.heap.size ∧ JT w X gn L nm gt (.slice Av b.f0.length cv, b)) ⟨_, rfl, HJI.out.jr.below (ai (Below.refl _ _) _), heap_alloc_new _ _, HJI.out.jr.low.size⟩ ?_
    clear b0 b1 b2 b3 b4 b5 b6 b7
    rintro X ⟨gt, egt, hdt⟩
    rw [← egt]
    have HJT := aa.mk hdt
    have b1 : X.cell? ⟨gt, 1, none⟩ = some (.int .i64 b.f1) := (ae hdt.bt 1).trans rfl
    have b6 : X.cell? ⟨gt, 6, none⟩ = some (.int .i64 b.f3) := (ae hdt.bt 6).trans rfl
    have hec := dX HBK.out.ends
    have gy := bu HBK.out.goal
    have gnn := dG HBK.out.goal
    rw [HGL.out] at gy gnn
    have hcase : b.f1 = 1 ∨ b.f1 = 2 ∨ b.f1 = 3 := by rcases hec with h | h | h; exact .inl h.1; exact .inr (.inl h.1); exact .inr (.inr h.1)
    clear hdt hec egt
    rcases hcase with h1 | h1
    · have HE : aa (JI w X gn L G (n + 1) nm) := ⟨HJI.out.next HGN.out HJT.out.jr (fun t _ => by rw [cE1 h1]; simp)⟩
      rw [h1] at b1
      clear h1 gy gnn HJT HJI b6
      go_wp2
      go_roundw
      case rel => exact ⟨n + 1, _, by omega, by go_num, HE⟩
      case measure => simp [intOf]; omega
    have hne1 : b.f1 ≠ 1 := by omega
    have gy2 := gy hne1
    obtain ⟨y, hy⟩ : ∃ y : Nat, b.f3 = (y : Int) := ⟨b.f3.toNat, by omega⟩
    have hyT : b.f3.toNat = y := by rw [hy]; rfl
    rw [hy] at b6
    have h1' : (b.f1 == 1) = false := bn hne1
    have i4 : (0 : Int) ≤ (y : Int) := by omega
    have i5 : (y : Int) < (L : Int) := by omega
    have hyL : y < L := by omega
    obtain ⟨cy, ecy⟩ : ∃ cy, cy = jl (G.take n) y := ⟨_, rfl⟩
    have hcy : cy ≤ 8192 := by have := yJ y (G.take n); rw [List.length_take] at this; omega
    have hgy : nm.getD y 0 = (cy : Int) := by rw [HJI.out.eq y hyL, ecy]
    have kz : X.frozen? ⟨gn, y, none⟩ = false := af HJT.out.jr.nb y
    have k0 : X.cell? ⟨gn, y, none⟩ = some (.int .i64 (cy : Int)) := by rw [← hgy]; exact (ae HJT.out.jr.nb y).trans (ky (by rw [HJT.out.jr.nl]; exact hyL))
    have HYT := aa.mk (And.intro hyT hgy)
    clear hy gy gy2 hne1 hyT hgy ecy
    go_upto_region 7 with (fail)
    refine forget (fun Z => JT w Z gn L (nm.set y ((cy : Int) + 1)) gt (.slice Av b.f0.length cv, b)) (HJT.out.tT y _) ?_
    clear b1 b6 kz k0 HJT
    intro Z hdt
    have HJT := aa.mk hdt
    have b1 : Z.cell? ⟨gt, 1, none⟩ = some (.int .i64 b.f1) := (ae hdt.bt 1).trans rfl
    have b7 : Z.cell? ⟨gt, 7, none⟩ = some (.int .i64 b.f4) := (ae hdt.bt 7).trans rfl
    have hS1 : ∀ t, (nm.set y ((cy : Int) + 1)).getD t 0 = nm.getD t 0 + (if y = t then 1 else 0) := by
     intro t
     rw [dM (by rw [HJI.out.jr.nl]; exact hyL)]
     split
     · rename_i e; subst e; rw [HYT.out.2]
     omega
    have HS1 := aa.mk hS1
    clear hdt hS1
    rcases h1 with h1 | h1
    · have HE : aa (JI w Z gn L G (n + 1) (nm.set y ((cy : Int) + 1))) := ⟨HJI.out.next HGN.out HJT.out.jr (fun t _ => by rw [HS1.out t, cE2 h1, HYT.out.1]; split <;> rfl)⟩
      rw [h1] at b1
      clear h1 gnn HJT b7 h1' HJI
      go_wp2
      go_roundw
      case rel => exact ⟨n + 1, _, by omega, by go_num, HE⟩
      case measure => simp [intOf]; omega
    have gn2 := gnn h1
    obtain ⟨m, hm⟩ : ∃ m : Nat, b.f4 = (m : Int) := ⟨b.f4.toNat, by omega⟩
    have hmT : b.f4.toNat = m := by rw [hm]; rfl
    rw [hm] at b7
    have i6 : (0 : Int) ≤ (m : Int) := by omega
    have i7 : (m : Int) < (L : Int) := by omega
    have hmL : m < L := by omega
    obtain ⟨cm, ecm⟩ : ∃ cm : Nat, (nm.set y ((cy : Int) + 1)).getD m 0 = (cm : Int) := ⟨jl (G.take n) m + (if y = m then 1 else 0), by rw [HS1.out m, HJI.out.eq m hmL]; split <;> rfl⟩
    have hcm : cm ≤ 8193 := by
     have h := HS1.out m
     rw [ecm, HJI.out.eq m hmL] at h
     have h2 := yJ m (G.take n)
     rw [List.length_take] at h2
     split at h <;> omega
    have kz : Z.frozen? ⟨gn, m, none⟩ = false := af HJT.out.jr.nb m
    have k0 : Z.cell? ⟨gn, m, none⟩ = some (.int .i64 (cm : Int)) := by rw [← ecm]; exact (ae HJT.out.jr.nb m).trans (ky (by rw [HJT.out.jr.nl]; exact hmL))
    have HE : aa (JI w (Z.setCell ⟨gn, m, none⟩ (.int .i64 ((cm : Int) + 1))) gn L G (n + 1) ((nm.set y ((cy : Int) + 1)).set m ((cm : Int) + 1))) := ⟨HJI.out.next HGN.out (HJT.out.tT m _).jr (fun t _ => by
     rw [dM (by rw [HJT.out.jr.nl]; exact hmL), cE3 h1, HYT.out.1, hmT]
     have h := HS1.out t
     by_cases e : m = t
     · subst e; rw [if_pos rfl, ← ecm, h, if_pos rfl]; split <;> omega
     rw [if_neg e, h, if_neg e]; split <;> omega)⟩
    rw [h1] at b1
    clear h1 gnn gn2 HJT h1' hm hmT ecm HJI
    go_wp2
    go_roundw
    case rel => exact ⟨n + 1, _, by omega, by go_num, HE⟩
    case measure => simp [intOf]; omega
  have hnl : n = L := by omega
  subst hnl
  obtain ⟨T, eT⟩ : ∃ T, T = jM G := ⟨_, rfl⟩
  have ET := aa.mk eT
  have hB0 : Below B.n w wr := ⟨HJI.out.jr.low.os, HJI.out.jr.low.tape, HJI.out.jr.low.output, HJI.out.jr.low.size, fun i hi => HJI.out.jr.low.block i (by have := ay HW.out.me; have := HW.out.lo; omega)⟩
  have HJ0 : aa (JL w wr B gw gb cap tl gn n T 0 false bs (frG G)) := ⟨⟨⟨HW.out.below HJI.out.jr.low, EL.out.symm, hB0, by rw [← HJI.out.done HGL.out]; exact HJI.out.jr.nb, by have := HJI.out.jr.ln; have := ay HW.out.me; have := HW.out.lo; omega, by rw [← EG.out]; exact HG.out, by rw [← EG.out]; exact ze G⟩, by rw [eT, ← EG.out, Bool.false_or]; unfold jM; rw [HGL.out]; rfl⟩⟩
  have c0 : wr.cell? ⟨gw, 0, none⟩ = some (.slice (some ⟨gb, 0, none⟩) n cap) := by rw [EL.out]; exact (ae HJ0.out.js.wk.me 0).trans rfl
  clear hB0 eT HJI hlt
  obtain ⟨wo, rfl⟩ : ∃ wo : World, wo = wr := ⟨_, rfl⟩
  go_wp2
  go_loopw [6, 52] (fun v6 v52 wr => ∃ (a : Nat) (f : Bool) (bsn : List (Value × S47)) (fr : List Nat), a ≤ n ∧ v52 = .int .i64 a ∧ v6 = .bool f ∧ aa (JL w wr B gw gb cap tl gn n T a f bsn fr)) (fun _ v52 _ => n - (intOf v52).toNat)
  case atStart => exact ⟨0, false, _, _, Nat.zero_le _, rfl, rfl, HJ0⟩
  case round =>
   clear HJ0 c0
   obtain ⟨a, f, bsn, fr, ha, rfl, rfl, HJL⟩ := hrel
   by_cases hlt : a < n
   · have i0 : (0 : Int) ≤ (a : Int) := by omega
     have i1 : (a : Int) < (n : Int) := by omega
     have c0 : wr.cell? ⟨gw, 0, none⟩ = some (.slice (some ⟨gb, 0, none⟩) n cap) := by have h := (ae HJL.out.js.wk.me 0).trans rfl; rw [HJL.out.js.len] at h; exact h
     have HJW := aa.mk (HJL.out.enter hlt)
     clear HJL
     obtain ⟨wp, rfl⟩ : ∃ wp : World, wp = wr := ⟨_, rfl⟩
     go_wp2
     go_loopw [6] (fun v6 wr => ∃ (f : Bool) (bsn : List (Value × S47)) (fr : List Nat), v6 = .bool f ∧ aa (JW w wr B gw gb cap tl gn n T a f bsn fr)) (fun _ wr => mJ wr gb a n)
     case atStart => exact ⟨f, _, _, rfl, HJW⟩
     case round =>
      clear HJW c0
      obtain ⟨f, bsn, fr, rfl, HJW⟩ := hrel
      have hgl : (bsn.map (·.2)).length = n := by rw [List.length_map, HJW.out.js.len]
      obtain ⟨v, b, hb⟩ : ∃ v b, bsn[a]? = some (v, b) := ⟨(bsn[a]'(by rw [HJW.out.js.len]; exact hlt)).1, (bsn[a]'(by rw [HJW.out.js.len]; exact hlt)).2, List.getElem?_eq_getElem (by rw [HJW.out.js.len]; exact hlt)⟩
      have hga : (bsn.map (·.2))[a]? = some b := by rw [List.getElem?_map, hb]; rfl
      have b1 : wr.cell? ⟨gb, a * 8 + 1, none⟩ = some (.int .i64 b.f1) := (ae HJW.out.js.wk.row.row (a * 8 + 1)).trans (cZ hb (by omega))
      by_cases h2 : b.f1 = 2
      · have hgy := bu (HJW.out.js.gok.all a b hga).goal (by omega)
        rw [hgl] at hgy
        obtain ⟨y, hy⟩ : ∃ y : Nat, b.f3 = (y : Int) := ⟨b.f3.toNat, by omega⟩
        have hyT : b.f3.toNat = y := by rw [hy]; rfl
        have hay : a < y := by omega
        have hyL : y < n := by omega
        have b6 : wr.cell? ⟨gb, a * 8 + 6, none⟩ = some (.int .i64 (y : Int)) := by rw [← hy]; exact (ae HJW.out.js.wk.row.row (a * 8 + 6)).trans (cZ hb (by omega))
        have i4 : (0 : Int) ≤ (y : Int) := by omega
        have i5 : (y : Int) < (n : Int) := by omega
        have hfl : (frI fr).length = n := by unfold frI; rw [List.length_map, HJW.out.js.frk.len, hgl]
        have k0 : wr.cell? ⟨gn, y, none⟩ = some (.int .i64 (fr.getD y 0 : Nat)) := by rw [← rD]; exact (ae HJW.out.js.nb y).trans (ky (by rw [hfl]; exact hyL))
        by_cases h1 : fr.getD y 0 = 1
        · obtain ⟨vn, nx, hx⟩ : ∃ v b, bsn[y]? = some (v, b) := ⟨(bsn[y]'(by rw [HJW.out.js.len]; exact hyL)).1, (bsn[y]'(by rw [HJW.out.js.len]; exact hyL)).2, List.getElem?_eq_getElem (by rw [HJW.out.js.len]; exact hyL)⟩
          rw [h1] at k0
          rw [h2] at b1
          have c0 : wr.cell? ⟨gw, 0, none⟩ = some (.slice (some ⟨gb, 0, none⟩) n cap) := by have h := (ae HJW.out.js.wk.me 0).trans rfl; rw [HJW.out.js.len] at h; exact h
          have HB := aa.mk (And.intro hb (And.intro hx (And.intro hyT (And.intro h2 h1))))
          have HLEN : aa (b.f0.length ≤ 4096 ∧ nx.f0.length ≤ 4096) := ⟨HJW.out.js.gok.len hga, HJW.out.js.gok.len (by rw [List.getElem?_map, hx]; rfl)⟩
          have HMJ : aa (mJ wr gb a n = n - y) := ⟨by rw [mJ_eq HJW.out.js.wk.row.row hb, if_pos h2, hyT]⟩
          have HGY : aa (nx.f1 = 2 → y < nx.f3.toNat) := ⟨fun e => by have h := bu (HJW.out.js.gok.all y nx (by rw [List.getElem?_map, hx]; rfl)).goal (by omega); omega⟩
          have hcb : Cd wr v b.f0 := HJW.out.js.wk.row.code a _ hb
          have hcn : Cd wr vn nx.f0 := HJW.out.js.wk.row.code y _ hx
          obtain ⟨Ab, cb, rfl⟩ := hcb.slice
          obtain ⟨An, cn, rfl⟩ := hcn.slice
          have HFL := aa.mk hfl
          clear hga hgl hgy hb hx hy hyT hcb hcn h1 h2 hfl
          go_upto_region 16 with (fail)
          go_quiet (fail)
          go_upto_region 17 with (fail)
          refine forget (fun X => JW w X B gw gb cap tl gn n T a f bsn fr ∧ Below wr.heap.size wr X) ⟨⟨HJW.out.js.below iq, HJW.out.res⟩, by repeat (first | (with_reducible exact Below.refl _ _) | apply aC | apply ak)⟩ ?_
          clear b1 b6 k0 c0 HJW
          rintro X ⟨hjw, hbx⟩
          have hb := HB.out.1
          have hx := HB.out.2.1
          have hrow := hjw.js.wk.row.row
          have hcb := hjw.js.wk.row.code a _ hb
          have hcn := hjw.js.wk.row.code y _ hx
          have p0 : X.cell? ⟨gb, a * 8, none⟩ = some (.slice Ab b.f0.length cb) := (ae hrow (a * 8 + 0)).trans (cZ hb (by omega))
          have q0 : X.cell? ⟨gb, y * 8, none⟩ = some (.slice An nx.f0.length cn) := (ae hrow (y * 8 + 0)).trans (cZ hx (by omega))
          have HRB : aa (k45.R 45 X.drew B.n (fun _ => True) (.slice Ab b.f0.length cb) b.f0) := ⟨og (hcb.below (ak (Below.refl _ _))) (fun g hg => ⟨hjw.js.wk.row.lo.2 _ (List.mem_of_getElem? hb) g hg, trivial⟩)⟩
          have HCN : aa (k45.C X.drew An nx.f0.length nx.f0) := ⟨Cd.c (hcn.below (ak (Below.refl _ _)))⟩
          have HLW : aa (Below B.n w X.drew ∧ B.n ≤ X.drew.heap.size) := ⟨⟨hjw.js.low.trans ⟨rfl, rfl, rfl, Nat.le_refl _, fun _ _ => rfl⟩, by have h1 := ay hjw.js.wk.me; have h2 := hjw.js.wk.lo; show B.n ≤ X.heap.size; omega⟩⟩
          have HNO : aa (∀ x, some x = (Value.slice Ab b.f0.length cb).ownBlock → x ≠ gb ∧ x ≠ gn) := ⟨fun x e => by
           obtain ⟨cs, h1⟩ := hcb.lt e.symm
           exact ⟨bS h1 hrow (by decide), bS h1 hjw.js.nb (by decide)⟩⟩
          have HJW := aa.mk hjw
          have HBX := aa.mk hbx
          clear hb hx hrow hcb hcn hjw hbx
          refine eU 10 (fun w' => w'.cell? ⟨gb, a * 8, none⟩ = some (.slice Ab b.f0.length cb) ∧ w'.cell? ⟨gb, y * 8, none⟩ = some (.slice An nx.f0.length cn)) [8] ⟨p0, q0⟩ (fun hHeld => ?_)
          refine aH 0 85 ?_
          refine aH 1 86 ?_
          refine aH 2 87 ?_
          refine aH 4 89 ?_
          refine aH 5 90 ?_
          refine aH 6 91 ?_
          refine dC 3 88 hHeld ?_
          refine dC 7 92 hHeld ?_
          refine gH 8 (some 93) (fun K hK => ?_)
          refine wG k45 (Rr := k45.K X.drew) (w0 := w) (W := X.drew) B.n (.tmp 88) (.tmp 92) 26 45 (.agg #[.int .u16 0, .int .u8 0, .int .u8 0, .int .u32 0]) 8 (by rfl) (by rfl) hu ng rfl (by decide) (by decide) (.slice Ab b.f0.length cb) b.f0 nx.f0 An nx.f0.length cn (by rfl) (by rfl) HRB.out HCN.out (fun x cs h => by obtain rfl := ko h; exact jg _ _ _ x) HLW.out.1 HLW.out.2 (by have := HLEN.out; omega) ?_
          intro v1 w1 hR hB hG hat
          obtain ⟨A1, cc1, rfl⟩ := Kd.ig hR
          have HAP := aa.mk (And.intro hR (And.intro hG hat))
          clear hR hB hG hat
          refine hK.out _ _ ?_
          clear hK K
          refine fJ 93 ?_
          refine aH 9 10 ?_
          refine iE (by kernel_rfl) ?_
          go_upto_region 18 with (fail)
          refine forget (fun Y => Kp (fun x => some x = (Value.slice Ab b.f0.length cb).ownBlock) X Y ∧ Cd Y (.slice A1 (b.f0.length + nx.f0.length) cc1) (b.f0 ++ nx.f0)) ⟨((Kp.refl _ X).below (ak (Below.refl _ _))).grown HAP.out.2.1 (fun b hb => .inl hb.symm), by have h := l7 HAP.out.1; rw [List.length_append] at h; exact h⟩ ?_
          have HAT : aa ((Value.slice A1 (b.f0.length + nx.f0.length) cc1).ownBlock = (Value.slice Ab b.f0.length cb).ownBlock ∨ ∃ g, (Value.slice A1 (b.f0.length + nx.f0.length) cc1).ownBlock = some g ∧ X.heap.size ≤ g) := ⟨by have h := HAP.out.2.2; rw [List.length_append] at h; exact h⟩
          clear p0 q0 HRB HCN HLW HAP
          rintro Y ⟨hky, hcy⟩
          have hrow : Y.heap[gb]? = some (.cells (bC bsn tl) 47 (0, 0)) := (hky.block gb (ay HJW.out.js.wk.row.row) (fun e => (HNO.out gb e).1 rfl)).trans HJW.out.js.wk.row.row
          have hnb : Y.heap[gn]? = some (.cells (inC (frI fr)) 3 (0, 0)) := (hky.block gn (ay HJW.out.js.nb) (fun e => (HNO.out gn e).2 rfl)).trans HJW.out.js.nb
          have b6 : Y.cell? ⟨gb, a * 8 + 6, none⟩ = some (.int .i64 (y : Int)) := by
           have e : b.f3 = (y : Int) := by
            have h := HB.out.2.2.1
            have hgy := bu (HJW.out.js.gok.all a b (by rw [List.getElem?_map, HB.out.1]; rfl)).goal (by have := HB.out.2.2.2.1; omega)
            omega
           rw [← e]; exact (ae hrow (a * 8 + 6)).trans (cZ HB.out.1 (by omega))
          have kz : Y.frozen? ⟨gn, y, none⟩ = false := af hnb y
          have k0 : Y.cell? ⟨gn, y, none⟩ = some (.int .i64 (fr.getD y 0 : Nat)) := by rw [← rD]; exact (ae hnb y).trans (ky (by rw [HFL.out]; exact hyL))
          have HY := aa.mk (And.intro hky (And.intro hcy (And.intro hrow hnb)))
          clear hky hcy hrow hnb
          go_upto_region 19 with (fail)
          refine forget (fun Z => Kp (fun x => x = gb ∨ x = gn ∨ some x = (Value.slice Ab b.f0.length cb).ownBlock) X Z ∧ Cd Z (.slice A1 (b.f0.length + nx.f0.length) cc1) (b.f0 ++ nx.f0) ∧ Z.heap[gb]? = some (.cells (bC bsn tl) 47 (0, 0)) ∧ Z.heap[gn]? = some (.cells (inC (frI (fr.set y 0))) 3 (0, 0)))
           ⟨(Kp.mono HY.out.1 (fun x e => .inr (.inr e))).set (.inl (.inr (.inl rfl))) _ _, HY.out.2.1.kp ((Kp.refl (fun x => x = gn) Y).set (.inl rfl) _ _) (fun g hg e => by
            subst e
            obtain ⟨cs, h1⟩ := HY.out.2.1.lt hg
            exact bS h1 HY.out.2.2.2 (by decide) rfl), (Deep.blk_setCell_other _ _ _ _ (bS HY.out.2.2.1 HY.out.2.2.2 (by decide))).trans HY.out.2.2.1, aN HY.out.2.2.2 y _ ((rF y 0).trans (by rw [frI_set]))⟩ ?_
          clear b6 kz k0 HY
          rintro Z ⟨hkz, hcz, hrow, hnb⟩
          have g := fun (jj : Nat) (hh : jj < 8) => (ae hrow (y * 8 + jj)).trans (cZ HB.out.2.1 hh)
          have q1 : Z.cell? ⟨gb, y * 8 + 1, none⟩ = some (.int .i64 nx.f1) := g 1 (by omega)
          have q2 : Z.cell? ⟨gb, y * 8 + 2, none⟩ = some (.int .u16 nx.f2.f0) := g 2 (by omega)
          have q3 : Z.cell? ⟨gb, y * 8 + 3, none⟩ = some (.int .u8 nx.f2.f1) := g 3 (by omega)
          have q4 : Z.cell? ⟨gb, y * 8 + 4, none⟩ = some (.int .u8 nx.f2.f2) := g 4 (by omega)
          have q5 : Z.cell? ⟨gb, y * 8 + 5, none⟩ = some (.int .u32 nx.f2.f3) := g 5 (by omega)
          have q6 : Z.cell? ⟨gb, y * 8 + 6, none⟩ = some (.int .i64 nx.f3) := g 6 (by omega)
          have q7 : Z.cell? ⟨gb, y * 8 + 7, none⟩ = some (.int .i64 nx.f4) := g 7 (by omega)
          have z0 : Z.frozen? ⟨gb, a * 8, none⟩ = false := af hrow (a * 8 + 0)
          have z1 := af hrow (a * 8 + 1)
          have z2 := af hrow (a * 8 + 2)
          have z3 := af hrow (a * 8 + 3)
          have z4 := af hrow (a * 8 + 4)
          have z5 := af hrow (a * 8 + 5)
          have z6 := af hrow (a * 8 + 6)
          have z7 := af hrow (a * 8 + 7)
          have p0 : Z.cell? ⟨gb, a * 8, none⟩ = some (.slice Ab b.f0.length cb) := (ae hrow (a * 8 + 0)).trans (cZ HB.out.1 (by omega))
          have p1 : Z.cell? ⟨gb, a * 8 + 1, none⟩ = some (.int .i64 b.f1) := (ae hrow (a * 8 + 1)).trans (cZ HB.out.1 (by omega))
          have p2 : Z.cell? ⟨gb, a * 8 + 2, none⟩ = some (.int .u16 b.f2.f0) := (ae hrow (a * 8 + 2)).trans (cZ HB.out.1 (by omega))
          have p3 : Z.cell? ⟨gb, a * 8 + 3, none⟩ = some (.int .u8 b.f2.f1) := (ae hrow (a * 8 + 3)).trans (cZ HB.out.1 (by omega))
          have p4 : Z.cell? ⟨gb, a * 8 + 4, none⟩ = some (.int .u8 b.f2.f2) := (ae hrow (a * 8 + 4)).trans (cZ HB.out.1 (by omega))
          have p5 : Z.cell? ⟨gb, a * 8 + 5, none⟩ = some (.int .u32 b.f2.f3) := (ae hrow (a * 8 + 5)).trans (cZ HB.out.1 (by omega))
          have p6 : Z.cell? ⟨gb, a * 8 + 6, none⟩ = some (.int .i64 b.f3) := (ae hrow (a * 8 + 6)).trans (cZ HB.out.1 (by omega))
          have p7 : Z.cell? ⟨gb, a * 8 + 7, none⟩ = some (.int .i64 b.f4) := (ae hrow (a * 8 + 7)).trans (cZ HB.out.1 (by omega))
          have HZ := aa.mk (And.intro hkz (And.intro hcz (And.intro hrow hnb)))
          clear g hkz hcz hrow hnb
          refine eU 21 (fun w' => w'.cell? ⟨gb, y * 8 + 1, none⟩ = some (.int .i64 nx.f1) ∧ w'.cell? ⟨gb, y * 8 + 2, none⟩ = some (.int .u16 nx.f2.f0) ∧ w'.cell? ⟨gb, y * 8 + 3, none⟩ = some (.int .u8 nx.f2.f1) ∧ w'.cell? ⟨gb, y * 8 + 4, none⟩ = some (.int .u8 nx.f2.f2) ∧ w'.cell? ⟨gb, y * 8 + 5, none⟩ = some (.int .u32 nx.f2.f3) ∧ w'.cell? ⟨gb, y * 8 + 6, none⟩ = some (.int .i64 nx.f3) ∧ w'.cell? ⟨gb, y * 8 + 7, none⟩ = some (.int .i64 nx.f4) ∧ w'.frozen? ⟨gb, a * 8, none⟩ = false ∧ w'.frozen? ⟨gb, a * 8 + 1, none⟩ = false ∧ w'.frozen? ⟨gb, a * 8 + 2, none⟩ = false ∧ w'.frozen? ⟨gb, a * 8 + 3, none⟩ = false ∧ w'.frozen? ⟨gb, a * 8 + 4, none⟩ = false ∧ w'.frozen? ⟨gb, a * 8 + 5, none⟩ = false ∧ w'.frozen? ⟨gb, a * 8 + 6, none⟩ = false ∧ w'.frozen? ⟨gb, a * 8 + 7, none⟩ = false ∧ w'.cell? ⟨gb, a * 8, none⟩ = some (.slice Ab b.f0.length cb) ∧ w'.cell? ⟨gb, a * 8 + 1, none⟩ = some (.int .i64 b.f1) ∧ w'.cell? ⟨gb, a * 8 + 2, none⟩ = some (.int .u16 b.f2.f0) ∧ w'.cell? ⟨gb, a * 8 + 3, none⟩ = some (.int .u8 b.f2.f1) ∧ w'.cell? ⟨gb, a * 8 + 4, none⟩ = some (.int .u8 b.f2.f2) ∧ w'.cell? ⟨gb, a * 8 + 5, none⟩ = some (.int .u32 b.f2.f3) ∧ w'.cell? ⟨gb, a * 8 + 6, none⟩ = some (.int .i64 b.f3) ∧ w'.cell? ⟨gb, a * 8 + 7, none⟩ = some (.int .i64 b.f4)) [20] ⟨q1, q2, q3, q4, q5, q6, q7, z0, z1, z2, z3, z4, z5, z6, z7, p0, p1, p2, p3, p4, p5, p6, p7⟩ (fun hHeld => ?_)
          refine aH 0 100 ?_
          refine aH 1 101 ?_
          refine aH 2 102 ?_
          refine aH 3 103 ?_
          refine aH 4 104 ?_
          refine aH 6 106 ?_
          refine aH 7 107 ?_
          refine aH 8 108 ?_
          refine aH 10 110 ?_
          refine aH 11 111 ?_
          refine aH 12 112 ?_
          refine aH 14 114 ?_
          refine aH 15 115 ?_
          refine aH 16 116 ?_
          refine dC 5 105 hHeld ?_
          refine dC 9 109 hHeld ?_
          refine dC 13 113 hHeld ?_
          refine dC 17 117 hHeld ?_
          refine aH 18 118 ?_
          refine aH 19 119 ?_
          refine gH 20 none (fun K hK => ?_)
          refine iB ?_
          refine hK.out _ _ ?_
          clear hK K
          refine iE (by kernel_rfl) ?_
          go_upto_region 20 with (fail)
          refine forget (fun U => Kp (fun x => x = gb ∨ x = gn ∨ some x = (Value.slice Ab b.f0.length cb).ownBlock) X U ∧ Cd U (.slice A1 (b.f0.length + nx.f0.length) cc1) (b.f0 ++ nx.f0) ∧ U.heap[gb]? = some (.cells (bC (bsn.set a ((.slice A1 (b.f0.length + nx.f0.length) cc1), mgB b nx)) tl) 47 (0, 0)) ∧ U.heap[gn]? = some (.cells (inC (frI (fr.set y 0))) 3 (0, 0)))
           (by
             have hk8 : Kp (fun x => x = gb) Z (uM Z gb a ((.slice A1 (b.f0.length + nx.f0.length) cc1), mgB b nx)).drew := (vY (Kp.refl (fun x => x = gb) Z) rfl).below (ak (Below.refl _ _))
             have hk9 : Kp (fun x => x = gb ∨ x = gn ∨ some x = (Value.slice Ab b.f0.length cb).ownBlock) X (uM Z gb a ((.slice A1 (b.f0.length + nx.f0.length) cc1), mgB b nx)).drew := HZ.out.1.trans (Kp.mono hk8 (fun x e => .inl e))
             have hc9 : Cd (uM Z gb a ((.slice A1 (b.f0.length + nx.f0.length) cc1), mgB b nx)).drew (.slice A1 (b.f0.length + nx.f0.length) cc1) (b.f0 ++ nx.f0) := HZ.out.2.1.kp hk8 (fun g hg e => by
              subst e
              obtain ⟨cs, h1⟩ := HZ.out.2.1.lt hg
              exact bS h1 HZ.out.2.2.1 (by decide) rfl)
             have hr9 := bz (tJ HZ.out.2.2.1 HB.out.1 ((.slice A1 (b.f0.length + nx.f0.length) cc1), mgB b nx))
             have hn9 := (hk8.block gn (ay HZ.out.2.2.2) (bS HZ.out.2.2.2 HZ.out.2.2.1 (by decide))).trans HZ.out.2.2.2
             exact ⟨hk9, hc9, hr9, hn9⟩) ?_
          clear p0 p1 p2 p3 p4 p5 p6 p7 q1 q2 q3 q4 q5 q6 q7 z0 z1 z2 z3 z4 z5 z6 z7 HZ
          rintro U ⟨hku, hcu, hrow, hnb⟩
          have z0 : U.frozen? ⟨gb, y * 8, none⟩ = false := af hrow (y * 8 + 0)
          have z1 := af hrow (y * 8 + 1)
          have z2 := af hrow (y * 8 + 2)
          have z3 := af hrow (y * 8 + 3)
          have z4 := af hrow (y * 8 + 4)
          have z5 := af hrow (y * 8 + 5)
          have z6 := af hrow (y * 8 + 6)
          have z7 := af hrow (y * 8 + 7)
          have hx2 : (bsn.set a ((.slice A1 (b.f0.length + nx.f0.length) cc1), mgB b nx))[y]? = some (.slice An nx.f0.length cn, nx) := by rw [List.getElem?_set_ne (by omega)]; exact HB.out.2.1
          have q0 : U.cell? ⟨gb, y * 8, none⟩ = some (.slice An nx.f0.length cn) := (ae hrow (y * 8 + 0)).trans (cZ hx2 (by omega))
          have q1 : U.cell? ⟨gb, y * 8 + 1, none⟩ = some (.int .i64 nx.f1) := (ae hrow (y * 8 + 1)).trans (cZ hx2 (by omega))
          have q2 : U.cell? ⟨gb, y * 8 + 2, none⟩ = some (.int .u16 nx.f2.f0) := (ae hrow (y * 8 + 2)).trans (cZ hx2 (by omega))
          have q3 : U.cell? ⟨gb, y * 8 + 3, none⟩ = some (.int .u8 nx.f2.f1) := (ae hrow (y * 8 + 3)).trans (cZ hx2 (by omega))
          have q4 : U.cell? ⟨gb, y * 8 + 4, none⟩ = some (.int .u8 nx.f2.f2) := (ae hrow (y * 8 + 4)).trans (cZ hx2 (by omega))
          have q5 : U.cell? ⟨gb, y * 8 + 5, none⟩ = some (.int .u32 nx.f2.f3) := (ae hrow (y * 8 + 5)).trans (cZ hx2 (by omega))
          have q6 : U.cell? ⟨gb, y * 8 + 6, none⟩ = some (.int .i64 nx.f3) := (ae hrow (y * 8 + 6)).trans (cZ hx2 (by omega))
          have q7 : U.cell? ⟨gb, y * 8 + 7, none⟩ = some (.int .i64 nx.f4) := (ae hrow (y * 8 + 7)).trans (cZ hx2 (by omega))
          have hr2 := tJ hrow hx2 (.slice none 0 0, jR)
          have hk2 : Kp (fun x => x = gb) U (uM U gb y (.slice none 0 0, jR)) := vY (Kp.refl _ U) rfl
          have hwk := join_wk HJW.out.js HB.out.1 HB.out.2.1 (by omega) hku hrow hcu HAT.out hk2 hr2
          have HEND := aa.mk (HJW.out.step HB.out.2.2.1 HB.out.1 HB.out.2.1 HB.out.2.2.2.1 HB.out.2.2.2.2 hwk.1 hwk.2 ((hk2.block gn (ay hnb) (bS hnb hrow (by decide))).trans hnb))
          have hnew : ((bsn.set a ((.slice A1 (b.f0.length + nx.f0.length) cc1), mgB b nx)).set y (.slice none 0 0, jR))[a]? = some ((.slice A1 (b.f0.length + nx.f0.length) cc1), mgB b nx) := by rw [List.getElem?_set_ne (by omega)]; exact aK HB.out.1
          have HME : aa (mJ (uM U gb y (.slice none 0 0, jR)) gb a n < mJ wr gb a n) := ⟨by
           rw [HMJ.out, mJ_eq hr2 hnew]
           show (if nx.f1 = 2 then n - nx.f3.toNat else 0) < _
           split
           · rename_i e; have := HGY.out e; omega
           omega⟩
          clear hku hcu hrow hnb hx2 hr2 hk2 hwk hnew
          go_wp2
          go_roundw
          case rel => exact ⟨true, _, _, rfl, HEND⟩
          case measure => exact HME.out
        have h1' : ((fr.getD y 0 : Nat) : Int) ≠ 1 := by omega
        have h1b : (((fr.getD y 0 : Nat) : Int) == 1) = false := bn h1'
        have HE : aa (JL w wr B gw gb cap tl gn n T (a + 1) f bsn fr) := ⟨HJW.out.leave (by
         unfold jnY
         rw [hga]
         dsimp only
         rw [if_neg (by rw [hyT]; exact fun q => h1 q.2)])⟩
        rw [h2] at b1
        obtain ⟨fy, efy⟩ : ∃ fy, fy = fr.getD y 0 := ⟨_, rfl⟩
        rw [← efy] at k0 h1b h1'
        clear hga hgl hgy hb hy hyT h1 h2 hfl HJW efy
        go_wp2
        go_roundw
        case rel => exact ⟨a + 1, f, _, _, by omega, by go_num, rfl, HE⟩
        case measure => simp [intOf]; omega
      have h2b : (b.f1 == 2) = false := bn h2
      have HE : aa (JL w wr B gw gb cap tl gn n T (a + 1) f bsn fr) := ⟨HJW.out.leave (by
       unfold jnY
       rw [hga]
       dsimp only
       rw [if_neg (fun q => h2 q.1)])⟩
      clear hga hgl hb h2 HJW
      go_wp2
      go_roundw
      case rel => exact ⟨a + 1, f, _, _, by omega, by go_num, rfl, HE⟩
      case measure => simp [intOf]; omega
   have han : a = n := by omega
   subst han
   have hres := HJL.out.res
   rw [Nat.sub_self, jnL, Bool.or_false] at hres
   have HE := aa.mk hres
   clear hres hlt
   go_wp2
   go_ret
   rw [← ET.out, HE.out]
   exact ⟨rfl, ⟨bsn, rfl, HJL.out.js.wk⟩, HJL.out.js.low⟩
theorem rW (w : World) : Calls Try.prog 53 #[] w fun e w' => e = .returned (.slice (some ⟨w.heap.size, 0, none⟩) 6 6) ∧ w' = w.alloc (.cells psC 86) := by
 go_enter Try.func53, Try.ntmps53
 go_wp2
 go_ret
 exact ⟨rfl, rfl⟩
structure BI (w X : World) (gw : Nat) (vw : Value) (bs : List (Value × S47)) : Prop where
 low : Below w.heap.size w X
 me : X.heap[gw]? = some (.cells #[vw] 83 (0, 0))
 lo : w.heap.size ≤ gw
 out : (Kd.raw 8).R 47 X w.heap.size (fun _ => True) vw (bs.map b8)
 code : ∀ (i : Nat) (p : Value × S47), bs[i]? = some p → Cd X p.1 p.2.f0
 apt : Apt bs
 own : ∀ p ∈ bs, ∀ g, p.1.ownBlock = some g → w.heap.size ≤ g
section
variable {w X Y : World} {gw : Nat} {vw : Value} {bs : List (Value × S47)} {b : S47}
theorem BI.below (h : BI w X gw vw bs) (hb : Below X.heap.size X Y) : BI w Y gw vw bs :=
 ⟨ax h.low hb, aj h.me hb, h.lo, Kd.iC h.out hb, fun i p hp => (h.code i p hp).below hb, h.apt, h.own⟩
theorem BI.snoc {w5 : World} {vc v1 : Value} (H : BI w X gw vw bs) (hb : Below X.heap.size X Y) (hc : Cd Y vc b.f0) (hvc : ∀ g, vc.ownBlock = some g → X.heap.size ≤ g)
 (hR : (Kd.raw 8).R 47 w5 w.heap.size (fun _ => True) v1 (bs.map b8 ++ [b8 (vc, b)])) (hB : Below w.heap.size w w5) (hG : Y.drew.grownBy w5 vw.ownBlock) : BI w (w5.setCell ⟨gw, 0, none⟩ v1) gw v1 (bs ++ [(vc, b)]) := by
 have HY := H.below hb
 have hk : Kp (fun x => some x = vw.ownBlock) Y w5 := ((Kp.refl _ Y).below (ak (Below.refl _ _))).grown hG (fun b hb => .inl hb.symm)
 have hme : w5.heap[gw]? = some (.cells #[vw] 83 (0, 0)) := (hk.block gw (ay HY.me) (Kd.xP HY.out HY.me (by decide))).trans HY.me
 have hcd : ∀ (v : Value) (c : List S45), Cd Y v c → Cd (w5.setCell ⟨gw, 0, none⟩ v1) v c := by
  intro v c hv
  have h1 : Cd w5 v c := hv.kp hk (fun g hg => by
   obtain ⟨cs, h1⟩ := hv.lt hg
   exact Kd.xP HY.out h1 (by decide))
  exact h1.kp ((Kp.refl (fun x => x = gw) w5).set (.inl rfl) 0 v1) (fun g hg e => by
   subst e
   obtain ⟨cs, h2⟩ := h1.lt hg
   exact bS hme h2 (by decide) rfl)
 refine ⟨hB.setCell H.lo _, aN hme 0 v1 rfl, H.lo, ?_, ?_, ?_, ?_⟩
 · rw [List.map_append]
   exact Kd.sJ hR hme (by decide) 0 v1
 · intro i p hp
   by_cases hi : i < bs.length
   · rw [List.getElem?_append_left hi] at hp
     exact hcd _ _ (HY.code i p hp)
   rw [List.getElem?_append_right (by omega)] at hp
   have h0 : i - bs.length = 0 := by
    have := (List.getElem?_eq_some_iff.1 hp).1
    simp at this
    omega
   rw [h0] at hp
   cases hp
   exact hcd _ _ hc
 · have ha := H.apt
   unfold Apt at ha ⊢
   rw [List.map_append]
   refine List.pairwise_append.2 ⟨ha, List.pairwise_singleton _ _, ?_⟩
   intro p hp q hq g hg hg2
   obtain ⟨p', hp', rfl⟩ := List.mem_map.1 hp
   obtain rfl := List.mem_singleton.1 hq
   obtain ⟨j, hj, rfl⟩ := List.getElem_of_mem hp'
   obtain ⟨cs, h1⟩ := (H.code j _ (List.getElem?_eq_getElem hj)).lt hg
   have h2 := ay h1
   have h3 := hvc g hg2
   omega
 intro p hp g hg
 rcases List.mem_append.1 hp with h | h
 · exact H.own p h g hg
 obtain rfl := List.mem_singleton.1 h
 have := hvc g hg
 have := H.low.size
 omega
end
def pI : Nat → List S47 → List S47 × Bool
 | 0 => jm
 | 1 => iY
 | 2 => jJ
 | 3 => iF
 | 4 => iT
 | _ => jM
theorem rV (j : Nat) {g : List S47} (hg : GOk g) : jy g (pI j g).1 (pI j g).2 := by
 match j with
 | 0 => exact jW hg
 | 1 => exact jS hg
 | 2 => exact jT hg
 | 3 => exact jX hg
 | 4 => exact jU hg
 | _ + 5 => exact nN hg
def psG (g : List S47) : Nat → List S47 × Bool
 | 0 => (g, false)
 | j + 1 => ((pI j (psG g j).1).1, (pI j (psG g j).1).2 || (psG g j).2)
theorem psG_6 (g : List S47) : psG g 6 = iA g := by
 unfold iA
 simp only [psG, pI, r1, r2, r3, r4, r5, r6, Bool.or_false]
theorem psG_ok {g : List S47} (hg : GOk g) : ∀ j, GOk (psG g j).1 := by
 intro j
 induction j with
 | zero => exact hg
 | succ j ih => exact (rV j ih).gok
structure IA (w X : World) (gw gp : Nat) (R : List S47) (k : Nat) (f : Bool) (gb cap : Nat) (bs : List (Value × S47)) (tl : List Value) : Prop where
 wr : Wr8 X w.heap.size gb cap bs tl
 me : X.heap[gw]? = some (.cells #[.slice (some ⟨gb, 0, none⟩) bs.length cap] 83 (0, 0))
 lo : w.heap.size ≤ gw
 low : Below w.heap.size w X
 gok : GOk (bs.map (·.2))
 more : f = true → phG (bs.map (·.2)) < k ∧ qi k (bs.map (·.2)) = R
 done : f = false → bs.map (·.2) = R
structure IB (w X : World) (gw gp : Nat) (x : List S47) (j : Nat) (f : Bool) (gb cap : Nat) (bs : List (Value × S47)) (tl : List Value) : Prop where
 wk : Wk X ⟨w.heap.size, gp⟩ gw gb cap bs tl
 low : Below w.heap.size w X
 eq : (bs.map (·.2), f) = psG x j
section
variable {w X Y : World} {gw gp k gb cap j : Nat} {R x : List S47} {f : Bool} {bs : List (Value × S47)} {tl : List Value}
theorem IA.start {gp' : Nat} (h : IA w X gw gp R k f gb cap bs tl) (hb : Below X.heap.size X Y) (hp : Y.heap[gp']? = some (.cells psC 86 (0, 0))) : IB w Y gw gp' (bs.map (·.2)) 0 false gb cap bs tl :=
 ⟨⟨aj h.me hb, h.wr.below hb, h.lo, hp⟩, ax h.low hb, rfl⟩
theorem IA.next (h : IA w X gw gp R (k + 1) true gb cap bs tl) {gp2 gb2 cap2 : Nat} {bs2 : List (Value × S47)} {tl2 : List Value} (h2 : IB w Y gw gp2 (bs.map (·.2)) 6 f gb2 cap2 bs2 tl2) : IA w Y gw gp2 R k f gb2 cap2 bs2 tl2 := by
 have e := h2.eq
 rw [psG_6] at e
 have e1 : bs2.map (·.2) = (iA (bs.map (·.2))).1 := congrArg Prod.fst e
 have e2 : f = (iA (bs.map (·.2))).2 := congrArg Prod.snd e
 have hb := kF h.gok
 obtain ⟨m1, m2⟩ := h.more rfl
 unfold qi at m2
 refine ⟨h2.wk.row, h2.wk.me, h2.wk.lo, h2.low, by rw [e1]; exact hb.gok, fun hf => ?_, fun hf => ?_⟩
 · rw [e2] at hf
   rw [if_pos hf] at m2
   have := hb.less hf
   rw [e1]
   exact ⟨by omega, m2⟩
 rw [e2] at hf
 rw [if_neg (by rw [hf]; decide)] at m2
 rw [e1]; exact m2
theorem IB.next (h : IB w X gw gp x j f gb cap bs tl) {gb2 cap2 : Nat} {bs2 : List (Value × S47)} {tl2 : List Value} {f2 : Bool} (hw : Wk Y ⟨w.heap.size, gp⟩ gw gb2 cap2 bs2 tl2) (hb : Below w.heap.size X Y) (e1 : bs2.map (·.2) = (pI j (bs.map (·.2))).1) (e2 : f2 = ((pI j (bs.map (·.2))).2 || f)) : IB w Y gw gp x (j + 1) f2 gb2 cap2 bs2 tl2 := by
 refine ⟨hw, h.low.trans hb, ?_⟩
 have e := h.eq
 have e3 : bs.map (·.2) = (psG x j).1 := congrArg Prod.fst e
 have e4 : f = (psG x j).2 := congrArg Prod.snd e
 rw [e1, e2, e3, e4]
 rfl
end
theorem BI.ia {w X : World} {gw : Nat} {vw : Value} {bs : List (Value × S47)} {g : List S47} (H : BI w X gw vw bs) (e : bs.map (·.2) = g) (hG : GOk g) : ∃ gb cap tl, IA w X gw 0 (qi (phG g + 1) g) (phG g + 1) true gb cap bs tl := by
 have hne : bs ≠ [] := by
  intro h
  have := hG.some_
  rw [← e, h] at this
  exact absurd this (by decide)
 obtain ⟨gb, cap, tl, e2, hge, hr, hs, hle, hmx⟩ := pJ H.out hne
 exact ⟨gb, cap, tl, ⟨hr, hs, hle, hmx, H.code, vI H.apt, hge, H.own⟩, by rw [← e2]; exact H.me, H.lo, H.low, by rw [e]; exact hG, fun _ => by rw [e]; exact ⟨Nat.lt_succ_self _, rfl⟩, fun h => by cases h⟩
theorem yT (X : World) : Cd (X.alloc (.cells #[] 45)) (.slice (some ⟨X.heap.size, 0, none⟩) 0 0) [] :=
 .inr ⟨X.heap.size, 0, [], rfl, ⟨heap_alloc_new _ _, Nat.le_refl _, Nat.zero_le _, rfl⟩⟩
theorem pg (w : World) (g : List S47) (A : Option Addr) (c k : Nat) (r : Int) (HG0 : Kd.C k47 w A g.length g) (hc : g.length ≤ c) (hck : dx.f k g = some (r, 0)) (hG : GOk g) :
 Calls Try.prog 27 #[.slice A g.length c] w fun e w' => ∃ gb cap bs tl, e = .returned (.tuple #[.slice (some ⟨gb, 0, none⟩) bs.length cap, .int .i64 0]) ∧ Wr8 w' w.heap.size gb cap bs tl ∧ bs.map (·.2) = qi (phG g + 1) g ∧ Below w.heap.size w w' := by
 have hL : g.length ≤ 4096 := hG.few
 have hu := Try.underlying26
 have hub := Try.underlying22
 have HA := aa.mk HG0
 have HCK := aa.mk (And.intro hc hck)
 have HG := aa.mk hG
 clear HG0 hc hck hG
 go_enter Try.func27, Try.ntmps27
 go_upto_region 2 with (go_at_call 52; refine (dx.calls k A c g r 0 w HA.out HCK.out.1 HCK.out.2).mono ?_; rintro e w2 ⟨rfl, hb2⟩; have HB2 := aa.mk hb2; clear hb2)
 go_upto_region 5 with (fail)
 refine forget (fun X => ∃ gw, gw = w2.heap.size ∧ BI w X gw (.slice none 0 0) []) ⟨_, rfl, ai HB2.out _, heap_alloc_new _ _, HB2.out.size, Kd.kK _ _ _ _ _, fun i p h => by simp at h, List.Pairwise.nil, fun p h => by cases h⟩ ?_
 rintro X ⟨gw, egw, hbi⟩
 rw [← egw]
 have HBI := aa.mk hbi
 clear egw hbi
 go_wp2
 go_loopw [23] (fun v23 wr => ∃ (n : Nat) (vw : Value) (bsn : List (Value × S47)), n ≤ g.length ∧ v23 = .int .i64 n ∧ aa (BI w wr gw vw bsn) ∧ aa (bsn.map (·.2) = g.take n)) (fun v23 _ => g.length - (intOf v23).toNat)
 case atStart => exact ⟨0, _, [], Nat.zero_le _, rfl, HBI, ⟨by rw [List.take_zero]; rfl⟩⟩
 case round =>
  clear HBI
  obtain ⟨n, vw, bsn, hn, rfl, HBI, HTK⟩ := hrel
  obtain ⟨Aw, lw, cw, rfl⟩ : ∃ Aw lw cw, vw = .slice Aw lw cw := by
   obtain ⟨A, c, e⟩ := Kd.ig HBI.out.out
   exact ⟨_, _, _, e⟩
  by_cases hlt : n < g.length
  · obtain ⟨a1, A1, c1, rfl, x0, x1, x2, x3, x4, x5, x6, x7, hl1, hi1⟩ := ku HA.out (n : Int) (by omega) (by omega)
    have hbl := HBI.out.low
    replace x0 := au hbl x0
    replace x1 := au hbl x1
    replace x2 := au hbl x2
    replace x3 := au hbl x3
    replace x4 := au hbl x4
    replace x5 := au hbl x5
    replace x6 := au hbl x6
    replace x7 := au hbl x7
    rw [Int.toNat_natCast] at x0 x1 x2 x3 x4 x5 x6 x7
    have htk : g.take n ++ [ah g (n : Int)] = g.take (n + 1) := by rw [List.take_succ_eq_append_getElem hlt, je hlt]
    have hgl : (ah g (n : Int)).f0.length ≤ 4096 := HG.out.len (j := n) (by rw [je hlt]; exact List.getElem?_eq_getElem hlt)
    have HT := aa.mk htk
    generalize ah g (n : Int) = b at *
    have HI := aa.mk (And.intro (Kd.dE hi1 hbl) (And.intro hl1 hgl))
    have p0 : (0 : Int) ≤ (n : Int) := by omega
    have p1 : (n : Int) < (g.length : Int) := by omega
    clear hi1 hl1 hgl hbl htk
    go_upto_region 8 with (fail)
    refine forget (fun Y => ∃ gt, gt = wr.heap.size ∧ Below wr.heap.size wr Y ∧ Y.heap[gt]? = some (.cells (b8 (.slice A1 b.f0.length c1, b)).toArray 47 (0, 0))) ⟨_, rfl, ai (Below.refl _ _) _, heap_alloc_new _ _⟩ ?_
    clear x0 x1 x2 x3 x4 x5 x6 x7
    rintro V ⟨gt, egt, hbv, hbt⟩
    rw [← egt]
    have EGT := aa.mk egt
    have HV := aa.mk (And.intro hbv hbt)
    have y0 := dZ hbt 0
    have ya : (V.alloc (.cells #[] 45)).cell? ⟨gt, 0, none⟩ = some (.slice A1 b.f0.length c1) := au (ai (Below.refl _ _) _) y0
    have HCV : aa (k45.C (V.alloc (.cells #[] 45)) A1 b.f0.length b.f0) := ⟨Kd.iQ (Kd.dE HI.out.1 hbv) _⟩
    have HRE : aa (k45.R 45 (V.alloc (.cells #[] 45)) V.heap.size (fun _ => True) (.slice (some ⟨V.heap.size, 0, none⟩) 0 0) []) := ⟨og (yT V) (fun g hg => ⟨by cases hg; exact Nat.le_refl _, trivial⟩)⟩
    clear egt hbv hbt
    go_upto_region 9 with (at_builtin; go_loud ((refine Kd.lM k45 (w0 := V) V.heap.size rfl (.tmp 27) (.tmp 29) 26 45 (.agg #[.int .u16 0, .int .u8 0, .int .u8 0, .int .u32 0]) 8 rfl hu ng rfl (by decide) (by decide) _ _ b.f0 _ b.f0.length c1 (fun _ => True) (fun _ => False) rfl rfl HRE.out HCV.out (fun x cs h => by obtain rfl := ko h; exact jg _ _ _ x) (fun _ h => h.elim) (fun _ _ => trivial) (ai (Below.refl _ _) _) (ai (Below.refl _ _) _).size (by have := HI.out.2.2; simp only [List.length_nil]; omega) ?_); intro v1 w5 ho hb hg hat; rw [List.nil_append] at ho; obtain ⟨Ac, cc, e2⟩ := Kd.ig ho; subst e2; have HC5 := aa.mk (And.intro ho hb); have y50 : w5.cell? ⟨gt, 0, none⟩ = some (.slice A1 b.f0.length c1) := (ae (aj HV.out.2 hb) 0).trans rfl; have y5f : w5.frozen? ⟨gt, 0, none⟩ = false := af (aj HV.out.2 hb) 0; clear ho hb hg hat))
    have HVC : aa (∀ g, (Value.slice Ac b.f0.length cc).ownBlock = some g → wr.heap.size ≤ g) := ⟨fun g hg => by
     obtain ⟨_, inner, ho2, _⟩ := HC5.out.1
     have h1 := jo ho2 g hg
     have h2 := HV.out.1.size
     omega⟩
    refine forget (fun Y => Y.heap[gt]? = some (.cells (b8 (.slice Ac b.f0.length cc, b)).toArray 47 (0, 0)) ∧ Cd Y (.slice Ac b.f0.length cc) b.f0 ∧ Below wr.heap.size wr Y) ⟨aN (aj HV.out.2 HC5.out.2) 0 _ rfl, (l7 HC5.out.1).kp ((Kp.refl (fun x => x = gt) w5).set (.inl rfl) 0 _) (fun g hg e => by
     subst e
     obtain ⟨cs, h2⟩ := (l7 HC5.out.1).lt hg
     exact bS (aj HV.out.2 HC5.out.2) h2 (by decide) rfl), (ax HV.out.1 HC5.out.2).setCell (by have := EGT.out; show _ ≤ gt; omega) _⟩ ?_
    clear y0 ya HCV HRE HC5 y50 y5f HV
    rintro Y ⟨hbt, hcd, hby⟩
    have HBY := aa.mk (HBI.out.below hby)
    have HCD := aa.mk (And.intro hcd hby)
    have HLB : aa ((bsn.map b8).length ≤ 4096) := ⟨by
     have h := congrArg List.length HTK.out
     rw [List.length_map, List.length_take] at h
     rw [List.length_map]; omega⟩
    have c0 := dZ HBY.out.me 0
    have cf : Y.frozen? ⟨gw, 0, none⟩ = false := af HBY.out.me 0
    have y0 := dZ hbt 0
    have y1 := dZ hbt 1
    have y2 := dZ hbt 2
    have y3 := dZ hbt 3
    have y4 := dZ hbt 4
    have y5 := dZ hbt 5
    have y6 := dZ hbt 6
    have y7 := dZ hbt 7
    clear hbt hcd hby
    refine eU 11 (fun w' => w'.cell? ⟨gw, 0, none⟩ = some (.slice Aw lw cw) ∧ w'.frozen? ⟨gw, 0, none⟩ = false ∧ w'.cell? ⟨gt, 0, none⟩ = some (.slice Ac b.f0.length cc) ∧ w'.cell? ⟨gt, 1, none⟩ = some (.int .i64 b.f1) ∧ w'.cell? ⟨gt, 2, none⟩ = some (.int .u16 b.f2.f0) ∧ w'.cell? ⟨gt, 3, none⟩ = some (.int .u8 b.f2.f1) ∧ w'.cell? ⟨gt, 4, none⟩ = some (.int .u8 b.f2.f2) ∧ w'.cell? ⟨gt, 5, none⟩ = some (.int .u32 b.f2.f3) ∧ w'.cell? ⟨gt, 6, none⟩ = some (.int .i64 b.f3) ∧ w'.cell? ⟨gt, 7, none⟩ = some (.int .i64 b.f4)) [7, 10] ⟨c0, cf, y0, y1, y2, y3, y4, y5, y6, y7⟩ (fun hHeld => ?_)
    refine aH 0 32 ?_
    refine aH 1 33 ?_
    refine aH 2 34 ?_
    refine aH 3 35 ?_
    refine dC 4 36 hHeld ?_
    refine dC 5 37 hHeld ?_
    refine iL 6 (some 38) (fun K hK => ?_)
    refine BZ (w1 := ?_) (v := ?_) (by rfl) rfl ?_ ?_
    rotate_left 2
    · go_simp
      constructor
      · rfl
      rfl
    refine hK.out _ _ ⟨(au (ak (ai (Below.refl _ _) _)) c0), (af (aj HBY.out.me (ak (ai (Below.refl _ _) _))) 0), (au (ak (ai (Below.refl _ _) _)) y0), (au (ak (ai (Below.refl _ _) _)) y1), (au (ak (ai (Below.refl _ _) _)) y2), (au (ak (ai (Below.refl _ _) _)) y3), (au (ak (ai (Below.refl _ _) _)) y4), (au (ak (ai (Below.refl _ _) _)) y5), (au (ak (ai (Below.refl _ _) _)) y6), (au (ak (ai (Below.refl _ _) _)) y7)⟩ (fun hHeld => ?_)
    clear hK K
    refine fJ 38 ?_
    refine gH 7 (some 39) (fun K hK => ?_)
    refine qg (Kd.raw 8) (w0 := w) (W := Y) w.heap.size (.tmp 36) (.tmp 38) 22 47 (.agg #[.slice none 0 0, .int .i64 0, .int .u16 0, .int .u8 0, .int .u8 0, .int .u32 0, .int .i64 0, .int .i64 0]) 56 (by rfl) (by rfl) hub ni rfl (by decide) (by decide) (.slice Aw lw cw) (bsn.map b8) (b8 (.slice Ac b.f0.length cc, b)) (b8 (.slice Ac b.f0.length cc, b)) (by rfl) (by rfl) ⟨rfl, rfl, qZ rfl⟩ HBY.out.out HBY.out.low HBY.out.low.size (by have := HLB.out; omega) ?_
    intro v1 w1 hR hB hG
    obtain ⟨A2, l2, cc2, e2⟩ : ∃ A2 l2 cc2, v1 = .slice A2 l2 cc2 := by (obtain ⟨A, c, e⟩ := Kd.ig hR; exact ⟨_, _, _, e⟩)
    have HAP := aa.mk (And.intro hR (And.intro hB hG))
    have hme1 : w1.heap[gw]? = some (.cells #[.slice Aw lw cw] 83 (0, 0)) := (hG.block gw (ay HBY.out.me) (Kd.xP HBY.out.out HBY.out.me (by decide))).trans HBY.out.me
    have w10 := dZ hme1 0
    have w1f : w1.frozen? ⟨gw, 0, none⟩ = false := af hme1 0
    clear hR hB hG hme1
    subst e2
    refine hK.out _ _ ?_
    clear hK K
    refine fJ 39 ?_
    refine aH 8 40 ?_
    refine aH 9 41 ?_
    refine gH 10 none (fun K hK => ?_)
    refine iB ?_
    refine hK.out _ _ ?_
    clear hK K
    refine iE (by kernel_rfl) ?_
    have HE : aa (BI w (w1.setCell ⟨gw, 0, none⟩ (.slice A2 l2 cc2)) gw (.slice A2 l2 cc2) (bsn ++ [(.slice Ac b.f0.length cc, b)])) := ⟨HBI.out.snoc HCD.out.2 HCD.out.1 HVC.out HAP.out.1 HAP.out.2.1 HAP.out.2.2⟩
    have HTE : aa ((bsn ++ [(Value.slice Ac b.f0.length cc, b)]).map (·.2) = g.take (n + 1)) := ⟨by rw [List.map_append, HTK.out, ← HT.out]; rfl⟩
    clear HBI HBY HCD HAP c0 cf y0 y1 y2 y3 y4 y5 y6 y7 w10 w1f
    go_wp2
    go_roundw
    case rel => exact ⟨n + 1, _, _, by omega, by go_num, HE, HTE⟩
    case measure => simp [intOf]; omega
  have hnl : n = g.length := by omega
  subst hnl
  have HTG : aa (bsn.map (·.2) = g) := ⟨by have h := HTK.out; rw [List.take_length] at h; exact h⟩
  obtain ⟨gb, cap, tl, hia⟩ := HBI.out.ia HTG.out HG.out
  obtain ⟨R, eR⟩ : ∃ R, R = qi (phG g + 1) g := ⟨_, rfl⟩
  rw [← eR] at hia
  have HIA := aa.mk hia
  have ER := aa.mk eR
  clear hia eR HBI HTK
  obtain ⟨wo, rfl⟩ : ∃ wo : World, wo = wr := ⟨_, rfl⟩
  go_wp2
  go_loopg [9] (phG g + 1) (fun kq v9 w' => ∃ (f : Bool) (gb cap : Nat) (bsn : List (Value × S47)) (tl : List Value) (gp : Nat), v9 = .bool f ∧ aa (IA w w' gw gp R kq f gb cap bsn tl))
  case atStart => exact ⟨true, gb, cap, bsn, tl, 0, rfl, HIA⟩
  case round =>
   clear HIA
   obtain ⟨f, gb, cap, bsn, tl, gp, rfl, HIA⟩ := hrel
   cases f with
   | false =>
    have c0 := dZ HIA.out.me 0
    go_wp2
    go_ret2
    exact ⟨gb, cap, bsn, tl, rfl, HIA.out.wr, by rw [HIA.out.done rfl, ER.out], HIA.out.low⟩
   | true =>
    cases gk with
    | zero => exact absurd (HIA.out.more rfl).1 (Nat.not_lt_zero _)
    | succ kq =>
     obtain ⟨wp, rfl⟩ : ∃ wp : World, wp = wr := ⟨_, rfl⟩
     go_wp2_with (go_at_call 53; refine (rW wp).mono ?_; rintro e w3 ⟨rfl, rfl⟩)
     refine forget (fun X => ∃ gp, gp = wp.heap.size ∧ IB w X gw gp (bsn.map (·.2)) 0 false gb cap bsn tl) ⟨_, rfl, HIA.out.start (ai (Below.refl _ _) _) (heap_alloc_new _ _)⟩ ?_
     rintro X ⟨gp2, egp, hib⟩
     rw [← egp]
     have HIB := aa.mk hib
     clear egp hib
     go_loopw [9, 46] (fun v9 v46 wr => ∃ (j : Nat) (f : Bool) (gb cap : Nat) (bs : List (Value × S47)) (tl : List Value), j ≤ 6 ∧ v46 = .int .i64 j ∧ v9 = .bool f ∧ aa (IB w wr gw gp2 (bsn.map (·.2)) j f gb cap bs tl)) (fun _ v46 _ => 6 - (intOf v46).toNat)
     case atStart => exact ⟨0, false, gb, cap, bsn, tl, by omega, rfl, rfl, HIB⟩
     case round =>
      clear HIB
      obtain ⟨j, f, gb2, cap2, bs2, tl2, hj, rfl, rfl, HIB⟩ := hrel
      have HGK : aa (GOk (bs2.map (·.2))) := ⟨by rw [show bs2.map (·.2) = (psG (bsn.map (·.2)) j).1 from congrArg Prod.fst HIB.out.eq]; exact psG_ok HIA.out.gok j⟩
      by_cases h6 : j < 6
      · have i0 : (0 : Int) ≤ (j : Int) := by omega
        have i1 : (j : Int) < 6 := by omega
        have hcase : j = 0 ∨ j = 1 ∨ j = 2 ∨ j = 3 ∨ j = 4 ∨ j = 5 := by omega
        rcases hcase with hj0 | hj0 | hj0 | hj0 | hj0 | hj0
        · have pc : wr.cell? ⟨gp2, j, none⟩ = some (.func (.func 83) #[] #[]) := (ae HIB.out.wk.ps j).trans (by rw [hj0]; rfl)
          have HCALL := aa.mk (uk wr ⟨w.heap.size, gp2⟩ gw gb2 cap2 bs2 tl2 HIB.out.wk HGK.out)
          have HJ0 := aa.mk hj0
          clear hj0
          go_upto_region 18 with (go_at_call 83; refine HCALL.out.mono ?_; rintro e w4 ⟨rfl, ⟨bs3, e3, hw3⟩, hb3⟩; have H3 := aa.mk (And.intro e3 (And.intro hw3 hb3)); clear e3 hw3 hb3; obtain ⟨fb, efb⟩ : ∃ fb, fb = (jm (bs2.map (·.2))).2 := ⟨_, rfl⟩; rw [← efb]; have EFB := aa.mk efb; clear efb; cases fb)
          · have HN : aa (IB w w4 gw gp2 (bsn.map (·.2)) (j + 1) f gb2 cap2 bs3 tl2) := ⟨HIB.out.next H3.out.2.1 H3.out.2.2 (by rw [HJ0.out]; exact H3.out.1) (by rw [HJ0.out]; show f = ((jm _).2 || f); rw [← EFB.out]; cases f <;> rfl)⟩
            clear pc HCALL H3 HIB EFB
            go_wp2
            go_roundw
            case rel => exact ⟨j + 1, f, _, _, _, _, by omega, by go_num, rfl, HN⟩
            case measure => simp [intOf]; omega
          have HN : aa (IB w w4 gw gp2 (bsn.map (·.2)) (j + 1) true gb2 cap2 bs3 tl2) := ⟨HIB.out.next H3.out.2.1 H3.out.2.2 (by rw [HJ0.out]; exact H3.out.1) (by rw [HJ0.out]; show true = ((jm _).2 || f); rw [← EFB.out]; rfl)⟩
          clear pc HCALL H3 HIB EFB
          go_wp2
          go_roundw
          case rel => exact ⟨j + 1, true, _, _, _, _, by omega, by go_num, rfl, HN⟩
          case measure => simp [intOf]; omega
        · have pc : wr.cell? ⟨gp2, j, none⟩ = some (.func (.func 84) #[] #[]) := (ae HIB.out.wk.ps j).trans (by rw [hj0]; rfl)
          have HCALL := aa.mk (rA wr ⟨w.heap.size, gp2⟩ gw gb2 cap2 bs2 tl2 HIB.out.wk HGK.out)
          have HJ0 := aa.mk hj0
          clear hj0
          go_upto_region 18 with (go_at_call 84; refine HCALL.out.mono ?_; rintro e w4 ⟨rfl, ⟨bs3, e3, hw3⟩, hb3⟩; have H3 := aa.mk (And.intro e3 (And.intro hw3 hb3)); clear e3 hw3 hb3; obtain ⟨fb, efb⟩ : ∃ fb, fb = (iY (bs2.map (·.2))).2 := ⟨_, rfl⟩; rw [← efb]; have EFB := aa.mk efb; clear efb; cases fb)
          · have HN : aa (IB w w4 gw gp2 (bsn.map (·.2)) (j + 1) f gb2 cap2 bs3 tl2) := ⟨HIB.out.next H3.out.2.1 H3.out.2.2 (by rw [HJ0.out]; exact H3.out.1) (by rw [HJ0.out]; show f = ((iY _).2 || f); rw [← EFB.out]; cases f <;> rfl)⟩
            clear pc HCALL H3 HIB EFB
            go_wp2
            go_roundw
            case rel => exact ⟨j + 1, f, _, _, _, _, by omega, by go_num, rfl, HN⟩
            case measure => simp [intOf]; omega
          have HN : aa (IB w w4 gw gp2 (bsn.map (·.2)) (j + 1) true gb2 cap2 bs3 tl2) := ⟨HIB.out.next H3.out.2.1 H3.out.2.2 (by rw [HJ0.out]; exact H3.out.1) (by rw [HJ0.out]; show true = ((iY _).2 || f); rw [← EFB.out]; rfl)⟩
          clear pc HCALL H3 HIB EFB
          go_wp2
          go_roundw
          case rel => exact ⟨j + 1, true, _, _, _, _, by omega, by go_num, rfl, HN⟩
          case measure => simp [intOf]; omega
        · have pc : wr.cell? ⟨gp2, j, none⟩ = some (.func (.func 85) #[] #[]) := (ae HIB.out.wk.ps j).trans (by rw [hj0]; rfl)
          have HCALL := aa.mk (ui wr ⟨w.heap.size, gp2⟩ gw gb2 cap2 bs2 tl2 HIB.out.wk HGK.out)
          have HJ0 := aa.mk hj0
          clear hj0
          go_upto_region 18 with (go_at_call 85; refine HCALL.out.mono ?_; rintro e w4 ⟨rfl, ⟨bs3, e3, hw3⟩, hb3⟩; have H3 := aa.mk (And.intro e3 (And.intro hw3 hb3)); clear e3 hw3 hb3; obtain ⟨fb, efb⟩ : ∃ fb, fb = (jJ (bs2.map (·.2))).2 := ⟨_, rfl⟩; rw [← efb]; have EFB := aa.mk efb; clear efb; cases fb)
          · have HN : aa (IB w w4 gw gp2 (bsn.map (·.2)) (j + 1) f gb2 cap2 bs3 tl2) := ⟨HIB.out.next H3.out.2.1 H3.out.2.2 (by rw [HJ0.out]; exact H3.out.1) (by rw [HJ0.out]; show f = ((jJ _).2 || f); rw [← EFB.out]; cases f <;> rfl)⟩
            clear pc HCALL H3 HIB EFB
            go_wp2
            go_roundw
            case rel => exact ⟨j + 1, f, _, _, _, _, by omega, by go_num, rfl, HN⟩
            case measure => simp [intOf]; omega
          have HN : aa (IB w w4 gw gp2 (bsn.map (·.2)) (j + 1) true gb2 cap2 bs3 tl2) := ⟨HIB.out.next H3.out.2.1 H3.out.2.2 (by rw [HJ0.out]; exact H3.out.1) (by rw [HJ0.out]; show true = ((jJ _).2 || f); rw [← EFB.out]; rfl)⟩
          clear pc HCALL H3 HIB EFB
          go_wp2
          go_roundw
          case rel => exact ⟨j + 1, true, _, _, _, _, by omega, by go_num, rfl, HN⟩
          case measure => simp [intOf]; omega
        · have pc : wr.cell? ⟨gp2, j, none⟩ = some (.func (.func 86) #[] #[]) := (ae HIB.out.wk.ps j).trans (by rw [hj0]; rfl)
          have HCALL := aa.mk (sU wr ⟨w.heap.size, gp2⟩ gw gb2 cap2 bs2 tl2 HIB.out.wk HGK.out)
          have HJ0 := aa.mk hj0
          clear hj0
          go_upto_region 18 with (go_at_call 86; refine HCALL.out.mono ?_; rintro e w4 ⟨rfl, ⟨bs3, e3, hw3⟩, hb3⟩; have H3 := aa.mk (And.intro e3 (And.intro hw3 hb3)); clear e3 hw3 hb3; obtain ⟨fb, efb⟩ : ∃ fb, fb = (iF (bs2.map (·.2))).2 := ⟨_, rfl⟩; rw [← efb]; have EFB := aa.mk efb; clear efb; cases fb)
          · have HN : aa (IB w w4 gw gp2 (bsn.map (·.2)) (j + 1) f gb2 cap2 bs3 tl2) := ⟨HIB.out.next H3.out.2.1 H3.out.2.2 (by rw [HJ0.out]; exact H3.out.1) (by rw [HJ0.out]; show f = ((iF _).2 || f); rw [← EFB.out]; cases f <;> rfl)⟩
            clear pc HCALL H3 HIB EFB
            go_wp2
            go_roundw
            case rel => exact ⟨j + 1, f, _, _, _, _, by omega, by go_num, rfl, HN⟩
            case measure => simp [intOf]; omega
          have HN : aa (IB w w4 gw gp2 (bsn.map (·.2)) (j + 1) true gb2 cap2 bs3 tl2) := ⟨HIB.out.next H3.out.2.1 H3.out.2.2 (by rw [HJ0.out]; exact H3.out.1) (by rw [HJ0.out]; show true = ((iF _).2 || f); rw [← EFB.out]; rfl)⟩
          clear pc HCALL H3 HIB EFB
          go_wp2
          go_roundw
          case rel => exact ⟨j + 1, true, _, _, _, _, by omega, by go_num, rfl, HN⟩
          case measure => simp [intOf]; omega
        · have pc : wr.cell? ⟨gp2, j, none⟩ = some (.func (.func 87) #[] #[]) := (ae HIB.out.wk.ps j).trans (by rw [hj0]; rfl)
          have HCALL := aa.mk (uj wr ⟨w.heap.size, gp2⟩ gw gb2 cap2 bs2 tl2 HIB.out.wk HGK.out)
          have HJ0 := aa.mk hj0
          clear hj0
          go_upto_region 18 with (go_at_call 87; refine HCALL.out.mono ?_; rintro e w4 ⟨rfl, ⟨gb3, cap3, bs3, tl3, e3, hw3⟩, hb3⟩; have H3 := aa.mk (And.intro e3 (And.intro hw3 hb3)); clear e3 hw3 hb3; obtain ⟨fb, efb⟩ : ∃ fb, fb = (iT (bs2.map (·.2))).2 := ⟨_, rfl⟩; rw [← efb]; have EFB := aa.mk efb; clear efb; cases fb)
          · have HN : aa (IB w w4 gw gp2 (bsn.map (·.2)) (j + 1) f gb3 cap3 bs3 tl3) := ⟨HIB.out.next H3.out.2.1 H3.out.2.2 (by rw [HJ0.out]; exact H3.out.1) (by rw [HJ0.out]; show f = ((iT _).2 || f); rw [← EFB.out]; cases f <;> rfl)⟩
            clear pc HCALL H3 HIB EFB
            go_wp2
            go_roundw
            case rel => exact ⟨j + 1, f, _, _, _, _, by omega, by go_num, rfl, HN⟩
            case measure => simp [intOf]; omega
          have HN : aa (IB w w4 gw gp2 (bsn.map (·.2)) (j + 1) true gb3 cap3 bs3 tl3) := ⟨HIB.out.next H3.out.2.1 H3.out.2.2 (by rw [HJ0.out]; exact H3.out.1) (by rw [HJ0.out]; show true = ((iT _).2 || f); rw [← EFB.out]; rfl)⟩
          clear pc HCALL H3 HIB EFB
          go_wp2
          go_roundw
          case rel => exact ⟨j + 1, true, _, _, _, _, by omega, by go_num, rfl, HN⟩
          case measure => simp [intOf]; omega
        have pc : wr.cell? ⟨gp2, j, none⟩ = some (.func (.func 88) #[] #[]) := (ae HIB.out.wk.ps j).trans (by rw [hj0]; rfl)
        have HCALL := aa.mk (uz wr ⟨w.heap.size, gp2⟩ gw gb2 cap2 bs2 tl2 HIB.out.wk HGK.out)
        have HJ0 := aa.mk hj0
        clear hj0
        go_upto_region 18 with (go_at_call 88; refine HCALL.out.mono ?_; rintro e w4 ⟨rfl, ⟨bs3, e3, hw3⟩, hb3⟩; have H3 := aa.mk (And.intro e3 (And.intro hw3 hb3)); clear e3 hw3 hb3; obtain ⟨fb, efb⟩ : ∃ fb, fb = (jM (bs2.map (·.2))).2 := ⟨_, rfl⟩; rw [← efb]; have EFB := aa.mk efb; clear efb; cases fb)
        · have HN : aa (IB w w4 gw gp2 (bsn.map (·.2)) (j + 1) f gb2 cap2 bs3 tl2) := ⟨HIB.out.next H3.out.2.1 H3.out.2.2 (by rw [HJ0.out]; exact H3.out.1) (by rw [HJ0.out]; show f = ((jM _).2 || f); rw [← EFB.out]; cases f <;> rfl)⟩
          clear pc HCALL H3 HIB EFB
          go_wp2
          go_roundw
          case rel => exact ⟨j + 1, f, _, _, _, _, by omega, by go_num, rfl, HN⟩
          case measure => simp [intOf]; omega
        have HN : aa (IB w w4 gw gp2 (bsn.map (·.2)) (j + 1) true gb2 cap2 bs3 tl2) := ⟨HIB.out.next H3.out.2.1 H3.out.2.2 (by rw [HJ0.out]; exact H3.out.1) (by rw [HJ0.out]; show true = ((jM _).2 || f); rw [← EFB.out]; rfl)⟩
        clear pc HCALL H3 HIB EFB
        go_wp2
        go_roundw
        case rel => exact ⟨j + 1, true, _, _, _, _, by omega, by go_num, rfl, HN⟩
        case measure => simp [intOf]; omega
      have hj6 : j = 6 := by omega
      have h7 : ¬ (j : Int) < 6 := by omega
      have HE := aa.mk (HIA.out.next (f := f) (by rw [← hj6]; exact HIB.out))
      clear hj6 HIB HGK
      go_wp2
      go_roundg kq
      case measure => omega
      case rel => exact ⟨f, gb2, cap2, bs2, tl2, gp2, rfl, HE⟩
theorem uy (w : World) (g : List S47) (A : Option Addr) (c k : Nat) (r e1 : Int) (HG0 : Kd.C k47 w A g.length g) (hc : g.length ≤ c) (hck : dx.f k g = some (r, e1)) (he : e1 ≠ 0) :
 Calls Try.prog 27 #[.slice A g.length c] w fun e w' => e = .returned (.tuple #[.slice none 0 0, .int .i64 170]) ∧ Below w.heap.size w w' := by
 have HA := aa.mk HG0
 have HCK := aa.mk (And.intro hc hck)
 have he2 : (e1 != 0) = true := bne_iff_ne.mpr he
 have he3 : (e1 == 0) = false := bn he
 clear HG0 hc hck he
 go_enter Try.func27, Try.ntmps27
 go_wp2_with (go_at_call 52; refine (dx.calls k A c g r e1 w HA.out HCK.out.1 HCK.out.2).mono ?_; rintro e w2 ⟨rfl, hb2⟩; have HB2 := aa.mk hb2; clear hb2)
 go_ret2
 exact ⟨rfl, HB2.out⟩
theorem gcheck (g : List S47) (hF : Fit g) (k : Nat) (hk : 10000 ≤ k) : ∃ r : Int × Int, dx.f k g = some r ∧ (r.2 = 0 ↔ TkB g = true) := by
 unfold dx.f TkB
 by_cases a : (g.length : Int) = 0
 · rw [if_pos a, decide_eq_false (by omega : ¬ 0 < g.length)]; exact ⟨_, rfl, by simp⟩
 rw [if_neg a, decide_eq_true (by omega : 0 < g.length)]
 by_cases b : (g.length : Int) > 4096
 · rw [if_pos b, decide_eq_false (by omega : ¬ g.length ≤ 4096)]; exact ⟨_, rfl, by simp⟩
 rw [if_neg b, decide_eq_true (by omega : g.length ≤ 4096)]
 obtain ⟨r, e, h⟩ := gck_l g (by omega) hF g.length 0 rfl (by omega) 4096 (by omega) (by omega) k (by omega)
 rw [show ((0 : Nat) : Int) = 0 from rfl] at e h
 rw [show (4096 : Int) - 4096 = 0 from rfl] at e
 rw [List.drop_zero] at h
 exact ⟨r, e, by simpa using h⟩
def gA2 : List S47 := [⟨[], 2, ⟨0, 0, 0, 0⟩, 1, 0⟩, ⟨[], 1, ⟨6, 0, 0, 7⟩, 0, 0⟩]
theorem aw2_ck : dx.f 10000 gA2 = some (0, 0) := by kernel_rfl
theorem aw2_tk : TkB gA2 = true := by decide +kernel
theorem aw2_imp : qi (phG gA2 + 1) gA2 = [⟨[], 1, ⟨6, 0, 0, 7⟩, 0, 0⟩] := by kernel_rfl
theorem aw2_ok : GOk gA2 := zh aw2_tk (by
 intro b hb
 have h : b = ⟨[], 2, ⟨0, 0, 0, 0⟩, 1, 0⟩ ∨ b = ⟨[], 1, ⟨6, 0, 0, 7⟩, 0, 0⟩ := by simpa [gA2] using hb
 rcases h with rfl | rfl
 · exact ⟨fun i hi => (by cases hi), by unfold Rg; decide⟩
 exact ⟨fun i hi => (by cases hi), by unfold Rg; decide⟩)
theorem vC {α : Type} (d : Kd α) (W : World) (e : Nat) (xs : List α) (inner : List Value) (hrep : fu (d.M W W.heap.size (fun _ => True)) d.sz xs inner) (hm : xs.length ≤ 9223372036854775807) :
 d.R e (W.alloc (.cells inner.toArray e)) W.heap.size (fun _ => True) (.slice (some ⟨W.heap.size, 0, none⟩) xs.length xs.length) xs := by
 refine ⟨fun _ _ => trivial, inner, ?_, ?_⟩
 · have h2 := World.ownsRow_lit (base := W.heap.size) (e := e) (size := d.sz) W inner.toArray xs.length (Nat.le_refl _) (by simpa [maxLen] using hm) (by simpa using hrep.1)
   simpa using h2
 refine hrep.kg (fun p c hp => d.M_mono (fun k hk => ⟨trivial, fun he => ?_⟩) (d.qU (d.M_bound hp) (ai (Below.refl _ _) _)))
 have h3 : k = W.heap.size := by simpa [Value.ownBlock] using he
 have := hk.2.2.1
 omega
theorem fu.one' {α : Type} {R : α → List Value → Prop} {size : Nat} {p : α} {c : List Value} (h : R p c) (hl : c.length = size) : fu R size [p] c := by
 have := fu.snoc (fu.none R size) h hl
 simpa using this
def cA2 : List Value := [.slice none 0 0, .int .i64 2, .int .u16 0, .int .u8 0, .int .u8 0, .int .u32 0, .int .i64 1, .int .i64 0, .slice none 0 0, .int .i64 1, .int .u16 6, .int .u8 0, .int .u8 0, .int .u32 7, .int .i64 0, .int .i64 0]
theorem aw2_C (w : World) : Kd.C k47 (w.alloc (.cells #[.slice none 0 0, .int .i64 2, .int .u16 0, .int .u8 0, .int .u8 0, .int .u32 0, .int .i64 1, .int .i64 0, .slice none 0 0, .int .i64 1, .int .u16 6, .int .u8 0, .int .u8 0, .int .u32 7, .int .i64 0, .int .i64 0] 47)) (some ⟨w.heap.size, 0, none⟩) 2 gA2 := by
 have h := Kd.oh (vC k47 w 47 gA2 cA2 (by
  have h1 := fu.one' (jY w w.heap.size (fun _ => True) ⟨[], 2, ⟨0, 0, 0, 0⟩, 1, 0⟩ (Kd.kK _ _ _ _ _)) rfl
  exact fu.snoc h1 (jY w w.heap.size (fun _ => True) ⟨[], 1, ⟨6, 0, 0, 7⟩, 0, 0⟩ (Kd.kK _ _ _ _ _)) rfl) (by decide))
 obtain ⟨A, c, he, hl, hc⟩ := h
 injection he with h1 h2 h3
 subst h1
 exact hc
theorem qY : gA2.length = 2 := rfl
theorem uu (w W : World) (a : Addr) (h : Kd.C k47 W (some a) 2 gA2) :
 Calls Try.prog 27 #[.slice (some a) 2 2] W fun e w' => ∃ gb cap bs tl, e = .returned (.tuple #[.slice (some ⟨gb, 0, none⟩) bs.length cap, .int .i64 0]) ∧ Wr8 w' W.heap.size gb cap bs tl ∧ bs.map (·.2) = [⟨[], 1, ⟨6, 0, 0, 7⟩, 0, 0⟩] ∧ Below W.heap.size W w' := by
 have h1 := pg W gA2 (some a) 2 10000 0 (by rw [qY]; exact h) (by rw [qY]; exact Nat.le_refl 2) aw2_ck aw2_ok
 rw [aw2_imp, qY] at h1
 exact h1
theorem aw_one {bs : List (Value × S47)} (h : bs.map (·.2) = [⟨[], 1, ⟨6, 0, 0, 7⟩, 0, 0⟩]) : ∃ v, bs = [(v, ⟨[], 1, ⟨6, 0, 0, 7⟩, 0, 0⟩)] := by
 have hl := congrArg List.length h
 rw [List.length_map] at hl
 obtain ⟨p, rfl⟩ := List.length_eq_one_iff.1 hl
 have e : p.2 = ⟨[], 1, ⟨6, 0, 0, 7⟩, 0, 0⟩ := by simpa using h
 exact ⟨p.1, by rw [← e]⟩
theorem iI (w : World) : Calls Try.prog 29 #[] w fun e w' => e = .returned (.bool true) ∧ Below w.heap.size w w' := by
 have HG1 := aa.mk (aw2_C w)
 go_enter Try.func29, Try.ntmps29
 go_upto_region 2 with (go_at_call 27; refine (uu w _ _ HG1.out).mono ?_; rintro e w1 ⟨gb, cap, bs, tl, rfl, hr, hbs, hb⟩; obtain ⟨v1, rfl⟩ := aw_one hbs; have HR := aa.mk (And.intro hr hb); have hrow := hr.row; clear hr hbs hb)
 go_wp2_with (go_at_call 27; refine (uy w1 [] none 0 10000 0 150 (Kd.xL _ _) (Nat.le_refl _) rfl (by decide)).mono ?_; rintro e w2 ⟨rfl, hb2⟩; have HB2 := aa.mk hb2; have hr2 := aj hrow hb2; have q2 : w2.cell? ⟨gb, 2, none⟩ = some (.int .u16 6) := (ae hr2 2).trans rfl; have q3 : w2.cell? ⟨gb, 3, none⟩ = some (.int .u8 0) := (ae hr2 3).trans rfl; have q4 : w2.cell? ⟨gb, 4, none⟩ = some (.int .u8 0) := (ae hr2 4).trans rfl; have q5 : w2.cell? ⟨gb, 5, none⟩ = some (.int .u32 7) := (ae hr2 5).trans rfl; clear hb2 hrow hr2)
 go_ret
 exact ⟨rfl, ax (ax (ai (Below.refl _ _) _) HR.out.2) HB2.out⟩
theorem cpi7 (c : List S45) (h : c.length < 17592186044416) : dW.f c = some c := by
 unfold dW.f
 rw [Option.bind_some, if_pos (by simpa using h)]
 rfl
theorem yO (g : List S47) (hg : g.length ≤ 1000000000) (hc : ∀ b ∈ g, b.f0.length < 17592186044416) : ∀ (d j : Nat), g.length - j = d → j ≤ g.length → ∀ k, d + 1 ≤ k → bv.l0 k g (g.take j) (j : Int) = some g := by
 intro d
 induction d with
 | zero =>
  intro j hd hj k hk
  obtain ⟨k, rfl⟩ : ∃ m, k = m + 1 := ⟨k - 1, by omega⟩
  rw [bv.l0, if_neg (by omega), List.take_of_length_le (by omega)]
 | succ d ih =>
  intro j hd hj k hk
  obtain ⟨k, rfl⟩ : ∃ m, k = m + 1 := ⟨k - 1, by omega⟩
  have hlt : j < g.length := by omega
  rw [bv.l0, if_pos (by omega), if_pos (by omega), je hlt, cpi7 _ (hc _ (List.getElem_mem hlt)), Option.bind_some, if_pos (by rw [List.length_take]; omega), w64 (n := (j : Int) + 1) (by omega) (by omega)]
  have := ih (j + 1) (by omega) (by omega) k (by omega)
  rw [show ((j + 1 : Nat) : Int) = (j : Int) + 1 by omega, List.take_succ_eq_append_getElem hlt] at this
  exact this
theorem cpb7 {g : List S47} (h : GOk g) : bv.f 10000 g = some g := by
 have hf := h.few
 have := yO g (by omega) (fun b hb => by
  obtain ⟨j, hj⟩ := List.getElem?_of_mem hb
  have := h.len hj
  omega) g.length 0 rfl (by omega) 10000 (by omega)
 exact this
theorem Wr8.c {w : World} {B gb cap : Nat} {bs : List (Value × S47)} {tl : List Value} (h : Wr8 w B gb cap bs tl) : Kd.C k47 w (some ⟨gb, 0, none⟩) bs.length (bs.map (·.2)) := by
 refine ⟨List.length_map _, by have h1 := h.le; have h2 := h.max; unfold maxLen at h2; omega, fun _ => ⟨_, rfl, fun j b hb => ?_⟩⟩
 rw [List.getElem?_map] at hb
 cases e : bs[j]? with
 | none => rw [e] at hb; cases hb
 | some p =>
  rw [e] at hb
  cases hb
  refine ⟨b8 p, rfl, ?_, fun i u hu => ?_⟩
  · exact Kd.K_of_M _ (jY w 0 (fun _ => True) p.2 (og (h.code j p e) (fun g hg => ⟨Nat.zero_le _, trivial⟩)))
  have hi : i < 8 := (List.getElem?_eq_some_iff.1 hu).1
  rw [Go.WideShapes.add_plain, Nat.zero_add]
  exact ((ae h.row (j * 8 + i)).trans (cZ e hi)).trans hu
theorem GOk.fit {g : List S47} (h : GOk g) : Fit g := fun b hb => by
 obtain ⟨j, hj⟩ := List.getElem?_of_mem hb
 have := h.len hj
 omega
theorem GOk.nn {g : List S47} (h : GOk g) : (∀ b ∈ g, ∀ i ∈ b.f0, 0 ≤ i.f3) ∧ (∀ b ∈ g, b.f0.length ≤ 100000) :=
 ⟨fun b hb i hi => by
  obtain ⟨j, hj⟩ := List.getElem?_of_mem hb
  exact ((h.all j b hj).rg i hi).1, fun b hb => by
  obtain ⟨j, hj⟩ := List.getElem?_of_mem hb
  have := h.len hj
  omega⟩
theorem impr_of {g : List S47} (h : GOk g) : Impr g (qi (phG g + 1) g) := imp_ok (phG g + 1) g h (Nat.lt_succ_self _)
theorem uw (w : World) (g : List S47) (A : Option Addr) (c : Nat) (HG0 : Kd.C k47 w A g.length g) (hc : g.length ≤ c) (hG : GOk g) :
 Calls Try.prog 27 #[.slice A g.length c] w fun e w' => ∃ gb cap x, e = .returned (.tuple #[.slice (some ⟨gb, 0, none⟩) x.length cap, .int .i64 0]) ∧ Kd.C k47 w' (some ⟨gb, 0, none⟩) x.length x ∧ x.length ≤ cap ∧ Impr g x ∧ Below w.heap.size w w' := by
 obtain ⟨r, hr, he⟩ := gcheck g hG.fit 10000 (Nat.le_refl _)
 obtain ⟨r1, r2⟩ := r
 obtain rfl : r2 = 0 := he.2 hG.tk
 refine (pg w g A c 10000 r1 HG0 hc hr hG).mono fun e w' ⟨gb, cap, bs, tl, h1, h2, h3, h4⟩ => ⟨gb, cap, bs.map (·.2), ?_, ?_, ?_, ?_, h4⟩
 · rw [List.length_map]; exact h1
 · rw [List.length_map]; exact h2.c
 · rw [List.length_map]; exact h2.le
 rw [h3]; exact impr_of hG
end Go.Proofs.Ytdkalnkplgfgoaa.Ln
