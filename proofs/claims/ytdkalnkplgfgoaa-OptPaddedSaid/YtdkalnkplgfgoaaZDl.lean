/- Lemmas and walks for the statements of the texts ZDZ..: the declarations that they need, taken together by a program of this session. Conditions: as each says. -/
import Derived.ChangeArms
import Derived.Deep.Slices
import Derived.Deep.Fields
import Derived.SizedLaws
import Derived.ChangeSame
import Derived.ArgAppend
import Derived.Test.YtdkalnkplgfgoaaZDa
import Derived.Test.YtdkalnkplgfgoaaZDb
import Derived.Test.YtdkalnkplgfgoaaZDc
import Derived.Test.YtdkalnkplgfgoaaZDd
import Derived.Test.YtdkalnkplgfgoaaZDf
import Derived.Test.YtdkalnkplgfgoaaZDh
import Derived.Test.YtdkalnkplgfgoaaZDk
set_option maxHeartbeats 8000000
set_option maxRecDepth 100000
set_option linter.unusedVariables false
set_option linter.unusedSimpArgs false
namespace Go.Proofs.Ytdkalnkplgfgoaa.PA
open Go.RowKit Go.Proofs.YtdkalnkplgfgoaaW.PrintWords Go.Proofs.YtdkalnkplgfgoaaW.PrintLast Go.Proofs.YtdkalnkplgfgoaaW.PrintMore
attribute [local go_sem] d9 eu fH fI dR dS ek eB
def aM.l0 : Nat → List (S47) → List Bool → Int → Option (List Bool)
 | 0, _, _, _ => none
 | k + 1, x0, x3, x4 => if x4 < (x0.length : Int) then (if 0 ≤ x4 then (if x4 < (x3.length : Int) then (if pK false x3 x4 = true then (if ((ah x0 x4).f1) = 1 then (if ((ah x0 x4).f1) = 3 then (if 0 ≤ ((ah x0 x4).f4) then (if ((ah x0 x4).f4) < (x3.length : Int) then (aM.l0 k x0 (x3.set (((ah x0 x4).f4) : Int).toNat true) (wrap64 (x4 + 1))) else (none)) else (none)) else (aM.l0 k x0 x3 (wrap64 (x4 + 1)))) else (if 0 ≤ ((ah x0 x4).f3) then (if ((ah x0 x4).f3) < (x3.length : Int) then ((some (x3.set (((ah x0 x4).f3) : Int).toNat true : List Bool)).bind fun y381 => (if ((ah x0 x4).f1) = 3 then (if 0 ≤ ((ah x0 x4).f4) then (if ((ah x0 x4).f4) < (x3.length : Int) then (aM.l0 k x0 (y381.set (((ah x0 x4).f4) : Int).toNat true) (wrap64 (x4 + 1))) else (none)) else (none)) else (aM.l0 k x0 y381 (wrap64 (x4 + 1))))) else (none)) else (none))) else (aM.l0 k x0 x3 (wrap64 (x4 + 1)))) else (none)) else (none)) else (some x3)
def aM.f (k : Nat) (l0 : List (S47)) : Option (List Bool) := if 0 ≤ (l0.length : Int) then (if ((l0.length : Int) : Int).toNat ≤ 281474976710656 then ((some (List.replicate ((l0.length : Int) : Int).toNat false : List Bool)).bind fun y371 => (if 0 < (y371.length : Int) then (aM.l0 k l0 (y371.set (0 : Int).toNat true) 0) else (none))) else (none)) else (none)
theorem aM.calls (k : Nat) (A0 : Option Addr) (c0 : Nat) (l0 : List (S47)) (r : List Bool) (w : World) (hr0 : Kd.C k47 w A0 l0.length l0) (hc0 : l0.length ≤ c0) (h : aM.f k l0 = some r) :
 Calls Try.prog 55 #[.slice A0 l0.length c0] w fun e w' => ∃ v0_ : Value, e = .returned (v0_) ∧ Kd.R Kd.bool 4 w' w.heap.size (fun _ => True) v0_ r ∧ Below w.heap.size w w' := by
 have HR0 := aa.mk hr0
 have HC0 := aa.mk hc0
 clear hr0 hc0
 have HB := aa.mk (Below.refl w.heap.size w)
 have H : (if 0 ≤ (l0.length : Int) then (if ((l0.length : Int) : Int).toNat ≤ 281474976710656 then ((some (List.replicate ((l0.length : Int) : Int).toNat false : List Bool)).bind fun y371 => (if 0 < (y371.length : Int) then (aM.l0 k l0 (y371.set (0 : Int).toNat true) 0) else (none))) else (none)) else (none)) = some r := h
 clear h
 replace H := mO H
 obtain ⟨H, c2⟩ | ⟨H, c2⟩ := H
 · have c2b0 := eq_true c2
   have c2b1 : decide (0 ≤ (l0.length : Int)) = true := decide_eq_true c2
   clear c2
   replace H := mO H
   obtain ⟨H, c3⟩ | ⟨H, c3⟩ := H
   · have c3b0 := eq_true c3
     have c3b1 : decide (((l0.length : Int) : Int).toNat ≤ 281474976710656) = true := decide_eq_true c3
     clear c3
     obtain ⟨y371, hy371⟩ : ∃ y_ : List Bool, y_ = (List.replicate ((l0.length : Int) : Int).toNat false) := ⟨_, rfl⟩
     replace H : (if 0 < (y371.length : Int) then (aM.l0 k l0 (y371.set (0 : Int).toNat true) 0) else (none)) = some r := by first | (rw [hy371]; with_reducible exact H) | (have H2_ := (Option.bind_some _ _).symm.trans H; rw [hy371]; with_reducible exact H2_) | (have H2_ := (Option.bind_some _ _).symm.trans H; with_reducible exact H2_) | with_reducible exact H | (rw [hy371]; exact H) | exact H
     have Ny371 := aa.mk hy371
     clear hy371
     replace H := fK H
     obtain ⟨H, c4, _⟩ | ⟨H, c4, -⟩ := H
     · have c4b1 : decide (0 < y371.length) = true := decide_eq_true (by omega)
       clear c4
       obtain ⟨y374, hy374⟩ : ∃ y_ : List Bool, y_ = (y371.set (0 : Int).toNat true) := ⟨_, rfl⟩
       replace H : (aM.l0 k l0 y374 0) = some r := by first | (rw [hy374]; with_reducible exact H) | (have H2_ := (Option.bind_some _ _).symm.trans H; rw [hy374]; with_reducible exact H2_) | (have H2_ := (Option.bind_some _ _).symm.trans H; with_reducible exact H2_) | with_reducible exact H | (rw [hy374]; exact H) | exact H
       have Ny374 := aa.mk hy374
       clear hy374
       replace H := aa.mk H
       go_enter Try.func55, Try.ntmps55
       go_wp2_with (first | ((with_reducible refine aU (N := 7) rfl ?_); refine Kd.xO Kd.bool _ 4 rfl (N := 7) rfl 73 _ _ rfl (l0.length : Int) rfl rfl Try.underlying73 (.bool false) 1 info4 rfl (by decide) (by omega) false (ok := fun _ => True) (okp := fun _ => True) rfl (fun _ hk => hk) trivial (of_decide_eq_true (by first | (with_reducible assumption) | assumption)) (Nat.le_trans (Nat.mul_le_mul_right _ (of_decide_eq_true (by first | (with_reducible assumption) | assumption) : (l0.length : Int).toNat ≤ 281474976710656)) (by omega)) (Below.refl _ _) (Nat.le_refl _) ?_; intro v372 w6 ho7 hb hg_ hnew_; clear hg_ hnew_; (first | rw [← Ny371.out] at ho7 | (simp only [Int.reduceToNat] at ho7; rw [← Ny371.out] at ho7)); have HO373 := aa.mk (Kd.jE ho7 (gF bD)); replace HB := di HB hb; clear hb ho7; have p5 : 0 ≤ (0 : Int) := (by omega); have q5 : (0 : Int) < ((y371.length : Int) : Int) := of_decide_eq_true (by first | (with_reducible assumption) | assumption); have qi5 : (0 < y371.length) = True := eq_true (by omega); obtain ⟨go5, co5, eo5, gb5, gl5, cl5, HG5⟩ := Kd.oO HO373.out (by omega); (first | cases eo5 | (injection eo5 with ea_ en_ ec_; (first | subst ea_ | (injection ea_ with ea_; subst ea_)); subst ec_; clear en_)); have GB5 := aa.mk gb5; have GG5 := aa.mk HG5; clear gb5 gl5 HG5; obtain ⟨hx5_0, hf5_0⟩ := Kd.iM false HO373.out (0 : Int) p5 q5; (try rw [show ((0 : Int)).toNat = 0 from rfl] at hx5_0); (try simp only [Nat.reduceMul, Nat.zero_mul, Nat.zero_add, Nat.reduceAdd] at hx5_0); (try rw [show ((0 : Int)).toNat = 0 from rfl] at hf5_0); (try simp only [Nat.reduceMul, Nat.zero_mul, Nat.zero_add, Nat.reduceAdd] at hf5_0); replace p5 := eq_true p5; replace q5 := eq_true q5; obtain ⟨hy8_, hz8_⟩ := Kd.iM false HO373.out (0 : Int) (by omega) (of_decide_eq_true (by first | (with_reducible assumption) | assumption)); (try simp only [Int.reduceToNat, Int.toNat_zero, Int.toNat_ofNat, Nat.reduceMul, Nat.zero_mul, Nat.zero_add] at hy8_ hz8_); (try rw [show ((0 : Int)).toNat = 0 from rfl] at hy8_); (try rw [show ((0 : Int)).toNat = 0 from rfl] at hz8_); have HP8 := Kd.kr HO373.out (0 : Int) true) | ((with_reducible refine gG (t := 4) (p := 9) rfl ?_); refine fM (t := 4) (p := 9) (v := ?vo_w9) (w1 := (w6.setCell ⟨go5, (0 : Int).toNat, none⟩ (.bool true))) ?hg ?ho ?hn ?hr ?_; (case ho => rfl); (case hg => rfl); (case hn => rfl); (case hr => first | (go_simp; done) | (go_simp; rfl)); intro w9 hw; have hg : w6.grownBy w9 (some go5) := (by rw [hw]; exact HP8.2); have hp_ : Kd.R Kd.bool 4 w9 w.heap.size (fun _ => True) (.slice (some ⟨go5, 0, none⟩) y371.length co5) y374 := (by rw [hw, Ny374.out]; exact HP8.1); clear HP8; have n0_ := aa.mk (hp_); have n1_ := aa.mk ((by rw [hw]; exact dA (HB.out) GB5.out : Below w.heap.size w w9)); clear HO373; clear HB; have HO373 := n0_; have HB := n1_; clear n0_ n1_; clear hg hw hp_))
       go_loopg [4] k (fun kq v4 w' => ∃ (x3_1 : List Bool) (x4_1 : Int), v4 = .int .i64 x4_1 ∧ aa (aM.l0 kq l0 x3_1 x4_1 = some r) ∧ aa (kq ≤ k) ∧ aa (Kd.R Kd.bool 4 w' w.heap.size (fun _ => True) (.slice (some ⟨go5, 0, none⟩) y371.length co5) x3_1) ∧ aa (Below w.heap.size w w'))
       case atStart => exact ⟨_, _, aW, H, ⟨Nat.le_refl _⟩, ⟨by (with_reducible repeat (first | apply Kd.eO | apply Kd.eQ | apply Kd.gD)); exact HO373.out⟩, ⟨bD⟩⟩
       case round =>
        clear H
        obtain ⟨x3_1, x4_1, rfl, HA, HK1, HO_3, HB⟩ := hrel
        have hl3_1 := (Kd.dP HO_3.out).1
        rw [hl3_1] at HO_3
        (try simp only [hl3_1])
        cases gk with
        | zero => exact absurd HA.out (by simp [aM.l0])
        | succ k1 =>
         have H := HA.out
         clear HA
         simp only [aM.l0] at H
         replace H := fK H
         obtain ⟨H, -, _⟩ | ⟨H, -, _⟩ := H
         · replace H := fK H
           obtain ⟨H, -, _⟩ | ⟨H, c11, -⟩ := H
           · replace H := fK H
             obtain ⟨H, -, _⟩ | ⟨H, c12, -⟩ := H
             · obtain ⟨bq13, hbq13⟩ : ∃ b_ : Bool, b_ = (pK false x3_1 x4_1) := ⟨_, rfl⟩
               replace H : (if bq13 = true then (if ((ah l0 x4_1).f1) = 1 then (if ((ah l0 x4_1).f1) = 3 then (if 0 ≤ ((ah l0 x4_1).f4) then (if ((ah l0 x4_1).f4) < (x3_1.length : Int) then (aM.l0 k1 l0 (x3_1.set (((ah l0 x4_1).f4) : Int).toNat true) (wrap64 (x4_1 + 1))) else (none)) else (none)) else (aM.l0 k1 l0 x3_1 (wrap64 (x4_1 + 1)))) else (if 0 ≤ ((ah l0 x4_1).f3) then (if ((ah l0 x4_1).f3) < (x3_1.length : Int) then ((some (x3_1.set (((ah l0 x4_1).f3) : Int).toNat true : List Bool)).bind fun y381 => (if ((ah l0 x4_1).f1) = 3 then (if 0 ≤ ((ah l0 x4_1).f4) then (if ((ah l0 x4_1).f4) < (x3_1.length : Int) then (aM.l0 k1 l0 (y381.set (((ah l0 x4_1).f4) : Int).toNat true) (wrap64 (x4_1 + 1))) else (none)) else (none)) else (aM.l0 k1 l0 y381 (wrap64 (x4_1 + 1))))) else (none)) else (none))) else (aM.l0 k1 l0 x3_1 (wrap64 (x4_1 + 1)))) = some r := by rw [← hbq13] at H; exact H
               have Nbq13 := aa.mk hbq13
               clear hbq13
               by_cases c14 : bq13 = true
               · subst c14
                 have H1 : (if ((ah l0 x4_1).f1) = 1 then (if ((ah l0 x4_1).f1) = 3 then (if 0 ≤ ((ah l0 x4_1).f4) then (if ((ah l0 x4_1).f4) < (x3_1.length : Int) then (aM.l0 k1 l0 (x3_1.set (((ah l0 x4_1).f4) : Int).toNat true) (wrap64 (x4_1 + 1))) else (none)) else (none)) else (aM.l0 k1 l0 x3_1 (wrap64 (x4_1 + 1)))) else (if 0 ≤ ((ah l0 x4_1).f3) then (if ((ah l0 x4_1).f3) < (x3_1.length : Int) then ((some (x3_1.set (((ah l0 x4_1).f3) : Int).toNat true : List Bool)).bind fun y381 => (if ((ah l0 x4_1).f1) = 3 then (if 0 ≤ ((ah l0 x4_1).f4) then (if ((ah l0 x4_1).f4) < (x3_1.length : Int) then (aM.l0 k1 l0 (y381.set (((ah l0 x4_1).f4) : Int).toNat true) (wrap64 (x4_1 + 1))) else (none)) else (none)) else (aM.l0 k1 l0 y381 (wrap64 (x4_1 + 1))))) else (none)) else (none))) = some r := by rw [if_pos rfl] at H; exact H
                 clear H
                 have H := H1
                 clear H1
                 replace H := bL H
                 obtain ⟨H, -, _, _⟩ | ⟨H, c15, _, _⟩ := H
                 · replace H := bL H
                   obtain ⟨H, -, _, _⟩ | ⟨H, c16, _, _⟩ := H
                   · replace H := fK H
                     obtain ⟨H, -, _⟩ | ⟨H, c17, -⟩ := H
                     · replace H := fK H
                       obtain ⟨H, -, _⟩ | ⟨H, c18, -⟩ := H
                       · obtain ⟨y379, hy379⟩ : ∃ y_ : List Bool, y_ = (x3_1.set (((ah l0 x4_1).f4) : Int).toNat true) := ⟨_, rfl⟩
                         replace H : (aM.l0 k1 l0 y379 (wrap64 (x4_1 + 1))) = some r := by first | (rw [hy379]; with_reducible exact H) | (have H2_ := (Option.bind_some _ _).symm.trans H; rw [hy379]; with_reducible exact H2_) | (have H2_ := (Option.bind_some _ _).symm.trans H; with_reducible exact H2_) | with_reducible exact H | (rw [hy379]; exact H) | exact H
                         have Ny379 := aa.mk hy379
                         clear hy379
                         replace H := aa.mk H
                         have p375 : 0 ≤ (x4_1 : Int) := of_decide_eq_true (by first | (with_reducible assumption) | assumption)
                         have q375 : x4_1 < (x3_1.length : Int) := of_decide_eq_true (by first | (with_reducible assumption) | assumption)
                         obtain ⟨ad375, e375, hx375_0⟩ := Kd.ll (Kd.dP HO_3.out).2.2 x4_1 p375 q375
                         (try rw [← Nbq13.out] at hx375_0)
                         obtain rfl : (⟨go5, 0, none⟩ : Addr) = ad375 := (by injection e375)
                         (first | simp only [add_plain] at hx375_0 | simp only [lT] at hx375_0 | simp only [Addr.add, Nat.zero_add] at hx375_0 | skip)
                         replace p375 := eq_true p375
                         replace q375 := eq_true q375
                         obtain ⟨ad376, rfl⟩ := iG HR0 x4_1 (by assumption) (by assumption)
                         obtain ⟨A376_0, c376_0, hx376_0, _, _, _, _, _, _, _, HR376_0, HC376_0, _, _⟩ := fw HR0 HB x4_1 (by assumption) (by assumption)
                         obtain ⟨A377_0, c377_0, hx377_0, _, _, _, _, _, _, _, HR377_0, HC377_0, _, _⟩ := fw HR0 HB x4_1 (by assumption) (by assumption)
                         have ea_ := Option.some.inj (hx376_0.symm.trans hx377_0)
                         injection ea_ with ea_ en_ ec_
                         subst ea_
                         subst ec_
                         clear en_
                         obtain ⟨A378_0, c378_0, hx378_0, _, _, _, _, _, _, _, HR378_0, HC378_0, _, _⟩ := fw HR0 HB x4_1 (by assumption) (by assumption)
                         have ea_ := Option.some.inj (hx376_0.symm.trans hx378_0)
                         injection ea_ with ea_ en_ ec_
                         subst ea_
                         subst ec_
                         clear en_
                         have p19 : 0 ≤ (((ah l0 x4_1).f4) : Int) := of_decide_eq_true (by first | (with_reducible assumption) | assumption)
                         have q19 : (((ah l0 x4_1).f4) : Int) < ((x3_1.length : Int) : Int) := of_decide_eq_true (by first | (with_reducible assumption) | assumption)
                         obtain ⟨hx19_0, hf19_0⟩ := Kd.iM false HO_3.out (((ah l0 x4_1).f4) : Int) p19 q19
                         replace p19 := eq_true p19
                         replace q19 := eq_true q19
                         have HP20 := Kd.kr HO_3.out (((ah l0 x4_1).f4) : Int) true
                         go_wp2_with ((with_reducible refine gG (t := 4) (p := 46) rfl ?_); refine fM (t := 4) (p := 46) (v := ?vo_w21) (w1 := (wr.setCell ⟨go5, (((ah l0 x4_1).f4) : Int).toNat, none⟩ (.bool true))) ?hg ?ho ?hn ?hr ?_; (case ho => rfl); (case hg => rfl); (case hn => rfl); (case hr => first | (go_simp; done) | (go_simp; rfl)); intro w21 hw; have hg : wr.grownBy w21 (some go5) := (by rw [hw]; exact HP20.2); have hp_ : Kd.R Kd.bool 4 w21 w.heap.size (fun _ => True) (.slice (some ⟨go5, 0, none⟩) x3_1.length co5) y379 := (by rw [hw, Ny379.out]; exact HP20.1); clear HP20; have n0_ := aa.mk (hp_); have n1_ := aa.mk ((by rw [hw]; exact dA (HB.out) GB5.out : Below w.heap.size w w21)); clear HO_3; clear HB; have HO_3 := n0_; have HB := n1_; clear n0_ n1_; clear hg hw hp_)
                         (try simp only [← hl3_1])
                         go_roundg k1
                         case measure => have := HK1.out; omega
                         case rel => exact ⟨_, _, aW, H, ⟨by have := HK1.out; omega⟩, ⟨by (try simp only [hl3_1]); (with_reducible repeat (first | apply Kd.eO | apply Kd.eQ | apply Kd.gD)); exact HO_3.out⟩, ⟨bD⟩⟩
                       exact absurd H (by simp)
                     exact absurd H (by simp)
                   replace H := aa.mk H
                   have p375 : 0 ≤ (x4_1 : Int) := of_decide_eq_true (by first | (with_reducible assumption) | assumption)
                   have q375 : x4_1 < (x3_1.length : Int) := of_decide_eq_true (by first | (with_reducible assumption) | assumption)
                   obtain ⟨ad375, e375, hx375_0⟩ := Kd.ll (Kd.dP HO_3.out).2.2 x4_1 p375 q375
                   (try rw [← Nbq13.out] at hx375_0)
                   obtain rfl : (⟨go5, 0, none⟩ : Addr) = ad375 := (by injection e375)
                   (first | simp only [add_plain] at hx375_0 | simp only [lT] at hx375_0 | simp only [Addr.add, Nat.zero_add] at hx375_0 | skip)
                   replace p375 := eq_true p375
                   replace q375 := eq_true q375
                   obtain ⟨ad376, rfl⟩ := iG HR0 x4_1 (by assumption) (by assumption)
                   obtain ⟨A376_0, c376_0, hx376_0, _, _, _, _, _, _, _, HR376_0, HC376_0, _, _⟩ := fw HR0 HB x4_1 (by assumption) (by assumption)
                   obtain ⟨A377_0, c377_0, hx377_0, _, _, _, _, _, _, _, HR377_0, HC377_0, _, _⟩ := fw HR0 HB x4_1 (by assumption) (by assumption)
                   have ea_ := Option.some.inj (hx376_0.symm.trans hx377_0)
                   injection ea_ with ea_ en_ ec_
                   subst ea_
                   subst ec_
                   clear en_
                   go_wp2
                   (try simp only [← hl3_1])
                   go_roundg k1
                   case measure => have := HK1.out; omega
                   case rel => exact ⟨_, _, aW, H, ⟨by have := HK1.out; omega⟩, ⟨by (try simp only [hl3_1]); (with_reducible repeat (first | apply Kd.eO | apply Kd.eQ | apply Kd.gD)); exact HO_3.out⟩, ⟨bD⟩⟩
                 replace H := fK H
                 obtain ⟨H, -, _⟩ | ⟨H, c22, -⟩ := H
                 · replace H := fK H
                   obtain ⟨H, -, _⟩ | ⟨H, c23, -⟩ := H
                   · obtain ⟨y381, hy381⟩ : ∃ y_ : List Bool, y_ = (x3_1.set (((ah l0 x4_1).f3) : Int).toNat true) := ⟨_, rfl⟩
                     replace H : (if ((ah l0 x4_1).f1) = 3 then (if 0 ≤ ((ah l0 x4_1).f4) then (if ((ah l0 x4_1).f4) < (x3_1.length : Int) then (aM.l0 k1 l0 (y381.set (((ah l0 x4_1).f4) : Int).toNat true) (wrap64 (x4_1 + 1))) else (none)) else (none)) else (aM.l0 k1 l0 y381 (wrap64 (x4_1 + 1)))) = some r := by first | (rw [hy381]; with_reducible exact H) | (have H2_ := (Option.bind_some _ _).symm.trans H; rw [hy381]; with_reducible exact H2_) | (have H2_ := (Option.bind_some _ _).symm.trans H; with_reducible exact H2_) | with_reducible exact H | (rw [hy381]; exact H) | exact H
                     have Ny381 := aa.mk hy381
                     clear hy381
                     replace H := bL H
                     obtain ⟨H, -, _, _⟩ | ⟨H, c25, _, _⟩ := H
                     · replace H := fK H
                       obtain ⟨H, -, _⟩ | ⟨H, c26, -⟩ := H
                       · replace H := fK H
                         obtain ⟨H, -, _⟩ | ⟨H, c27, -⟩ := H
                         · obtain ⟨y384, hy384⟩ : ∃ y_ : List Bool, y_ = (y381.set (((ah l0 x4_1).f4) : Int).toNat true) := ⟨_, rfl⟩
                           replace H : (aM.l0 k1 l0 y384 (wrap64 (x4_1 + 1))) = some r := by first | (rw [hy384]; with_reducible exact H) | (have H2_ := (Option.bind_some _ _).symm.trans H; rw [hy384]; with_reducible exact H2_) | (have H2_ := (Option.bind_some _ _).symm.trans H; with_reducible exact H2_) | with_reducible exact H | (rw [hy384]; exact H) | exact H
                           have Ny384 := aa.mk hy384
                           clear hy384
                           replace H := aa.mk H
                           have p375 : 0 ≤ (x4_1 : Int) := of_decide_eq_true (by first | (with_reducible assumption) | assumption)
                           have q375 : x4_1 < (x3_1.length : Int) := of_decide_eq_true (by first | (with_reducible assumption) | assumption)
                           obtain ⟨ad375, e375, hx375_0⟩ := Kd.ll (Kd.dP HO_3.out).2.2 x4_1 p375 q375
                           (try rw [← Nbq13.out] at hx375_0)
                           obtain rfl : (⟨go5, 0, none⟩ : Addr) = ad375 := (by injection e375)
                           (first | simp only [add_plain] at hx375_0 | simp only [lT] at hx375_0 | simp only [Addr.add, Nat.zero_add] at hx375_0 | skip)
                           replace p375 := eq_true p375
                           replace q375 := eq_true q375
                           obtain ⟨ad376, rfl⟩ := iG HR0 x4_1 (by assumption) (by assumption)
                           obtain ⟨A376_0, c376_0, hx376_0, _, _, _, _, _, _, _, HR376_0, HC376_0, _, _⟩ := fw HR0 HB x4_1 (by assumption) (by assumption)
                           obtain ⟨A380_0, c380_0, hx380_0, _, _, _, _, _, _, _, HR380_0, HC380_0, _, _⟩ := fw HR0 HB x4_1 (by assumption) (by assumption)
                           have ea_ := Option.some.inj (hx376_0.symm.trans hx380_0)
                           injection ea_ with ea_ en_ ec_
                           subst ea_
                           subst ec_
                           clear en_
                           have p24 : 0 ≤ (((ah l0 x4_1).f3) : Int) := of_decide_eq_true (by first | (with_reducible assumption) | assumption)
                           have q24 : (((ah l0 x4_1).f3) : Int) < ((x3_1.length : Int) : Int) := of_decide_eq_true (by first | (with_reducible assumption) | assumption)
                           obtain ⟨hx24_0, hf24_0⟩ := Kd.iM false HO_3.out (((ah l0 x4_1).f3) : Int) p24 q24
                           replace p24 := eq_true p24
                           replace q24 := eq_true q24
                           have HP29 := Kd.kr HO_3.out (((ah l0 x4_1).f3) : Int) true
                           go_wp2_with (first | ((with_reducible refine gG (t := 4) (p := 33) rfl ?_); refine fM (t := 4) (p := 33) (v := ?vo_w30) (w1 := (wr.setCell ⟨go5, (((ah l0 x4_1).f3) : Int).toNat, none⟩ (.bool true))) ?hg ?ho ?hn ?hr ?_; (case ho => rfl); (case hg => rfl); (case hn => rfl); (case hr => first | (go_simp; done) | (go_simp; rfl)); intro w30 hw; have hg : wr.grownBy w30 (some go5) := (by rw [hw]; exact HP29.2); have hp_ : Kd.R Kd.bool 4 w30 w.heap.size (fun _ => True) (.slice (some ⟨go5, 0, none⟩) x3_1.length co5) y381 := (by rw [hw, Ny381.out]; exact HP29.1); clear HP29; have n0_ := aa.mk (hp_); have n1_ := aa.mk ((by rw [hw]; exact dA (HB.out) GB5.out : Below w.heap.size w w30)); clear HO_3; clear HB; have HO_3 := n0_; have HB := n1_; clear n0_ n1_; clear hg hw hp_; obtain ⟨A382_0, c382_0, hx382_0, _, _, _, _, _, _, _, HR382_0, HC382_0, _, _⟩ := fw HR0 HB x4_1 (by assumption) (by assumption); obtain ⟨A383_0, c383_0, hx383_0, _, _, _, _, _, _, _, HR383_0, HC383_0, _, _⟩ := fw HR0 HB x4_1 (by assumption) (by assumption); have ea_ := Option.some.inj (hx382_0.symm.trans hx383_0); injection ea_ with ea_ en_ ec_; subst ea_; subst ec_; clear en_; have p28 : 0 ≤ (((ah l0 x4_1).f4) : Int) := of_decide_eq_true (by first | (with_reducible assumption) | assumption); have q28 : (((ah l0 x4_1).f4) : Int) < ((x3_1.length : Int) : Int) := of_decide_eq_true (by first | (with_reducible assumption) | assumption); obtain ⟨hx28_0, hf28_0⟩ := Kd.iM false HO_3.out (((ah l0 x4_1).f4) : Int) p28 q28; replace p28 := eq_true p28; replace q28 := eq_true q28; obtain ⟨hy31_, hz31_⟩ := Kd.iM false HO_3.out (((ah l0 x4_1).f4) : Int) (of_decide_eq_true (by first | (with_reducible assumption) | assumption)) (of_decide_eq_true (by first | (with_reducible assumption) | assumption)); have HP31 := Kd.kr HO_3.out (((ah l0 x4_1).f4) : Int) true) | ((with_reducible refine gG (t := 4) (p := 46) rfl ?_); refine fM (t := 4) (p := 46) (v := ?vo_w32) (w1 := (w30.setCell ⟨go5, (((ah l0 x4_1).f4) : Int).toNat, none⟩ (.bool true))) ?hg ?ho ?hn ?hr ?_; (case ho => rfl); (case hg => rfl); (case hn => rfl); (case hr => first | (go_simp; done) | (go_simp; rfl)); intro w32 hw; have hg : w30.grownBy w32 (some go5) := (by rw [hw]; exact HP31.2); have hp_ : Kd.R Kd.bool 4 w32 w.heap.size (fun _ => True) (.slice (some ⟨go5, 0, none⟩) x3_1.length co5) y384 := (by rw [hw, Ny384.out]; exact HP31.1); clear HP31; have n0_ := aa.mk (hp_); have n1_ := aa.mk ((by rw [hw]; exact dA (HB.out) GB5.out : Below w.heap.size w w32)); clear HO_3; clear HB; have HO_3 := n0_; have HB := n1_; clear n0_ n1_; clear hg hw hp_))
                           (try simp only [← hl3_1])
                           go_roundg k1
                           case measure => have := HK1.out; omega
                           case rel => exact ⟨_, _, aW, H, ⟨by have := HK1.out; omega⟩, ⟨by (try simp only [hl3_1]); (with_reducible repeat (first | apply Kd.eO | apply Kd.eQ | apply Kd.gD)); exact HO_3.out⟩, ⟨bD⟩⟩
                         exact absurd H (by simp)
                       exact absurd H (by simp)
                     replace H := aa.mk H
                     have p375 : 0 ≤ (x4_1 : Int) := of_decide_eq_true (by first | (with_reducible assumption) | assumption)
                     have q375 : x4_1 < (x3_1.length : Int) := of_decide_eq_true (by first | (with_reducible assumption) | assumption)
                     obtain ⟨ad375, e375, hx375_0⟩ := Kd.ll (Kd.dP HO_3.out).2.2 x4_1 p375 q375
                     (try rw [← Nbq13.out] at hx375_0)
                     obtain rfl : (⟨go5, 0, none⟩ : Addr) = ad375 := (by injection e375)
                     (first | simp only [add_plain] at hx375_0 | simp only [lT] at hx375_0 | simp only [Addr.add, Nat.zero_add] at hx375_0 | skip)
                     replace p375 := eq_true p375
                     replace q375 := eq_true q375
                     obtain ⟨ad376, rfl⟩ := iG HR0 x4_1 (by assumption) (by assumption)
                     obtain ⟨A376_0, c376_0, hx376_0, _, _, _, _, _, _, _, HR376_0, HC376_0, _, _⟩ := fw HR0 HB x4_1 (by assumption) (by assumption)
                     obtain ⟨A380_0, c380_0, hx380_0, _, _, _, _, _, _, _, HR380_0, HC380_0, _, _⟩ := fw HR0 HB x4_1 (by assumption) (by assumption)
                     have ea_ := Option.some.inj (hx376_0.symm.trans hx380_0)
                     injection ea_ with ea_ en_ ec_
                     subst ea_
                     subst ec_
                     clear en_
                     have p24 : 0 ≤ (((ah l0 x4_1).f3) : Int) := of_decide_eq_true (by first | (with_reducible assumption) | assumption)
                     have q24 : (((ah l0 x4_1).f3) : Int) < ((x3_1.length : Int) : Int) := of_decide_eq_true (by first | (with_reducible assumption) | assumption)
                     obtain ⟨hx24_0, hf24_0⟩ := Kd.iM false HO_3.out (((ah l0 x4_1).f3) : Int) p24 q24
                     replace p24 := eq_true p24
                     replace q24 := eq_true q24
                     have HP33 := Kd.kr HO_3.out (((ah l0 x4_1).f3) : Int) true
                     go_wp2_with ((with_reducible refine gG (t := 4) (p := 33) rfl ?_); refine fM (t := 4) (p := 33) (v := ?vo_w34) (w1 := (wr.setCell ⟨go5, (((ah l0 x4_1).f3) : Int).toNat, none⟩ (.bool true))) ?hg ?ho ?hn ?hr ?_; (case ho => rfl); (case hg => rfl); (case hn => rfl); (case hr => first | (go_simp; done) | (go_simp; rfl)); intro w34 hw; have hg : wr.grownBy w34 (some go5) := (by rw [hw]; exact HP33.2); have hp_ : Kd.R Kd.bool 4 w34 w.heap.size (fun _ => True) (.slice (some ⟨go5, 0, none⟩) x3_1.length co5) y381 := (by rw [hw, Ny381.out]; exact HP33.1); clear HP33; have n0_ := aa.mk (hp_); have n1_ := aa.mk ((by rw [hw]; exact dA (HB.out) GB5.out : Below w.heap.size w w34)); clear HO_3; clear HB; have HO_3 := n0_; have HB := n1_; clear n0_ n1_; clear hg hw hp_; obtain ⟨A382_0, c382_0, _, _, _, _, _, _, _, _, HR382_0, HC382_0, _, _⟩ := fw HR0 HB x4_1 (by assumption) (by assumption))
                     (try simp only [← hl3_1])
                     go_roundg k1
                     case measure => have := HK1.out; omega
                     case rel => exact ⟨_, _, aW, H, ⟨by have := HK1.out; omega⟩, ⟨by (try simp only [hl3_1]); (with_reducible repeat (first | apply Kd.eO | apply Kd.eQ | apply Kd.gD)); exact HO_3.out⟩, ⟨bD⟩⟩
                   exact absurd H (by simp)
                 exact absurd H (by simp)
               replace c14 := Bool.eq_false_iff.mpr c14
               subst c14
               have H1 : (aM.l0 k1 l0 x3_1 (wrap64 (x4_1 + 1))) = some r := by rw [if_neg (show ¬ (false = true) by decide)] at H; exact H
               clear H
               have H := H1
               clear H1
               replace H := aa.mk H
               have p375 : 0 ≤ (x4_1 : Int) := of_decide_eq_true (by first | (with_reducible assumption) | assumption)
               have q375 : x4_1 < (x3_1.length : Int) := of_decide_eq_true (by first | (with_reducible assumption) | assumption)
               obtain ⟨ad375, e375, hx375_0⟩ := Kd.ll (Kd.dP HO_3.out).2.2 x4_1 p375 q375
               (try rw [← Nbq13.out] at hx375_0)
               obtain rfl : (⟨go5, 0, none⟩ : Addr) = ad375 := (by injection e375)
               (first | simp only [add_plain] at hx375_0 | simp only [lT] at hx375_0 | simp only [Addr.add, Nat.zero_add] at hx375_0 | skip)
               replace p375 := eq_true p375
               replace q375 := eq_true q375
               go_wp2
               (try simp only [← hl3_1])
               go_roundg k1
               case measure => have := HK1.out; omega
               case rel => exact ⟨_, _, aW, H, ⟨by have := HK1.out; omega⟩, ⟨by (try simp only [hl3_1]); (with_reducible repeat (first | apply Kd.eO | apply Kd.eQ | apply Kd.gD)); exact HO_3.out⟩, ⟨bD⟩⟩
             exact absurd H (by simp)
           exact absurd H (by simp)
         obtain rfl := Option.some.inj H
         go_wp2
         go_ret
         exact ⟨_, dn, by (with_reducible repeat (first | apply Kd.eO | apply Kd.eQ | apply Kd.gD)); exact HO_3.out, bD⟩
     exact absurd H (by simp)
   exact absurd H (by simp)
 exact absurd H (by simp)
attribute [local go_sem] d9 eu fH fI dR dS ek eB
def bi.l0 : Nat → List (S47) → List Int → Int → Option (List Int)
 | 0, _, _, _ => none
 | k + 1, x0, x3, x4 => if x4 < (x0.length : Int) then (if 0 ≤ x4 then (if ((ah x0 x4).f1) = 1 then (if ((ah x0 x4).f1) = 3 then (if 0 ≤ ((ah x0 x4).f4) then (if ((ah x0 x4).f4) < (x3.length : Int) then (bi.l0 k x0 (x3.set (((ah x0 x4).f4) : Int).toNat (wrap64 ((rd x3 ((ah x0 x4).f4)) + 1))) (wrap64 (x4 + 1))) else (none)) else (none)) else (bi.l0 k x0 x3 (wrap64 (x4 + 1)))) else (if 0 ≤ ((ah x0 x4).f3) then (if ((ah x0 x4).f3) < (x3.length : Int) then ((some (x3.set (((ah x0 x4).f3) : Int).toNat (wrap64 ((rd x3 ((ah x0 x4).f3)) + 1)) : List Int)).bind fun y395 => (if ((ah x0 x4).f1) = 3 then (if 0 ≤ ((ah x0 x4).f4) then (if ((ah x0 x4).f4) < (x3.length : Int) then (bi.l0 k x0 (y395.set (((ah x0 x4).f4) : Int).toNat (wrap64 ((rd y395 ((ah x0 x4).f4)) + 1))) (wrap64 (x4 + 1))) else (none)) else (none)) else (bi.l0 k x0 y395 (wrap64 (x4 + 1))))) else (none)) else (none))) else (none)) else (some x3)
def bi.f (k : Nat) (l0 : List (S47)) : Option (List Int) := if 0 ≤ (l0.length : Int) then (if ((l0.length : Int) : Int).toNat ≤ 35184372088832 then (bi.l0 k l0 (List.replicate ((l0.length : Int) : Int).toNat 0) 0) else (none)) else (none)
theorem bi.calls (k : Nat) (A0 : Option Addr) (c0 : Nat) (l0 : List (S47)) (r : List Int) (w : World) (hr0 : Kd.C k47 w A0 l0.length l0) (hc0 : l0.length ≤ c0) (h : bi.f k l0 = some r) :
 Calls Try.prog 56 #[.slice A0 l0.length c0] w fun e w' => ∃ v0_ : Value, e = .returned (v0_) ∧ Kd.R (Kd.int .i64) 3 w' w.heap.size (fun _ => True) v0_ r ∧ Below w.heap.size w w' := by
 have HR0 := aa.mk hr0
 have HC0 := aa.mk hc0
 clear hr0 hc0
 have HB := aa.mk (Below.refl w.heap.size w)
 have H : (if 0 ≤ (l0.length : Int) then (if ((l0.length : Int) : Int).toNat ≤ 35184372088832 then (bi.l0 k l0 (List.replicate ((l0.length : Int) : Int).toNat 0) 0) else (none)) else (none)) = some r := h
 clear h
 replace H := mO H
 obtain ⟨H, c2⟩ | ⟨H, c2⟩ := H
 · have c2b0 := eq_true c2
   have c2b1 : decide (0 ≤ (l0.length : Int)) = true := decide_eq_true c2
   clear c2
   replace H := mO H
   obtain ⟨H, c3⟩ | ⟨H, c3⟩ := H
   · have c3b0 := eq_true c3
     have c3b1 : decide (((l0.length : Int) : Int).toNat ≤ 35184372088832) = true := decide_eq_true c3
     clear c3
     obtain ⟨y385, hy385⟩ : ∃ y_ : List Int, y_ = (List.replicate ((l0.length : Int) : Int).toNat 0) := ⟨_, rfl⟩
     replace H : (bi.l0 k l0 y385 0) = some r := by first | (rw [hy385]; with_reducible exact H) | (have H2_ := (Option.bind_some _ _).symm.trans H; rw [hy385]; with_reducible exact H2_) | (have H2_ := (Option.bind_some _ _).symm.trans H; with_reducible exact H2_) | with_reducible exact H | (rw [hy385]; exact H) | exact H
     have Ny385 := aa.mk hy385
     clear hy385
     replace H := aa.mk H
     go_enter Try.func56, Try.ntmps56
     go_wp2_with ((with_reducible refine aU (N := 7) rfl ?_); refine Kd.xO (Kd.int .i64) _ 3 rfl (N := 7) rfl 70 _ _ rfl (l0.length : Int) rfl rfl Try.underlying70 (.int .i64 0) 8 info3 rfl (by decide) (by omega) 0 (ok := fun _ => True) (okp := fun _ => True) rfl (fun _ hk => hk) trivial (of_decide_eq_true (by first | (with_reducible assumption) | assumption)) (Nat.le_trans (Nat.mul_le_mul_right _ (of_decide_eq_true (by first | (with_reducible assumption) | assumption) : (l0.length : Int).toNat ≤ 35184372088832)) (by omega)) (Below.refl _ _) (Nat.le_refl _) ?_; intro v386 w4 ho5 hb hg_ hnew_; clear hg_ hnew_; (first | rw [← Ny385.out] at ho5 | (simp only [Int.reduceToNat] at ho5; rw [← Ny385.out] at ho5)); have HO387 := aa.mk (Kd.jE ho5 (gF bD)); replace HB := di HB hb; clear hb ho5)
     go_loopg [4] k (fun kq v4 w' => ∃ (x3_1 : List Int) (x4_1 : Int), v4 = .int .i64 x4_1 ∧ aa (bi.l0 kq l0 x3_1 x4_1 = some r) ∧ aa (kq ≤ k) ∧ aa (Kd.R (Kd.int .i64) 3 w' w.heap.size (fun _ => True) v386 x3_1) ∧ aa (Below w.heap.size w w'))
     case atStart => exact ⟨_, _, aW, H, ⟨Nat.le_refl _⟩, ⟨by (with_reducible repeat (first | apply Kd.eO | apply Kd.eQ | apply Kd.gD)); exact HO387.out⟩, ⟨bD⟩⟩
     case round =>
      clear H
      obtain ⟨x3_1, x4_1, rfl, HA, HK1, HO_3, HB⟩ := hrel
      cases gk with
      | zero => exact absurd HA.out (by simp [bi.l0])
      | succ k1 =>
       have H := HA.out
       clear HA
       simp only [bi.l0] at H
       replace H := fK H
       obtain ⟨H, -, _⟩ | ⟨H, -, _⟩ := H
       · replace H := fK H
         obtain ⟨H, -, _⟩ | ⟨H, c7, -⟩ := H
         · replace H := bL H
           obtain ⟨H, -, _, _⟩ | ⟨H, c8, _, _⟩ := H
           · replace H := bL H
             obtain ⟨H, -, _, _⟩ | ⟨H, c9, _, _⟩ := H
             · replace H := fK H
               obtain ⟨H, -, _⟩ | ⟨H, c10, -⟩ := H
               · replace H := fK H
                 obtain ⟨H, -, _⟩ | ⟨H, c11, -⟩ := H
                 · obtain ⟨y392, hy392⟩ : ∃ y_ : List Int, y_ = (x3_1.set (((ah l0 x4_1).f4) : Int).toNat (wrap64 ((rd x3_1 ((ah l0 x4_1).f4)) + 1))) := ⟨_, rfl⟩
                   replace H : (bi.l0 k1 l0 y392 (wrap64 (x4_1 + 1))) = some r := by first | (rw [hy392]; with_reducible exact H) | (have H2_ := (Option.bind_some _ _).symm.trans H; rw [hy392]; with_reducible exact H2_) | (have H2_ := (Option.bind_some _ _).symm.trans H; with_reducible exact H2_) | with_reducible exact H | (rw [hy392]; exact H) | exact H
                   have Ny392 := aa.mk hy392
                   clear hy392
                   replace H := aa.mk H
                   obtain ⟨ad388, rfl⟩ := iG HR0 x4_1 (by assumption) (by assumption)
                   obtain ⟨A388_0, c388_0, hx388_0, _, _, _, _, _, _, _, HR388_0, HC388_0, _, _⟩ := fw HR0 HB x4_1 (by assumption) (by assumption)
                   obtain ⟨A389_0, c389_0, hx389_0, _, _, _, _, _, _, _, HR389_0, HC389_0, _, _⟩ := fw HR0 HB x4_1 (by assumption) (by assumption)
                   have ea_ := Option.some.inj (hx388_0.symm.trans hx389_0)
                   injection ea_ with ea_ en_ ec_
                   subst ea_
                   subst ec_
                   clear en_
                   obtain ⟨A390_0, c390_0, hx390_0, _, _, _, _, _, _, _, HR390_0, HC390_0, _, _⟩ := fw HR0 HB x4_1 (by assumption) (by assumption)
                   have ea_ := Option.some.inj (hx388_0.symm.trans hx390_0)
                   injection ea_ with ea_ en_ ec_
                   subst ea_
                   subst ec_
                   clear en_
                   obtain ⟨Ao13, co13, eo13⟩ := Kd.ig HO_3.out
                   subst eo13
                   have p391 : 0 ≤ (((ah l0 x4_1).f4) : Int) := of_decide_eq_true (by first | (with_reducible assumption) | assumption)
                   have q391 : ((ah l0 x4_1).f4) < (x3_1.length : Int) := of_decide_eq_true (by first | (with_reducible assumption) | assumption)
                   obtain ⟨ad391, e391, hx391_0⟩ := Kd.kv (Kd.dP HO_3.out).2.2 ((ah l0 x4_1).f4) p391 q391
                   cases e391
                   replace p391 := eq_true p391
                   replace q391 := eq_true q391
                   have p12 : 0 ≤ (((ah l0 x4_1).f4) : Int) := of_decide_eq_true (by first | (with_reducible assumption) | assumption)
                   have q12 : (((ah l0 x4_1).f4) : Int) < ((x3_1.length : Int) : Int) := of_decide_eq_true (by first | (with_reducible assumption) | assumption)
                   obtain ⟨go12, co12, eo12, gb12, gl12, cl12, HG12⟩ := Kd.oO HO_3.out (by omega)
                   (first | cases eo12 | (injection eo12 with ea_ en_ ec_; (first | subst ea_ | (injection ea_ with ea_; subst ea_)); subst ec_; clear en_))
                   have GB12 := aa.mk gb12
                   have GG12 := aa.mk HG12
                   clear gb12 gl12 HG12
                   (first | simp only [add_plain] at hx391_0 | skip)
                   obtain ⟨hx12_0, hf12_0⟩ := Kd.iM 0 HO_3.out (((ah l0 x4_1).f4) : Int) p12 q12
                   replace p12 := eq_true p12
                   replace q12 := eq_true q12
                   have HP14 := Kd.kr HO_3.out (((ah l0 x4_1).f4) : Int) (wrap64 ((rd x3_1 ((ah l0 x4_1).f4)) + 1))
                   go_wp2_with ((with_reducible refine gG (t := 3) (p := 45) rfl ?_); refine fM (t := 3) (p := 45) (v := ?vo_w15) (w1 := (wr.setCell ⟨go12, (((ah l0 x4_1).f4) : Int).toNat, none⟩ (.int .i64 (wrap64 ((rd x3_1 ((ah l0 x4_1).f4)) + 1))))) ?hg ?ho ?hn ?hr ?_; (case ho => rfl); (case hg => rfl); (case hn => rfl); (case hr => first | (go_simp; done) | (go_simp; rfl)); intro w15 hw; have hg : wr.grownBy w15 (some go12) := (by rw [hw]; exact HP14.2); have hp_ : Kd.R (Kd.int .i64) 3 w15 w.heap.size (fun _ => True) (.slice (some ⟨go12, 0, none⟩) x3_1.length co13) y392 := (by rw [hw, Ny392.out]; exact HP14.1); clear HP14; have n0_ := aa.mk (hp_); have n1_ := aa.mk ((by rw [hw]; exact dA (HB.out) GB12.out : Below w.heap.size w w15)); clear HO_3; clear HB; have HO_3 := n0_; have HB := n1_; clear n0_ n1_; clear hg hw hp_)
                   go_roundg k1
                   case measure => have := HK1.out; omega
                   case rel => exact ⟨_, _, aW, H, ⟨by have := HK1.out; omega⟩, ⟨by (with_reducible repeat (first | apply Kd.eO | apply Kd.eQ | apply Kd.gD)); exact HO_3.out⟩, ⟨bD⟩⟩
                 exact absurd H (by simp)
               exact absurd H (by simp)
             replace H := aa.mk H
             obtain ⟨ad388, rfl⟩ := iG HR0 x4_1 (by assumption) (by assumption)
             obtain ⟨A388_0, c388_0, hx388_0, _, _, _, _, _, _, _, HR388_0, HC388_0, _, _⟩ := fw HR0 HB x4_1 (by assumption) (by assumption)
             obtain ⟨A389_0, c389_0, hx389_0, _, _, _, _, _, _, _, HR389_0, HC389_0, _, _⟩ := fw HR0 HB x4_1 (by assumption) (by assumption)
             have ea_ := Option.some.inj (hx388_0.symm.trans hx389_0)
             injection ea_ with ea_ en_ ec_
             subst ea_
             subst ec_
             clear en_
             go_wp2
             go_roundg k1
             case measure => have := HK1.out; omega
             case rel => exact ⟨_, _, aW, H, ⟨by have := HK1.out; omega⟩, ⟨by (with_reducible repeat (first | apply Kd.eO | apply Kd.eQ | apply Kd.gD)); exact HO_3.out⟩, ⟨bD⟩⟩
           replace H := fK H
           obtain ⟨H, -, _⟩ | ⟨H, c16, -⟩ := H
           · replace H := fK H
             obtain ⟨H, -, _⟩ | ⟨H, c17, -⟩ := H
             · obtain ⟨y395, hy395⟩ : ∃ y_ : List Int, y_ = (x3_1.set (((ah l0 x4_1).f3) : Int).toNat (wrap64 ((rd x3_1 ((ah l0 x4_1).f3)) + 1))) := ⟨_, rfl⟩
               replace H : (if ((ah l0 x4_1).f1) = 3 then (if 0 ≤ ((ah l0 x4_1).f4) then (if ((ah l0 x4_1).f4) < (x3_1.length : Int) then (bi.l0 k1 l0 (y395.set (((ah l0 x4_1).f4) : Int).toNat (wrap64 ((rd y395 ((ah l0 x4_1).f4)) + 1))) (wrap64 (x4_1 + 1))) else (none)) else (none)) else (bi.l0 k1 l0 y395 (wrap64 (x4_1 + 1)))) = some r := by first | (rw [hy395]; with_reducible exact H) | (have H2_ := (Option.bind_some _ _).symm.trans H; rw [hy395]; with_reducible exact H2_) | (have H2_ := (Option.bind_some _ _).symm.trans H; with_reducible exact H2_) | with_reducible exact H | (rw [hy395]; exact H) | exact H
               have Ny395 := aa.mk hy395
               clear hy395
               replace H := bL H
               obtain ⟨H, -, _, _⟩ | ⟨H, c19, _, _⟩ := H
               · replace H := fK H
                 obtain ⟨H, -, _⟩ | ⟨H, c20, -⟩ := H
                 · replace H := fK H
                   obtain ⟨H, -, _⟩ | ⟨H, c21, -⟩ := H
                   · obtain ⟨y399, hy399⟩ : ∃ y_ : List Int, y_ = (y395.set (((ah l0 x4_1).f4) : Int).toNat (wrap64 ((rd y395 ((ah l0 x4_1).f4)) + 1))) := ⟨_, rfl⟩
                     replace H : (bi.l0 k1 l0 y399 (wrap64 (x4_1 + 1))) = some r := by first | (rw [hy399]; with_reducible exact H) | (have H2_ := (Option.bind_some _ _).symm.trans H; rw [hy399]; with_reducible exact H2_) | (have H2_ := (Option.bind_some _ _).symm.trans H; with_reducible exact H2_) | with_reducible exact H | (rw [hy399]; exact H) | exact H
                     have Ny399 := aa.mk hy399
                     clear hy399
                     replace H := aa.mk H
                     obtain ⟨ad388, rfl⟩ := iG HR0 x4_1 (by assumption) (by assumption)
                     obtain ⟨A388_0, c388_0, hx388_0, _, _, _, _, _, _, _, HR388_0, HC388_0, _, _⟩ := fw HR0 HB x4_1 (by assumption) (by assumption)
                     obtain ⟨A393_0, c393_0, hx393_0, _, _, _, _, _, _, _, HR393_0, HC393_0, _, _⟩ := fw HR0 HB x4_1 (by assumption) (by assumption)
                     have ea_ := Option.some.inj (hx388_0.symm.trans hx393_0)
                     injection ea_ with ea_ en_ ec_
                     subst ea_
                     subst ec_
                     clear en_
                     obtain ⟨Ao23, co23, eo23⟩ := Kd.ig HO_3.out
                     subst eo23
                     have p394 : 0 ≤ (((ah l0 x4_1).f3) : Int) := of_decide_eq_true (by first | (with_reducible assumption) | assumption)
                     have q394 : ((ah l0 x4_1).f3) < (x3_1.length : Int) := of_decide_eq_true (by first | (with_reducible assumption) | assumption)
                     obtain ⟨ad394, e394, hx394_0⟩ := Kd.kv (Kd.dP HO_3.out).2.2 ((ah l0 x4_1).f3) p394 q394
                     cases e394
                     replace p394 := eq_true p394
                     replace q394 := eq_true q394
                     have p18 : 0 ≤ (((ah l0 x4_1).f3) : Int) := of_decide_eq_true (by first | (with_reducible assumption) | assumption)
                     have q18 : (((ah l0 x4_1).f3) : Int) < ((x3_1.length : Int) : Int) := of_decide_eq_true (by first | (with_reducible assumption) | assumption)
                     obtain ⟨go18, co18, eo18, gb18, gl18, cl18, HG18⟩ := Kd.oO HO_3.out (by omega)
                     (first | cases eo18 | (injection eo18 with ea_ en_ ec_; (first | subst ea_ | (injection ea_ with ea_; subst ea_)); subst ec_; clear en_))
                     have GB18 := aa.mk gb18
                     have GG18 := aa.mk HG18
                     clear gb18 gl18 HG18
                     (first | simp only [add_plain] at hx394_0 | skip)
                     obtain ⟨hx18_0, hf18_0⟩ := Kd.iM 0 HO_3.out (((ah l0 x4_1).f3) : Int) p18 q18
                     replace p18 := eq_true p18
                     replace q18 := eq_true q18
                     have HP24 := Kd.kr HO_3.out (((ah l0 x4_1).f3) : Int) (wrap64 ((rd x3_1 ((ah l0 x4_1).f3)) + 1))
                     go_wp2_with (first | ((with_reducible refine gG (t := 3) (p := 29) rfl ?_); refine fM (t := 3) (p := 29) (v := ?vo_w25) (w1 := (wr.setCell ⟨go18, (((ah l0 x4_1).f3) : Int).toNat, none⟩ (.int .i64 (wrap64 ((rd x3_1 ((ah l0 x4_1).f3)) + 1))))) ?hg ?ho ?hn ?hr ?_; (case ho => rfl); (case hg => rfl); (case hn => rfl); (case hr => first | (go_simp; done) | (go_simp; rfl)); intro w25 hw; have hg : wr.grownBy w25 (some go18) := (by rw [hw]; exact HP24.2); have hp_ : Kd.R (Kd.int .i64) 3 w25 w.heap.size (fun _ => True) (.slice (some ⟨go18, 0, none⟩) x3_1.length co23) y395 := (by rw [hw, Ny395.out]; exact HP24.1); clear HP24; have n0_ := aa.mk (hp_); have n1_ := aa.mk ((by rw [hw]; exact dA (HB.out) GB18.out : Below w.heap.size w w25)); clear HO_3; clear HB; have HO_3 := n0_; have HB := n1_; clear n0_ n1_; clear hg hw hp_; obtain ⟨A396_0, c396_0, hx396_0, _, _, _, _, _, _, _, HR396_0, HC396_0, _, _⟩ := fw HR0 HB x4_1 (by assumption) (by assumption); obtain ⟨A397_0, c397_0, hx397_0, _, _, _, _, _, _, _, HR397_0, HC397_0, _, _⟩ := fw HR0 HB x4_1 (by assumption) (by assumption); have ea_ := Option.some.inj (hx396_0.symm.trans hx397_0); injection ea_ with ea_ en_ ec_; subst ea_; subst ec_; clear en_; have p398 : 0 ≤ (((ah l0 x4_1).f4) : Int) := of_decide_eq_true (by first | (with_reducible assumption) | assumption); have q398 : ((ah l0 x4_1).f4) < (y395.length : Int) := (by have h_ : (((ah l0 x4_1).f4) : Int) < ((x3_1.length : Int) : Int) := of_decide_eq_true (by first | (with_reducible assumption) | assumption); first | (have e_ := (Kd.dP HO_3.out).1; omega) | simpa only [Ny395.out, List.length_set] using h_); have ql398 : ((((ah l0 x4_1).f4) : Int) < ((x3_1.length : Int) : Int)) = True := eq_true (of_decide_eq_true (by first | (with_reducible assumption) | assumption)); obtain ⟨ad398, e398, hx398_0⟩ := Kd.kv (Kd.dP HO_3.out).2.2 ((ah l0 x4_1).f4) p398 q398; obtain rfl : (⟨go18, 0, none⟩ : Addr) = ad398 := (by injection e398); (first | simp only [add_plain] at hx398_0 | simp only [lT] at hx398_0 | simp only [Addr.add, Nat.zero_add] at hx398_0 | skip); replace p398 := eq_true p398; replace q398 := eq_true q398; have p22 : 0 ≤ (((ah l0 x4_1).f4) : Int) := of_decide_eq_true (by first | (with_reducible assumption) | assumption); have q22 : (((ah l0 x4_1).f4) : Int) < ((x3_1.length : Int) : Int) := of_decide_eq_true (by first | (with_reducible assumption) | assumption); obtain ⟨hx22_0, hf22_0⟩ := Kd.iM 0 HO_3.out (((ah l0 x4_1).f4) : Int) p22 q22; replace p22 := eq_true p22; replace q22 := eq_true q22; obtain ⟨hy26_, hz26_⟩ := Kd.iM 0 HO_3.out (((ah l0 x4_1).f4) : Int) (of_decide_eq_true (by first | (with_reducible assumption) | assumption)) (of_decide_eq_true (by first | (with_reducible assumption) | assumption)); have HP26 := Kd.kr HO_3.out (((ah l0 x4_1).f4) : Int) (wrap64 ((rd y395 ((ah l0 x4_1).f4)) + 1))) | ((with_reducible refine gG (t := 3) (p := 45) rfl ?_); refine fM (t := 3) (p := 45) (v := ?vo_w27) (w1 := (w25.setCell ⟨go18, (((ah l0 x4_1).f4) : Int).toNat, none⟩ (.int .i64 (wrap64 ((rd y395 ((ah l0 x4_1).f4)) + 1))))) ?hg ?ho ?hn ?hr ?_; (case ho => rfl); (case hg => rfl); (case hn => rfl); (case hr => first | (go_simp; done) | (go_simp; rfl)); intro w27 hw; have hg : w25.grownBy w27 (some go18) := (by rw [hw]; exact HP26.2); have hp_ : Kd.R (Kd.int .i64) 3 w27 w.heap.size (fun _ => True) (.slice (some ⟨go18, 0, none⟩) x3_1.length co23) y399 := (by rw [hw, Ny399.out]; exact HP26.1); clear HP26; have n0_ := aa.mk (hp_); have n1_ := aa.mk ((by rw [hw]; exact dA (HB.out) GB18.out : Below w.heap.size w w27)); clear HO_3; clear HB; have HO_3 := n0_; have HB := n1_; clear n0_ n1_; clear hg hw hp_))
                     go_roundg k1
                     case measure => have := HK1.out; omega
                     case rel => exact ⟨_, _, aW, H, ⟨by have := HK1.out; omega⟩, ⟨by (with_reducible repeat (first | apply Kd.eO | apply Kd.eQ | apply Kd.gD)); exact HO_3.out⟩, ⟨bD⟩⟩
                   exact absurd H (by simp)
                 exact absurd H (by simp)
               replace H := aa.mk H
               obtain ⟨ad388, rfl⟩ := iG HR0 x4_1 (by assumption) (by assumption)
               obtain ⟨A388_0, c388_0, hx388_0, _, _, _, _, _, _, _, HR388_0, HC388_0, _, _⟩ := fw HR0 HB x4_1 (by assumption) (by assumption)
               obtain ⟨A393_0, c393_0, hx393_0, _, _, _, _, _, _, _, HR393_0, HC393_0, _, _⟩ := fw HR0 HB x4_1 (by assumption) (by assumption)
               have ea_ := Option.some.inj (hx388_0.symm.trans hx393_0)
               injection ea_ with ea_ en_ ec_
               subst ea_
               subst ec_
               clear en_
               obtain ⟨Ao28, co28, eo28⟩ := Kd.ig HO_3.out
               subst eo28
               have p394 : 0 ≤ (((ah l0 x4_1).f3) : Int) := of_decide_eq_true (by first | (with_reducible assumption) | assumption)
               have q394 : ((ah l0 x4_1).f3) < (x3_1.length : Int) := of_decide_eq_true (by first | (with_reducible assumption) | assumption)
               obtain ⟨ad394, e394, hx394_0⟩ := Kd.kv (Kd.dP HO_3.out).2.2 ((ah l0 x4_1).f3) p394 q394
               cases e394
               replace p394 := eq_true p394
               replace q394 := eq_true q394
               have p18 : 0 ≤ (((ah l0 x4_1).f3) : Int) := of_decide_eq_true (by first | (with_reducible assumption) | assumption)
               have q18 : (((ah l0 x4_1).f3) : Int) < ((x3_1.length : Int) : Int) := of_decide_eq_true (by first | (with_reducible assumption) | assumption)
               obtain ⟨go18, co18, eo18, gb18, gl18, cl18, HG18⟩ := Kd.oO HO_3.out (by omega)
               (first | cases eo18 | (injection eo18 with ea_ en_ ec_; (first | subst ea_ | (injection ea_ with ea_; subst ea_)); subst ec_; clear en_))
               have GB18 := aa.mk gb18
               have GG18 := aa.mk HG18
               clear gb18 gl18 HG18
               (first | simp only [add_plain] at hx394_0 | skip)
               obtain ⟨hx18_0, hf18_0⟩ := Kd.iM 0 HO_3.out (((ah l0 x4_1).f3) : Int) p18 q18
               replace p18 := eq_true p18
               replace q18 := eq_true q18
               have HP29 := Kd.kr HO_3.out (((ah l0 x4_1).f3) : Int) (wrap64 ((rd x3_1 ((ah l0 x4_1).f3)) + 1))
               go_wp2_with ((with_reducible refine gG (t := 3) (p := 29) rfl ?_); refine fM (t := 3) (p := 29) (v := ?vo_w30) (w1 := (wr.setCell ⟨go18, (((ah l0 x4_1).f3) : Int).toNat, none⟩ (.int .i64 (wrap64 ((rd x3_1 ((ah l0 x4_1).f3)) + 1))))) ?hg ?ho ?hn ?hr ?_; (case ho => rfl); (case hg => rfl); (case hn => rfl); (case hr => first | (go_simp; done) | (go_simp; rfl)); intro w30 hw; have hg : wr.grownBy w30 (some go18) := (by rw [hw]; exact HP29.2); have hp_ : Kd.R (Kd.int .i64) 3 w30 w.heap.size (fun _ => True) (.slice (some ⟨go18, 0, none⟩) x3_1.length co28) y395 := (by rw [hw, Ny395.out]; exact HP29.1); clear HP29; have n0_ := aa.mk (hp_); have n1_ := aa.mk ((by rw [hw]; exact dA (HB.out) GB18.out : Below w.heap.size w w30)); clear HO_3; clear HB; have HO_3 := n0_; have HB := n1_; clear n0_ n1_; clear hg hw hp_; obtain ⟨A396_0, c396_0, _, _, _, _, _, _, _, _, HR396_0, HC396_0, _, _⟩ := fw HR0 HB x4_1 (by assumption) (by assumption))
               go_roundg k1
               case measure => have := HK1.out; omega
               case rel => exact ⟨_, _, aW, H, ⟨by have := HK1.out; omega⟩, ⟨by (with_reducible repeat (first | apply Kd.eO | apply Kd.eQ | apply Kd.gD)); exact HO_3.out⟩, ⟨bD⟩⟩
             exact absurd H (by simp)
           exact absurd H (by simp)
         exact absurd H (by simp)
       obtain rfl := Option.some.inj H
       go_wp2
       go_ret
       exact ⟨_, dn, by (with_reducible repeat (first | apply Kd.eO | apply Kd.eQ | apply Kd.gD)); exact HO_3.out, bD⟩
   exact absurd H (by simp)
 exact absurd H (by simp)
attribute [local go_sem] d9 eu fH fI dR dS ek eB
mutual
def aX.l0 : Nat → List (S47) → Int → Int → Option (Bool)
 | 0, _, _, _ => none
 | k + 1, x0, x1, x5 => if x5 < (x0.length : Int) then (aX.l1 k x0 x1 x5 0) else (some false)
def aX.l1 : Nat → List (S47) → Int → Int → Int → Option (Bool)
 | 0, _, _, _, _ => none
 | k + 1, x0, x1, x5, x6 => if 0 ≤ x5 then (if x5 < (x0.length : Int) then (if x6 < (((ah x0 x5).f0).length : Int) then (if 0 ≤ x6 then (if ((bg ((ah x0 x5).f0) x6).f0) = 96 then (if ((bg ((ah x0 x5).f0) x6).f3) = x1 then (some true) else (aX.l1 k x0 x1 x5 (wrap64 (x6 + 1)))) else (if ((bg ((ah x0 x5).f0) x6).f0) = 97 then (if ((bg ((ah x0 x5).f0) x6).f3) = x1 then (some true) else (aX.l1 k x0 x1 x5 (wrap64 (x6 + 1)))) else (aX.l1 k x0 x1 x5 (wrap64 (x6 + 1))))) else (none)) else (aX.l0 k x0 x1 (wrap64 (x5 + 1)))) else (none)) else (none)
end
def aX.f (k : Nat) (l0 : List (S47)) (a1 : Int) : Option (Bool) := aX.l0 k l0 a1 0
theorem aX.calls (k : Nat) (A0 : Option Addr) (c0 : Nat) (l0 : List (S47)) (a1 : Int) (r : Bool) (w : World) (hr0 : Kd.C k47 w A0 l0.length l0) (hc0 : l0.length ≤ c0) (h : aX.f k l0 a1 = some r) :
 Calls Try.prog 57 #[.slice A0 l0.length c0, .int .u32 a1] w fun e w' => e = .returned (.bool r) ∧ Below w.heap.size w w' := by
 have hu45 := Try.underlying45
 have HR0 := aa.mk hr0
 have HC0 := aa.mk hc0
 clear hr0 hc0
 have HB := aa.mk (Below.refl w.heap.size w)
 have H : (aX.l0 k l0 a1 0) = some r := h
 clear h
 replace H := aa.mk H
 go_enter Try.func57, Try.ntmps57
 go_wp2
 go_loopg [5] k (fun kq v5 w' => ∃ (x5_1 : Int), v5 = .int .i64 x5_1 ∧ aa (aX.l0 kq l0 a1 x5_1 = some r) ∧ aa (kq ≤ k) ∧ aa (Below w.heap.size w w'))
 case atStart => exact ⟨_, aW, H, ⟨Nat.le_refl _⟩, ⟨bD⟩⟩
 case round =>
  clear H
  obtain ⟨x5_1, rfl, HA, HK1, HB⟩ := hrel
  cases gk with
  | zero => exact absurd HA.out (by simp [aX.l0])
  | succ k1 =>
   have H := HA.out
   clear HA
   simp only [aX.l0] at H
   replace H := fK H
   obtain ⟨H, -, _⟩ | ⟨H, -, _⟩ := H
   · replace H := aa.mk H
     go_wp2
     go_loopg [6] k1 (fun kq v6 w' => ∃ (x6_2 : Int), v6 = .int .i64 x6_2 ∧ aa (aX.l1 kq l0 a1 x5_1 x6_2 = some r) ∧ aa (kq ≤ k1) ∧ aa (Below w.heap.size w w'))
     case atStart => exact ⟨_, aW, H, ⟨Nat.le_refl _⟩, ⟨bD⟩⟩
     case round =>
      clear H
      obtain ⟨x6_2, rfl, HA, HK2, HB⟩ := hrel
      cases gk with
      | zero => exact absurd HA.out (by simp [aX.l1])
      | succ k2 =>
       have H := HA.out
       clear HA
       simp only [aX.l1] at H
       replace H := fK H
       obtain ⟨H, -, _⟩ | ⟨H, c4, -⟩ := H
       · replace H := fK H
         obtain ⟨H, -, _⟩ | ⟨H, c5, -⟩ := H
         · replace H := fK H
           obtain ⟨H, -, _⟩ | ⟨H, -, _⟩ := H
           · replace H := fK H
             obtain ⟨H, -, _⟩ | ⟨H, c7, -⟩ := H
             · iterate 2
                replace H := bL H
                obtain ⟨H, -, _, _⟩ | ⟨H, c8, _, _⟩ := H
                · replace H := bL H
                  obtain ⟨H, -, _, _⟩ | ⟨H, c9, _, _⟩ := H
                  · cases H
                    obtain ⟨ad400, rfl⟩ := iG HR0 x5_1 (by assumption) (by assumption)
                    obtain ⟨A400_0, c400_0, hx400_0, _, _, _, _, _, _, _, HR400_0, HC400_0, _, _⟩ := fw HR0 HB x5_1 (by assumption) (by assumption)
                    obtain ⟨A401_0, c401_0, hx401_0, _, _, _, _, _, _, _, HR401_0, HC401_0, _, _⟩ := fw HR0 HB x5_1 (by assumption) (by assumption)
                    have ea_ := Option.some.inj (hx400_0.symm.trans hx401_0)
                    injection ea_ with ea_ en_ ec_
                    subst ea_
                    subst ec_
                    clear en_
                    obtain ⟨ad402, rfl, _, _, _, _, _, _⟩ := kX HR401_0 HB x6_2 (by assumption) (by assumption)
                    go_wp2_with ((with_reducible refine aU (N := 7) rfl ?_); refine dU (N := 7) (cs := #[.int .u16 0, .int .u8 0, .int .u8 0, .int .u32 0]) (t := 45) ?_; intro gb403 hg w10 hbox hb; have GE403 := geN HB hg; have BK403 := aa.mk hbox; replace HB := di HB hb; clear hb hbox hg; obtain ⟨_, _, _, _, _, _, _, _⟩ := cz4 BK403)
                    go_ret
                    exact ⟨dn, bD⟩
                  replace H := aa.mk H
                  obtain ⟨ad400, rfl⟩ := iG HR0 x5_1 (by assumption) (by assumption)
                  obtain ⟨A400_0, c400_0, hx400_0, _, _, _, _, _, _, _, HR400_0, HC400_0, _, _⟩ := fw HR0 HB x5_1 (by assumption) (by assumption)
                  obtain ⟨A401_0, c401_0, hx401_0, _, _, _, _, _, _, _, HR401_0, HC401_0, _, _⟩ := fw HR0 HB x5_1 (by assumption) (by assumption)
                  have ea_ := Option.some.inj (hx400_0.symm.trans hx401_0)
                  injection ea_ with ea_ en_ ec_
                  subst ea_
                  subst ec_
                  clear en_
                  obtain ⟨ad402, rfl, _, _, _, _, _, _⟩ := kX HR401_0 HB x6_2 (by assumption) (by assumption)
                  go_wp2_with ((with_reducible refine aU (N := 7) rfl ?_); refine dU (N := 7) (cs := #[.int .u16 0, .int .u8 0, .int .u8 0, .int .u32 0]) (t := 45) ?_; intro gb403 hg w12 hbox hb; have GE403 := geN HB hg; have BK403 := aa.mk hbox; replace HB := di HB hb; clear hb hbox hg; obtain ⟨_, _, _, _, _, _, _, _⟩ := cz4 BK403)
                  go_roundg k2
                  case measure => have := HK1.out; have := HK2.out; omega
                  case rel => exact ⟨_, aW, H, ⟨by have := HK1.out; have := HK2.out; omega⟩, ⟨bD⟩⟩
               replace H := aa.mk H
               obtain ⟨ad400, rfl⟩ := iG HR0 x5_1 (by assumption) (by assumption)
               obtain ⟨A400_0, c400_0, hx400_0, _, _, _, _, _, _, _, HR400_0, HC400_0, _, _⟩ := fw HR0 HB x5_1 (by assumption) (by assumption)
               obtain ⟨A401_0, c401_0, hx401_0, _, _, _, _, _, _, _, HR401_0, HC401_0, _, _⟩ := fw HR0 HB x5_1 (by assumption) (by assumption)
               have ea_ := Option.some.inj (hx400_0.symm.trans hx401_0)
               injection ea_ with ea_ en_ ec_
               subst ea_
               subst ec_
               clear en_
               obtain ⟨ad402, rfl, _, _, _, _, _, _⟩ := kX HR401_0 HB x6_2 (by assumption) (by assumption)
               go_wp2_with ((with_reducible refine aU (N := 7) rfl ?_); refine dU (N := 7) (cs := #[.int .u16 0, .int .u8 0, .int .u8 0, .int .u32 0]) (t := 45) ?_; intro gb403 hg w20 hbox hb; have GE403 := geN HB hg; have BK403 := aa.mk hbox; replace HB := di HB hb; clear hb hbox hg; obtain ⟨_, _, _, _, _, _, _, _⟩ := cz4 BK403)
               go_roundg k2
               case measure => have := HK1.out; have := HK2.out; omega
               case rel => exact ⟨_, aW, H, ⟨by have := HK1.out; have := HK2.out; omega⟩, ⟨bD⟩⟩
             exact absurd H (by simp)
           replace H := aa.mk H
           obtain ⟨ad400, rfl⟩ := iG HR0 x5_1 (by assumption) (by assumption)
           obtain ⟨A400_0, c400_0, _, _, _, _, _, _, _, _, HR400_0, HC400_0, _, _⟩ := fw HR0 HB x5_1 (by assumption) (by assumption)
           go_wp2
           go_roundg k2
           case measure => have := HK1.out; have := HK2.out; omega
           case rel => exact ⟨_, aW, H, ⟨by have := HK1.out; have := HK2.out; omega⟩, ⟨bD⟩⟩
         exact absurd H (by simp)
       exact absurd H (by simp)
   cases H
   go_wp2
   go_ret
   exact ⟨dn, bD⟩
def eH.f (k : Nat) (a0 : Int) : Option (Bool) := (az.f k a0).bind fun t404 => (if t404 = true then ((bH.f k a0).bind fun t405 => (some (!t405))) else (some false))
theorem eH.calls (k : Nat) (a0 : Int) (r : Bool) (w : World) (h : eH.f k a0 = some r) :
 Calls Try.prog 137 #[.int .u16 a0] w fun e w' => e = .returned (.bool r) ∧ cu w w' := by
 have H : ((az.f k a0).bind fun t404 => (if t404 = true then ((bH.f k a0).bind fun t405 => (some (!t405))) else (some false))) = some r := h
 clear h
 replace H := bnd H
 obtain ⟨t404, A2, H⟩ := H
 replace H := jq H
 obtain ⟨rfl, H⟩ | ⟨rfl, H⟩ := H
 · replace H := bnd H
   obtain ⟨t405, A4, H⟩ := H
   cases H
   go_enter Try.func137, Try.ntmps137
   go_wp2_with (first | (go_at_call 92; (with_reducible refine (az.calls _ _ _ _ A2.out).mono ?_); rintro e w' ⟨rfl, ⟨nd, rfl⟩⟩) | (go_at_call 58; (with_reducible refine (bH.calls _ _ _ _ A4.out).mono ?_); rintro e w' ⟨rfl, ⟨nd, rfl⟩⟩))
   go_ret
   exact ⟨aW, bA⟩
 cases H
 go_enter Try.func137, Try.ntmps137
 go_wp2_with (go_at_call 92; (with_reducible refine (az.calls _ _ _ _ A2.out).mono ?_); rintro e w' ⟨rfl, ⟨nd, rfl⟩⟩)
 go_ret
 exact ⟨aW, bA⟩
def eX.f (k : Nat) (a0_0 : Int) (a0_1 : Int) (a0_2 : Int) (a0_3 : Int) (a1_0 : Int) (a1_1 : Int) (a1_2 : Int) (a1_3 : Int) : Option (Bool) := if a0_0 = 0 then ((eH.f k a1_0).bind fun t408 => (if t408 = true then (some false) else (if a1_0 = 132 then (some false) else ((bR.f k a1_0).bind fun t409 => (some (t409 != 0)))))) else (if a0_0 = 96 then ((bR.f k a1_0).bind fun t410 => (some (t410 != 0))) else (if a0_0 = 128 then ((bR.f k a1_0).bind fun t411 => (some (t411 != 0))) else (some true)))
theorem eX.calls (k : Nat) (a0_0 : Int) (a0_1 : Int) (a0_2 : Int) (a0_3 : Int) (a1_0 : Int) (a1_1 : Int) (a1_2 : Int) (a1_3 : Int) (r : Bool) (w : World) (h : eX.f k a0_0 a0_1 a0_2 a0_3 a1_0 a1_1 a1_2 a1_3 = some r) :
 Calls Try.prog 93 #[.agg #[.int .u16 a0_0, .int .u8 a0_1, .int .u8 a0_2, .int .u32 a0_3], .agg #[.int .u16 a1_0, .int .u8 a1_1, .int .u8 a1_2, .int .u32 a1_3]] w fun e w' => e = .returned (.bool r) ∧ Below w.heap.size w w' := by
 have hu45 := Try.underlying45
 have HB := aa.mk (Below.refl w.heap.size w)
 have H : (if a0_0 = 0 then ((eH.f k a1_0).bind fun t408 => (if t408 = true then (some false) else (if a1_0 = 132 then (some false) else ((bR.f k a1_0).bind fun t409 => (some (t409 != 0)))))) else (if a0_0 = 96 then ((bR.f k a1_0).bind fun t410 => (some (t410 != 0))) else (if a0_0 = 128 then ((bR.f k a1_0).bind fun t411 => (some (t411 != 0))) else (some true)))) = some r := h
 clear h
 replace H := bL H
 obtain ⟨H, -, _, _⟩ | ⟨H, c3, _, _⟩ := H
 · replace H := bnd H
   obtain ⟨t408, A4, H⟩ := H
   replace H := jq H
   obtain ⟨rfl, H⟩ | ⟨rfl, H⟩ := H
   · cases H
     go_enter Try.func93, Try.ntmps93
     go_wp2_with (first | ((with_reducible refine aU (N := 2) rfl ?_); refine dU (N := 2) (cs := #[.int .u16 a0_0, .int .u8 a0_1, .int .u8 a0_2, .int .u32 a0_3]) (t := 45) ?_; intro gb406 hg w6 hbox hb; have GE406 := geN HB hg; have BK406 := aa.mk hbox; replace HB := di HB hb; clear hb hbox hg) | ((with_reducible refine aU (N := 3) rfl ?_); refine dU (N := 3) (cs := #[.int .u16 a1_0, .int .u8 a1_1, .int .u8 a1_2, .int .u32 a1_3]) (t := 45) ?_; intro gb407 hg w7 hbox hb; have NB406_407 := nbN BK406 hg; have NB407_406 := nbM BK406 hg; have GE407 := geN HB hg; replace BK406 := lK BK406 hb; have BK407 := aa.mk hbox; replace HB := di HB hb; clear hb hbox hg; have hnb8 := NB406_407.out; have hnc8 := NB407_406.out; obtain ⟨_, _, _, _, _, _, _, _⟩ := cz4 BK406; obtain ⟨_, _, _, _, _, _, _, _⟩ := cz4 BK407) | (go_at_call 137; (with_reducible refine (eH.calls _ _ _ _ A4.out).mono ?_); rintro e w' ⟨rfl, ⟨nd, rfl⟩⟩))
     go_ret
     exact ⟨dn, bD⟩
   replace H := bL H
   obtain ⟨H, -, _, _⟩ | ⟨H, c11, _, _⟩ := H
   · cases H
     go_enter Try.func93, Try.ntmps93
     go_wp2_with (first | ((with_reducible refine aU (N := 2) rfl ?_); refine dU (N := 2) (cs := #[.int .u16 a0_0, .int .u8 a0_1, .int .u8 a0_2, .int .u32 a0_3]) (t := 45) ?_; intro gb406 hg w12 hbox hb; have GE406 := geN HB hg; have BK406 := aa.mk hbox; replace HB := di HB hb; clear hb hbox hg) | ((with_reducible refine aU (N := 3) rfl ?_); refine dU (N := 3) (cs := #[.int .u16 a1_0, .int .u8 a1_1, .int .u8 a1_2, .int .u32 a1_3]) (t := 45) ?_; intro gb407 hg w13 hbox hb; have NB406_407 := nbN BK406 hg; have NB407_406 := nbM BK406 hg; have GE407 := geN HB hg; replace BK406 := lK BK406 hb; have BK407 := aa.mk hbox; replace HB := di HB hb; clear hb hbox hg; have hnb14 := NB406_407.out; have hnc14 := NB407_406.out; obtain ⟨_, _, _, _, _, _, _, _⟩ := cz4 BK406; obtain ⟨_, _, _, _, _, _, _, _⟩ := cz4 BK407) | (go_at_call 137; (with_reducible refine (eH.calls _ _ _ _ A4.out).mono ?_); rintro e w' ⟨rfl, ⟨nd, rfl⟩⟩))
     go_ret
     exact ⟨dn, bD⟩
   replace H := bnd H
   obtain ⟨t409, A17, H⟩ := H
   cases H
   go_enter Try.func93, Try.ntmps93
   go_wp2_with (first | ((with_reducible refine aU (N := 2) rfl ?_); refine dU (N := 2) (cs := #[.int .u16 a0_0, .int .u8 a0_1, .int .u8 a0_2, .int .u32 a0_3]) (t := 45) ?_; intro gb406 hg w18 hbox hb; have GE406 := geN HB hg; have BK406 := aa.mk hbox; replace HB := di HB hb; clear hb hbox hg) | ((with_reducible refine aU (N := 3) rfl ?_); refine dU (N := 3) (cs := #[.int .u16 a1_0, .int .u8 a1_1, .int .u8 a1_2, .int .u32 a1_3]) (t := 45) ?_; intro gb407 hg w19 hbox hb; have NB406_407 := nbN BK406 hg; have NB407_406 := nbM BK406 hg; have GE407 := geN HB hg; replace BK406 := lK BK406 hb; have BK407 := aa.mk hbox; replace HB := di HB hb; clear hb hbox hg; have hnb20 := NB406_407.out; have hnc20 := NB407_406.out; obtain ⟨_, _, _, _, _, _, _, _⟩ := cz4 BK406; obtain ⟨_, _, _, _, _, _, _, _⟩ := cz4 BK407) | (go_at_call 137; (with_reducible refine (eH.calls _ _ _ _ A4.out).mono ?_); rintro e w' ⟨rfl, ⟨nd, rfl⟩⟩) | (go_at_call 61; (with_reducible refine (bR.calls _ _ _ _ A17.out).mono ?_); rintro e w' ⟨rfl, ⟨nd, rfl⟩⟩))
   go_ret
   exact ⟨dn, bD⟩
 iterate 2
  replace H := bL H
  obtain ⟨H, -, _, _⟩ | ⟨H, c23, _, _⟩ := H
  · replace H := bnd H
    obtain ⟨t410, A24, H⟩ := H
    cases H
    go_enter Try.func93, Try.ntmps93
    go_wp2_with (first | ((with_reducible refine aU (N := 2) rfl ?_); refine dU (N := 2) (cs := #[.int .u16 a0_0, .int .u8 a0_1, .int .u8 a0_2, .int .u32 a0_3]) (t := 45) ?_; intro gb406 hg w25 hbox hb; have GE406 := geN HB hg; have BK406 := aa.mk hbox; replace HB := di HB hb; clear hb hbox hg) | ((with_reducible refine aU (N := 3) rfl ?_); refine dU (N := 3) (cs := #[.int .u16 a1_0, .int .u8 a1_1, .int .u8 a1_2, .int .u32 a1_3]) (t := 45) ?_; intro gb407 hg w26 hbox hb; have NB406_407 := nbN BK406 hg; have NB407_406 := nbM BK406 hg; have GE407 := geN HB hg; replace BK406 := lK BK406 hb; have BK407 := aa.mk hbox; replace HB := di HB hb; clear hb hbox hg; have hnb27 := NB406_407.out; have hnc27 := NB407_406.out; obtain ⟨_, _, _, _, _, _, _, _⟩ := cz4 BK406; obtain ⟨_, _, _, _, _, _, _, _⟩ := cz4 BK407) | (go_at_call 61; (with_reducible refine (bR.calls _ _ _ _ A24.out).mono ?_); rintro e w' ⟨rfl, ⟨nd, rfl⟩⟩))
    go_ret
    exact ⟨dn, bD⟩
 cases H
 go_enter Try.func93, Try.ntmps93
 go_wp2_with (first | ((with_reducible refine aU (N := 2) rfl ?_); refine dU (N := 2) (cs := #[.int .u16 a0_0, .int .u8 a0_1, .int .u8 a0_2, .int .u32 a0_3]) (t := 45) ?_; intro gb406 hg w37 hbox hb; have GE406 := geN HB hg; have BK406 := aa.mk hbox; replace HB := di HB hb; clear hb hbox hg) | ((with_reducible refine aU (N := 3) rfl ?_); refine dU (N := 3) (cs := #[.int .u16 a1_0, .int .u8 a1_1, .int .u8 a1_2, .int .u32 a1_3]) (t := 45) ?_; intro gb407 hg w38 hbox hb; have NB406_407 := nbN BK406 hg; have NB407_406 := nbM BK406 hg; have GE407 := geN HB hg; replace BK406 := lK BK406 hb; have BK407 := aa.mk hbox; replace HB := di HB hb; clear hb hbox hg; have hnb39 := NB406_407.out; have hnc39 := NB407_406.out; obtain ⟨_, _, _, _, _, _, _, _⟩ := cz4 BK406))
 go_ret
 exact ⟨dn, bD⟩
end Go.Proofs.Ytdkalnkplgfgoaa.PA
namespace Go.Proofs.Ytdkalnkplgfgoaa.Ln
open Go.RowKit Go.Maps Go.Proofs.YtdkalnkplgfgoaaW.PrintWords Go.Proofs.YtdkalnkplgfgoaaW.PrintLast Go.Proofs.YtdkalnkplgfgoaaW.PrintMore Go.Proofs.Ytdkalnkplgfgoaa.PA
theorem AZ {α : Type} (d : α) (c : List α) (n : Nat) : pK d c (n : Int) = c.getD n d := by
 unfold pK; rw [Int.toNat_natCast]
theorem reach_l (x : List S47) (hx : GOk x) : ∀ (d n : Nat) (c : List Bool), x.length - n = d → n ≤ x.length → c.length = x.length → ∀ k, d + 1 ≤ k → aM.l0 k x c (n : Int) = some (cmF (x.drop n) n c) := by
 intro d
 induction d with
 | zero =>
  intro n c hd hn hc k hk
  obtain ⟨k, rfl⟩ : ∃ m, k = m + 1 := ⟨k - 1, by omega⟩
  rw [aM.l0, if_neg (by omega), List.drop_eq_nil_of_le (by omega)]
  rfl
 | succ d ih =>
  intro n c hd hn hc k hk
  obtain ⟨k, rfl⟩ : ∃ m, k = m + 1 := ⟨k - 1, by omega⟩
  have hlt : n < x.length := by omega
  have hf := hx.few
  have hok := hx.all n x[n] (List.getElem?_eq_getElem hlt)
  have hgy := bu hok.goal
  have hgn := dG hok.goal
  have ih' := fun c' hc' => ih (n + 1) c' (by omega) (by omega) hc' k (by omega)
  rw [show ((n + 1 : Nat) : Int) = (n : Int) + 1 by omega] at ih'
  rw [aM.l0, if_pos (by omega), if_pos (by omega), if_pos (by omega), je hlt, AZ, List.drop_eq_getElem_cons hlt, cmF, w64 (n := (n : Int) + 1) (by omega) (by omega)]
  by_cases q : c.getD n false = true
  · rw [if_pos q, if_pos q]
    rcases dX hok.ends with ⟨h1, _⟩ | ⟨h1, _⟩ | ⟨h1, _⟩
    · rw [if_pos h1, if_neg (by omega), ih' c hc]
      unfold mkC
      rw [if_pos h1]
    · have hy := hgy (by omega)
      rw [if_neg (by omega), if_pos (by omega), if_pos (by omega), Option.bind_some, if_neg (by omega), ih' _ (by rw [List.length_set]; exact hc)]
      unfold mkC
      rw [if_neg (by omega), if_neg (by omega)]
    have hy := hgy (by omega)
    have hn2 := hgn h1
    rw [if_neg (by omega), if_pos (by omega), if_pos (by omega), Option.bind_some, if_pos h1, if_pos (by omega), if_pos (by omega), ih' _ (by rw [List.length_set, List.length_set]; exact hc)]
    unfold mkC
    rw [if_neg (by omega), if_pos h1]
  rw [if_neg q, if_neg q, ih' c hc]
theorem reach_f (x : List S47) (hx : GOk x) : aM.f 10000 x = some (fV x 0) := by
 have hf := hx.few
 have h0 := hx.some_
 unfold aM.f
 rw [if_pos (by omega), if_pos (by rw [Int.toNat_natCast]; omega), Option.bind_some, Int.toNat_natCast, if_pos (by rw [List.length_replicate]; omega)]
 have h := reach_l x hx x.length 0 ((List.replicate x.length false).set 0 true) rfl (by omega) (by rw [List.length_set, List.length_replicate]) 10000 (by omega)
 rw [show ((0 : Nat) : Int) = 0 from rfl, List.drop_zero] at h
 rw [show (0 : Int).toNat = 0 from rfl, h]
 rfl
theorem pO (c : List Int) (i : Int) : rd c i = c.getD i.toNat 0 := rfl
theorem oW (b : S47) (r : List S47) (t : Nat) : jl (b :: r) t = cE t b + jl r t := by unfold jl; rw [List.map_cons, List.sum_cons]
theorem yN (x : List S47) (hx : GOk x) : ∀ (d n : Nat) (c : List Int), x.length - n = d → n ≤ x.length → c.length = x.length → (∀ t, 0 ≤ c.getD t 0 ∧ c.getD t 0 ≤ 2 * (n : Int)) → ∀ k, d + 1 ≤ k →
 ∃ c', bi.l0 k x c (n : Int) = some c' ∧ c'.length = x.length ∧ ∀ t, t < x.length → c'.getD t 0 = c.getD t 0 + (jl (x.drop n) t : Nat) := by
 intro d
 induction d with
 | zero =>
  intro n c hd hn hc hb k hk
  obtain ⟨k, rfl⟩ : ∃ m, k = m + 1 := ⟨k - 1, by omega⟩
  rw [bi.l0, if_neg (by omega), List.drop_eq_nil_of_le (by omega)]
  exact ⟨c, rfl, hc, fun t _ => by show _ = _ + ((0 : Nat) : Int); omega⟩
 | succ d ih =>
  intro n c hd hn hc hb k hk
  obtain ⟨k, rfl⟩ : ∃ m, k = m + 1 := ⟨k - 1, by omega⟩
  have hlt : n < x.length := by omega
  have hf := hx.few
  have hok := hx.all n x[n] (List.getElem?_eq_getElem hlt)
  have hgy := bu hok.goal
  have hgn := dG hok.goal
  have ih' := fun c' hc' hb' => ih (n + 1) c' (by omega) (by omega) hc' hb' k (by omega)
  rw [show ((n + 1 : Nat) : Int) = (n : Int) + 1 by omega] at ih'
  rw [bi.l0, if_pos (by omega), if_pos (by omega), je hlt, List.drop_eq_getElem_cons hlt, w64 (n := (n : Int) + 1) (by omega) (by omega)]
  rcases dX hok.ends with ⟨h1, _⟩ | ⟨h1, _⟩ | ⟨h1, _⟩
  · rw [if_pos h1, if_neg (by omega)]
    obtain ⟨c', e1, e2, e3⟩ := ih' c hc (fun t => by have := hb t; omega)
    exact ⟨c', e1, e2, fun t ht => by rw [e3 t ht, oW, cE1 h1]; omega⟩
  · have hy := hgy (by omega)
    have hb3 := hb x[n].f3.toNat
    have hs : ∀ t, (c.set x[n].f3.toNat (c.getD x[n].f3.toNat 0 + 1)).getD t 0 = c.getD t 0 + (if x[n].f3.toNat = t then 1 else 0) := fun t => by
     rw [dM (by omega)]
     by_cases e : x[n].f3.toNat = t
     · rw [if_pos e, if_pos e, e]
     rw [if_neg e, if_neg e]; omega
    rw [if_neg (by omega), if_pos (by omega), if_pos (by omega), Option.bind_some, if_neg (by omega), pO, w64 (n := c.getD x[n].f3.toNat 0 + 1) (by omega) (by omega)]
    obtain ⟨c', e1, e2, e3⟩ := ih' (c.set x[n].f3.toNat (c.getD x[n].f3.toNat 0 + 1)) (by rw [List.length_set]; exact hc) (fun t => by rw [hs t]; have := hb t; split <;> omega)
    exact ⟨c', e1, e2, fun t ht => by rw [e3 t ht, hs t, oW, cE2 h1]; split <;> omega⟩
  have hy := hgy (by omega)
  have hn2 := hgn h1
  have hb3 := hb x[n].f3.toNat
  have hs : ∀ t, (c.set x[n].f3.toNat (c.getD x[n].f3.toNat 0 + 1)).getD t 0 = c.getD t 0 + (if x[n].f3.toNat = t then 1 else 0) := fun t => by
   rw [dM (by omega)]
   by_cases e : x[n].f3.toNat = t
   · rw [if_pos e, if_pos e, e]
   rw [if_neg e, if_neg e]; omega
  obtain ⟨c1, ec1⟩ : ∃ c1, c1 = c.set x[n].f3.toNat (c.getD x[n].f3.toNat 0 + 1) := ⟨_, rfl⟩
  have hl1 : c1.length = x.length := by rw [ec1, List.length_set]; exact hc
  rw [← ec1] at hs
  have hb4 := hs x[n].f4.toNat
  have hb5 := hb x[n].f4.toNat
  have hb6 : 0 ≤ c1.getD x[n].f4.toNat 0 ∧ c1.getD x[n].f4.toNat 0 ≤ 2 * (n : Int) + 1 := by rw [hb4]; split <;> omega
  have hs2 : ∀ t, (c1.set x[n].f4.toNat (c1.getD x[n].f4.toNat 0 + 1)).getD t 0 = c1.getD t 0 + (if x[n].f4.toNat = t then 1 else 0) := fun t => by
   rw [dM (by omega)]
   by_cases e : x[n].f4.toNat = t
   · rw [if_pos e, if_pos e, e]
   rw [if_neg e, if_neg e]; omega
  rw [if_neg (by omega), if_pos (by omega), if_pos (by omega), Option.bind_some, if_pos h1, if_pos (by omega), if_pos (by omega), pO c, w64 (n := c.getD x[n].f3.toNat 0 + 1) (by omega) (by omega), ← ec1, pO c1, w64 (n := c1.getD x[n].f4.toNat 0 + 1) (by omega) (by omega)]
  obtain ⟨c', e1, e2, e3⟩ := ih' (c1.set x[n].f4.toNat (c1.getD x[n].f4.toNat 0 + 1)) (by rw [List.length_set]; exact hl1) (fun t => by rw [hs2 t, hs t]; have := hb t; split <;> split <;> omega)
  exact ⟨c', e1, e2, fun t ht => by rw [e3 t ht, hs2 t, hs t, oW, cE3 h1]; split <;> split <;> omega⟩
theorem yM (x : List S47) (hx : GOk x) : ∃ c, bi.f 10000 x = some c ∧ c.length = x.length ∧ ∀ t, t < x.length → c.getD t 0 = (jl x t : Nat) := by
 have hf := hx.few
 unfold bi.f
 rw [if_pos (by omega), if_pos (by rw [Int.toNat_natCast]; omega), Int.toNat_natCast]
 have hz : ∀ t, (List.replicate x.length (0 : Int)).getD t 0 = 0 := fun t => by rw [List.getD_eq_getElem?_getD, List.getElem?_replicate]; split <;> rfl
 obtain ⟨c, e1, e2, e3⟩ := yN x hx x.length 0 (List.replicate x.length 0) rfl (by omega) (by rw [List.length_replicate]) (fun t => by rw [hz t]; omega) 10000 (by omega)
 exact ⟨c, e1, e2, fun t ht => by rw [e3 t ht, hz t, List.drop_zero]; omega⟩
def ldP (a : Int) (c : S45) : Bool := decide ((c.f0 = 96 ∨ c.f0 = 97) ∧ c.f3 = a)
theorem Ai (x : List S47) (hx : GOk x) (a : Int) (n : Nat) (hn : n < x.length) : ∀ (d j : Nat), x[n].f0.length - j = d → j ≤ x[n].f0.length → ∀ k, aX.l1 (k + d + 1) x a (n : Int) (j : Int) = if (x[n].f0.drop j).any (ldP a) = true then some true else aX.l0 k x a ((n : Int) + 1) := by
 have hf := hx.few
 have hl := hx.len (List.getElem?_eq_getElem hn)
 intro d
 induction d with
 | zero =>
  intro j hd hj k
  rw [Nat.add_zero, aX.l1, if_pos (by omega), if_pos (by omega), je hn, if_neg (by omega), List.drop_eq_nil_of_le (by omega), w64 (n := (n : Int) + 1) (by omega) (by omega)]
  rfl
 | succ d ih =>
  intro j hd hj k
  have hlt : j < x[n].f0.length := by omega
  have h := ih (j + 1) (by omega) (by omega) k
  rw [show ((j + 1 : Nat) : Int) = (j : Int) + 1 by omega] at h
  rw [show k + (d + 1) + 1 = (k + d + 1) + 1 by omega, aX.l1, if_pos (by omega), if_pos (by omega), je hn, if_pos (by omega), if_pos (by omega), ny hlt, w64 (n := (j : Int) + 1) (by omega) (by omega), h, List.drop_eq_getElem_cons hlt, List.any_cons]
  generalize x[n].f0[j] = c
  unfold ldP
  by_cases h1 : c.f0 = 96
  · rw [if_pos h1]
    by_cases h2 : c.f3 = a
    · rw [if_pos h2, decide_eq_true (show (c.f0 = 96 ∨ c.f0 = 97) ∧ c.f3 = a from ⟨.inl h1, h2⟩), Bool.true_or, if_pos rfl]
    rw [if_neg h2, decide_eq_false (show ¬ ((c.f0 = 96 ∨ c.f0 = 97) ∧ c.f3 = a) from fun q => h2 q.2), Bool.false_or]
  rw [if_neg h1]
  by_cases h3 : c.f0 = 97
  · rw [if_pos h3]
    by_cases h2 : c.f3 = a
    · rw [if_pos h2, decide_eq_true (show (c.f0 = 96 ∨ c.f0 = 97) ∧ c.f3 = a from ⟨.inr h3, h2⟩), Bool.true_or, if_pos rfl]
    rw [if_neg h2, decide_eq_false (show ¬ ((c.f0 = 96 ∨ c.f0 = 97) ∧ c.f3 = a) from fun q => h2 q.2), Bool.false_or]
  rw [if_neg h3, decide_eq_false (show ¬ ((c.f0 = 96 ∨ c.f0 = 97) ∧ c.f3 = a) from fun q => by rcases q.1 with e | e; exact h1 e; exact h3 e), Bool.false_or]
theorem Ah (x : List S47) (hx : GOk x) (a : Int) : ∀ (d n : Nat), x.length - n = d → n ≤ x.length → ∀ k, ((x.drop n).map (fun b => b.f0.length + 2)).sum + 1 ≤ k → aX.l0 k x a (n : Int) = some ((x.drop n).any (fun b => b.f0.any (ldP a))) := by
 intro d
 induction d with
 | zero =>
  intro n hd hn k hk
  obtain ⟨k, rfl⟩ : ∃ m, k = m + 1 := ⟨k - 1, by omega⟩
  rw [aX.l0, if_neg (by omega), List.drop_eq_nil_of_le (by omega)]
  rfl
 | succ d ih =>
  intro n hd hn k hk
  have hlt : n < x.length := by omega
  rw [List.drop_eq_getElem_cons hlt, List.map_cons, List.sum_cons] at hk
  obtain ⟨k, rfl⟩ : ∃ m, k = (m + x[n].f0.length + 1) + 1 := ⟨k - x[n].f0.length - 2, by omega⟩
  rw [aX.l0, if_pos (by omega), List.drop_eq_getElem_cons hlt, List.any_cons]
  have h := Ai x hx a n hlt x[n].f0.length 0 (by omega) (by omega) k
  rw [show ((0 : Nat) : Int) = 0 from rfl, List.drop_zero] at h
  rw [h]
  have h2 := ih (n + 1) (by omega) (by omega) k (by omega)
  rw [show ((n + 1 : Nat) : Int) = (n : Int) + 1 by omega] at h2
  rw [h2]
  cases x[n].f0.any (ldP a) <;> simp
theorem sum2 : ∀ x : List S47, (x.map (fun b => b.f0.length + 2)).sum = (x.map (fun b => b.f0.length)).sum + 2 * x.length := by
 intro x
 induction x with
 | nil => rfl
 | cons b r ih => rw [List.map_cons, List.sum_cons, List.map_cons, List.sum_cons, ih, List.length_cons]; omega
theorem loads_f (x : List S47) (hx : GOk x) (a : Int) : aX.f 20000 x a = some (x.any (fun b => b.f0.any (ldP a))) := by
 have h := Ah x hx a x.length 0 rfl (by omega) 20000 (by rw [List.drop_zero, sum2]; have := hx.few; have := hx.sum; omega)
 rw [List.drop_zero] at h
 exact h
theorem xk (x : List S47) (hx : GOk x) (a : Nat) (h : Lds x a) : (x.any (fun b => b.f0.any (ldP (a : Int)))) = true := by
 obtain ⟨b, hb, c, hc, h1, h2⟩ := h
 rw [List.any_eq_true]
 refine ⟨b, hb, ?_⟩
 rw [List.any_eq_true]
 refine ⟨c, hc, ?_⟩
 obtain ⟨j, hj⟩ := List.getElem?_of_mem hb
 have := ((hx.all j b hj).rg c hc).1
 exact decide_eq_true ⟨h1, by omega⟩
theorem byk_st : ∀ c ∈ stL, eH.f 10000 c = some (decide (c ∈ eY)) := by decide +kernel
theorem cl_st : ∀ c ∈ stL, (bR.f 10000 c).bind (fun t => some (t != 0)) = some (!decide (c ∈ ([0, 32, 40, 48, 64, 72, 80, 96, 128] : List Int))) := by decide +kernel
theorem pair_f {a c : S45} (hc : stB c.f0 c.f3 = true) (h1 : a.f0 = 0 → ¬ (c.f0 ∈ eY ∨ c.f0 = 132)) (h2 : (a.f0 = 0 ∨ a.f0 = 96 ∨ a.f0 = 128) → c.f0 ∉ ([0, 32, 40, 48, 64, 72, 80, 96, 128] : List Int)) :
 eX.f 10000 a.f0 a.f1 a.f2 a.f3 c.f0 c.f1 c.f2 c.f3 = some true := by
 obtain ⟨hm, _, _⟩ := gQ hc
 have hb := byk_st c.f0 hm
 have hcl := cl_st c.f0 hm
 unfold eX.f
 by_cases e0 : a.f0 = 0
 · have h3 := h1 e0
   rw [if_pos e0, hb, decide_eq_false (fun q => h3 (.inl q)), Option.bind_some, if_neg (by decide), if_neg (fun q => h3 (.inr q)), hcl, decide_eq_false (h2 (.inl e0))]; rfl
 rw [if_neg e0]
 by_cases e1 : a.f0 = 96
 · rw [if_pos e1, hcl, decide_eq_false (h2 (.inr (.inl e1)))]; rfl
 rw [if_neg e1]
 by_cases e2 : a.f0 = 128
 · rw [if_pos e2, hcl, decide_eq_false (h2 (.inr (.inr e2)))]; rfl
 rw [if_neg e2]
def ldc (ld : List Bool) : Array Value := (ld.map Value.bool).toArray
theorem rH {ld : List Bool} {t : Nat} {b : Bool} (h : ld[t]? = some b) : (ldc ld)[t]? = some (.bool b) := by
 unfold ldc
 rw [List.getElem?_toArray, List.getElem?_map, h]; rfl
structure CIc (w wr : World) (g : Nat) (ld : List Bool) : Prop where
 b : Below w.heap.size w wr
 l : wr.heap[g]? = some (.cells (ldc ld) 89 (0, 0))
theorem CIc.below {w wr V : World} {g : Nat} {ld : List Bool} (h : CIc w wr g ld) (hb : Below wr.heap.size wr V) : CIc w V g ld := ⟨ax h.b hb, aj h.l hb⟩
theorem uh (F : Nat) (w : World) (vg : Value) (A : Option Addr) (c : List S45) (cc : Nat) (ld : List Bool) (hl : ld.length = 16) (hc : Kd.C k45 w A c.length c) (hcc : c.length ≤ 9223372036854775807)
 (hp : ∀ k : Nat, k + 1 < c.length → eX.f F (bg c (k : Int)).f0 (bg c (k : Int)).f1 (bg c (k : Int)).f2 (bg c (k : Int)).f3 (bg c ((k : Int) + 1)).f0 (bg c ((k : Int) + 1)).f1 (bg c ((k : Int) + 1)).f2 (bg c ((k : Int) + 1)).f3 = some true)
 (hs : ∀ k : Nat, k < c.length → ((bg c (k : Int)).f0 = 2 ∨ (bg c (k : Int)).f0 = 3) → ∃ t : Nat, t < 16 ∧ Go.bits .and .u32 (bg c (k : Int)).f3 15 = (t : Int) ∧ ld[t]? = some true) :
 Calls Try.prog 59 #[vg, .slice A c.length cc, .agg (ldc ld)] w fun e w' => e = .returned (.bool true) ∧ Below w.heap.size w w' := by
 have hu45 := Try.underlying45
 have HC := aa.mk hc
 have HP := aa.mk hp
 have HS := aa.mk hs
 clear hc hp hs
 go_enter Try.func59, Try.ntmps59
 go_upto_region 1 with (fail)
 refine forget (fun W => ∃ g, g = w.heap.size ∧ CIc w W g ld) ⟨_, rfl, ai (Below.refl _ _) _, heap_alloc_new _ _⟩ ?_
 rintro W ⟨g, eg, hI⟩
 rw [← eg]
 have HI := aa.mk hI
 have EG := aa.mk eg
 clear eg hI
 go_wp2
 go_loopw [7] (fun v7 wr => ∃ k : Nat, k ≤ c.length ∧ v7 = .int .i64 k ∧ aa (CIc w wr g ld)) (fun v7 _ => c.length - (intOf v7).toNat)
 case atStart => exact ⟨0, Nat.zero_le _, rfl, HI⟩
 case round =>
  clear HI
  obtain ⟨k, hk, rfl, HI⟩ := hrel
  by_cases hlt : k < c.length
  · obtain ⟨z, ez⟩ : ∃ z : Int, z = (k : Int) := ⟨_, rfl⟩
    rw [← ez]
    have i0 : (0 : Int) ≤ z := by omega
    have i1 : z < (c.length : Int) := by omega
    have HB : aa (Below w.heap.size w wr) := ⟨HI.out.b⟩
    obtain ⟨ad, rfl, x0, x1, x2, x3, -, -⟩ := kX HC HB z (decide_eq_true i0) (decide_eq_true i1)
    have hPR := HP.out k
    have hSK := HS.out k hlt
    rw [← ez] at hPR hSK
    have HSK := aa.mk hSK
    have EZ := aa.mk ez
    have ew : wrap64 (z + 1) = z + 1 := by unfold wrap64; omega
    have HEW := aa.mk ew
    have HP1 : aa (k + 1 < c.length → _) := ⟨hPR⟩
    clear hPR hSK ez ew hk
    go_upto_region 4 with (fail)
    go_cut [7, 31] (fun v7 v31 wc => v7 = .int .i64 z ∧ v31 = .bool false ∧ aa (CIc w wc g ld))
    case first =>
     by_cases h2 : k + 1 < c.length
     · have hPR := HP1.out h2
       rw [← HEW.out] at hPR
       have HPR := aa.mk hPR
       have i2 : (0 : Int) ≤ wrap64 (z + 1) := by rw [HEW.out]; omega
       have i3 : wrap64 (z + 1) < (c.length : Int) := by rw [HEW.out, EZ.out]; omega
       obtain ⟨y0, y1, y2, y3, -, -⟩ := AY HC HB (wrap64 (z + 1)) (decide_eq_true i2) (decide_eq_true i3)
       clear hPR HP1
       refine eU 18 (fun w' => w'.cell? (ad.add ((z).toNat * 4)) = some (.int .u16 (bg c (z)).f0) ∧ w'.cell? ⟨(ad.add ((z).toNat * 4)).block, (ad.add ((z).toNat * 4)).off + 1, none⟩ = some (.int .u8 (bg c (z)).f1) ∧ w'.cell? ⟨(ad.add ((z).toNat * 4)).block, (ad.add ((z).toNat * 4)).off + 2, none⟩ = some (.int .u8 (bg c (z)).f2) ∧ w'.cell? ⟨(ad.add ((z).toNat * 4)).block, (ad.add ((z).toNat * 4)).off + 3, none⟩ = some (.int .u32 (bg c (z)).f3) ∧ w'.cell? (ad.add ((wrap64 (z + 1)).toNat * 4)) = some (.int .u16 (bg c (wrap64 (z + 1))).f0) ∧ w'.cell? ⟨(ad.add ((wrap64 (z + 1)).toNat * 4)).block, (ad.add ((wrap64 (z + 1)).toNat * 4)).off + 1, none⟩ = some (.int .u8 (bg c (wrap64 (z + 1))).f1) ∧ w'.cell? ⟨(ad.add ((wrap64 (z + 1)).toNat * 4)).block, (ad.add ((wrap64 (z + 1)).toNat * 4)).off + 2, none⟩ = some (.int .u8 (bg c (wrap64 (z + 1))).f2) ∧ w'.cell? ⟨(ad.add ((wrap64 (z + 1)).toNat * 4)).block, (ad.add ((wrap64 (z + 1)).toNat * 4)).off + 3, none⟩ = some (.int .u32 (bg c (wrap64 (z + 1))).f3)) [] ⟨(au (ak (Below.refl _ _)) x0), (au (ak (Below.refl _ _)) x1), (au (ak (Below.refl _ _)) x2), (au (ak (Below.refl _ _)) x3), (au (ak (Below.refl _ _)) y0), (au (ak (Below.refl _ _)) y1), (au (ak (Below.refl _ _)) y2), (au (ak (Below.refl _ _)) y3)⟩ (fun hHeld => ?_)
       refine aH 0 14 ?_
       refine aH 1 15 ?_
       refine aH 2 16 ?_
       refine aH 3 17 ?_
       refine aH 4 18 ?_
       refine aH 5 19 ?_
       refine aH 6 20 ?_
       refine aH 7 21 ?_
       refine aH 8 22 ?_
       refine aH 10 24 ?_
       refine aH 11 25 ?_
       refine aH 12 26 ?_
       refine aH 13 27 ?_
       refine dC 9 23 hHeld ?_
       refine dC 14 28 hHeld ?_
       refine iL 15 (some 29) (fun K hK => ?_)
       refine gW Try.func93 #[.agg #[.int .u16 (bg c (z)).f0, .int .u8 (bg c (z)).f1, .int .u8 (bg c (z)).f2, .int .u32 (bg c (z)).f3], .agg #[.int .u16 (bg c (wrap64 (z + 1))).f0, .int .u8 (bg c (wrap64 (z + 1))).f1, .int .u8 (bg c (wrap64 (z + 1))).f2, .int .u32 (bg c (wrap64 (z + 1))).f3]] ?_
       with_reducible refine (eX.calls F _ _ _ _ _ _ _ _ true _ HPR.out).mono ?_
       rintro e w3 ⟨rfl, hb3⟩
       refine ⟨_, rfl, ?_⟩
       refine hK.out _ _ ⟨(au (ax (ak (Below.refl _ _)) hb3) x0), (au (ax (ak (Below.refl _ _)) hb3) x1), (au (ax (ak (Below.refl _ _)) hb3) x2), (au (ax (ak (Below.refl _ _)) hb3) x3), (au (ax (ak (Below.refl _ _)) hb3) y0), (au (ax (ak (Below.refl _ _)) hb3) y1), (au (ax (ak (Below.refl _ _)) hb3) y2), (au (ax (ak (Below.refl _ _)) hb3) y3)⟩ (fun hHeld => ?_)
       clear hK K
       refine fJ 29 ?_
       refine aH 16 30 ?_
       refine aH 17 31 ?_
       refine iE (by kernel_rfl) ?_
       go_wp2
       go_meet
       exact ⟨rfl, by first | rfl | simp, ⟨HI.out.below (ax (ak (Below.refl _ _)) hb3)⟩⟩
     have i3 : ¬ wrap64 (z + 1) < (c.length : Int) := by rw [HEW.out, EZ.out]; omega
     clear HP1
     refine eU 18 (fun w' => w'.cell? ⟨g, 0, none⟩ = wr.cell? ⟨g, 0, none⟩) [] (rfl) (fun hHeld => ?_)
     refine aH 0 14 ?_
     refine aH 1 15 ?_
     refine aH 2 16 ?_
     refine aH 3 17 ?_
     refine aH 4 18 ?_
     refine aH 5 19 ?_
     refine j4 (i := 6) (N := some 20) (v := undef) (a' := ?_) #[true, true, true, true, true, true, true, false, false, false, false, false, false, false, false, false, false, false] rfl rfl (by kernel_rfl) (fun _ _ _ h => h) (Or.inr ⟨by rfl, rfl⟩) ?_ ?_
     rotate_left
     · simp only [Act.put, List.setIfInBounds_toArray, List.set_cons_zero, List.set_cons_succ, dB, dD]
       rfl
     refine j4 (i := 7) (N := some 21) (v := undef) (a' := ?_) #[true, true, true, true, true, true, true, true, false, false, false, false, false, false, false, false, false, false] rfl rfl (by kernel_rfl) (fun _ _ _ h => h) (Or.inr ⟨by rfl, rfl⟩) ?_ ?_
     rotate_left
     · simp only [Act.put, List.setIfInBounds_toArray, List.set_cons_zero, List.set_cons_succ, dB, dD]
       rfl
     refine j4 (i := 8) (N := some 22) (v := undef) (a' := ?_) #[true, true, true, true, true, true, true, true, true, false, false, false, false, false, false, false, false, false] rfl rfl (by kernel_rfl) (fun _ _ _ h => h) (Or.inr ⟨by rfl, rfl⟩) ?_ ?_
     rotate_left
     · simp only [Act.put, List.setIfInBounds_toArray, List.set_cons_zero, List.set_cons_succ, dB, dD]
       rfl
     refine j4 (i := 9) (N := some 23) (v := undef) (a' := ?_) #[true, true, true, true, true, true, true, true, true, true, false, false, false, false, false, false, false, false] rfl rfl (by kernel_rfl) (fun _ _ _ h => h) (Or.inr ⟨by rfl, rfl⟩) ?_ ?_
     rotate_left
     · simp only [Act.put, List.setIfInBounds_toArray, List.set_cons_zero, List.set_cons_succ, dB, dD]
       rfl
     refine j4 (i := 10) (N := some 24) (v := undef) (a' := ?_) #[true, true, true, true, true, true, true, true, true, true, true, false, false, false, false, false, false, false] rfl rfl (by kernel_rfl) (fun _ _ _ h => h) (Or.inr ⟨by rfl, rfl⟩) ?_ ?_
     rotate_left
     · simp only [Act.put, List.setIfInBounds_toArray, List.set_cons_zero, List.set_cons_succ, dB, dD]
       rfl
     refine j4 (i := 11) (N := some 25) (v := undef) (a' := ?_) #[true, true, true, true, true, true, true, true, true, true, true, true, false, false, false, false, false, false] rfl rfl (by kernel_rfl) (fun _ _ _ h => h) (Or.inr ⟨by rfl, rfl⟩) ?_ ?_
     rotate_left
     · simp only [Act.put, List.setIfInBounds_toArray, List.set_cons_zero, List.set_cons_succ, dB, dD]
       rfl
     refine j4 (i := 12) (N := some 26) (v := undef) (a' := ?_) #[true, true, true, true, true, true, true, true, true, true, true, true, true, false, false, false, false, false] rfl rfl (by kernel_rfl) (fun _ _ _ h => h) (Or.inr ⟨by rfl, rfl⟩) ?_ ?_
     rotate_left
     · simp only [Act.put, List.setIfInBounds_toArray, List.set_cons_zero, List.set_cons_succ, dB, dD]
       rfl
     refine j4 (i := 13) (N := some 27) (v := undef) (a' := ?_) #[true, true, true, true, true, true, true, true, true, true, true, true, true, true, false, false, false, false] rfl rfl (by kernel_rfl) (fun _ _ _ h => h) (Or.inr ⟨by rfl, rfl⟩) ?_ ?_
     rotate_left
     · simp only [Act.put, List.setIfInBounds_toArray, List.set_cons_zero, List.set_cons_succ, dB, dD]
       rfl
     refine j4 (i := 14) (N := some 28) (v := undef) (a' := ?_) #[true, true, true, true, true, true, true, true, true, true, true, true, true, true, true, false, false, false] rfl rfl (by kernel_rfl) (fun _ _ _ h => h) (Or.inr ⟨by rfl, rfl⟩) ?_ ?_
     rotate_left
     · simp only [Act.put, List.setIfInBounds_toArray, List.set_cons_zero, List.set_cons_succ, dB, dD]
       rfl
     refine j4 (i := 15) (N := some 29) (v := undef) (a' := ?_) #[true, true, true, true, true, true, true, true, true, true, true, true, true, true, true, true, false, false] rfl rfl (by kernel_rfl) (fun _ _ _ h => h) (Or.inr ⟨by rfl, rfl⟩) ?_ ?_
     rotate_left
     · simp only [Act.put, List.setIfInBounds_toArray, List.set_cons_zero, List.set_cons_succ, dB, dD]
       rfl
     refine j4 (i := 16) (N := some 30) (v := undef) (a' := ?_) #[true, true, true, true, true, true, true, true, true, true, true, true, true, true, true, true, true, false] rfl rfl (by kernel_rfl) (fun _ _ _ h => h) (Or.inr ⟨by rfl, rfl⟩) ?_ ?_
     rotate_left
     · simp only [Act.put, List.setIfInBounds_toArray, List.set_cons_zero, List.set_cons_succ, dB, dD]
       rfl
     refine aH 17 31 ?_
     refine iE (by kernel_rfl) ?_
     go_wp2
     go_meet
     exact ⟨rfl, by first | rfl | simp, ⟨HI.out.below (ak (Below.refl _ _))⟩⟩
    case rest =>
     clear x0 x1 x2 x3 HI HB HP1
     obtain ⟨rfl, rfl, HX⟩ := hcut
     have HB : aa (Below w.heap.size w wc) := ⟨HX.out.b⟩
     obtain ⟨x0, x1, x2, x3, -, -⟩ := AY HC HB z (decide_eq_true i0) (decide_eq_true i1)
     by_cases e2 : (bg c z).f0 = 2
     · obtain ⟨t, ht, et, hld⟩ := HSK.out (.inl e2)
       have zt : wc.cell? ⟨g, t, none⟩ = some (.bool true) := (ae HX.out.l t).trans (rH hld)
       rw [e2] at x0
       have ET := aa.mk et
       have t0 : (0 : Int) ≤ (t : Int) := by omega
       have t1 : (t : Int) < 16 := by omega
       clear e2 hld
       go_wp2
       go_roundw
       case rel => exact ⟨k + 1, hlt, by rw [EZ.out]; go_num, HX⟩
       case measure => rw [EZ.out]; simp [intOf]; omega
     by_cases e3 : (bg c z).f0 = 3
     · obtain ⟨t, ht, et, hld⟩ := HSK.out (.inr e3)
       have zt : wc.cell? ⟨g, t, none⟩ = some (.bool true) := (ae HX.out.l t).trans (rH hld)
       rw [e3] at x0
       have ET := aa.mk et
       have t0 : (0 : Int) ≤ (t : Int) := by omega
       have t1 : (t : Int) < 16 := by omega
       clear e2 e3 hld
       go_wp2
       go_roundw
       case rel => exact ⟨k + 1, hlt, by rw [EZ.out]; go_num, HX⟩
       case measure => rw [EZ.out]; simp [intOf]; omega
     have b2 : ((bg c z).f0 == 2) = false := beq_eq_false_iff_ne.mpr e2
     have b3 : ((bg c z).f0 == 3) = false := beq_eq_false_iff_ne.mpr e3
     clear e2 e3
     go_wp2
     go_roundw
     case rel => exact ⟨k + 1, hlt, by rw [EZ.out]; go_num, HX⟩
     case measure => rw [EZ.out]; simp [intOf]; omega
  have hkl : k = c.length := by omega
  subst hkl
  go_wp2
  go_ret
  exact ⟨rfl, HI.out.b⟩
def ldB (x : List S47) (t : Nat) : Bool := x.any (fun b => b.f0.any (ldP (t : Int)))
def ldW (x : List S47) (k : Nat) : List Bool := (List.range 16).map (fun t => decide (t < k) && ldB x t)
theorem lC (x : List S47) (k : Nat) : (ldW x k).length = 16 := by simp [ldW]
theorem ldW_0 (x : List S47) : ldW x 0 = List.replicate 16 false := by unfold ldW; simp; decide
theorem oG {x : List S47} {k t : Nat} (h : t < 16) : (ldW x k)[t]? = some (decide (t < k) && ldB x t) := by
 unfold ldW
 rw [List.getElem?_map, List.getElem?_range h]; rfl
theorem zR {x : List S47} {k : Nat} (h : k < 16) : ldW x (k + 1) = (ldW x k).set k (ldB x k) := by
 apply List.ext_getElem?
 intro t
 by_cases ht : t < 16
 · rw [oG ht, List.getElem?_set]
   by_cases e : k = t
   · subst e
     rw [if_pos rfl, if_pos (by rw [lC]; exact h), decide_eq_true (by omega)]; simp
   rw [if_neg e, oG ht]
   have : decide (t < k + 1) = decide (t < k) := by simp; omega
   rw [this]
 rw [List.getElem?_eq_none (by rw [lC]; omega), List.getElem?_eq_none (by rw [List.length_set, lC]; omega)]
theorem ldc_set {ld : List Bool} {t : Nat} {b : Bool} (h : t < ld.length) : (ldc ld).setIfInBounds t (.bool b) = ldc (ld.set t b) := by
 unfold ldc
 rw [List.setIfInBounds_toArray, List.map_set]
theorem st_at {c : List S45} (h : fG c = true) {i : S45} (hi : i ∈ c) : stB i.f0 i.f3 = true := by
 unfold fG at h
 exact List.all_eq_true.1 h i hi
theorem code_hp {x : List S47} (hG : GOk x) (hP : vz x) {k : Nat} {b : S47} (hb : x[k]? = some b) (j : Nat) (hj : j + 1 < b.f0.length) : eX.f 10000 (bg b.f0 (j : Int)).f0 (bg b.f0 (j : Int)).f1 (bg b.f0 (j : Int)).f2 (bg b.f0 (j : Int)).f3 (bg b.f0 ((j : Int) + 1)).f0 (bg b.f0 ((j : Int) + 1)).f1 (bg b.f0 ((j : Int) + 1)).f2 (bg b.f0 ((j : Int) + 1)).f3 = some true := by
 have hm : b ∈ x := List.mem_of_getElem? hb
 rw [ny (by omega), show ((j : Int) + 1) = ((j + 1 : Nat) : Int) from rfl, ny hj]
 exact pair_f (st_at (hG.all k b hb).code (List.getElem_mem _)) (hP.alu b hm j _ _ (List.getElem?_eq_getElem _) (List.getElem?_eq_getElem _)) (hP.load b hm j _ _ (List.getElem?_eq_getElem _) (List.getElem?_eq_getElem _))
theorem and15f : ∀ t : Fin 16, Go.bits .and .u32 ((t.val : Nat) : Int) 15 = ((t.val : Nat) : Int) := by decide +kernel
theorem code_hs {x : List S47} (hG : GOk x) (hP : vz x) {k : Nat} {b : S47} (hb : x[k]? = some b) (j : Nat) (hj : j < b.f0.length) (h : (bg b.f0 (j : Int)).f0 = 2 ∨ (bg b.f0 (j : Int)).f0 = 3) : ∃ t : Nat, t < 16 ∧ Go.bits .and .u32 (bg b.f0 (j : Int)).f3 15 = (t : Int) ∧ (ldW x 16)[t]? = some true := by
 have hm : b ∈ x := List.mem_of_getElem? hb
 rw [ny hj] at h ⊢
 have hok := hG.all k b hb
 have hi : b.f0[j] ∈ b.f0 := List.getElem_mem _
 have h16 := (gQ (st_at hok.code hi)).2.1 (by rcases h with h | h <;> simp [h])
 have h0 := (hok.rg _ hi).1
 have hl := hP.store b hm _ hi h
 refine ⟨b.f0[j].f3.toNat, by omega, ?_, ?_⟩
 · have := and15f ⟨b.f0[j].f3.toNat, by omega⟩
   rw [show ((b.f0[j].f3.toNat : Nat) : Int) = b.f0[j].f3 by omega] at this
   rw [show ((b.f0[j].f3.toNat : Nat) : Int) = b.f0[j].f3 by omega]
   exact this
 rw [oG (by omega), decide_eq_true (by omega), Bool.true_and]
 unfold ldB
 rw [xk x hG _ hl]
theorem byx_tx : ∀ c ∈ tX, bH.f 10 c = some true := by decide +kernel
theorem zS {ld : List Bool} (h : ld.length = 16) : (ldc ld).size = 16 := by simp [ldc, h]
theorem under89 : Try.prog.underlying 89 = some (.array 16 4) := by kernel_rfl
theorem info89 : (Try.prog.info? 89).map (·.size) = some 16 := by kernel_rfl
theorem yL (x : List S47) : (fV x 0).length = x.length := by unfold fV; rw [yH, List.length_set, List.length_replicate]
theorem uo (w : World) (A : Option Addr) (x : List S47) (cx : Nat) (hx : Kd.C k47 w A x.length x) (hcx : x.length ≤ cx) (hG : GOk x) (hP : vz x) :
 Calls Try.prog 32 #[.slice A x.length cx] w fun e w' => e = .returned (.bool true) ∧ Below w.heap.size w w' := by
 have hu45 := Try.underlying45
 have hu47 := Try.underlying47
 obtain ⟨cm, hcm, hcl, hcg⟩ := yM x hG
 have HX := aa.mk (And.intro hx hcx)
 have HG := aa.mk (And.intro hG hP)
 have HCM := aa.mk (And.intro hcm (And.intro hcl hcg))
 clear hx hcx hG hP hcm hcl hcg
 go_enter Try.func32, Try.ntmps32
 go_upto_region 2 with (go_at_call 55; refine (aM.calls 10000 A cx x (fV x 0) _ HX.out.1 HX.out.2 (reach_f x HG.out.1)).mono ?_; rintro e w1 ⟨v1, rfl, hr1, hb1⟩; have HV1 := aa.mk (And.intro hr1 hb1); clear hr1 hb1)
 obtain ⟨Ar, cr, er⟩ := Kd.ig HV1.out.1
 subst er
 go_upto_region 3 with (go_at_call 56; refine (bi.calls 10000 A cx x cm _ (Kd.dE HX.out.1 HV1.out.2) HX.out.2 HCM.out.1).mono ?_; rintro e w2 ⟨v2, rfl, hr2, hb2⟩; have HV2 := aa.mk (And.intro hr2 hb2); clear hr2 hb2)
 obtain ⟨Ac, cc, ec⟩ := Kd.ig HV2.out.1
 subst ec
 have HB2 : aa (Below w.heap.size w w2) := ⟨ax HV1.out.2 HV2.out.2⟩
 have HX2 : aa (Kd.C k47 w2 A x.length x) := ⟨Kd.dE HX.out.1 HB2.out⟩
 have HR2 : aa (Kd.bool.C w2 Ar (fV x 0).length (fV x 0)) := ⟨Kd.dE (Kd.dP HV1.out.1).2.2 HV2.out.2⟩
 have HC2 : aa ((Kd.int .i64).C w2 Ac cm.length cm) := ⟨(Kd.dP HV2.out.1).2.2⟩
 clear HV1 HV2
 rw [yL] at HR2 ⊢
 rw [HCM.out.2.1] at HC2 ⊢
 go_upto_region 4 with (fail)
 refine forget (fun W => ∃ g, g = w2.heap.size ∧ CIc w2 W g (ldW x 0)) ⟨_, rfl, ai (Below.refl _ _) _, by rw [ldW_0]; exact heap_alloc_new _ _⟩ ?_
 rintro W ⟨g, eg, hI⟩
 rw [← eg]
 have HI := aa.mk hI
 have EG : aa (w2.heap.size ≤ g) := ⟨by omega⟩
 clear eg hI
 go_wp2
 go_loopw [6] (fun v6 wr => ∃ k : Nat, k ≤ 16 ∧ v6 = .int .i64 k ∧ aa (CIc w2 wr g (ldW x k))) (fun v6 _ => 16 - (intOf v6).toNat)
 case atStart => exact ⟨0, by omega, rfl, HI⟩
 case round =>
  clear HI
  obtain ⟨k, hk, rfl, HI⟩ := hrel
  by_cases hlt : k < 16
  · obtain ⟨z, ez⟩ : ∃ z : Int, z = (k : Int) := ⟨_, rfl⟩
    rw [← ez]
    have i0 : (0 : Int) ≤ z := by omega
    have i1 : z < 16 := by omega
    have EZ := aa.mk ez
    have HLD : aa (aX.f 20000 x z = some (ldB x k)) := ⟨by rw [ez]; exact loads_f x HG.out.1 (k : Int)⟩
    have ezk : z.toNat = k := by omega
    have EZK := aa.mk ezk
    clear ez hk ezk
    go_upto_region 6 with (go_at_call 57; refine (aX.calls 20000 A cx x z (ldB x k) _ (Kd.dE HX2.out HI.out.b) HX.out.2 HLD.out).mono ?_; rintro e w5 ⟨rfl, hb5⟩; have HI5 := aa.mk (HI.out.below hb5); have c5 : w5.cell? ⟨g, z.toNat, none⟩ = some (.bool _) := (ae HI5.out.l z.toNat).trans (by rw [EZK.out]; exact rH (oG hlt)); have f5 := af HI5.out.l z.toNat; clear hb5)
    clear HI HLD
    go_wp2
    go_roundw
    case rel => exact ⟨k + 1, hlt, by rw [EZ.out]; go_num, ⟨⟨dA HI5.out.b EG.out, by rw [zR hlt]; exact aN HI5.out.l z.toNat _ (by rw [EZK.out]; exact ldc_set (by rw [lC]; exact hlt))⟩⟩⟩
    case measure => rw [EZ.out]; simp [intOf]; omega
  have hk16 : k = 16 := by omega
  subst hk16
  rw [show ((16 : Nat) : Int) = (16 : Int) from rfl]
  clear hk hlt
  go_wp2
  go_loopw [7] (fun v7 wr => ∃ k : Nat, k ≤ x.length ∧ v7 = .int .i64 k ∧ aa (CIc w2 wr g (ldW x 16))) (fun v7 _ => x.length - (intOf v7).toNat)
  case atStart => exact ⟨0, Nat.zero_le _, rfl, HI⟩
  case round =>
   clear HI
   obtain ⟨k, hk, rfl, HI⟩ := hrel
   by_cases hlt : k < x.length
   · obtain ⟨z, ez⟩ : ∃ z : Int, z = (k : Int) := ⟨_, rfl⟩
     rw [← ez]
     have i0 : (0 : Int) ≤ z := by omega
     have i1 : z < (x.length : Int) := by omega
     have HB : aa (Below w2.heap.size w2 wr) := ⟨HI.out.b⟩
     obtain ⟨ad, rfl⟩ := iG HX2 z (decide_eq_true i0) (decide_eq_true i1)
     obtain ⟨A0, c0, x0, x1, x2, x3, x4, x5, x6, x7, HA0, HL0, -, -⟩ := fw HX2 HB z (decide_eq_true i0) (decide_eq_true i1)
     have hbk : x[k]? = some (ah x z) := by rw [ez, je hlt]; exact List.getElem?_eq_getElem hlt
     obtain ⟨b, eb⟩ : ∃ b, b = ah x z := ⟨_, rfl⟩
     rw [← eb] at x0 x1 x2 x3 x4 x5 x6 x7 HA0 HL0 hbk
     have HBK := aa.mk hbk
     have EZ := aa.mk ez
     clear ez hk hbk eb
     go_upto_region 12 with (fail)
     refine forget (fun X => ∃ gb, gb = wr.heap.size ∧ Below wr.heap.size wr X ∧ X.heap[gb]? = some (.cells (b8 (.slice A0 b.f0.length c0, b)).toArray 47 (0, 0))) ⟨_, rfl, ai (Below.refl _ _) _, heap_alloc_new _ _⟩ ?_
     clear x0 x1 x2 x3 x4 x5 x6 x7
     rintro X ⟨gb, egb, hbX, hBX⟩
     rw [← egb]
     have HIX := aa.mk (HI.out.below hbX)
     have HBX : aa (Below w2.heap.size w2 X) := ⟨HIX.out.b⟩
     have HBB := aa.mk hBX
     clear HI HB egb hbX hBX
     have y0 : X.cell? ⟨gb, 0, none⟩ = some (.slice A0 b.f0.length c0) := (ae HBB.out 0).trans rfl
     go_cut [9] (fun v9 wc => ∃ kn : Bool, v9 = .bool kn ∧ aa (kn = true → ∃ i, b.f0.getLast? = some i ∧ i.f0 = 0) ∧ wc = X)
     case first =>
      by_cases hz : b.f0.length = 0
      · rw [hz] at y0
        clear hz
        go_wp2
        go_meet
        exact ⟨false, rfl, ⟨fun h => by cases h⟩, rfl⟩
      have hl4 : b.f0.length ≤ 4096 := HG.out.1.len HBK.out
      have ew : wrap64 ((b.f0.length : Int) - 1) = (b.f0.length : Int) - 1 := by unfold wrap64; omega
      have j0 : (0 : Int) < (b.f0.length : Int) := by omega
      have j1 : (0 : Int) ≤ wrap64 ((b.f0.length : Int) - 1) := by rw [ew]; omega
      have j2 : wrap64 ((b.f0.length : Int) - 1) < (b.f0.length : Int) := by rw [ew]; omega
      have HLA : aa (b.f0.getLast? = some (bg b.f0 (wrap64 ((b.f0.length : Int) - 1)))) := ⟨by
       rw [ew, List.getLast?_eq_getElem?]
       unfold bg
       rw [List.getD_eq_getElem?_getD, show ((b.f0.length : Int) - 1).toNat = b.f0.length - 1 by omega, List.getElem?_eq_getElem (by omega)]; rfl⟩
      obtain ⟨ad0, rfl, k0, -, -, -, -, -⟩ := kX HA0 HBX (wrap64 ((b.f0.length : Int) - 1)) (decide_eq_true j1) (decide_eq_true j2)
      clear hl4 ew hz
      by_cases hq : (bg b.f0 (wrap64 ((b.f0.length : Int) - 1))).f0 = 0
      · rw [hq] at k0
        have HQ := aa.mk hq
        clear hq
        go_wp2
        go_meet
        exact ⟨true, rfl, ⟨fun _ => ⟨_, HLA.out, HQ.out⟩⟩, rfl⟩
      have hqb : ((bg b.f0 (wrap64 ((b.f0.length : Int) - 1))).f0 == 0) = false := beq_eq_false_iff_ne.mpr hq
      clear hq
      go_wp2
      go_meet
      exact ⟨false, rfl, ⟨fun h => by cases h⟩, rfl⟩
     case rest =>
      obtain ⟨kn, rfl, HKN, ewc⟩ := hcut
      have ewc' := ewc.symm
      clear ewc
      subst ewc'
      have hok := HG.out.1.all k b HBK.out
      have hm : b ∈ x := List.mem_of_getElem? HBK.out
      have HCODE : aa (∀ V, CIc w2 V g (ldW x 16) → Calls Try.prog 59 #[.slice (some ad) x.length cx, .slice A0 b.f0.length c0, .agg (ldc (ldW x 16))] V fun e w' => e = .returned (.bool true) ∧ Below V.heap.size V w') :=
       ⟨fun V hV => uh 10000 V _ A0 b.f0 c0 (ldW x 16) (lC _ _) (Kd.dE HA0.out hV.b) (by have := HG.out.1.len HBK.out; omega) (fun j hj => code_hp HG.out.1 HG.out.2 HBK.out j hj) (fun j hj h => code_hs HG.out.1 HG.out.2 HBK.out j hj h)⟩
      obtain ⟨adr, rfl, r0⟩ := Kd.ll HR2.out z i0 i1
      rw [show pK false (fV x 0) z = true by unfold pK; rw [EZ.out, Int.toNat_natCast]; exact HG.out.2.reach k hlt] at r0
      replace r0 := au HBX.out r0
      have y1 : X.cell? ⟨gb, 1, none⟩ = some (.int .i64 b.f1) := (ae HBB.out 1).trans rfl
      have y2 : X.cell? ⟨gb, 2, none⟩ = some (.int .u16 b.f2.f0) := (ae HBB.out 2).trans rfl
      have y6 : X.cell? ⟨gb, 6, none⟩ = some (.int .i64 b.f3) := (ae HBB.out 6).trans rfl
      have y7 : X.cell? ⟨gb, 7, none⟩ = some (.int .i64 b.f4) := (ae HBB.out 7).trans rfl
      rcases dX hok.ends with ⟨e1, -⟩ | ⟨e1, -⟩ | ⟨e1, ej, -⟩
      case' inl =>
       rw [e1] at y1
       clear hok hm e1
       go_upto_region 21 with (fail)
      case' inr.inl =>
       have hne : ((b.f0.length : Int) == 0) = false := beq_eq_false_iff_ne.mpr (by have := HG.out.2.bare b hm e1; have h := List.length_pos_iff.2 this; omega)
       have hg := bu hok.goal (by omega)
       have g0 : 0 ≤ b.f3 := by omega
       have g1 : b.f3 < (x.length : Int) := hg.2
       obtain ⟨adc, rfl, cc0⟩ := Kd.kv HC2.out b.f3 g0 g1
       have hcv : (rd cm b.f3 == 1) = false := beq_eq_false_iff_ne.mpr (by
        have h1 := HCM.out.2.2 b.f3.toNat (by omega)
        have h2 := HG.out.2.alone b hm e1
        unfold rd
        omega)
       replace cc0 := au HBX.out cc0
       rw [e1] at y1
       clear hok hm hg e1
       go_upto_region 21 with (fail)
      case' inr.inr =>
       have hne : (b.f3 == b.f4) = false := beq_eq_false_iff_ne.mpr (HG.out.2.test b hm e1)
       have HKB : aa (kn = true → bH.f 10 b.f2.f0 = some true) := ⟨fun h => by
        obtain ⟨i, hi, h0⟩ := HKN.out h
        exact byx_tx _ (HG.out.2.known b hm e1 i hi h0)⟩
       rw [e1] at y1
       clear hok hm e1 ej
       cases kn
       case' false => go_upto_region 21 with (fail)
       case' true => go_upto_region 21 with (go_at_call 58; refine (bH.calls 10 _ _ _ (HKB.out rfl)).mono ?_; rintro e w' ⟨rfl, ⟨nd, rfl⟩⟩)
      all_goals
       refine forget (fun V => CIc w2 V g (ldW x 16) ∧ V.heap[gb]? = some (.cells (b8 (.slice A0 b.f0.length c0, b)).toArray 47 (0, 0))) ⟨by first | exact HIX.out | exact HIX.out.below (aC (Below.refl _ _) _), by first | exact HBB.out | exact aZ HBB.out _⟩ ?_
       clear y0 y1 y2 y6 y7 r0 HIX HBX HBB
       try clear cc0
       rintro V ⟨hV, hb⟩
       have y0 : V.cell? ⟨gb, 0, none⟩ = some (.slice A0 b.f0.length c0) := (ae hb 0).trans rfl
       have HV := aa.mk hV
       clear hV hb
       have HSZ := aa.mk (zS (lC x 16))
       go_wp2_with (first
        | (refine wpList_load_row rfl 89 (.tmp 5) rfl g rfl 89 (ldc (ldW x 16)) (0, 0) _ HV.out.l under89 rfl (by rw [HSZ.out]; exact info89) ?_)
        | (go_at_call 59; refine (HCODE.out _ (by first | exact HV.out | exact HV.out.below (aC (Below.refl _ _) _))).mono ?_; rintro e w6 ⟨rfl, hb6⟩; have HI6 := aa.mk (HV.out.below (by first | exact hb6 | exact ax (aC (Below.refl _ _) _) hb6)); clear hb6))
       go_roundw
       case rel => exact ⟨k + 1, hlt, by (have h9 := HG.out.1.few; have e9 := EZ.out; have ew : wrap64 (z + 1) = z + 1 := by unfold wrap64; omega); rw [ew, EZ.out]; rfl, by first | exact HI6 | exact ⟨HI6.out.below (aC (Below.refl _ _) _)⟩⟩
       case measure => (have h9 := HG.out.1.few; have e9 := EZ.out; have ew : wrap64 (z + 1) = z + 1 := by unfold wrap64; omega); simp [intOf, ew]; omega
   have hkl : k = x.length := by omega
   subst hkl
   go_wp2
   go_ret
   exact ⟨rfl, ax HB2.out HI.out.b⟩
end Go.Proofs.Ytdkalnkplgfgoaa.Ln
namespace Go.Proofs.Ytdkalnkplgfgoaa.Rd
open Go.RowKit Go.Proofs.YtdkalnkplgfgoaaW.PrintWords Go.Proofs.YtdkalnkplgfgoaaW.PrintLast Go.Proofs.YtdkalnkplgfgoaaW.PrintMore Go.Proofs.Ytdkalnkplgfgoaa.PA Go.ChangeShapes Go.WideShapes Go.Deep
section
variable {H : Type} (enc : TypeId × Value → H) (P : Program) (w : World) (base : Nat) (spare : Nat → Bool) (held : Bool)
def Reading {α : Type} (t : TypeId) (d : Kd α) (W : α → Prop) : Prop :=
 ∀ (n : Nat) (cs : List Value) (y : DataW H × List MemPlace), DataW.trod enc P w base spare held n t cs = some y → (y.1.weights P t).all (· ≤ reachBytes) = true → ∃ x, d.K w x cs ∧ W x
end
section
variable {H : Type} {enc : TypeId × Value → H} {P : Program} {w : World} {base : Nat} {spare : Nat → Bool} {held : Bool}
theorem rd_int {t : TypeId} {k : IntKind} (ht : P.underlying t = some (.int k)) : Reading enc P w base spare held t (Kd.int k) (fun x => (Lit.int k x).wf = true) := by
 intro n cs y h _
 obtain ⟨x, rfl, _, hx⟩ := DataW.trod_int ht h
 exact ⟨x, rfl, hx⟩
theorem nK {α : Type} {Q : Nat → α → Prop} : ∀ n : Nat, (∀ i, i < n → ∃ x, Q i x) → ∃ xs : List α, xs.length = n ∧ ∀ i x, xs[i]? = some x → Q i x
 | 0, _ => ⟨[], rfl, fun i x h => by simp at h⟩
 | n + 1, h => by
  obtain ⟨xs, hl, hq⟩ := nK n (fun i hi => h i (by omega))
  obtain ⟨x, hx⟩ := h n (by omega)
  refine ⟨xs ++ [x], by simp [hl], fun i z hz => ?_⟩
  by_cases e : i < xs.length
  · rw [List.getElem?_append_left e] at hz
    exact hq i z hz
  rw [List.getElem?_append_right (by omega)] at hz
  have h0 : i - xs.length = 0 := by
   have := (List.getElem?_eq_some_iff.1 hz).1
   simp at this
   omega
  rw [h0] at hz
  have hzx : x = z := by simpa using hz
  have hin : i = n := by omega
  rw [← hzx, hin]
  exact hx
theorem kT {t : TypeId} : ∀ {l : List (DataW H)} {d : DataW H}, d ∈ l → ∀ n ∈ d.weights P t, n ∈ DataW.weightsAll P t l
 | x :: l, d, h, n, hn => by
  simp only [DataW.weightsAll, List.mem_append]
  rcases List.mem_cons.1 h with rfl | h
  · exact .inl hn
  exact .inr (kT h n hn)
theorem tK {α : Type} {d : Kd α} {W : α → Prop} {t e : TypeId} {b : Nat} (ht : P.underlying t = some (.slice e)) (hC : P.cellsOf e = d.sz) (hb : P.bytesOf e = b) (h : Reading enc P w base spare held e d W) :
 Reading enc P w base spare held t (Kd.slice e d) (fun xs => (∀ x ∈ xs, W x) ∧ xs.length * b ≤ reachBytes) := by
 intro n cs y hy hw
 rcases DataW.trod_slice ht hy with ⟨rfl, rfl⟩ | ⟨a, len, cap, elems, rest, m, rfl, rfl, rfl, h1, h2, h3, h4, h5, h6, h7⟩
 · refine ⟨[], ⟨none, 0, rfl, Nat.le_refl _, Kd.xL _ _⟩, fun x hx => (by cases hx), by simp⟩
 have hwt : ∀ z ∈ elems, (z.1.weights P e).all (· ≤ reachBytes) = true := by
  intro z hz
  refine List.all_eq_true.2 fun q hq => ?_
  refine List.all_eq_true.1 hw q ?_
  simp only [DataW.weights, ht]
  refine List.mem_cons_of_mem _ (List.mem_append_left _ ?_)
  exact kT (List.mem_map.2 ⟨z, hz, rfl⟩) q hq
 obtain ⟨xs, hl, hq⟩ := nK (Q := fun i x => ∃ cs', w.cells? base (a.add (i * P.cellsOf e)) (P.cellsOf e) = some cs' ∧ d.K w x cs' ∧ W x) len (by
  intro i hi
  have he := h5 i hi
  have hei : i < elems.length := by omega
  rw [List.getElem?_eq_getElem hei] at he
  obtain ⟨cs', hc, ht'⟩ := Option.bind_eq_some_iff.1 he
  obtain ⟨x, hx, hW⟩ := h m cs' _ ht' (hwt _ (List.getElem_mem hei))
  exact ⟨x, cs', hc, hx, hW⟩)
 refine ⟨xs, ⟨some a, cap, by rw [hl], by omega, ⟨rfl, by unfold maxLen at h3; omega, fun _ => ⟨a, rfl, ?_⟩⟩⟩, ?_, ?_⟩
 · intro j p hj
   obtain ⟨cs', hc, hk, _⟩ := hq j p hj
   obtain ⟨_, hcl, hat⟩ := World.cells?_some hc
   refine ⟨cs', d.K_len hk, hk, fun i u hu => ?_⟩
   have hil : i < cs'.length := (List.getElem?_eq_some_iff.1 hu).1
   have := hat i (by omega)
   rw [← hC, ← Go.Deep.add_add, this, hu]
 · intro x hx
   obtain ⟨i, hi, rfl⟩ := List.getElem_of_mem hx
   obtain ⟨_, _, _, hW⟩ := hq i _ (List.getElem?_eq_getElem hi)
   exact hW
 have := List.all_eq_true.1 hw ((elems.length + rest.length) * P.bytesOf e) (by simp [DataW.weights, ht])
 rw [hb] at this
 have h9 : (elems.length + rest.length) * b ≤ reachBytes := by simpa using this
 have : xs.length * b ≤ (elems.length + rest.length) * b := Nat.mul_le_mul_right _ (by omega)
 omega
theorem fields_of {t : TypeId} {fs : Array Field} {n : Nat} {cs : List Value} {y : DataW H × List MemPlace} (hs : P.underlying t = some (.struct fs)) (h : DataW.trod enc P w base spare held n t cs = some y) (hw : (y.1.weights P t).all (· ≤ reachBytes) = true) :
 cs.length = P.cellsOf t ∧ ∃ m, ∀ (j : Nat) (f : Field), fs[j]? = some f → ∃ z : DataW H × List MemPlace, DataW.trod enc P w base spare held m f.type ((cs.drop f.offset).take (P.cellsOf f.type)) = some z ∧ (z.1.weights P f.type).all (· ≤ reachBytes) = true := by
 obtain ⟨xs, m, rfl, rfl, hl, hx, hf⟩ := DataW.trod_struct hs h
 refine ⟨hl, m, fun j f hj => ?_⟩
 have hjl : j < fs.size := (Array.getElem?_eq_some_iff.1 hj).1
 have hj2 : j < xs.length := by omega
 refine ⟨xs[j], by rw [hf j f hj, List.getElem?_eq_getElem hj2], ?_⟩
 refine List.all_eq_true.2 fun q hq => ?_
 refine List.all_eq_true.1 hw q ?_
 simp only [DataW.weights, hs]
 refine DataW.weights_mem_each (j := j) (t := f.type) (d := xs[j].1) ?_ ?_ q hq
 · rw [List.getElem?_map, Array.getElem?_toList, hj]; rfl
 rw [List.getElem?_map, List.getElem?_eq_getElem hj2]; rfl
end
def WI (x : S45) : Prop := 0 ≤ x.f0 ∧ x.f0 < 65536 ∧ 0 ≤ x.f1 ∧ x.f1 < 256 ∧ 0 ≤ x.f2 ∧ x.f2 < 256 ∧ 0 ≤ x.f3 ∧ x.f3 < 4294967296
def WB (x : S47) : Prop := (∀ i ∈ x.f0, WI i) ∧ x.f0.length * 8 ≤ reachBytes ∧ WI x.f2 ∧ (Lit.int .i64 x.f1).wf = true ∧ (Lit.int .i64 x.f3).wf = true ∧ (Lit.int .i64 x.f4).wf = true
theorem qQ {k : IntKind} {x : Int} (h : (Lit.int k x).wf = true) : k.min ≤ x ∧ x ≤ k.max := by
 simpa [Lit.wf] using h
theorem u8_of {x : Int} (h : (Lit.int .u8 x).wf = true) : 0 ≤ x ∧ x < 256 := by
 have h1 : (0 : Int) ≤ x := (qQ h).1
 have h2 : x ≤ (255 : Int) := (qQ h).2
 omega
theorem u16_of {x : Int} (h : (Lit.int .u16 x).wf = true) : 0 ≤ x ∧ x < 65536 := by
 have h1 : (0 : Int) ≤ x := (qQ h).1
 have h2 : x ≤ (65535 : Int) := (qQ h).2
 omega
theorem BX {x : Int} (h : (Lit.int .u32 x).wf = true) : 0 ≤ x ∧ x < 4294967296 := by
 have h1 : (0 : Int) ≤ x := (qQ h).1
 have h2 : x ≤ (4294967295 : Int) := (qQ h).2
 omega
section
variable {H : Type} {enc : TypeId × Value → H} {w : World} {base : Nat} {spare : Nat → Bool} {held : Bool}
theorem vZ : Reading enc Try.prog w base spare held 45 k45 WI := by
 intro n cs y h hw
 obtain ⟨hl, m, hf⟩ := fields_of Try.underlying45 h hw
 rw [show Try.prog.cellsOf 45 = 4 by kernel_rfl] at hl
 match cs, hl with
 | [c0, c1, c2, c3], _ =>
  obtain ⟨z0, t0, _⟩ := hf 0 _ rfl
  obtain ⟨z1, t1, _⟩ := hf 1 _ rfl
  obtain ⟨z2, t2, _⟩ := hf 2 _ rfl
  obtain ⟨z3, t3, _⟩ := hf 3 _ rfl
  replace t0 : DataW.trod enc Try.prog w base spare held m 43 (([c0, c1, c2, c3].drop 0).take (Try.prog.cellsOf 43)) = some z0 := t0
  rw [show Try.prog.cellsOf 43 = 1 by kernel_rfl] at t0
  replace t1 : DataW.trod enc Try.prog w base spare held m 5 (([c0, c1, c2, c3].drop 1).take (Try.prog.cellsOf 5)) = some z1 := t1
  rw [show Try.prog.cellsOf 5 = 1 by kernel_rfl] at t1
  replace t2 : DataW.trod enc Try.prog w base spare held m 5 (([c0, c1, c2, c3].drop 2).take (Try.prog.cellsOf 5)) = some z2 := t2
  rw [show Try.prog.cellsOf 5 = 1 by kernel_rfl] at t2
  replace t3 : DataW.trod enc Try.prog w base spare held m 41 (([c0, c1, c2, c3].drop 3).take (Try.prog.cellsOf 41)) = some z3 := t3
  rw [show Try.prog.cellsOf 41 = 1 by kernel_rfl] at t3
  simp only [List.drop_zero, List.drop_succ_cons, List.take_succ_cons, List.take_zero] at t0 t1 t2 t3
  obtain ⟨x0, e0, _, w0⟩ := DataW.trod_int Try.underlying43 t0
  obtain ⟨x1, e1, _, w1⟩ := DataW.trod_int Try.underlying5 t1
  obtain ⟨x2, e2, _, w2⟩ := DataW.trod_int Try.underlying5 t2
  obtain ⟨x3, e3, _, w3⟩ := DataW.trod_int Try.underlying41 t3
  simp only [List.cons.injEq, and_true] at e0 e1 e2 e3
  subst e0 e1 e2 e3
  have a0 := u16_of w0
  have a1 := u8_of w1
  have a2 := u8_of w2
  have a3 := BX w3
  exact ⟨⟨x0, x1, x2, x3⟩, zO w ⟨x0, x1, x2, x3⟩, a0.1, a0.2, a1.1, a1.2, a2.1, a2.2, a3.1, a3.2⟩
theorem Bc : Reading enc Try.prog w base spare held 47 k47 WB := by
 intro n cs y h hw
 obtain ⟨hl, m, hf⟩ := fields_of Try.underlying47 h hw
 rw [show Try.prog.cellsOf 47 = 8 by kernel_rfl] at hl
 match cs, hl with
 | [c0, c1, c2, c3, c4, c5, c6, c7], _ =>
  obtain ⟨z0, t0, v0⟩ := hf 0 _ rfl
  obtain ⟨z1, t1, _⟩ := hf 1 _ rfl
  obtain ⟨z2, t2, v2⟩ := hf 2 _ rfl
  obtain ⟨z3, t3, _⟩ := hf 3 _ rfl
  obtain ⟨z4, t4, _⟩ := hf 4 _ rfl
  replace t0 : DataW.trod enc Try.prog w base spare held m 26 (([c0, c1, c2, c3, c4, c5, c6, c7].drop 0).take (Try.prog.cellsOf 26)) = some z0 := t0
  rw [show Try.prog.cellsOf 26 = 1 by kernel_rfl] at t0
  replace t1 : DataW.trod enc Try.prog w base spare held m 3 (([c0, c1, c2, c3, c4, c5, c6, c7].drop 1).take (Try.prog.cellsOf 3)) = some z1 := t1
  rw [show Try.prog.cellsOf 3 = 1 by kernel_rfl] at t1
  replace t2 : DataW.trod enc Try.prog w base spare held m 45 (([c0, c1, c2, c3, c4, c5, c6, c7].drop 2).take (Try.prog.cellsOf 45)) = some z2 := t2
  rw [show Try.prog.cellsOf 45 = 4 by kernel_rfl] at t2
  replace t3 : DataW.trod enc Try.prog w base spare held m 3 (([c0, c1, c2, c3, c4, c5, c6, c7].drop 6).take (Try.prog.cellsOf 3)) = some z3 := t3
  rw [show Try.prog.cellsOf 3 = 1 by kernel_rfl] at t3
  replace t4 : DataW.trod enc Try.prog w base spare held m 3 (([c0, c1, c2, c3, c4, c5, c6, c7].drop 7).take (Try.prog.cellsOf 3)) = some z4 := t4
  rw [show Try.prog.cellsOf 3 = 1 by kernel_rfl] at t4
  replace v0 : (z0.1.weights Try.prog 26).all (· ≤ reachBytes) = true := v0
  replace v2 : (z2.1.weights Try.prog 45).all (· ≤ reachBytes) = true := v2
  simp only [List.drop_zero, List.drop_succ_cons, List.take_succ_cons, List.take_zero] at t0 t1 t2 t3 t4
  obtain ⟨xs, ⟨A, c, e0, hlc, hC⟩, hws, hlen⟩ := tK (d := k45) (b := 8) Try.underlying26 (by kernel_rfl) (by kernel_rfl) vZ m _ _ t0 v0
  obtain ⟨x1, e1, _, w1⟩ := DataW.trod_int Try.underlying3 t1
  obtain ⟨i, hi, wi⟩ := vZ m _ _ t2 v2
  have e2 := ko hi
  obtain ⟨x3, e3, _, w3⟩ := DataW.trod_int Try.underlying3 t3
  obtain ⟨x4, e4, _, w4⟩ := DataW.trod_int Try.underlying3 t4
  simp only [List.cons.injEq, and_true] at e0 e1 e2 e3 e4
  obtain ⟨e20, e21, e22, e23⟩ := e2
  subst e0 e1 e20 e21 e22 e23 e3 e4
  exact ⟨⟨xs, x1, i, x3, x4⟩, k47_mk w ⟨xs, x1, i, x3, x4⟩ hlc hC, hws, hlen, wi, w1, w3, w4⟩
end
theorem vJ {H : Type} {enc : TypeId × Value → H} {P : Program} {w : World} {base : Nat} {spare : Nat → Bool} {held : Bool} {α : Type} {d : Kd α} {W : α → Prop} {t e : TypeId} {b : Nat} {v : Value} {D : DataW H} {p : List MemPlace}
 (ht : P.underlying t = some (.slice e)) (hC : P.cellsOf e = d.sz) (hb : P.bytesOf e = b) (h : Reading enc P w base spare held e d W) (hv : ∃ A l c, v = .slice A l c) (h0 : DataW.Trod enc P w base spare held t v D p) (hw : (D.weights P t).all (· ≤ reachBytes) = true) :
 ∃ (A : Option Addr) (c : Nat) (xs : List α), v = .slice A xs.length c ∧ xs.length ≤ c ∧ d.C w A xs.length xs ∧ (∀ x ∈ xs, W x) ∧ xs.length * b ≤ reachBytes := by
 obtain ⟨A0, l0, c0, rfl⟩ := hv
 obtain ⟨n, hn⟩ := h0
 obtain ⟨xs, ⟨A, c, e0, hlc, hK⟩, hws, hl⟩ := tK ht hC hb h n _ _ hn hw
 have e1 : Value.slice A0 l0 c0 = .slice A xs.length c := by simpa [Value.cells] using e0
 exact ⟨A, c, xs, e1, hlc, hK, hws, hl⟩
theorem p9 {H : Type} {P : Program} {ts : List TypeId} {ds : List (DataW H)} (h : (DataW.weightsEach P ts ds).all (· ≤ reachBytes) = true) {j : Nat} {t : TypeId} {d : DataW H} (ht : ts[j]? = some t) (hd : ds[j]? = some d) : (d.weights P t).all (· ≤ reachBytes) = true :=
 List.all_eq_true.2 fun q hq => List.all_eq_true.1 h q (DataW.weights_mem_each ht hd q hq)
end Go.Proofs.Ytdkalnkplgfgoaa.Rd
namespace Go.Proofs.Ytdkalnkplgfgoaa.Ln
open Go.RowKit Go.Maps Go.Proofs.YtdkalnkplgfgoaaW.PrintWords Go.Proofs.YtdkalnkplgfgoaaW.PrintLast Go.Proofs.YtdkalnkplgfgoaaW.PrintMore Go.Proofs.Ytdkalnkplgfgoaa.PA Go.Proofs.Ytdkalnkplgfgoaa.Rd
theorem szB_sum (g : List S47) : (g.map szB).sum ≤ (g.map (fun b => b.f0.length)).sum + g.length := by
 induction g with
 | nil => exact Nat.le_refl _
 | cons b r ih =>
  rw [List.map_cons, List.map_cons, List.sum_cons, List.sum_cons, List.length_cons]
  have : szB b ≤ b.f0.length + 1 := by unfold szB; split <;> omega
  omega
theorem size_l (x : List S47) (hx : x.length ≤ 4096) : ∀ (d j : Nat), x.length - j = d → j ≤ x.length → ∀ (a : Nat), a + ((x.drop j).map szB).sum ≤ 100000 → ∀ k, bQ.l0 (k + d + 1) x (a : Int) (j : Int) = some (((a + ((x.drop j).map szB).sum : Nat)) : Int) := by
 intro d
 induction d with
 | zero =>
  intro j hd hj a ha k
  have hjl : j = x.length := by omega
  subst hjl
  rw [bQ.l0, if_neg (by omega), List.drop_length]; rfl
 | succ d ih =>
  intro j hd hj a ha k
  have hlt : j < x.length := by omega
  rw [List.drop_eq_getElem_cons hlt, List.map_cons, List.sum_cons] at ha ⊢
  rw [show k + (d + 1) + 1 = (k + d + 1) + 1 by omega, bQ.l0, if_pos (by omega), if_pos (by omega), je hlt]
  have hw := w64 (n := (j : Int) + 1) (by omega) (by omega)
  have hs : szB x[j] = x[j].f0.length + (if x[j].f1 = 2 then 0 else 1) := rfl
  have hj1 : (j : Int) + 1 = ((j + 1 : Nat) : Int) := by omega
  have h5 := ih (j + 1) (by omega) (by omega) (a + szB x[j]) (by omega) k
  obtain ⟨s, es⟩ : ∃ s, s = szB x[j] := ⟨_, rfl⟩
  obtain ⟨n, en⟩ : ∃ n, n = x[j].f0.length := ⟨_, rfl⟩
  rw [← es] at hs ha h5 ⊢
  rw [← en] at hs ⊢
  clear es en ih
  by_cases e : x[j].f1 = 2
  · rw [if_pos e] at hs ⊢
    rw [hw, w64 (n := (a : Int) + (n : Int)) (by omega) (by omega), show (a : Int) + (n : Int) = ((a + s : Nat) : Int) by omega, hj1, h5, Nat.add_assoc]
  rw [if_neg e] at hs ⊢
  rw [hw, w64 (n := (a : Int) + (n : Int)) (by omega) (by omega), w64 (n := (a : Int) + (n : Int) + 1) (by omega) (by omega), show (a : Int) + (n : Int) + 1 = ((a + s : Nat) : Int) by omega, hj1, h5, Nat.add_assoc]
theorem size_f {x : List S47} (hx : GOk x) : bQ.f 10000 x = some ((szG x : Nat) : Int) := by
 have hf := hx.few
 have hs := hx.sum
 have h2 := szB_sum x
 have h := size_l x hx.few x.length 0 rfl (by omega) 0 (by rw [List.drop_zero]; omega) (10000 - x.length - 1)
 rw [List.drop_zero, Nat.zero_add, show 10000 - x.length - 1 + x.length + 1 = 10000 by omega] at h
 exact h
end Go.Proofs.Ytdkalnkplgfgoaa.Ln
