/- Lemmas and walks for the statements of the texts ZEZ..: the declarations that they need, taken together by a program of this session. Conditions: as each says. -/
import Derived.Test.YtdkalnkplgfgoaaZEa
import Derived.Test.YtdkalnkplgfgoaaZEb
set_option maxHeartbeats 8000000
set_option maxRecDepth 100000
set_option linter.unusedVariables false
set_option linter.unusedSimpArgs false
namespace Go.Proofs.Ytdkalnkplgfgoaa.PA
open Go.RowKit Go.Proofs.YtdkalnkplgfgoaaW.PrintWords Go.Proofs.YtdkalnkplgfgoaaW.PrintLast Go.Proofs.YtdkalnkplgfgoaaW.PrintMore
attribute [local go_sem] dZ ek fF fG dQ dR d9 eu
mutual
def aX.j0:Nat→Int→Bool→Int→Int→Int→Int→Option (Bool)
 | 0,_,_,_,_,_,_=>none
 | k+1,x11,x12,x186000,x186001,x186002,x186003=>if x12=true then (some (decide (x186003<16))) else (if x11=52 then (aX.j1 k x11 (x11==52) x186000 x186001 x186002 x186003) else (aX.j1 k x11 (x11==148) x186000 x186001 x186002 x186003))
def aX.j1:Nat→Int→Bool→Int→Int→Int→Int→Option (Bool)
 | 0,_,_,_,_,_,_=>none
 | k+1,x11,x20,x186000,x186001,x186002,x186003=>if x20=true then (some (x186003 != 0)) else (if x11=100 then (some (decide (x186003≤31))) else (if x11=116 then (some (decide (x186003≤31))) else (some true)))
end
def aX.f (k:Nat) (a0_0:Int) (a0_1:Int) (a0_2:Int) (a0_3:Int):Option (Bool):=(aG.f k a0_0).bind fun t186=>(if t186=(-1) then (some false) else (if t186=5 then (some false) else (if t186=6 then (some false) else (if a0_0=2 then (aX.j0 k a0_0 (a0_0==2) a0_0 a0_1 a0_2 a0_3) else (if a0_0=3 then (aX.j0 k a0_0 (a0_0==3) a0_0 a0_1 a0_2 a0_3) else (if a0_0=96 then (aX.j0 k a0_0 (a0_0==96) a0_0 a0_1 a0_2 a0_3) else (aX.j0 k a0_0 (a0_0==97) a0_0 a0_1 a0_2 a0_3)))))))
theorem aX.calls (k:Nat) (a0_0:Int) (a0_1:Int) (a0_2:Int) (a0_3:Int) (r:Bool) (w:World) (h:aX.f k a0_0 a0_1 a0_2 a0_3=some r) :
 Calls Try.prog 123 #[.agg #[.int .u16 a0_0,.int .u8 a0_1,.int .u8 a0_2,.int .u32 a0_3]] w fun e w'=>e = .returned (.bool r)∧Below w.heap.size w w':=by
 have hu45:=Try.underlying45
 have HB:=aa.mk (Below.refl w.heap.size w)
 have H:((aG.f k a0_0).bind fun t186=>(if t186=(-1) then (some false) else (if t186=5 then (some false) else (if t186=6 then (some false) else (if a0_0=2 then (aX.j0 k a0_0 (a0_0==2) a0_0 a0_1 a0_2 a0_3) else (if a0_0=3 then (aX.j0 k a0_0 (a0_0==3) a0_0 a0_1 a0_2 a0_3) else (if a0_0=96 then (aX.j0 k a0_0 (a0_0==96) a0_0 a0_1 a0_2 a0_3) else (aX.j0 k a0_0 (a0_0==97) a0_0 a0_1 a0_2 a0_3))))))))=some r:=h
 clear h
 replace H:=bnd H
 obtain ⟨t186,A2,H⟩:=H
 replace H:=bN H
 obtain ⟨H,-,_,_⟩ | ⟨H,c3,_,_⟩:=H
 · cases H
   go_enter Try.func123,Try.ntmps123
   go_wp2_with (first | ((with_reducible refine aW (N:=1) rfl ?_);refine dS (N:=1) (cs:=#[.int .u16 a0_0,.int .u8 a0_1,.int .u8 a0_2,.int .u32 a0_3]) (t:=45) ?_;intro gb185 hg w4 hbox hb;have GE185:=geN HB hg;have BK185:=aa.mk hbox;replace HB:=cK HB hb;clear hb hbox hg;obtain ⟨_,_,_,_,_,_,_,_⟩:=cz4 BK185) | (go_at_call 99;(with_reducible refine (aG.calls _ _ _ _ A2.out).mono ?_);rintro e w' ⟨rfl,⟨nd,rfl⟩⟩))
   go_ret
   exact ⟨dm,bv⟩
 iterate 2
  replace H:=bN H
  obtain ⟨H,-,_,_⟩ | ⟨H,c6,_,_⟩:=H
  · cases H
    go_enter Try.func123,Try.ntmps123
    go_wp2_with (first | ((with_reducible refine aW (N:=1) rfl ?_);refine dS (N:=1) (cs:=#[.int .u16 a0_0,.int .u8 a0_1,.int .u8 a0_2,.int .u32 a0_3]) (t:=45) ?_;intro gb185 hg w7 hbox hb;have GE185:=geN HB hg;have BK185:=aa.mk hbox;replace HB:=cK HB hb;clear hb hbox hg;obtain ⟨_,_,_,_,_,_,_,_⟩:=cz4 BK185) | (go_at_call 99;(with_reducible refine (aG.calls _ _ _ _ A2.out).mono ?_);rintro e w' ⟨rfl,⟨nd,rfl⟩⟩))
    go_ret
    exact ⟨dm,bv⟩
 have HC12:=aa.mk H
 clear H
 go_enter Try.func123,Try.ntmps123
 go_upto_if 12 with (first | ((with_reducible refine aW (N:=1) rfl ?_);refine dS (N:=1) (cs:=#[.int .u16 a0_0,.int .u8 a0_1,.int .u8 a0_2,.int .u32 a0_3]) (t:=45) ?_;intro gb185 hg w13 hbox hb;have GE185:=geN HB hg;have BK185:=aa.mk hbox;replace HB:=cK HB hb;clear hb hbox hg;obtain ⟨_,_,_,_,_,_,_,_⟩:=cz4 BK185) | (go_at_call 99;(with_reducible refine (aG.calls _ _ _ _ A2.out).mono ?_);rintro e w' ⟨rfl,⟨nd,rfl⟩⟩))
 (try simp only [Act.put,List.setIfInBounds_toArray,List.set_cons_zero,List.set_cons_succ])
 go_cut [12] (fun v12 wc=>∃ (kq:Nat) (x12_11:Bool),v12 = .bool x12_11∧aa (aX.j0 kq a0_0 x12_11 a0_0 a0_1 a0_2 a0_3=some r)∧aa (kq≤k)∧aa (wc.heap[gb185]?=some (.cells #[.int .u16 a0_0,.int .u8 a0_1,.int .u8 a0_2,.int .u32 a0_3] 45 (0,0)))∧aa (Below w.heap.size w wc))
 case first=>
  have H:=HC12.out
  clear HC12
  replace H:=bN H
  obtain ⟨H,-,c15b0,_⟩ | ⟨H,c15,c15b0,_⟩:=H
  · (first | rw [c15b0] | (simp only [dD,dE];rw [c15b0]) | skip)
    replace H:=aa.mk H
    go_wp2
    go_meet
    case rel=>exact ⟨_,_,aY,H,⟨le0⟩,⟨iU⟩,⟨bv⟩⟩
  (first | rw [c15b0] | (simp only [dD,dE];rw [c15b0]) | skip)
  iterate 2
   replace H:=bN H
   obtain ⟨H,-,_,_⟩ | ⟨H,c16,_,_⟩:=H
   · replace H:=aa.mk H
     go_wp2
     go_meet
     case rel=>exact ⟨_,_,aY,H,⟨le0⟩,⟨iU⟩,⟨bv⟩⟩
  replace H:=aa.mk H
  go_wp2
  go_meet
  case rel=>exact ⟨_,_,aY,H,⟨le0⟩,⟨iU⟩,⟨bv⟩⟩
 case rest=>
  clear HC12
  obtain ⟨kq,x12_11,rfl,HA,HJ11,BK185,HB⟩:=hcut
  cases kq with
  | zero=>exact absurd HA.out (by simp [aX.j0])
  | succ kj11=>
   have H:=HA.out
   clear HA
   simp only [aX.j0] at H
   by_cases c18:x12_11=true
   · subst c18
     have H1:(some (decide (a0_3<16)))=some r:=by rw [if_pos rfl] at H;exact H
     clear H
     have H:=H1
     clear H1
     cases H
     obtain ⟨_,_,_,_,_,_,_,_⟩:=cz4 BK185
     go_wp2
     go_ret
     exact ⟨dm,bv⟩
   replace c18:=Bool.eq_false_iff.mpr c18
   subst c18
   have H1:(if a0_0=52 then (aX.j1 kj11 a0_0 (a0_0==52) a0_0 a0_1 a0_2 a0_3) else (aX.j1 kj11 a0_0 (a0_0==148) a0_0 a0_1 a0_2 a0_3))=some r:=by rw [if_neg (show ¬(false=true) by decide)] at H;exact H
   clear H
   have H:=H1
   clear H1
   have HC20:=aa.mk H
   clear H
   go_upto_if 20 with (fail)
   go_cut [20] (fun v20 wc=>∃ (kq:Nat) (x20_19:Bool),v20 = .bool x20_19∧aa (aX.j1 kq a0_0 x20_19 a0_0 a0_1 a0_2 a0_3=some r)∧aa (kq≤kj11)∧aa (wc.heap[gb185]?=some (.cells #[.int .u16 a0_0,.int .u8 a0_1,.int .u8 a0_2,.int .u32 a0_3] 45 (0,0)))∧aa (Below w.heap.size w wc))
   case first=>
    have H:=HC20.out
    clear HC20
    replace H:=bN H
    obtain ⟨H,-,c21b0,_⟩ | ⟨H,c21,c21b0,_⟩:=H
    · (first | rw [c21b0] | (simp only [dD,dE];rw [c21b0]) | skip)
      replace H:=aa.mk H
      go_wp2
      go_meet
      case rel=>exact ⟨_,_,aY,H,⟨by have:=HJ11.out;first | omega | exact Nat.le_refl _⟩,⟨iU⟩,⟨bv⟩⟩
    (first | rw [c21b0] | (simp only [dD,dE];rw [c21b0]) | skip)
    replace H:=aa.mk H
    go_wp2
    go_meet
    case rel=>exact ⟨_,_,aY,H,⟨by have:=HJ11.out;first | omega | exact Nat.le_refl _⟩,⟨iU⟩,⟨bv⟩⟩
   case rest=>
    clear HC20
    obtain ⟨kq,x20_19,rfl,HA,HJ19,BK185,HB⟩:=hcut
    cases kq with
    | zero=>exact absurd HA.out (by simp [aX.j1])
    | succ kj19=>
     have H:=HA.out
     clear HA
     simp only [aX.j1] at H
     by_cases c22:x20_19=true
     · subst c22
       have H1:(some (a0_3 != 0))=some r:=by rw [if_pos rfl] at H;exact H
       clear H
       have H:=H1
       clear H1
       cases H
       obtain ⟨_,_,_,_,_,_,_,_⟩:=cz4 BK185
       go_wp2
       go_ret
       exact ⟨dm,bv⟩
     replace c22:=Bool.eq_false_iff.mpr c22
     subst c22
     have H1:(if a0_0=100 then (some (decide (a0_3≤31))) else (if a0_0=116 then (some (decide (a0_3≤31))) else (some true)))=some r:=by rw [if_neg (show ¬(false=true) by decide)] at H;exact H
     clear H
     have H:=H1
     clear H1
     iterate 2
      replace H:=bN H
      obtain ⟨H,-,_,_⟩ | ⟨H,c24,_,_⟩:=H
      · cases H
        obtain ⟨_,_,_,_,_,_,_,_⟩:=cz4 BK185
        go_wp2
        go_ret
        exact ⟨dm,bv⟩
     cases H
     go_wp2
     go_ret
     exact ⟨dm,bv⟩
def bW.j0:Nat→Int→Bool→Option (Bool)
 | 0,_,_=>none
 | k+1,x0,x4=>if x4=true then (some false) else ((bf.f k x0).bind fun t187=>(if t187=true then (some ((Go.bits .and .u16 x0 8)==0)) else ((cz.f k x0).bind fun t188=>(if t188=true then (some ((Go.bits .and .u16 x0 8)==0)) else (some true)))))
def bW.f (k:Nat) (a0:Int):Option (Bool):=if a0=128 then (bW.j0 k a0 (a0==128)) else (if a0=129 then (bW.j0 k a0 (a0==129)) else (if a0=132 then (bW.j0 k a0 (a0==132)) else (if a0=22 then (bW.j0 k a0 (a0==22)) else (if a0=7 then (bW.j0 k a0 (a0==7)) else (bW.j0 k a0 (a0==135))))))
theorem bW.calls (k:Nat) (a0:Int) (r:Bool) (w:World) (h:bW.f k a0=some r) :
 Calls Try.prog 150 #[.int .u16 a0] w fun e w'=>e = .returned (.bool r)∧bZ w w':=by
 have H:(if a0=128 then (bW.j0 k a0 (a0==128)) else (if a0=129 then (bW.j0 k a0 (a0==129)) else (if a0=132 then (bW.j0 k a0 (a0==132)) else (if a0=22 then (bW.j0 k a0 (a0==22)) else (if a0=7 then (bW.j0 k a0 (a0==7)) else (bW.j0 k a0 (a0==135)))))))=some r:=h
 clear h
 have HC2:=aa.mk H
 clear H
 go_enter Try.func150,Try.ntmps150
 go_upto_if 4 with (fail)
 go_cut [4] (fun v4 wc=>∃ (kq:Nat) (x4_1:Bool),v4 = .bool x4_1∧aa (bW.j0 kq a0 x4_1=some r)∧aa (kq≤k)∧bZ w wc)
 case first=>
  have H:=HC2.out
  clear HC2
  replace H:=bN H
  obtain ⟨H,-,c3b0,_⟩ | ⟨H,c3,c3b0,_⟩:=H
  · (first | rw [c3b0] | (simp only [dD,dE];rw [c3b0]) | skip)
    replace H:=aa.mk H
    go_wp2
    go_meet
    case rel=>exact ⟨_,_,aY,H,⟨le0⟩,bC⟩
  (first | rw [c3b0] | (simp only [dD,dE];rw [c3b0]) | skip)
  iterate 2
   replace H:=bN H
   obtain ⟨H,-,_,_⟩ | ⟨H,c4,_,_⟩:=H
   · replace H:=aa.mk H
     go_wp2
     go_meet
     case rel=>exact ⟨_,_,aY,H,⟨le0⟩,bC⟩
  iterate 2
   replace H:=bN H
   obtain ⟨H,-,_,_⟩ | ⟨H,c6,_,_⟩:=H
   · replace H:=aa.mk H
     go_wp2
     go_meet
     case rel=>exact ⟨_,_,aY,H,⟨le0⟩,bC⟩
  replace H:=aa.mk H
  go_wp2
  go_meet
  case rel=>exact ⟨_,_,aY,H,⟨le0⟩,bC⟩
 case rest=>
  clear HC2
  obtain ⟨kq,x4_1,rfl,HA,HJ1,⟨mc1,rfl⟩⟩:=hcut
  cases kq with
  | zero=>exact absurd HA.out (by simp [bW.j0])
  | succ kj1=>
   have H:=HA.out
   clear HA
   simp only [bW.j0] at H
   by_cases c8:x4_1=true
   · subst c8
     have H1:(some false)=some r:=by rw [if_pos rfl] at H;exact H
     clear H
     have H:=H1
     clear H1
     cases H
     go_wp2
     go_ret
     exact ⟨aY,bC⟩
   replace c8:=Bool.eq_false_iff.mpr c8
   subst c8
   have H1:((bf.f kj1 a0).bind fun t187=>(if t187=true then (some ((Go.bits .and .u16 a0 8)==0)) else ((cz.f kj1 a0).bind fun t188=>(if t188=true then (some ((Go.bits .and .u16 a0 8)==0)) else (some true)))))=some r:=by rw [if_neg (show ¬(false=true) by decide)] at H;exact H
   clear H
   have H:=H1
   clear H1
   replace H:=bnd H
   obtain ⟨t187,A9,H⟩:=H
   replace H:=iY H
   obtain ⟨rfl,H⟩ | ⟨rfl,H⟩:=H
   · cases H
     go_wp2_with (go_at_call 163;(with_reducible refine (bf.calls _ _ _ _ A9.out).mono ?_);rintro e w' ⟨rfl,⟨nd,rfl⟩⟩)
     go_ret
     exact ⟨aY,bC⟩
   replace H:=bnd H
   obtain ⟨t188,A11,H⟩:=H
   replace H:=iY H
   obtain ⟨rfl,H⟩ | ⟨rfl,H⟩:=H
   · cases H
     go_wp2_with (first | (go_at_call 163;(with_reducible refine (bf.calls _ _ _ _ A9.out).mono ?_);rintro e w' ⟨rfl,⟨nd,rfl⟩⟩) | (go_at_call 151;(with_reducible refine (cz.calls _ _ _ _ A11.out).mono ?_);rintro e w' ⟨rfl,⟨nd,rfl⟩⟩))
     go_ret
     exact ⟨aY,bC⟩
   cases H
   go_wp2_with (first | (go_at_call 163;(with_reducible refine (bf.calls _ _ _ _ A9.out).mono ?_);rintro e w' ⟨rfl,⟨nd,rfl⟩⟩) | (go_at_call 151;(with_reducible refine (cz.calls _ _ _ _ A11.out).mono ?_);rintro e w' ⟨rfl,⟨nd,rfl⟩⟩))
   go_ret
   exact ⟨aY,bC⟩
def ib.f (a0:Int):Option (Bool):=if a0=32 then (some true) else (if a0=40 then (some true) else (if a0=48 then (some true) else (if a0=64 then (some true) else (if a0=72 then (some true) else (if a0=80 then (some true) else (if a0=177 then (some true) else (if a0=60 then (some true) else (if a0=156 then (some true) else (some false)))))))))
theorem ib.calls (a0:Int) (r:Bool) (w:World) (h:ib.f a0=some r) :
 Calls Try.prog 152 #[.int .u16 a0] w fun e w'=>e = .returned (.bool r)∧bZ w w':=by
 have H:(if a0=32 then (some true) else (if a0=40 then (some true) else (if a0=48 then (some true) else (if a0=64 then (some true) else (if a0=72 then (some true) else (if a0=80 then (some true) else (if a0=177 then (some true) else (if a0=60 then (some true) else (if a0=156 then (some true) else (some false))))))))))=some r:=h
 clear h
 replace H:=bN H
 obtain ⟨H,-,_,_⟩ | ⟨H,c2,_,_⟩:=H
 · cases H
   go_enter Try.func152,Try.ntmps152
   go_wp2
   go_ret
   exact ⟨aY,bC⟩
 iterate 2
  replace H:=bN H
  obtain ⟨H,-,_,_⟩ | ⟨H,c3,_,_⟩:=H
  · cases H
    go_enter Try.func152,Try.ntmps152
    go_wp2
    go_ret
    exact ⟨aY,bC⟩
 iterate 2
  replace H:=bN H
  obtain ⟨H,-,_,_⟩ | ⟨H,c5,_,_⟩:=H
  · cases H
    go_enter Try.func152,Try.ntmps152
    go_wp2
    go_ret
    exact ⟨aY,bC⟩
 iterate 2
  replace H:=bN H
  obtain ⟨H,-,_,_⟩ | ⟨H,c7,_,_⟩:=H
  · cases H
    go_enter Try.func152,Try.ntmps152
    go_wp2
    go_ret
    exact ⟨aY,bC⟩
 iterate 2
  replace H:=bN H
  obtain ⟨H,-,_,_⟩ | ⟨H,c9,_,_⟩:=H
  · cases H
    go_enter Try.func152,Try.ntmps152
    go_wp2
    go_ret
    exact ⟨aY,bC⟩
 cases H
 go_enter Try.func152,Try.ntmps152
 go_wp2
 go_ret
 exact ⟨aY,bC⟩
def fA.f (k:Nat) (a0:Int):Option (Bool × Bool × Bool):=(aJ.f k a0).bind fun t189=>(if t189=true then ((bW.f k a0).bind fun t190=>((cz.f k a0).bind fun t191=>((ib.f a0).bind fun t192=>(some (t190,t191,t192))))) else (some (false,false,false)))
theorem fA.calls (k:Nat) (a0:Int) (r1:Bool) (r2:Bool) (r3:Bool) (w:World) (h:fA.f k a0=some (r1,r2,r3)) :
 Calls Try.prog 100 #[.int .u16 a0] w fun e w'=>e = .returned (.tuple #[.bool r1,.bool r2,.bool r3])∧bZ w w':=by
 have H:((aJ.f k a0).bind fun t189=>(if t189=true then ((bW.f k a0).bind fun t190=>((cz.f k a0).bind fun t191=>((ib.f a0).bind fun t192=>(some (t190,t191,t192))))) else (some (false,false,false))))=some (r1,r2,r3):=h
 clear h
 replace H:=bnd H
 obtain ⟨t189,A2,H⟩:=H
 replace H:=iY H
 obtain ⟨rfl,H⟩ | ⟨rfl,H⟩:=H
 · replace H:=bnd H
   obtain ⟨t190,A4,H⟩:=H
   replace H:=bnd H
   obtain ⟨t191,A5,H⟩:=H
   replace H:=bnd H
   obtain ⟨t192,A6,H⟩:=H
   obtain ⟨rfl,rfl,rfl⟩:=so3 H
   go_enter Try.func100,Try.ntmps100
   go_wp2_with (first | (go_at_call 143;(with_reducible refine (aJ.calls _ _ _ _ A2.out).mono ?_);rintro e w' ⟨rfl,⟨nd,rfl⟩⟩) | (go_at_call 150;(with_reducible refine (bW.calls _ _ _ _ A4.out).mono ?_);rintro e w' ⟨rfl,⟨nd,rfl⟩⟩) | (go_at_call 151;(with_reducible refine (cz.calls _ _ _ _ A5.out).mono ?_);rintro e w' ⟨rfl,⟨nd,rfl⟩⟩) | (go_at_call 152;(with_reducible refine (ib.calls _ _ _ A6.out).mono ?_);rintro e w' ⟨rfl,⟨nd,rfl⟩⟩))
   go_ret3
   exact ⟨aY,bC⟩
 obtain ⟨rfl,rfl,rfl⟩:=so3 H
 go_enter Try.func100,Try.ntmps100
 go_wp2_with (go_at_call 143;(with_reducible refine (aJ.calls _ _ _ _ A2.out).mono ?_);rintro e w' ⟨rfl,⟨nd,rfl⟩⟩)
 go_ret3
 exact ⟨aY,bC⟩
attribute [local go_sem] dZ ek fF fG dQ dR d9 eu
attribute [local go_sem high] zl
def fC.f (k:Nat) (a0_0:Int) (a0_1:Int) (a0_2:Int) (a0_3:Int):Option (Bool):=(fA.f k a0_0).bind fun bt194=>(if a0_1=0 then (if a0_2=0 then (if bt194.1=true then (some true) else (some (a0_3==0))) else (some false)) else (some false))
theorem fC.calls (k:Nat) (a0_0:Int) (a0_1:Int) (a0_2:Int) (a0_3:Int) (r:Bool) (w:World) (h:fC.f k a0_0 a0_1 a0_2 a0_3=some r) :
 Calls Try.prog 158 #[.agg #[.int .u16 a0_0,.int .u8 a0_1,.int .u8 a0_2,.int .u32 a0_3]] w fun e w'=>e = .returned (.bool r)∧Below w.heap.size w w':=by
 have hu45:=Try.underlying45
 have HB:=aa.mk (Below.refl w.heap.size w)
 have H:((fA.f k a0_0).bind fun bt194=>(if a0_1=0 then (if a0_2=0 then (if bt194.1=true then (some true) else (some (a0_3==0))) else (some false)) else (some false)))=some r:=h
 clear h
 replace H:=Option.bind_eq_some_iff.mp H
 obtain ⟨⟨t194,t195,t196⟩,A20,H⟩:=H
 replace H:(if a0_1=0 then (if a0_2=0 then (if t194=true then (some true) else (some (a0_3==0))) else (some false)) else (some false))=some r:=H
 have A2:=aa.mk A20
 clear A20
 replace H:=bN H
 obtain ⟨H,-,_,_⟩ | ⟨H,c3,_,_⟩:=H
 · replace H:=bN H
   obtain ⟨H,-,_,_⟩ | ⟨H,c4,_,_⟩:=H
   · replace H:=iY H
     obtain ⟨rfl,H⟩ | ⟨rfl,H⟩:=H
     · cases H
       go_enter Try.func158,Try.ntmps158
       go_wp2_with (first | ((with_reducible refine aW (N:=1) rfl ?_);refine dS (N:=1) (cs:=#[.int .u16 a0_0,.int .u8 a0_1,.int .u8 a0_2,.int .u32 a0_3]) (t:=45) ?_;intro gb193 hg w6 hbox hb;have GE193:=geN HB hg;have BK193:=aa.mk hbox;replace HB:=cK HB hb;clear hb hbox hg;obtain ⟨_,_,_,_,_,_,_,_⟩:=cz4 BK193) | (go_at_call 100;(with_reducible refine (fA.calls _ _ _ _ _ _ A2.out).mono ?_);rintro e w' ⟨rfl,⟨nd,rfl⟩⟩))
       go_ret
       exact ⟨dm,bv⟩
     cases H
     go_enter Try.func158,Try.ntmps158
     go_wp2_with (first | ((with_reducible refine aW (N:=1) rfl ?_);refine dS (N:=1) (cs:=#[.int .u16 a0_0,.int .u8 a0_1,.int .u8 a0_2,.int .u32 a0_3]) (t:=45) ?_;intro gb193 hg w8 hbox hb;have GE193:=geN HB hg;have BK193:=aa.mk hbox;replace HB:=cK HB hb;clear hb hbox hg;obtain ⟨_,_,_,_,_,_,_,_⟩:=cz4 BK193) | (go_at_call 100;(with_reducible refine (fA.calls _ _ _ _ _ _ A2.out).mono ?_);rintro e w' ⟨rfl,⟨nd,rfl⟩⟩))
     go_ret
     exact ⟨dm,bv⟩
   cases H
   go_enter Try.func158,Try.ntmps158
   go_wp2_with (first | ((with_reducible refine aW (N:=1) rfl ?_);refine dS (N:=1) (cs:=#[.int .u16 a0_0,.int .u8 a0_1,.int .u8 a0_2,.int .u32 a0_3]) (t:=45) ?_;intro gb193 hg w10 hbox hb;have GE193:=geN HB hg;have BK193:=aa.mk hbox;replace HB:=cK HB hb;clear hb hbox hg;obtain ⟨_,_,_,_,_,_,_,_⟩:=cz4 BK193) | (go_at_call 100;(with_reducible refine (fA.calls _ _ _ _ _ _ A2.out).mono ?_);rintro e w' ⟨rfl,⟨nd,rfl⟩⟩))
   go_ret
   exact ⟨dm,bv⟩
 cases H
 go_enter Try.func158,Try.ntmps158
 go_wp2_with (first | ((with_reducible refine aW (N:=1) rfl ?_);refine dS (N:=1) (cs:=#[.int .u16 a0_0,.int .u8 a0_1,.int .u8 a0_2,.int .u32 a0_3]) (t:=45) ?_;intro gb193 hg w12 hbox hb;have GE193:=geN HB hg;have BK193:=aa.mk hbox;replace HB:=cK HB hb;clear hb hbox hg;obtain ⟨_,_,_,_,_,_,_,_⟩:=cz4 BK193) | (go_at_call 100;(with_reducible refine (fA.calls _ _ _ _ _ _ A2.out).mono ?_);rintro e w' ⟨rfl,⟨nd,rfl⟩⟩))
 go_ret
 exact ⟨dm,bv⟩
def iB.f (k:Nat) (l0_0:List (S45)) (a0_1:Int) (a0_2:Int) (a0_3:Int) (a0_4:Int) (a0_5:Int) (a0_6:Int) (a0_7:Int):Option (Bool):=if a0_1=1 then ((aG.f k a0_2).bind fun t198=>(if t198=6 then ((fC.f k a0_2 a0_3 a0_4 a0_5).bind fun t199=>(if t199=true then (if a0_6=0 then (some (a0_7==0)) else (some false)) else (some false))) else (some false))) else (if a0_1=2 then (if (a0_2==0&&(a0_3==0&&(a0_4==0&&(a0_5==0))))=true then (some (a0_7==0)) else (some false)) else (if a0_1=3 then ((aG.f k a0_2).bind fun t200=>(if t200=5 then (if a0_2=5 then (some false) else ((fC.f k a0_2 a0_3 a0_4 a0_5).bind fun t201=>(some t201))) else (some false))) else (some false)))
theorem iB.calls (k:Nat) (A0_0:Option Addr) (c0_0:Nat) (l0_0:List (S45)) (a0_1:Int) (a0_2:Int) (a0_3:Int) (a0_4:Int) (a0_5:Int) (a0_6:Int) (a0_7:Int) (r:Bool) (w:World) (hr0_0:Kd.C k45 w A0_0 l0_0.length l0_0) (hc0_0:l0_0.length≤c0_0) (h:iB.f k l0_0 a0_1 a0_2 a0_3 a0_4 a0_5 a0_6 a0_7=some r) :
 Calls Try.prog 124 #[.agg #[.slice A0_0 l0_0.length c0_0,.int .i64 a0_1,.int .u16 a0_2,.int .u8 a0_3,.int .u8 a0_4,.int .u32 a0_5,.int .i64 a0_6,.int .i64 a0_7]] w fun e w'=>e = .returned (.bool r)∧Below w.heap.size w w':=by
 have hu47:=Try.underlying47
 have hu45:=Try.underlying45
 have HR0_0:=aa.mk hr0_0
 have HC0_0:=aa.mk hc0_0
 clear hr0_0 hc0_0
 have HB:=aa.mk (Below.refl w.heap.size w)
 have H:(if a0_1=1 then ((aG.f k a0_2).bind fun t198=>(if t198=6 then ((fC.f k a0_2 a0_3 a0_4 a0_5).bind fun t199=>(if t199=true then (if a0_6=0 then (some (a0_7==0)) else (some false)) else (some false))) else (some false))) else (if a0_1=2 then (if (a0_2==0&&(a0_3==0&&(a0_4==0&&(a0_5==0))))=true then (some (a0_7==0)) else (some false)) else (if a0_1=3 then ((aG.f k a0_2).bind fun t200=>(if t200=5 then (if a0_2=5 then (some false) else ((fC.f k a0_2 a0_3 a0_4 a0_5).bind fun t201=>(some t201))) else (some false))) else (some false))))=some r:=h
 clear h
 replace H:=bN H
 obtain ⟨H,-,_,_⟩ | ⟨H,c2,_,_⟩:=H
 · replace H:=bnd H
   obtain ⟨t198,A3,H⟩:=H
   replace H:=bN H
   obtain ⟨H,-,_,_⟩ | ⟨H,c4,_,_⟩:=H
   · replace H:=bnd H
     obtain ⟨t199,A5,H⟩:=H
     replace H:=iY H
     obtain ⟨rfl,H⟩ | ⟨rfl,H⟩:=H
     · replace H:=bN H
       obtain ⟨H,-,_,_⟩ | ⟨H,c7,_,_⟩:=H
       · cases H
         go_enter Try.func124,Try.ntmps124
         go_wp2_with (first | ((with_reducible refine aW (N:=1) rfl ?_);refine dS (N:=1) (cs:=#[.slice A0_0 l0_0.length c0_0,.int .i64 a0_1,.int .u16 a0_2,.int .u8 a0_3,.int .u8 a0_4,.int .u32 a0_5,.int .i64 a0_6,.int .i64 a0_7]) (t:=47) ?_;intro gb197 hg w8 hbox hb;have GE197:=geN HB hg;have BK197:=aa.mk hbox;replace HB:=cK HB hb;clear hb hbox hg;obtain ⟨_,_,_,_,_,_,_,_,_,_,_,_,_,_,_,_⟩:=cz8 BK197) | (go_at_call 99;(with_reducible refine (aG.calls _ _ _ _ A3.out).mono ?_);rintro e w' ⟨rfl,⟨nd,rfl⟩⟩) | (go_at_call 158;(with_reducible refine (fC.calls _ _ _ _ _ _ _ A5.out).mono ?_);rintro e w10 ⟨rfl,hb⟩;replace BK197:=lW BK197 hb;replace HB:=cK HB hb;obtain ⟨_,_,_,_,_,_,_,_,_,_,_,_,_,_,_,_⟩:=cz8 BK197))
         go_ret
         exact ⟨dm,bv⟩
       cases H
       go_enter Try.func124,Try.ntmps124
       go_wp2_with (first | ((with_reducible refine aW (N:=1) rfl ?_);refine dS (N:=1) (cs:=#[.slice A0_0 l0_0.length c0_0,.int .i64 a0_1,.int .u16 a0_2,.int .u8 a0_3,.int .u8 a0_4,.int .u32 a0_5,.int .i64 a0_6,.int .i64 a0_7]) (t:=47) ?_;intro gb197 hg w12 hbox hb;have GE197:=geN HB hg;have BK197:=aa.mk hbox;replace HB:=cK HB hb;clear hb hbox hg;obtain ⟨_,_,_,_,_,_,_,_,_,_,_,_,_,_,_,_⟩:=cz8 BK197) | (go_at_call 99;(with_reducible refine (aG.calls _ _ _ _ A3.out).mono ?_);rintro e w' ⟨rfl,⟨nd,rfl⟩⟩) | (go_at_call 158;(with_reducible refine (fC.calls _ _ _ _ _ _ _ A5.out).mono ?_);rintro e w14 ⟨rfl,hb⟩;replace BK197:=lW BK197 hb;replace HB:=cK HB hb;obtain ⟨_,_,_,_,_,_,_,_,_,_,_,_,_,_,_,_⟩:=cz8 BK197))
       go_ret
       exact ⟨dm,bv⟩
     cases H
     go_enter Try.func124,Try.ntmps124
     go_wp2_with (first | ((with_reducible refine aW (N:=1) rfl ?_);refine dS (N:=1) (cs:=#[.slice A0_0 l0_0.length c0_0,.int .i64 a0_1,.int .u16 a0_2,.int .u8 a0_3,.int .u8 a0_4,.int .u32 a0_5,.int .i64 a0_6,.int .i64 a0_7]) (t:=47) ?_;intro gb197 hg w16 hbox hb;have GE197:=geN HB hg;have BK197:=aa.mk hbox;replace HB:=cK HB hb;clear hb hbox hg;obtain ⟨_,_,_,_,_,_,_,_,_,_,_,_,_,_,_,_⟩:=cz8 BK197) | (go_at_call 99;(with_reducible refine (aG.calls _ _ _ _ A3.out).mono ?_);rintro e w' ⟨rfl,⟨nd,rfl⟩⟩) | (go_at_call 158;(with_reducible refine (fC.calls _ _ _ _ _ _ _ A5.out).mono ?_);rintro e w18 ⟨rfl,hb⟩;replace BK197:=lW BK197 hb;replace HB:=cK HB hb))
     go_ret
     exact ⟨dm,bv⟩
   cases H
   go_enter Try.func124,Try.ntmps124
   go_wp2_with (first | ((with_reducible refine aW (N:=1) rfl ?_);refine dS (N:=1) (cs:=#[.slice A0_0 l0_0.length c0_0,.int .i64 a0_1,.int .u16 a0_2,.int .u8 a0_3,.int .u8 a0_4,.int .u32 a0_5,.int .i64 a0_6,.int .i64 a0_7]) (t:=47) ?_;intro gb197 hg w19 hbox hb;have GE197:=geN HB hg;have BK197:=aa.mk hbox;replace HB:=cK HB hb;clear hb hbox hg;obtain ⟨_,_,_,_,_,_,_,_,_,_,_,_,_,_,_,_⟩:=cz8 BK197) | (go_at_call 99;(with_reducible refine (aG.calls _ _ _ _ A3.out).mono ?_);rintro e w' ⟨rfl,⟨nd,rfl⟩⟩))
   go_ret
   exact ⟨dm,bv⟩
 replace H:=bN H
 obtain ⟨H,-,_,_⟩ | ⟨H,c21,_,_⟩:=H
 · replace H:=mZ H
   obtain ⟨H,c22⟩ | ⟨H,c22⟩:=H
   · have c22b0:(a0_2==0&&(a0_3==0&&(a0_4==0&&(a0_5==0))))=true:=c22
     (try (have c22b1:decide (a0_2=0&&(a0_3==0&&(a0_4==0&&(a0_5==0))))=true:=by simpa using c22))
     (try (have c22b2:(a0_2==0&&(a0_3==0&&(a0_4==0&&(a0_5==0))))=true:=by simpa using c22))
     clear c22
     cases H
     go_enter Try.func124,Try.ntmps124
     go_wp2_with ((with_reducible refine aW (N:=1) rfl ?_);refine dS (N:=1) (cs:=#[.slice A0_0 l0_0.length c0_0,.int .i64 a0_1,.int .u16 a0_2,.int .u8 a0_3,.int .u8 a0_4,.int .u32 a0_5,.int .i64 a0_6,.int .i64 a0_7]) (t:=47) ?_;intro gb197 hg w23 hbox hb;have GE197:=geN HB hg;have BK197:=aa.mk hbox;replace HB:=cK HB hb;clear hb hbox hg;obtain ⟨_,_,_,_,_,_,_,_,_,_,_,_,_,_,_,_⟩:=cz8 BK197)
     go_ret
     exact ⟨dm,bv⟩
   have c22b0:(a0_2==0&&(a0_3==0&&(a0_4==0&&(a0_5==0))))=false:=by simpa using c22
   (try (have c22b1:decide (a0_2=0&&(a0_3==0&&(a0_4==0&&(a0_5==0))))=false:=by simpa using c22))
   (try (have c22b2:(a0_2==0&&(a0_3==0&&(a0_4==0&&(a0_5==0))))=false:=by simpa using c22))
   (try (have c22b3:¬(a0_2=0&&(a0_3==0&&(a0_4==0&&(a0_5==0)))):=by simpa using c22))
   clear c22
   cases H
   go_enter Try.func124,Try.ntmps124
   go_wp2_with ((with_reducible refine aW (N:=1) rfl ?_);refine dS (N:=1) (cs:=#[.slice A0_0 l0_0.length c0_0,.int .i64 a0_1,.int .u16 a0_2,.int .u8 a0_3,.int .u8 a0_4,.int .u32 a0_5,.int .i64 a0_6,.int .i64 a0_7]) (t:=47) ?_;intro gb197 hg w25 hbox hb;have GE197:=geN HB hg;have BK197:=aa.mk hbox;replace HB:=cK HB hb;clear hb hbox hg;obtain ⟨_,_,_,_,_,_,_,_,_,_,_,_,_,_,_,_⟩:=cz8 BK197)
   go_ret
   exact ⟨dm,bv⟩
 replace H:=bN H
 obtain ⟨H,-,_,_⟩ | ⟨H,c27,_,_⟩:=H
 · replace H:=bnd H
   obtain ⟨t200,A28,H⟩:=H
   replace H:=bN H
   obtain ⟨H,-,_,_⟩ | ⟨H,c29,_,_⟩:=H
   · replace H:=bN H
     obtain ⟨H,-,_,_⟩ | ⟨H,c30,_,_⟩:=H
     · cases H
       go_enter Try.func124,Try.ntmps124
       go_wp2_with (first | ((with_reducible refine aW (N:=1) rfl ?_);refine dS (N:=1) (cs:=#[.slice A0_0 l0_0.length c0_0,.int .i64 a0_1,.int .u16 a0_2,.int .u8 a0_3,.int .u8 a0_4,.int .u32 a0_5,.int .i64 a0_6,.int .i64 a0_7]) (t:=47) ?_;intro gb197 hg w31 hbox hb;have GE197:=geN HB hg;have BK197:=aa.mk hbox;replace HB:=cK HB hb;clear hb hbox hg;obtain ⟨_,_,_,_,_,_,_,_,_,_,_,_,_,_,_,_⟩:=cz8 BK197) | (go_at_call 99;(with_reducible refine (aG.calls _ _ _ _ A28.out).mono ?_);rintro e w' ⟨rfl,⟨nd,rfl⟩⟩))
       go_ret
       exact ⟨dm,bv⟩
     replace H:=bnd H
     obtain ⟨t201,A33,H⟩:=H
     cases H
     go_enter Try.func124,Try.ntmps124
     go_wp2_with (first | ((with_reducible refine aW (N:=1) rfl ?_);refine dS (N:=1) (cs:=#[.slice A0_0 l0_0.length c0_0,.int .i64 a0_1,.int .u16 a0_2,.int .u8 a0_3,.int .u8 a0_4,.int .u32 a0_5,.int .i64 a0_6,.int .i64 a0_7]) (t:=47) ?_;intro gb197 hg w34 hbox hb;have GE197:=geN HB hg;have BK197:=aa.mk hbox;replace HB:=cK HB hb;clear hb hbox hg;obtain ⟨_,_,_,_,_,_,_,_,_,_,_,_,_,_,_,_⟩:=cz8 BK197) | (go_at_call 99;(with_reducible refine (aG.calls _ _ _ _ A28.out).mono ?_);rintro e w' ⟨rfl,⟨nd,rfl⟩⟩) | (go_at_call 158;(with_reducible refine (fC.calls _ _ _ _ _ _ _ A33.out).mono ?_);rintro e w36 ⟨rfl,hb⟩;replace BK197:=lW BK197 hb;replace HB:=cK HB hb))
     go_ret
     exact ⟨dm,bv⟩
   cases H
   go_enter Try.func124,Try.ntmps124
   go_wp2_with (first | ((with_reducible refine aW (N:=1) rfl ?_);refine dS (N:=1) (cs:=#[.slice A0_0 l0_0.length c0_0,.int .i64 a0_1,.int .u16 a0_2,.int .u8 a0_3,.int .u8 a0_4,.int .u32 a0_5,.int .i64 a0_6,.int .i64 a0_7]) (t:=47) ?_;intro gb197 hg w37 hbox hb;have GE197:=geN HB hg;have BK197:=aa.mk hbox;replace HB:=cK HB hb;clear hb hbox hg;obtain ⟨_,_,_,_,_,_,_,_,_,_,_,_,_,_,_,_⟩:=cz8 BK197) | (go_at_call 99;(with_reducible refine (aG.calls _ _ _ _ A28.out).mono ?_);rintro e w' ⟨rfl,⟨nd,rfl⟩⟩))
   go_ret
   exact ⟨dm,bv⟩
 cases H
 go_enter Try.func124,Try.ntmps124
 go_wp2_with ((with_reducible refine aW (N:=1) rfl ?_);refine dS (N:=1) (cs:=#[.slice A0_0 l0_0.length c0_0,.int .i64 a0_1,.int .u16 a0_2,.int .u8 a0_3,.int .u8 a0_4,.int .u32 a0_5,.int .i64 a0_6,.int .i64 a0_7]) (t:=47) ?_;intro gb197 hg w39 hbox hb;have GE197:=geN HB hg;have BK197:=aa.mk hbox;replace HB:=cK HB hb;clear hb hbox hg;obtain ⟨_,_,_,_,_,_,_,_,_,_,_,_,_,_,_,_⟩:=cz8 BK197)
 go_ret
 exact ⟨dm,bv⟩
mutual
def dx.l0:Nat→Int→Int→List (S45)→Int→Int→List (S45)→Int→Int→Int→Int→Int→Int→Int→Option (Int)
 | 0,_,_,_,_,_,_,_,_,_,_,_,_,_=>none
 | k+1,x1,x3,x16,x17,x18,x203000,x203001,x203002,x203003,x203004,x203005,x203006,x203007=>if x18<x17 then (if 0≤x18 then (if x18<(x16.length:Int) then ((aX.f k ((aV x16 x18).f0) ((aV x16 x18).f1) ((aV x16 x18).f2) ((aV x16 x18).f3)).bind fun t205=>(if t205=true then (dx.l0 k x1 x3 x16 x17 (wrap64 (x18+1)) x203000 x203001 x203002 x203003 x203004 x203005 x203006 x203007) else (some 152))) else (none)) else (none)) else ((iB.f k x203000 x203001 x203002 x203003 x203004 x203005 x203006 x203007).bind fun t206=>(if t206=true then ((gU.f x203000 x203001 x203002 x203003 x203004 x203005 x203006 x203007).bind fun t207=>(dx.l1 k x1 x3 t207 (t207.length:Int) 0)) else (some 153)))
def dx.l1:Nat→Int→Int→List Int→Int→Int→Option (Int)
 | 0,_,_,_,_,_=>none
 | k+1,x1,x3,x30,x31,x32=>if x32<x31 then (if 0≤x32 then (if x32<(x30.length:Int) then (if (rd x30 x32)≤x1 then (some 154) else (if (rd x30 x32)≥x3 then (some 154) else (dx.l1 k x1 x3 x30 x31 (wrap64 (x32+1))))) else (none)) else (none)) else (some 0)
end
def dx.f (k:Nat) (l0_0:List (S45)) (a0_1:Int) (a0_2:Int) (a0_3:Int) (a0_4:Int) (a0_5:Int) (a0_6:Int) (a0_7:Int) (a1:Int) (a2:Int) (a3:Int):Option (Int):=if a2>4096 then (some 151) else (dx.l0 k a1 a3 l0_0 (l0_0.length:Int) 0 l0_0 a0_1 a0_2 a0_3 a0_4 a0_5 a0_6 a0_7)
theorem dx.calls (k:Nat) (A0_0:Option Addr) (c0_0:Nat) (l0_0:List (S45)) (a0_1:Int) (a0_2:Int) (a0_3:Int) (a0_4:Int) (a0_5:Int) (a0_6:Int) (a0_7:Int) (a1:Int) (a2:Int) (a3:Int) (r:Int) (w:World) (hr0_0:Kd.C k45 w A0_0 l0_0.length l0_0) (hc0_0:l0_0.length≤c0_0) (h:dx.f k l0_0 a0_1 a0_2 a0_3 a0_4 a0_5 a0_6 a0_7 a1 a2 a3=some r) :
 Calls Try.prog 82 #[.agg #[.slice A0_0 l0_0.length c0_0,.int .i64 a0_1,.int .u16 a0_2,.int .u8 a0_3,.int .u8 a0_4,.int .u32 a0_5,.int .i64 a0_6,.int .i64 a0_7],.int .i64 a1,.int .i64 a2,.int .i64 a3] w fun e w'=>e = .returned (.int .i64 r)∧Below w.heap.size w w':=by
 have hu47:=Try.underlying47
 have hu45:=Try.underlying45
 have HR0_0:=aa.mk hr0_0
 have HC0_0:=aa.mk hc0_0
 clear hr0_0 hc0_0
 have HB:=aa.mk (Below.refl w.heap.size w)
 have H:(if a2>4096 then (some 151) else (dx.l0 k a1 a3 l0_0 (l0_0.length:Int) 0 l0_0 a0_1 a0_2 a0_3 a0_4 a0_5 a0_6 a0_7))=some r:=h
 clear h
 replace H:=qD H
 obtain ⟨H,-,_⟩ | ⟨H,-,_⟩:=H
 · cases H
   go_enter Try.func82,Try.ntmps82
   go_wp2_with ((with_reducible refine aW (N:=4) rfl ?_);refine dS (N:=4) (cs:=#[.slice A0_0 l0_0.length c0_0,.int .i64 a0_1,.int .u16 a0_2,.int .u8 a0_3,.int .u8 a0_4,.int .u32 a0_5,.int .i64 a0_6,.int .i64 a0_7]) (t:=47) ?_;intro gb202 hg w6 hbox hb;have GE202:=geN HB hg;have BK202:=aa.mk hbox;replace HB:=cK HB hb;clear hb hbox hg)
   go_ret
   exact ⟨dm,bv⟩
 replace H:=aa.mk H
 go_enter Try.func82,Try.ntmps82
 go_wp2_with ((with_reducible refine aW (N:=4) rfl ?_);refine dS (N:=4) (cs:=#[.slice A0_0 l0_0.length c0_0,.int .i64 a0_1,.int .u16 a0_2,.int .u8 a0_3,.int .u8 a0_4,.int .u32 a0_5,.int .i64 a0_6,.int .i64 a0_7]) (t:=47) ?_;intro gb202 hg w7 hbox hb;have GE202:=geN HB hg;have BK202:=aa.mk hbox;replace HB:=cK HB hb;clear hb hbox hg;obtain ⟨_,_,_,_,_,_,_,_,_,_,_,_,_,_,_,_⟩:=cz8 BK202)
 go_loopg [18] k (fun kq v18 w'=>∃ (x18_1:Int),v18 = .int .i64 x18_1∧aa (dx.l0 kq a1 a3 l0_0 (l0_0.length:Int) x18_1 l0_0 a0_1 a0_2 a0_3 a0_4 a0_5 a0_6 a0_7=some r)∧aa (kq≤k)∧aa (w'.heap[gb202]?=some (.cells #[(.slice A0_0 l0_0.length c0_0),.int .i64 a0_1,.int .u16 a0_2,.int .u8 a0_3,.int .u8 a0_4,.int .u32 a0_5,.int .i64 a0_6,.int .i64 a0_7] 47 (0,0)))∧aa (Below w.heap.size w w'))
 case atStart=>exact ⟨_,aY,H,⟨Nat.le_refl _⟩,⟨iU⟩,⟨bv⟩⟩
 case round=>
  clear H
  obtain ⟨x18_1,rfl,HA,HK1,BK202,HB⟩:=hrel
  cases gk with
  | zero=>exact absurd HA.out (by simp [dx.l0])
  | succ k1=>
   have H:=HA.out
   clear HA
   simp only [dx.l0] at H
   replace H:=fo H
   obtain ⟨H,-,_⟩ | ⟨H,-,_⟩:=H
   · replace H:=fo H
     obtain ⟨H,-,_⟩ | ⟨H,c10,-⟩:=H
     · replace H:=fo H
       obtain ⟨H,-,_⟩ | ⟨H,c11,-⟩:=H
       · replace H:=bnd H
         obtain ⟨t205,A12,H⟩:=H
         replace H:=iY H
         obtain ⟨rfl,H⟩ | ⟨rfl,H⟩:=H
         · replace H:=aa.mk H
           obtain ⟨ad203,rfl,_,_,_,_,_,_⟩:=gV HR0_0 HB x18_1 (by assumption) (by assumption)
           go_wp2_with (first | ((with_reducible refine aW (N:=10) rfl ?_);refine dS (N:=10) (cs:=#[.int .u16 0,.int .u8 0,.int .u8 0,.int .u32 0]) (t:=45) ?_;intro gb204 hg w14 hbox hb;have NB202_204:=nbN BK202 hg;have NB204_202:=nbM BK202 hg;have GE204:=geN HB hg;replace BK202:=lW BK202 hb;have BK204:=aa.mk hbox;replace HB:=cK HB hb;clear hb hbox hg;have hnb15:=NB204_202.out;have hnc15:=NB202_204.out;obtain ⟨_,_,_,_,_,_,_,_⟩:=cz4 BK204) | (go_at_call 123;(with_reducible refine (aX.calls _ _ _ _ _ _ _ A12.out).mono ?_);rintro e w17 ⟨rfl,hb⟩;replace BK202:=aa.mk (aj (g:=gb202) (o := .cells #[.slice (some ad203) l0_0.length c0_0,.int .i64 a0_1,.int .u16 a0_2,.int .u8 a0_3,.int .u8 a0_4,.int .u32 a0_5,.int .i64 a0_6,.int .i64 a0_7] 47 (0,0)) (by (with_reducible repeat (first | refine bg ?_ _ | refine bz ?_ | refine aT ?_ _));refine df ?_ NB202_204.out _;(with_reducible repeat (first | refine bg ?_ _ | refine bz ?_ | refine aT ?_ _));refine df ?_ NB202_204.out _;(with_reducible repeat (first | refine bg ?_ _ | refine bz ?_ | refine aT ?_ _));refine df ?_ NB202_204.out _;(with_reducible repeat (first | refine bg ?_ _ | refine bz ?_ | refine aT ?_ _));refine df ?_ NB202_204.out _;(with_reducible repeat (first | refine bg ?_ _ | refine bz ?_ | refine aT ?_ _));exact BK202.out) hb);replace BK204:=aa.mk (aj (g:=gb204) (o := .cells #[.int .u16 ((aV l0_0 x18_1).f0),.int .u8 ((aV l0_0 x18_1).f1),.int .u8 ((aV l0_0 x18_1).f2),.int .u32 ((aV l0_0 x18_1).f3)] 45 (0,0)) (by (with_reducible repeat (first | refine bg ?_ _ | refine bz ?_ | refine aT ?_ _));refine aM (cs:=#[.int .u16 ((aV l0_0 x18_1).f0),.int .u8 ((aV l0_0 x18_1).f1),.int .u8 ((aV l0_0 x18_1).f2),.int .u32 0]) ?_ 3 _ rfl;(with_reducible repeat (first | refine bg ?_ _ | refine bz ?_ | refine aT ?_ _));refine aM (cs:=#[.int .u16 ((aV l0_0 x18_1).f0),.int .u8 ((aV l0_0 x18_1).f1),.int .u8 0,.int .u32 0]) ?_ 2 _ rfl;(with_reducible repeat (first | refine bg ?_ _ | refine bz ?_ | refine aT ?_ _));refine aM (cs:=#[.int .u16 ((aV l0_0 x18_1).f0),.int .u8 0,.int .u8 0,.int .u32 0]) ?_ 1 _ rfl;(with_reducible repeat (first | refine bg ?_ _ | refine bz ?_ | refine aT ?_ _));refine aM (cs:=#[.int .u16 0,.int .u8 0,.int .u8 0,.int .u32 0]) ?_ 0 _ rfl;(with_reducible repeat (first | refine bg ?_ _ | refine bz ?_ | refine aT ?_ _));exact BK204.out) hb);replace HB:=cK HB hb))
           go_roundg k1
           case measure=>have:=HK1.out;omega
           case rel=>exact ⟨_,aY,H,⟨by have:=HK1.out;omega⟩,⟨iU⟩,⟨bv⟩⟩
         cases H
         obtain ⟨ad203,rfl,_,_,_,_,_,_⟩:=gV HR0_0 HB x18_1 (by assumption) (by assumption)
         go_wp2_with (first | ((with_reducible refine aW (N:=10) rfl ?_);refine dS (N:=10) (cs:=#[.int .u16 0,.int .u8 0,.int .u8 0,.int .u32 0]) (t:=45) ?_;intro gb204 hg w18 hbox hb;have NB202_204:=nbN BK202 hg;have NB204_202:=nbM BK202 hg;have GE204:=geN HB hg;replace BK202:=lW BK202 hb;have BK204:=aa.mk hbox;replace HB:=cK HB hb;clear hb hbox hg;have hnb19:=NB204_202.out;have hnc19:=NB202_204.out;obtain ⟨_,_,_,_,_,_,_,_⟩:=cz4 BK204) | (go_at_call 123;(with_reducible refine (aX.calls _ _ _ _ _ _ _ A12.out).mono ?_);rintro e w21 ⟨rfl,hb⟩;replace BK202:=aa.mk (aj (g:=gb202) (o := .cells #[.slice (some ad203) l0_0.length c0_0,.int .i64 a0_1,.int .u16 a0_2,.int .u8 a0_3,.int .u8 a0_4,.int .u32 a0_5,.int .i64 a0_6,.int .i64 a0_7] 47 (0,0)) (by (with_reducible repeat (first | refine bg ?_ _ | refine bz ?_ | refine aT ?_ _));refine df ?_ NB202_204.out _;(with_reducible repeat (first | refine bg ?_ _ | refine bz ?_ | refine aT ?_ _));refine df ?_ NB202_204.out _;(with_reducible repeat (first | refine bg ?_ _ | refine bz ?_ | refine aT ?_ _));refine df ?_ NB202_204.out _;(with_reducible repeat (first | refine bg ?_ _ | refine bz ?_ | refine aT ?_ _));refine df ?_ NB202_204.out _;(with_reducible repeat (first | refine bg ?_ _ | refine bz ?_ | refine aT ?_ _));exact BK202.out) hb);replace BK204:=aa.mk (aj (g:=gb204) (o := .cells #[.int .u16 ((aV l0_0 x18_1).f0),.int .u8 ((aV l0_0 x18_1).f1),.int .u8 ((aV l0_0 x18_1).f2),.int .u32 ((aV l0_0 x18_1).f3)] 45 (0,0)) (by (with_reducible repeat (first | refine bg ?_ _ | refine bz ?_ | refine aT ?_ _));refine aM (cs:=#[.int .u16 ((aV l0_0 x18_1).f0),.int .u8 ((aV l0_0 x18_1).f1),.int .u8 ((aV l0_0 x18_1).f2),.int .u32 0]) ?_ 3 _ rfl;(with_reducible repeat (first | refine bg ?_ _ | refine bz ?_ | refine aT ?_ _));refine aM (cs:=#[.int .u16 ((aV l0_0 x18_1).f0),.int .u8 ((aV l0_0 x18_1).f1),.int .u8 0,.int .u32 0]) ?_ 2 _ rfl;(with_reducible repeat (first | refine bg ?_ _ | refine bz ?_ | refine aT ?_ _));refine aM (cs:=#[.int .u16 ((aV l0_0 x18_1).f0),.int .u8 0,.int .u8 0,.int .u32 0]) ?_ 1 _ rfl;(with_reducible repeat (first | refine bg ?_ _ | refine bz ?_ | refine aT ?_ _));refine aM (cs:=#[.int .u16 0,.int .u8 0,.int .u8 0,.int .u32 0]) ?_ 0 _ rfl;(with_reducible repeat (first | refine bg ?_ _ | refine bz ?_ | refine aT ?_ _));exact BK204.out) hb);replace HB:=cK HB hb))
         go_ret
         exact ⟨dm,bv⟩
       exact absurd H (by simp)
     exact absurd H (by simp)
   replace H:=bnd H
   obtain ⟨t206,A22,H⟩:=H
   replace H:=iY H
   obtain ⟨rfl,H⟩ | ⟨rfl,H⟩:=H
   · replace H:=bnd H
     obtain ⟨t207,A24,H⟩:=H
     replace H:=aa.mk H
     obtain ⟨_,_,_,_,_,_,_,_,_,_,_,_,_,_,_,_⟩:=cz8 BK202
     go_wp2_with (first | (go_at_call 124;(with_reducible refine (iB.calls _ _ _ _ _ _ _ _ _ _ _ _ _ (sd1 HR0_0 HB) HC0_0.out A22.out).mono ?_);rintro e w26 ⟨rfl,hb⟩;replace BK202:=lW BK202 hb;replace HB:=cK HB hb;obtain ⟨_,_,_,_,_,_,_,_,_,_,_,_,_,_,_,_⟩:=cz8 BK202) | (go_at_call 76;(with_reducible refine (gU.calls _ _ _ _ _ _ _ _ _ _ _ _ (sd1 HR0_0 HB) HC0_0.out A24.out).mono ?_);rintro e w28 ⟨v208,rfl,ho0,hb⟩;have HO209:=aa.mk (Kd.jV ho0 (gF bv));replace BK202:=lW BK202 hb;replace HB:=cK HB hb;obtain ⟨Ao29,co29,eo29⟩:=Kd.gJ HO209.out;subst eo29))
     go_loopg [32] k1 (fun kq v32 w'=>∃ (x32_2:Int),v32 = .int .i64 x32_2∧aa (dx.l1 kq a1 a3 t207 (t207.length:Int) x32_2=some r)∧aa (kq≤k1)∧aa (Kd.R (Kd.int .i64) 3 w' w.heap.size (fun _=>True) (.slice Ao29 t207.length co29) t207)∧aa (w'.heap[gb202]?=some (.cells #[(.slice A0_0 l0_0.length c0_0),.int .i64 a0_1,.int .u16 a0_2,.int .u8 a0_3,.int .u8 a0_4,.int .u32 a0_5,.int .i64 a0_6,.int .i64 a0_7] 47 (0,0)))∧aa (Below w.heap.size w w'))
     case atStart=>exact ⟨_,aY,H,⟨Nat.le_refl _⟩,⟨by (with_reducible repeat (first | apply Kd.fu | apply Kd.fw | apply Kd.gD));exact HO209.out⟩,⟨iU⟩,⟨bv⟩⟩
     case round=>
      clear H
      obtain ⟨x32_2,rfl,HA,HK2,HO_30,BK202,HB⟩:=hrel
      cases gk with
      | zero=>exact absurd HA.out (by simp [dx.l1])
      | succ k2=>
       have H:=HA.out
       clear HA
       simp only [dx.l1] at H
       replace H:=fo H
       obtain ⟨H,-,_⟩ | ⟨H,-,_⟩:=H
       · replace H:=fo H
         obtain ⟨H,-,_⟩ | ⟨H,c31,-⟩:=H
         · replace H:=fo H
           obtain ⟨H,-,_⟩ | ⟨H,c32,-⟩:=H
           · replace H:=fo H
             obtain ⟨H,-,_⟩ | ⟨H,-,_⟩:=H
             · cases H
               have p210:0≤(x32_2:Int):=of_decide_eq_true (by first | (with_reducible assumption) | assumption)
               have q210:x32_2<(t207.length:Int):=of_decide_eq_true (by first | (with_reducible assumption) | assumption)
               obtain ⟨ad210,e210,hx210_0⟩:=Kd.kC (Kd.dW HO_30.out).2.2 x32_2 p210 q210
               cases e210
               replace p210:=eq_true p210
               replace q210:=eq_true q210
               go_wp2
               go_ret
               exact ⟨dm,bv⟩
             replace H:=sM H
             obtain ⟨H,-,_⟩ | ⟨H,-,_⟩:=H
             · cases H
               have p210:0≤(x32_2:Int):=of_decide_eq_true (by first | (with_reducible assumption) | assumption)
               have q210:x32_2<(t207.length:Int):=of_decide_eq_true (by first | (with_reducible assumption) | assumption)
               obtain ⟨ad210,e210,hx210_0⟩:=Kd.kC (Kd.dW HO_30.out).2.2 x32_2 p210 q210
               cases e210
               replace p210:=eq_true p210
               replace q210:=eq_true q210
               go_wp2
               go_ret
               exact ⟨dm,bv⟩
             replace H:=aa.mk H
             have p210:0≤(x32_2:Int):=of_decide_eq_true (by first | (with_reducible assumption) | assumption)
             have q210:x32_2<(t207.length:Int):=of_decide_eq_true (by first | (with_reducible assumption) | assumption)
             obtain ⟨ad210,e210,hx210_0⟩:=Kd.kC (Kd.dW HO_30.out).2.2 x32_2 p210 q210
             cases e210
             replace p210:=eq_true p210
             replace q210:=eq_true q210
             go_wp2
             go_roundg k2
             case measure=>have:=HK1.out;have:=HK2.out;omega
             case rel=>exact ⟨_,aY,H,⟨by have:=HK1.out;have:=HK2.out;omega⟩,⟨by (with_reducible repeat (first | apply Kd.fu | apply Kd.fw | apply Kd.gD));exact HO_30.out⟩,⟨iU⟩,⟨bv⟩⟩
           exact absurd H (by simp)
         exact absurd H (by simp)
       cases H
       go_wp2
       go_ret
       exact ⟨dm,bv⟩
   cases H
   obtain ⟨_,_,_,_,_,_,_,_,_,_,_,_,_,_,_,_⟩:=cz8 BK202
   go_wp2_with (go_at_call 124;(with_reducible refine (iB.calls _ _ _ _ _ _ _ _ _ _ _ _ _ (sd1 HR0_0 HB) HC0_0.out A22.out).mono ?_);rintro e w36 ⟨rfl,hb⟩;replace BK202:=lW BK202 hb;replace HB:=cK HB hb)
   go_ret
   exact ⟨dm,bv⟩
def dB.l0:Nat→List (S47)→Int→List (S47)→Int→Int→Option (Int × Int)
 | 0,_,_,_,_,_=>none
 | k+1,x0,x4,x14,x15,x16=>if x16<x15 then (if 0≤x16 then (if x16<(x14.length:Int) then ((dx.f k ((ah x14 x16).f0) ((ah x14 x16).f1) ((ah x14 x16).f2.f0) ((ah x14 x16).f2.f1) ((ah x14 x16).f2.f2) ((ah x14 x16).f2.f3) ((ah x14 x16).f3) ((ah x14 x16).f4) x16 (wrap64 (x4+(((ah x14 x16).f0).length:Int))) (x0.length:Int)).bind fun t213=>(if t213=0 then (dB.l0 k x0 (wrap64 (x4+(((ah x14 x16).f0).length:Int))) x14 x15 (wrap64 (x16+1))) else (some (x16,t213)))) else (none)) else (none)) else (some (0,0))
def dB.f (k:Nat) (l0:List (S47)):Option (Int × Int):=if (l0.length:Int)=0 then (some (0,150)) else (if (l0.length:Int)>4096 then (some (4096,151)) else (dB.l0 k l0 0 l0 (l0.length:Int) 0))
theorem dB.calls (k:Nat) (A0:Option Addr) (c0:Nat) (l0:List (S47)) (r1:Int) (r2:Int) (w:World) (hr0:Kd.C k47 w A0 l0.length l0) (hc0:l0.length≤c0) (h:dB.f k l0=some (r1,r2)) :
 Calls Try.prog 52 #[.slice A0 l0.length c0] w fun e w'=>e = .returned (.tuple #[.int .i64 r1,.int .i64 r2])∧Below w.heap.size w w':=by
 have hu47:=Try.underlying47
 have HR0:=aa.mk hr0
 have HC0:=aa.mk hc0
 clear hr0 hc0
 have HB:=aa.mk (Below.refl w.heap.size w)
 have H:(if (l0.length:Int)=0 then (some (0,150)) else (if (l0.length:Int)>4096 then (some (4096,151)) else (dB.l0 k l0 0 l0 (l0.length:Int) 0)))=some (r1,r2):=h
 clear h
 replace H:=bN H
 obtain ⟨H,-,_,_⟩ | ⟨H,c2,_,_⟩:=H
 · obtain ⟨rfl,rfl⟩:=so2 H
   go_enter Try.func52,Try.ntmps52
   go_wp2
   go_ret2
   exact ⟨dm,bv⟩
 have c2b2:¬(l0=[]):=fun h_=>c2 (by rw [h_];rfl)
 replace H:=qD H
 obtain ⟨H,c3,_⟩ | ⟨H,c3,_⟩:=H
 · have c3b1:decide (4096<l0.length)=true:=decide_eq_true (by omega)
   clear c3
   obtain ⟨rfl,rfl⟩:=so2 H
   go_enter Try.func52,Try.ntmps52
   go_wp2
   go_ret2
   exact ⟨dm,bv⟩
 have c3b1:decide (4096<l0.length)=false:=decide_eq_false (by omega)
 clear c3
 replace H:=aa.mk H
 go_enter Try.func52,Try.ntmps52
 go_wp2
 go_loopg [4,16] k (fun kq v4 v16 w'=>∃ (x4_1:Int) (x16_1:Int),v4 = .int .i64 x4_1∧v16 = .int .i64 x16_1∧aa (dB.l0 kq l0 x4_1 l0 (l0.length:Int) x16_1=some (r1,r2))∧aa (kq≤k)∧aa (Below w.heap.size w w'))
 case atStart=>exact ⟨_,_,aY,aY,H,⟨Nat.le_refl _⟩,⟨bv⟩⟩
 case round=>
  clear H
  obtain ⟨x4_1,x16_1,rfl,rfl,HA,HK1,HB⟩:=hrel
  cases gk with
  | zero=>exact absurd HA.out (by simp [dB.l0])
  | succ k1=>
   have H:=HA.out
   clear HA
   simp only [dB.l0] at H
   replace H:=fo H
   obtain ⟨H,-,_⟩ | ⟨H,-,_⟩:=H
   · replace H:=fo H
     obtain ⟨H,-,_⟩ | ⟨H,c5,-⟩:=H
     · replace H:=fo H
       obtain ⟨H,-,_⟩ | ⟨H,c6,-⟩:=H
       · replace H:=bnd H
         obtain ⟨t213,A7,H⟩:=H
         replace H:=bN H
         obtain ⟨H,-,_,_⟩ | ⟨H,c8,_,_⟩:=H
         · replace H:=aa.mk H
           obtain ⟨ad211,rfl⟩:=iK HR0 x16_1 (by assumption) (by assumption)
           obtain ⟨A211_0,c211_0,_,_,_,_,_,_,_,_,HR211_0,HC211_0,_,_⟩:=fe HR0 HB x16_1 (by assumption) (by assumption)
           go_wp2_with (first | ((with_reducible refine aW (N:=6) rfl ?_);refine dS (N:=6) (cs:=#[.slice none 0 0,.int .i64 0,.int .u16 0,.int .u8 0,.int .u8 0,.int .u32 0,.int .i64 0,.int .i64 0]) (t:=47) ?_;intro gb212 hg w9 hbox hb;have GE212:=geN HB hg;have BK212:=aa.mk hbox;replace HB:=cK HB hb;clear hb hbox hg;obtain ⟨_,_,_,_,_,_,_,_,_,_,_,_,_,_,_,_⟩:=cz8 BK212) | (go_at_call 82;(with_reducible refine (dx.calls _ _ _ _ _ _ _ _ _ _ _ _ _ _ _ _ ?side1 HC211_0.out A7.out).mono ?_);(case side1=>exact Kd.dI HR211_0.out bv);rintro e w11 ⟨rfl,hb⟩;replace BK212:=aa.mk (aj (g:=gb212) (o := .cells #[.slice A211_0 ((ah l0 x16_1).f0).length c211_0,.int .i64 ((ah l0 x16_1).f1),.int .u16 ((ah l0 x16_1).f2.f0),.int .u8 ((ah l0 x16_1).f2.f1),.int .u8 ((ah l0 x16_1).f2.f2),.int .u32 ((ah l0 x16_1).f2.f3),.int .i64 ((ah l0 x16_1).f3),.int .i64 ((ah l0 x16_1).f4)] 47 (0,0)) (by (with_reducible repeat (first | refine bg ?_ _ | refine bz ?_ | refine aT ?_ _));refine aM (cs:=#[.slice A211_0 ((ah l0 x16_1).f0).length c211_0,.int .i64 ((ah l0 x16_1).f1),.int .u16 ((ah l0 x16_1).f2.f0),.int .u8 ((ah l0 x16_1).f2.f1),.int .u8 ((ah l0 x16_1).f2.f2),.int .u32 ((ah l0 x16_1).f2.f3),.int .i64 ((ah l0 x16_1).f3),.int .i64 0]) ?_ 7 _ rfl;(with_reducible repeat (first | refine bg ?_ _ | refine bz ?_ | refine aT ?_ _));refine aM (cs:=#[.slice A211_0 ((ah l0 x16_1).f0).length c211_0,.int .i64 ((ah l0 x16_1).f1),.int .u16 ((ah l0 x16_1).f2.f0),.int .u8 ((ah l0 x16_1).f2.f1),.int .u8 ((ah l0 x16_1).f2.f2),.int .u32 ((ah l0 x16_1).f2.f3),.int .i64 0,.int .i64 0]) ?_ 6 _ rfl;(with_reducible repeat (first | refine bg ?_ _ | refine bz ?_ | refine aT ?_ _));refine aM (cs:=#[.slice A211_0 ((ah l0 x16_1).f0).length c211_0,.int .i64 ((ah l0 x16_1).f1),.int .u16 ((ah l0 x16_1).f2.f0),.int .u8 ((ah l0 x16_1).f2.f1),.int .u8 ((ah l0 x16_1).f2.f2),.int .u32 0,.int .i64 0,.int .i64 0]) ?_ 5 _ rfl;(with_reducible repeat (first | refine bg ?_ _ | refine bz ?_ | refine aT ?_ _));refine aM (cs:=#[.slice A211_0 ((ah l0 x16_1).f0).length c211_0,.int .i64 ((ah l0 x16_1).f1),.int .u16 ((ah l0 x16_1).f2.f0),.int .u8 ((ah l0 x16_1).f2.f1),.int .u8 0,.int .u32 0,.int .i64 0,.int .i64 0]) ?_ 4 _ rfl;(with_reducible repeat (first | refine bg ?_ _ | refine bz ?_ | refine aT ?_ _));refine aM (cs:=#[.slice A211_0 ((ah l0 x16_1).f0).length c211_0,.int .i64 ((ah l0 x16_1).f1),.int .u16 ((ah l0 x16_1).f2.f0),.int .u8 0,.int .u8 0,.int .u32 0,.int .i64 0,.int .i64 0]) ?_ 3 _ rfl;(with_reducible repeat (first | refine bg ?_ _ | refine bz ?_ | refine aT ?_ _));refine aM (cs:=#[.slice A211_0 ((ah l0 x16_1).f0).length c211_0,.int .i64 ((ah l0 x16_1).f1),.int .u16 0,.int .u8 0,.int .u8 0,.int .u32 0,.int .i64 0,.int .i64 0]) ?_ 2 _ rfl;(with_reducible repeat (first | refine bg ?_ _ | refine bz ?_ | refine aT ?_ _));refine aM (cs:=#[.slice A211_0 ((ah l0 x16_1).f0).length c211_0,.int .i64 0,.int .u16 0,.int .u8 0,.int .u8 0,.int .u32 0,.int .i64 0,.int .i64 0]) ?_ 1 _ rfl;(with_reducible repeat (first | refine bg ?_ _ | refine bz ?_ | refine aT ?_ _));refine aM (cs:=#[.slice none 0 0,.int .i64 0,.int .u16 0,.int .u8 0,.int .u8 0,.int .u32 0,.int .i64 0,.int .i64 0]) ?_ 0 _ rfl;(with_reducible repeat (first | refine bg ?_ _ | refine bz ?_ | refine aT ?_ _));exact BK212.out) hb);replace HB:=cK HB hb))
           go_roundg k1
           case measure=>have:=HK1.out;omega
           case rel=>exact ⟨_,_,aY,aY,H,⟨by have:=HK1.out;omega⟩,⟨bv⟩⟩
         obtain ⟨rfl,rfl⟩:=so2 H
         obtain ⟨ad211,rfl⟩:=iK HR0 x16_1 (by assumption) (by assumption)
         obtain ⟨A211_0,c211_0,_,_,_,_,_,_,_,_,HR211_0,HC211_0,_,_⟩:=fe HR0 HB x16_1 (by assumption) (by assumption)
         go_wp2_with (first | ((with_reducible refine aW (N:=6) rfl ?_);refine dS (N:=6) (cs:=#[.slice none 0 0,.int .i64 0,.int .u16 0,.int .u8 0,.int .u8 0,.int .u32 0,.int .i64 0,.int .i64 0]) (t:=47) ?_;intro gb212 hg w12 hbox hb;have GE212:=geN HB hg;have BK212:=aa.mk hbox;replace HB:=cK HB hb;clear hb hbox hg;obtain ⟨_,_,_,_,_,_,_,_,_,_,_,_,_,_,_,_⟩:=cz8 BK212) | (go_at_call 82;(with_reducible refine (dx.calls _ _ _ _ _ _ _ _ _ _ _ _ _ _ _ _ ?side1 HC211_0.out A7.out).mono ?_);(case side1=>exact Kd.dI HR211_0.out bv);rintro e w14 ⟨rfl,hb⟩;replace BK212:=aa.mk (aj (g:=gb212) (o := .cells #[.slice A211_0 ((ah l0 x16_1).f0).length c211_0,.int .i64 ((ah l0 x16_1).f1),.int .u16 ((ah l0 x16_1).f2.f0),.int .u8 ((ah l0 x16_1).f2.f1),.int .u8 ((ah l0 x16_1).f2.f2),.int .u32 ((ah l0 x16_1).f2.f3),.int .i64 ((ah l0 x16_1).f3),.int .i64 ((ah l0 x16_1).f4)] 47 (0,0)) (by (with_reducible repeat (first | refine bg ?_ _ | refine bz ?_ | refine aT ?_ _));refine aM (cs:=#[.slice A211_0 ((ah l0 x16_1).f0).length c211_0,.int .i64 ((ah l0 x16_1).f1),.int .u16 ((ah l0 x16_1).f2.f0),.int .u8 ((ah l0 x16_1).f2.f1),.int .u8 ((ah l0 x16_1).f2.f2),.int .u32 ((ah l0 x16_1).f2.f3),.int .i64 ((ah l0 x16_1).f3),.int .i64 0]) ?_ 7 _ rfl;(with_reducible repeat (first | refine bg ?_ _ | refine bz ?_ | refine aT ?_ _));refine aM (cs:=#[.slice A211_0 ((ah l0 x16_1).f0).length c211_0,.int .i64 ((ah l0 x16_1).f1),.int .u16 ((ah l0 x16_1).f2.f0),.int .u8 ((ah l0 x16_1).f2.f1),.int .u8 ((ah l0 x16_1).f2.f2),.int .u32 ((ah l0 x16_1).f2.f3),.int .i64 0,.int .i64 0]) ?_ 6 _ rfl;(with_reducible repeat (first | refine bg ?_ _ | refine bz ?_ | refine aT ?_ _));refine aM (cs:=#[.slice A211_0 ((ah l0 x16_1).f0).length c211_0,.int .i64 ((ah l0 x16_1).f1),.int .u16 ((ah l0 x16_1).f2.f0),.int .u8 ((ah l0 x16_1).f2.f1),.int .u8 ((ah l0 x16_1).f2.f2),.int .u32 0,.int .i64 0,.int .i64 0]) ?_ 5 _ rfl;(with_reducible repeat (first | refine bg ?_ _ | refine bz ?_ | refine aT ?_ _));refine aM (cs:=#[.slice A211_0 ((ah l0 x16_1).f0).length c211_0,.int .i64 ((ah l0 x16_1).f1),.int .u16 ((ah l0 x16_1).f2.f0),.int .u8 ((ah l0 x16_1).f2.f1),.int .u8 0,.int .u32 0,.int .i64 0,.int .i64 0]) ?_ 4 _ rfl;(with_reducible repeat (first | refine bg ?_ _ | refine bz ?_ | refine aT ?_ _));refine aM (cs:=#[.slice A211_0 ((ah l0 x16_1).f0).length c211_0,.int .i64 ((ah l0 x16_1).f1),.int .u16 ((ah l0 x16_1).f2.f0),.int .u8 0,.int .u8 0,.int .u32 0,.int .i64 0,.int .i64 0]) ?_ 3 _ rfl;(with_reducible repeat (first | refine bg ?_ _ | refine bz ?_ | refine aT ?_ _));refine aM (cs:=#[.slice A211_0 ((ah l0 x16_1).f0).length c211_0,.int .i64 ((ah l0 x16_1).f1),.int .u16 0,.int .u8 0,.int .u8 0,.int .u32 0,.int .i64 0,.int .i64 0]) ?_ 2 _ rfl;(with_reducible repeat (first | refine bg ?_ _ | refine bz ?_ | refine aT ?_ _));refine aM (cs:=#[.slice A211_0 ((ah l0 x16_1).f0).length c211_0,.int .i64 0,.int .u16 0,.int .u8 0,.int .u8 0,.int .u32 0,.int .i64 0,.int .i64 0]) ?_ 1 _ rfl;(with_reducible repeat (first | refine bg ?_ _ | refine bz ?_ | refine aT ?_ _));refine aM (cs:=#[.slice none 0 0,.int .i64 0,.int .u16 0,.int .u8 0,.int .u8 0,.int .u32 0,.int .i64 0,.int .i64 0]) ?_ 0 _ rfl;(with_reducible repeat (first | refine bg ?_ _ | refine bz ?_ | refine aT ?_ _));exact BK212.out) hb);replace HB:=cK HB hb))
         go_ret2
         exact ⟨dm,bv⟩
       exact absurd H (by simp)
     exact absurd H (by simp)
   obtain ⟨rfl,rfl⟩:=so2 H
   go_wp2
   go_ret2
   exact ⟨dm,bv⟩
attribute [local go_sem] dZ ek fF fG dQ dR d9 eu
attribute [local go_sem high] zl
def bG.l0:Nat→List (S47)→List (S47)→Int→Option ((List (S47)))
 | 0,_,_,_=>none
 | k+1,x0,x3,x4=>if x4<(x0.length:Int) then (if 0≤x4 then ((dX.f ((ah x0 x4).f0)).bind fun t269=>(if x3.length<2513169434916 then (bG.l0 k x0 (x3++[(⟨t269,(ah x0 x4).f1,(⟨(ah x0 x4).f2.f0,(ah x0 x4).f2.f1,(ah x0 x4).f2.f2,(ah x0 x4).f2.f3⟩:S45),(ah x0 x4).f3,(ah x0 x4).f4⟩:S47)]) (wrap64 (x4+1))) else (none))) else (none)) else (some x3)
def bG.f (k:Nat) (l0:List (S47)):Option ((List (S47))):=bG.l0 k l0 ([]:List (S47)) 0
theorem bG.calls (k:Nat) (A0:Option Addr) (c0:Nat) (l0:List (S47)) (r:List (S47)) (w:World) (hr0:Kd.C k47 w A0 l0.length l0) (hc0:l0.length≤c0) (h:bG.f k l0=some r) :
 Calls Try.prog 18 #[.slice A0 l0.length c0] w fun e w'=>∃ v0_:Value,e = .returned (v0_)∧Kd.S k47 47 w' w.heap.size (fun _=>True) v0_ r∧Below w.heap.size w w':=by
 have hu47:=Try.underlying47
 have HR0:=aa.mk hr0
 have HC0:=aa.mk hc0
 clear hr0 hc0
 have HB:=aa.mk (Below.refl w.heap.size w)
 have H:(bG.l0 k l0 ([]:List (S47)) 0)=some r:=h
 clear h
 replace H:=aa.mk H
 go_enter Try.func18,Try.ntmps18
 go_wp2
 go_loopg [3,4] k (fun kq v3 v4 w'=>∃ (x3_1:List (S47)) (x4_1:Int),v4 = .int .i64 x4_1∧aa (bG.l0 kq l0 x3_1 x4_1=some r)∧aa (kq≤k)∧aa (Kd.S k47 47 w' w.heap.size (fun _=>True) v3 x3_1)∧aa (Below w.heap.size w w'))
 case atStart=>exact ⟨_,_,aY,H,⟨Nat.le_refl _⟩,⟨by first | exact Kd.S_nil _ _ _ _ _ | exact Kd.N_nil _ _ _ _ _ | exact Kd.V_nil _ _ _ _ _ | exact Kd.Q_nil _ _ _ _ _ | exact Kd.kK _ _ _ _ _⟩,⟨bv⟩⟩
 case round=>
  clear H
  obtain ⟨x3_1,x4_1,rfl,HA,HK1,HO_3,HB⟩:=hrel
  cases gk with
  | zero=>exact absurd HA.out (by simp [bG.l0])
  | succ k1=>
   have H:=HA.out
   clear HA
   simp only [bG.l0] at H
   replace H:=fo H
   obtain ⟨H,-,_⟩ | ⟨H,-,_⟩:=H
   · replace H:=fo H
     obtain ⟨H,-,_⟩ | ⟨H,c3,-⟩:=H
     · replace H:=bnd H
       obtain ⟨t269,A4,H⟩:=H
       replace H:=mZ H
       obtain ⟨H,c5⟩ | ⟨H,c5⟩:=H
       · have LMc5:=aa.mk c5
         clear c5
         obtain ⟨y272,hy272⟩:∃ y_:List (S47),y_=(x3_1++[(⟨t269,(ah l0 x4_1).f1,(⟨(ah l0 x4_1).f2.f0,(ah l0 x4_1).f2.f1,(ah l0 x4_1).f2.f2,(ah l0 x4_1).f2.f3⟩:S45),(ah l0 x4_1).f3,(ah l0 x4_1).f4⟩:S47)]):=⟨_,rfl⟩
         replace H:(bG.l0 k1 l0 y272 (wrap64 (x4_1+1)))=some r:=by first | (rw [hy272];with_reducible exact H) | (have H2_:=(Option.bind_some _ _).symm.trans H;rw [hy272];with_reducible exact H2_) | (have H2_:=(Option.bind_some _ _).symm.trans H;with_reducible exact H2_) | with_reducible exact H | (rw [hy272];exact H) | exact H
         have Ny272:=aa.mk hy272
         clear hy272
         replace H:=aa.mk H
         obtain ⟨ad266,rfl⟩:=iK HR0 x4_1 (by assumption) (by assumption)
         obtain ⟨A266_0,c266_0,_,_,_,_,_,_,_,_,HR266_0,HC266_0,_,_⟩:=fe HR0 HB x4_1 (by assumption) (by assumption)
         go_wp2_with (first | ((with_reducible refine aW (N:=5) rfl ?_);refine dS (N:=5) (cs:=#[.slice none 0 0,.int .i64 0,.int .u16 0,.int .u8 0,.int .u8 0,.int .u32 0,.int .i64 0,.int .i64 0]) (t:=47) ?_;intro gb267 hg w6 hbox hb;have GE267:=geN HB hg;replace HO_3:=aa.mk (Kd.oI (Kd.yl (by (with_reducible repeat (first | apply Kd.lD | apply Kd.lF | apply Kd.nk));exact HO_3.out) gb267 (Nat.le_of_eq hg.symm)) hb);have BK267:=aa.mk hbox;replace HB:=cK HB hb;clear hb hbox hg;obtain ⟨_,_,_,_,_,_,_,_,_,_,_,_,_,_,_,_⟩:=cz8 BK267;have p268:0≤(x4_1:Int):=of_decide_eq_true (by first | (with_reducible assumption) | assumption);have q268:x4_1<(l0.length:Int):=of_decide_eq_true (by first | (with_reducible assumption) | assumption);obtain ⟨ad268,A268_0,c268_0,e268,hx268_0,hx268_1,hx268_2,hx268_3,hx268_4,hx268_5,hx268_6,hx268_7,hl268_0,hi268_0⟩:=o8 HR0.out x4_1 p268 q268;obtain rfl:ad266=ad268:=(by injection e268);have hn268_0:ad266.block≠gb267:=Nat.ne_of_lt (Nat.lt_of_lt_of_le (by have:=World.block_lt_of_cell? _ _ hx268_0;first | rwa [add_block] at this | exact this) GE267.out);have hn268_1:=hn268_0;have hn268_2:=hn268_0;have hn268_3:=hn268_0;have hn268_4:=hn268_0;have hn268_5:=hn268_0;have hn268_6:=hn268_0;have hn268_7:=hn268_0;replace hx268_0:=(HB.out.cell (World.block_lt_of_cell? w _ hx268_0)).trans hx268_0;replace hx268_1:=(HB.out.cell (World.block_lt_of_cell? w _ hx268_1)).trans hx268_1;replace hx268_2:=(HB.out.cell (World.block_lt_of_cell? w _ hx268_2)).trans hx268_2;replace hx268_3:=(HB.out.cell (World.block_lt_of_cell? w _ hx268_3)).trans hx268_3;replace hx268_4:=(HB.out.cell (World.block_lt_of_cell? w _ hx268_4)).trans hx268_4;replace hx268_5:=(HB.out.cell (World.block_lt_of_cell? w _ hx268_5)).trans hx268_5;replace hx268_6:=(HB.out.cell (World.block_lt_of_cell? w _ hx268_6)).trans hx268_6;replace hx268_7:=(HB.out.cell (World.block_lt_of_cell? w _ hx268_7)).trans hx268_7;have HR268_0:=aa.mk hi268_0;have HC268_0:=aa.mk hl268_0;clear hi268_0 hl268_0;replace hx268_0:=(cell_far (p:=⟨gb267,0,none⟩) (ab0 hn268_0) (.slice A266_0 ((ah l0 x4_1).f0).length c266_0)).trans hx268_0;replace hx268_1:=(cell_far (p:=⟨gb267,0,none⟩) (ab0 hn268_0) (.slice A266_0 ((ah l0 x4_1).f0).length c266_0)).trans hx268_1;replace hx268_2:=(cell_far (p:=⟨gb267,0,none⟩) (ab0 hn268_0) (.slice A266_0 ((ah l0 x4_1).f0).length c266_0)).trans hx268_2;replace hx268_3:=(cell_far (p:=⟨gb267,0,none⟩) (ab0 hn268_0) (.slice A266_0 ((ah l0 x4_1).f0).length c266_0)).trans hx268_3;replace hx268_4:=(cell_far (p:=⟨gb267,0,none⟩) (ab0 hn268_0) (.slice A266_0 ((ah l0 x4_1).f0).length c266_0)).trans hx268_4;replace hx268_5:=(cell_far (p:=⟨gb267,0,none⟩) (ab0 hn268_0) (.slice A266_0 ((ah l0 x4_1).f0).length c266_0)).trans hx268_5;replace hx268_6:=(cell_far (p:=⟨gb267,0,none⟩) (ab0 hn268_0) (.slice A266_0 ((ah l0 x4_1).f0).length c266_0)).trans hx268_6;replace hx268_7:=(cell_far (p:=⟨gb267,0,none⟩) (ab0 hn268_0) (.slice A266_0 ((ah l0 x4_1).f0).length c266_0)).trans hx268_7;replace hx268_0:=(cell_far (p:=⟨gb267,1,none⟩) (ab0 hn268_1) (.int .i64 ((ah l0 x4_1).f1))).trans hx268_0;replace hx268_1:=(cell_far (p:=⟨gb267,1,none⟩) (ab0 hn268_1) (.int .i64 ((ah l0 x4_1).f1))).trans hx268_1;replace hx268_2:=(cell_far (p:=⟨gb267,1,none⟩) (ab0 hn268_1) (.int .i64 ((ah l0 x4_1).f1))).trans hx268_2;replace hx268_3:=(cell_far (p:=⟨gb267,1,none⟩) (ab0 hn268_1) (.int .i64 ((ah l0 x4_1).f1))).trans hx268_3;replace hx268_4:=(cell_far (p:=⟨gb267,1,none⟩) (ab0 hn268_1) (.int .i64 ((ah l0 x4_1).f1))).trans hx268_4;replace hx268_5:=(cell_far (p:=⟨gb267,1,none⟩) (ab0 hn268_1) (.int .i64 ((ah l0 x4_1).f1))).trans hx268_5;replace hx268_6:=(cell_far (p:=⟨gb267,1,none⟩) (ab0 hn268_1) (.int .i64 ((ah l0 x4_1).f1))).trans hx268_6;replace hx268_7:=(cell_far (p:=⟨gb267,1,none⟩) (ab0 hn268_1) (.int .i64 ((ah l0 x4_1).f1))).trans hx268_7;replace hx268_0:=(cell_far (p:=⟨gb267,2,none⟩) (ab0 hn268_2) (.int .u16 ((ah l0 x4_1).f2.f0))).trans hx268_0;replace hx268_1:=(cell_far (p:=⟨gb267,2,none⟩) (ab0 hn268_2) (.int .u16 ((ah l0 x4_1).f2.f0))).trans hx268_1;replace hx268_2:=(cell_far (p:=⟨gb267,2,none⟩) (ab0 hn268_2) (.int .u16 ((ah l0 x4_1).f2.f0))).trans hx268_2;replace hx268_3:=(cell_far (p:=⟨gb267,2,none⟩) (ab0 hn268_2) (.int .u16 ((ah l0 x4_1).f2.f0))).trans hx268_3;replace hx268_4:=(cell_far (p:=⟨gb267,2,none⟩) (ab0 hn268_2) (.int .u16 ((ah l0 x4_1).f2.f0))).trans hx268_4;replace hx268_5:=(cell_far (p:=⟨gb267,2,none⟩) (ab0 hn268_2) (.int .u16 ((ah l0 x4_1).f2.f0))).trans hx268_5;replace hx268_6:=(cell_far (p:=⟨gb267,2,none⟩) (ab0 hn268_2) (.int .u16 ((ah l0 x4_1).f2.f0))).trans hx268_6;replace hx268_7:=(cell_far (p:=⟨gb267,2,none⟩) (ab0 hn268_2) (.int .u16 ((ah l0 x4_1).f2.f0))).trans hx268_7;replace hx268_0:=(cell_far (p:=⟨gb267,3,none⟩) (ab0 hn268_3) (.int .u8 ((ah l0 x4_1).f2.f1))).trans hx268_0;replace hx268_1:=(cell_far (p:=⟨gb267,3,none⟩) (ab0 hn268_3) (.int .u8 ((ah l0 x4_1).f2.f1))).trans hx268_1;replace hx268_2:=(cell_far (p:=⟨gb267,3,none⟩) (ab0 hn268_3) (.int .u8 ((ah l0 x4_1).f2.f1))).trans hx268_2;replace hx268_3:=(cell_far (p:=⟨gb267,3,none⟩) (ab0 hn268_3) (.int .u8 ((ah l0 x4_1).f2.f1))).trans hx268_3;replace hx268_4:=(cell_far (p:=⟨gb267,3,none⟩) (ab0 hn268_3) (.int .u8 ((ah l0 x4_1).f2.f1))).trans hx268_4;replace hx268_5:=(cell_far (p:=⟨gb267,3,none⟩) (ab0 hn268_3) (.int .u8 ((ah l0 x4_1).f2.f1))).trans hx268_5;replace hx268_6:=(cell_far (p:=⟨gb267,3,none⟩) (ab0 hn268_3) (.int .u8 ((ah l0 x4_1).f2.f1))).trans hx268_6;replace hx268_7:=(cell_far (p:=⟨gb267,3,none⟩) (ab0 hn268_3) (.int .u8 ((ah l0 x4_1).f2.f1))).trans hx268_7;replace hx268_0:=(cell_far (p:=⟨gb267,4,none⟩) (ab0 hn268_4) (.int .u8 ((ah l0 x4_1).f2.f2))).trans hx268_0;replace hx268_1:=(cell_far (p:=⟨gb267,4,none⟩) (ab0 hn268_4) (.int .u8 ((ah l0 x4_1).f2.f2))).trans hx268_1;replace hx268_2:=(cell_far (p:=⟨gb267,4,none⟩) (ab0 hn268_4) (.int .u8 ((ah l0 x4_1).f2.f2))).trans hx268_2;replace hx268_3:=(cell_far (p:=⟨gb267,4,none⟩) (ab0 hn268_4) (.int .u8 ((ah l0 x4_1).f2.f2))).trans hx268_3;replace hx268_4:=(cell_far (p:=⟨gb267,4,none⟩) (ab0 hn268_4) (.int .u8 ((ah l0 x4_1).f2.f2))).trans hx268_4;replace hx268_5:=(cell_far (p:=⟨gb267,4,none⟩) (ab0 hn268_4) (.int .u8 ((ah l0 x4_1).f2.f2))).trans hx268_5;replace hx268_6:=(cell_far (p:=⟨gb267,4,none⟩) (ab0 hn268_4) (.int .u8 ((ah l0 x4_1).f2.f2))).trans hx268_6;replace hx268_7:=(cell_far (p:=⟨gb267,4,none⟩) (ab0 hn268_4) (.int .u8 ((ah l0 x4_1).f2.f2))).trans hx268_7;replace hx268_0:=(cell_far (p:=⟨gb267,5,none⟩) (ab0 hn268_5) (.int .u32 ((ah l0 x4_1).f2.f3))).trans hx268_0;replace hx268_1:=(cell_far (p:=⟨gb267,5,none⟩) (ab0 hn268_5) (.int .u32 ((ah l0 x4_1).f2.f3))).trans hx268_1;replace hx268_2:=(cell_far (p:=⟨gb267,5,none⟩) (ab0 hn268_5) (.int .u32 ((ah l0 x4_1).f2.f3))).trans hx268_2;replace hx268_3:=(cell_far (p:=⟨gb267,5,none⟩) (ab0 hn268_5) (.int .u32 ((ah l0 x4_1).f2.f3))).trans hx268_3;replace hx268_4:=(cell_far (p:=⟨gb267,5,none⟩) (ab0 hn268_5) (.int .u32 ((ah l0 x4_1).f2.f3))).trans hx268_4;replace hx268_5:=(cell_far (p:=⟨gb267,5,none⟩) (ab0 hn268_5) (.int .u32 ((ah l0 x4_1).f2.f3))).trans hx268_5;replace hx268_6:=(cell_far (p:=⟨gb267,5,none⟩) (ab0 hn268_5) (.int .u32 ((ah l0 x4_1).f2.f3))).trans hx268_6;replace hx268_7:=(cell_far (p:=⟨gb267,5,none⟩) (ab0 hn268_5) (.int .u32 ((ah l0 x4_1).f2.f3))).trans hx268_7;replace hx268_0:=(cell_far (p:=⟨gb267,6,none⟩) (ab0 hn268_6) (.int .i64 ((ah l0 x4_1).f3))).trans hx268_0;replace hx268_1:=(cell_far (p:=⟨gb267,6,none⟩) (ab0 hn268_6) (.int .i64 ((ah l0 x4_1).f3))).trans hx268_1;replace hx268_2:=(cell_far (p:=⟨gb267,6,none⟩) (ab0 hn268_6) (.int .i64 ((ah l0 x4_1).f3))).trans hx268_2;replace hx268_3:=(cell_far (p:=⟨gb267,6,none⟩) (ab0 hn268_6) (.int .i64 ((ah l0 x4_1).f3))).trans hx268_3;replace hx268_4:=(cell_far (p:=⟨gb267,6,none⟩) (ab0 hn268_6) (.int .i64 ((ah l0 x4_1).f3))).trans hx268_4;replace hx268_5:=(cell_far (p:=⟨gb267,6,none⟩) (ab0 hn268_6) (.int .i64 ((ah l0 x4_1).f3))).trans hx268_5;replace hx268_6:=(cell_far (p:=⟨gb267,6,none⟩) (ab0 hn268_6) (.int .i64 ((ah l0 x4_1).f3))).trans hx268_6;replace hx268_7:=(cell_far (p:=⟨gb267,6,none⟩) (ab0 hn268_6) (.int .i64 ((ah l0 x4_1).f3))).trans hx268_7;replace hx268_0:=(cell_far (p:=⟨gb267,7,none⟩) (ab0 hn268_7) (.int .i64 ((ah l0 x4_1).f4))).trans hx268_0;replace hx268_1:=(cell_far (p:=⟨gb267,7,none⟩) (ab0 hn268_7) (.int .i64 ((ah l0 x4_1).f4))).trans hx268_1;replace hx268_2:=(cell_far (p:=⟨gb267,7,none⟩) (ab0 hn268_7) (.int .i64 ((ah l0 x4_1).f4))).trans hx268_2;replace hx268_3:=(cell_far (p:=⟨gb267,7,none⟩) (ab0 hn268_7) (.int .i64 ((ah l0 x4_1).f4))).trans hx268_3;replace hx268_4:=(cell_far (p:=⟨gb267,7,none⟩) (ab0 hn268_7) (.int .i64 ((ah l0 x4_1).f4))).trans hx268_4;replace hx268_5:=(cell_far (p:=⟨gb267,7,none⟩) (ab0 hn268_7) (.int .i64 ((ah l0 x4_1).f4))).trans hx268_5;replace hx268_6:=(cell_far (p:=⟨gb267,7,none⟩) (ab0 hn268_7) (.int .i64 ((ah l0 x4_1).f4))).trans hx268_6;replace hx268_7:=(cell_far (p:=⟨gb267,7,none⟩) (ab0 hn268_7) (.int .i64 ((ah l0 x4_1).f4))).trans hx268_7;clear hn268_0;clear hn268_1;clear hn268_2;clear hn268_3;clear hn268_4;clear hn268_5;clear hn268_6;clear hn268_7;replace p268:=eq_true p268;replace q268:=eq_true q268) | (go_at_call 22;(with_reducible refine (dX.calls _ _ _ _ _ ?side1 HC268_0.out A4.out).mono ?_);(case side1=>exact Kd.dI HR268_0.out bv);rintro e w8 ⟨v270,rfl,ho0,hb⟩;have HO271:=aa.mk (Kd.jV ho0 (gF bv));replace HO_3:=aa.mk (Kd.yj (by (with_reducible repeat (first | apply Kd.lD | apply Kd.lF | apply Kd.nk));exact (Kd.kQ (Kd.mo (p:=⟨gb267,7,none⟩) (Kd.mo (p:=⟨gb267,6,none⟩) (Kd.mo (p:=⟨gb267,5,none⟩) (Kd.mo (p:=⟨gb267,4,none⟩) (Kd.mo (p:=⟨gb267,3,none⟩) (Kd.mo (p:=⟨gb267,2,none⟩) (Kd.mo (p:=⟨gb267,1,none⟩) (Kd.mo (p:=⟨gb267,0,none⟩) (Kd.kQ HO_3.out (fun k_ hk=>(⟨hk,hk.2⟩:_∧k_≠gb267))) (fun _ hk=>hk.2) (.slice A266_0 ((ah l0 x4_1).f0).length c266_0)) (fun _ hk=>hk.2) (.int .i64 ((ah l0 x4_1).f1))) (fun _ hk=>hk.2) (.int .u16 ((ah l0 x4_1).f2.f0))) (fun _ hk=>hk.2) (.int .u8 ((ah l0 x4_1).f2.f1))) (fun _ hk=>hk.2) (.int .u8 ((ah l0 x4_1).f2.f2))) (fun _ hk=>hk.2) (.int .u32 ((ah l0 x4_1).f2.f3))) (fun _ hk=>hk.2) (.int .i64 ((ah l0 x4_1).f3))) (fun _ hk=>hk.2) (.int .i64 ((ah l0 x4_1).f4))) (fun _ h_=>h_.1))) (Kd.o6 ho0) hb);replace BK267:=aa.mk (aj (g:=gb267) (o := .cells #[.slice A266_0 ((ah l0 x4_1).f0).length c266_0,.int .i64 ((ah l0 x4_1).f1),.int .u16 ((ah l0 x4_1).f2.f0),.int .u8 ((ah l0 x4_1).f2.f1),.int .u8 ((ah l0 x4_1).f2.f2),.int .u32 ((ah l0 x4_1).f2.f3),.int .i64 ((ah l0 x4_1).f3),.int .i64 ((ah l0 x4_1).f4)] 47 (0,0)) (by (with_reducible repeat (first | refine bg ?_ _ | refine bz ?_ | refine aT ?_ _));refine aM (cs:=#[.slice A266_0 ((ah l0 x4_1).f0).length c266_0,.int .i64 ((ah l0 x4_1).f1),.int .u16 ((ah l0 x4_1).f2.f0),.int .u8 ((ah l0 x4_1).f2.f1),.int .u8 ((ah l0 x4_1).f2.f2),.int .u32 ((ah l0 x4_1).f2.f3),.int .i64 ((ah l0 x4_1).f3),.int .i64 0]) ?_ 7 _ rfl;(with_reducible repeat (first | refine bg ?_ _ | refine bz ?_ | refine aT ?_ _));refine aM (cs:=#[.slice A266_0 ((ah l0 x4_1).f0).length c266_0,.int .i64 ((ah l0 x4_1).f1),.int .u16 ((ah l0 x4_1).f2.f0),.int .u8 ((ah l0 x4_1).f2.f1),.int .u8 ((ah l0 x4_1).f2.f2),.int .u32 ((ah l0 x4_1).f2.f3),.int .i64 0,.int .i64 0]) ?_ 6 _ rfl;(with_reducible repeat (first | refine bg ?_ _ | refine bz ?_ | refine aT ?_ _));refine aM (cs:=#[.slice A266_0 ((ah l0 x4_1).f0).length c266_0,.int .i64 ((ah l0 x4_1).f1),.int .u16 ((ah l0 x4_1).f2.f0),.int .u8 ((ah l0 x4_1).f2.f1),.int .u8 ((ah l0 x4_1).f2.f2),.int .u32 0,.int .i64 0,.int .i64 0]) ?_ 5 _ rfl;(with_reducible repeat (first | refine bg ?_ _ | refine bz ?_ | refine aT ?_ _));refine aM (cs:=#[.slice A266_0 ((ah l0 x4_1).f0).length c266_0,.int .i64 ((ah l0 x4_1).f1),.int .u16 ((ah l0 x4_1).f2.f0),.int .u8 ((ah l0 x4_1).f2.f1),.int .u8 0,.int .u32 0,.int .i64 0,.int .i64 0]) ?_ 4 _ rfl;(with_reducible repeat (first | refine bg ?_ _ | refine bz ?_ | refine aT ?_ _));refine aM (cs:=#[.slice A266_0 ((ah l0 x4_1).f0).length c266_0,.int .i64 ((ah l0 x4_1).f1),.int .u16 ((ah l0 x4_1).f2.f0),.int .u8 0,.int .u8 0,.int .u32 0,.int .i64 0,.int .i64 0]) ?_ 3 _ rfl;(with_reducible repeat (first | refine bg ?_ _ | refine bz ?_ | refine aT ?_ _));refine aM (cs:=#[.slice A266_0 ((ah l0 x4_1).f0).length c266_0,.int .i64 ((ah l0 x4_1).f1),.int .u16 0,.int .u8 0,.int .u8 0,.int .u32 0,.int .i64 0,.int .i64 0]) ?_ 2 _ rfl;(with_reducible repeat (first | refine bg ?_ _ | refine bz ?_ | refine aT ?_ _));refine aM (cs:=#[.slice A266_0 ((ah l0 x4_1).f0).length c266_0,.int .i64 0,.int .u16 0,.int .u8 0,.int .u8 0,.int .u32 0,.int .i64 0,.int .i64 0]) ?_ 1 _ rfl;(with_reducible repeat (first | refine bg ?_ _ | refine bz ?_ | refine aT ?_ _));refine aM (cs:=#[.slice none 0 0,.int .i64 0,.int .u16 0,.int .u8 0,.int .u8 0,.int .u32 0,.int .i64 0,.int .i64 0]) ?_ 0 _ rfl;(with_reducible repeat (first | refine bg ?_ _ | refine bz ?_ | refine aT ?_ _));exact BK267.out) hb);replace HB:=cK HB hb;obtain ⟨Ao9,co9,eo9⟩:=Kd.gJ HO271.out;subst eo9;obtain ⟨_,_,_,_,_,_,_,_,_,_,_,_,_,_,_,_⟩:=cz8 BK267) | ((with_reducible refine gG (t:=26) (p:=22) rfl ?_);refine fH (t:=26) (p:=22) (v:=?vo_w11) (w1:=(w8.setCell ⟨gb267,0,none⟩ (.slice Ao9 t269.length co9))) ?hg ?ho ?hn ?hr ?_;(case ho=>rfl);(case hg=>rfl);(case hn=>rfl);(case hr=>first | (go_simp;done) | (go_simp;rfl));intro w11 hw;have n0_:aa (Kd.S k47 47 w11 w.heap.size (fun k_=>some k_≠(.slice Ao9 t269.length co9:Value).ownBlock∧k_≠gb267) u3 x3_1):=⟨(by rw [hw];exact (by (with_reducible repeat (first | apply Kd.lD | apply Kd.lF | apply Kd.nk));exact Kd.kQ (Kd.mo (p:=⟨gb267,0,none⟩) (Kd.kQ HO_3.out (fun k_ hk=>(⟨hk,hk.1.2⟩:_∧k_≠gb267))) (fun _ hk=>hk.2) (.slice Ao9 t269.length co9)) (fun _ hk=>⟨hk.1.2,hk.1.1.2⟩)))⟩;have n1_:aa (Kd.R k45 45 w11 w.heap.size (fun _=>True) (.slice Ao9 t269.length co9) t269):=⟨(by rw [hw];exact (by (with_reducible repeat (first | apply Kd.fu | apply Kd.fw | apply Kd.gD));exact Kd.ig (Kd.vN (p:=⟨gb267,0,none⟩) (Kd.lC HO271.out BK267.out (by decide)) (fun _ hk=>hk.2) (.slice Ao9 t269.length co9)) (fun _ hk=>trivial)))⟩;have n2_:aa (w11.heap[gb267]?=some (.cells #[.slice Ao9 t269.length co9,.int .i64 ((ah l0 x4_1).f1),.int .u16 ((ah l0 x4_1).f2.f0),.int .u8 ((ah l0 x4_1).f2.f1),.int .u8 ((ah l0 x4_1).f2.f2),.int .u32 ((ah l0 x4_1).f2.f3),.int .i64 ((ah l0 x4_1).f3),.int .i64 ((ah l0 x4_1).f4)] 47 (0,0))):=⟨(by rw [hw];exact (by (with_reducible repeat (first | refine bg ?_ _ | refine bz ?_ | refine aT ?_ _));refine aM (cs:=#[.slice A266_0 ((ah l0 x4_1).f0).length c266_0,.int .i64 ((ah l0 x4_1).f1),.int .u16 ((ah l0 x4_1).f2.f0),.int .u8 ((ah l0 x4_1).f2.f1),.int .u8 ((ah l0 x4_1).f2.f2),.int .u32 ((ah l0 x4_1).f2.f3),.int .i64 ((ah l0 x4_1).f3),.int .i64 ((ah l0 x4_1).f4)]) ?_ 0 _ rfl;(with_reducible repeat (first | refine bg ?_ _ | refine bz ?_ | refine aT ?_ _));exact BK267.out))⟩;have n3_:aa (Below w.heap.size w w11):=⟨(by rw [hw];exact bv)⟩;clear hw;clear HO_3;clear HO271;clear BK267;clear HB;have HO_3:=n0_;have HO271:=n1_;have BK267:=n2_;have HB:=n3_;clear n0_ n1_ n2_ n3_;obtain ⟨_,_,_,_,_,_,_,_,_,_,_,_,_,_,_,_⟩:=cz8 BK267) | ((with_reducible refine mH (b := .append) (xs:=#[.tmp 23,.tmp 25]) rfl ?_);at_builtin;refine Kd.yh k47 (w0:=w) w.heap.size rfl (.tmp 23) (.tmp 25) 22 47 (.agg #[(.slice none 0 0),(.int .i64 0),(.int .u16 0),(.int .u8 0),(.int .u8 0),(.int .u32 0),(.int .i64 0),(.int .i64 0)]) 56 rfl Try.underlying22 mf rfl (by decide) (by omega) u3 x3_1 (⟨t269,(ah l0 x4_1).f1,(⟨(ah l0 x4_1).f2.f0,(ah l0 x4_1).f2.f1,(ah l0 x4_1).f2.f2,(ah l0 x4_1).f2.f3⟩:S45),(ah l0 x4_1).f3,(ah l0 x4_1).f4⟩:S47) [.slice Ao9 t269.length co9,.int .i64 ((ah l0 x4_1).f1),.int .u16 ((ah l0 x4_1).f2.f0),.int .u8 ((ah l0 x4_1).f2.f1),.int .u8 ((ah l0 x4_1).f2.f2),.int .u32 ((ah l0 x4_1).f2.f3),.int .i64 ((ah l0 x4_1).f3),.int .i64 ((ah l0 x4_1).f4)] (fun k_=>k_≠gb267) (fun k_=>some k_=(.slice Ao9 t269.length co9:Value).ownBlock) rfl rfl ?aP (fun k_ hk_=>((Kd.ig (ok':=fun k_=>((fun k_=>k_≠gb267)) k_∧some k_≠(u3:Value).ownBlock) (Kd.lC (Kd.sU (HO271.out) (Kd.vR HO_3.out) (by decide)) BK267.out (by decide)) (fun k_ hk=>⟨hk.2,hk.1.2⟩))).1 k_ hk_.symm) ?aF ?aO ?aB ?aS ?aL ?_;(case aP=>exact mK _ _ _ (⟨t269,(ah l0 x4_1).f1,(⟨(ah l0 x4_1).f2.f0,(ah l0 x4_1).f2.f1,(ah l0 x4_1).f2.f2,(ah l0 x4_1).f2.f3⟩:S45),(ah l0 x4_1).f3,(ah l0 x4_1).f4⟩:S47) (Kd.ig (Kd.vP rfl (Kd.ig (ok':=fun k_=>((fun k_=>k_≠gb267)) k_∧some k_≠(u3:Value).ownBlock) (Kd.lC (Kd.sU (HO271.out) (Kd.vR HO_3.out) (by decide)) BK267.out (by decide)) (fun k_ hk=>⟨hk.2,hk.1.2⟩))) (fun _ h_=>h_)));(case aB=>exact bv);(case aF=>exact (fun k_ hk=>Kd.freshB (g:=gb267) (o := .cells #[.slice Ao9 t269.length co9,.int .i64 ((ah l0 x4_1).f1),.int .u16 ((ah l0 x4_1).f2.f0),.int .u8 ((ah l0 x4_1).f2.f1),.int .u8 ((ah l0 x4_1).f2.f2),.int .u32 ((ah l0 x4_1).f2.f3),.int .i64 ((ah l0 x4_1).f3),.int .i64 ((ah l0 x4_1).f4)] 47 (0,0)) iU k_ hk));(case aO=>exact (by (with_reducible repeat (first | apply Kd.lD | apply Kd.lF | apply Kd.nk));exact Kd.kQ HO_3.out (fun k_ hk=>⟨hk.2,fun e_=>hk.1 e_⟩)));(case aS=>exact (gF bv));(case aL=>have:=LMc5.out;omega);intro v273 w13 ho hb hg hat;rw [←Ny272.out] at ho;replace BK267:=aa.mk (qJ (g:=gb267) (o := .cells #[.slice Ao9 t269.length co9,.int .i64 ((ah l0 x4_1).f1),.int .u16 ((ah l0 x4_1).f2.f0),.int .u8 ((ah l0 x4_1).f2.f1),.int .u8 ((ah l0 x4_1).f2.f2),.int .u32 ((ah l0 x4_1).f2.f3),.int .i64 ((ah l0 x4_1).f3),.int .i64 ((ah l0 x4_1).f4)] 47 (0,0)) iU hg (Kd.S_away HO_3.out (fun _ hk=>hk.2)));have HO274:=aa.mk (ho);replace HB:=aa.mk hb;clear HO_3 HO271;clear ho hb hg hat))
         go_roundg k1
         case measure=>have:=HK1.out;omega
         case rel=>exact ⟨_,_,aY,H,⟨by have:=HK1.out;omega⟩,⟨by (with_reducible repeat (first | apply Kd.lD | apply Kd.lF | apply Kd.nk));exact Kd.kQ HO274.out (fun _ hk=>trivial)⟩,⟨bv⟩⟩
       exact absurd H (by simp)
     exact absurd H (by simp)
   obtain rfl:=Option.some.inj H
   go_wp2
   go_ret
   exact ⟨_,dm,by (with_reducible repeat (first | apply Kd.lD | apply Kd.lF | apply Kd.nk));exact HO_3.out,bv⟩
def dJ.f (a0:Int) (a1:Int) (a2:Int):Option (Bool):=if a1≥0 then (if a2≥0 then (if a2≤a0 then (some (decide (a1≤(wrap64 (a0 - a2))))) else (some false)) else (some false)) else (some false)
theorem dJ.calls (a0:Int) (a1:Int) (a2:Int) (r:Bool) (w:World) (h:dJ.f a0 a1 a2=some r) :
 Calls Try.prog 162 #[.int .i64 a0,.int .i64 a1,.int .i64 a2] w fun e w'=>e = .returned (.bool r)∧bZ w w':=by
 have H:(if a1≥0 then (if a2≥0 then (if a2≤a0 then (some (decide (a1≤(wrap64 (a0 - a2))))) else (some false)) else (some false)) else (some false))=some r:=h
 clear h
 replace H:=sM H
 obtain ⟨H,-,_⟩ | ⟨H,-,_⟩:=H
 · replace H:=sM H
   obtain ⟨H,-,_⟩ | ⟨H,-,_⟩:=H
   · replace H:=fo H
     obtain ⟨H,-,_⟩ | ⟨H,-,_⟩:=H
     · cases H
       go_enter Try.func162,Try.ntmps162
       go_wp2
       go_ret
       exact ⟨aY,bC⟩
     cases H
     go_enter Try.func162,Try.ntmps162
     go_wp2
     go_ret
     exact ⟨aY,bC⟩
   cases H
   go_enter Try.func162,Try.ntmps162
   go_wp2
   go_ret
   exact ⟨aY,bC⟩
 cases H
 go_enter Try.func162,Try.ntmps162
 go_wp2
 go_ret
 exact ⟨aY,bC⟩
mutual
def aI.j0:Nat→List Int→Int→Int→Bool→Option (Int × Bool)
 | 0,_,_,_,_=>none
 | k+1,x0,x1,x2,x27=>if x27=true then (some (0,false)) else (aI.l0 k x0 x1 x2 0 0)
def aI.l0:Nat→List Int→Int→Int→Int→Int→Option (Int × Bool)
 | 0,_,_,_,_,_=>none
 | k+1,x0,x1,x2,x8,x9=>if x9<x2 then (if 0≤(wrap64 (x1+x9)) then (if (wrap64 (x1+x9))<(x0.length:Int) then (aI.l0 k x0 x1 x2 (Go.bits .or .u32 ((x8*256) % 4294967296) ((rd x0 (wrap64 (x1+x9))) % 4294967296)) (wrap64 (x9+1))) else (none)) else (none)) else (some (x8,true))
end
def aI.f (k:Nat) (l0:List Int) (a1:Int) (a2:Int):Option (Int × Bool):=if a2=1 then ((dJ.f (l0.length:Int) a1 a2).bind fun t275=>(aI.j0 k l0 a1 a2 (!t275))) else (if a2=2 then ((dJ.f (l0.length:Int) a1 a2).bind fun t276=>(aI.j0 k l0 a1 a2 (!t276))) else (if a2=4 then ((dJ.f (l0.length:Int) a1 a2).bind fun t277=>(aI.j0 k l0 a1 a2 (!t277))) else (aI.j0 k l0 a1 a2 true)))
theorem aI.calls (k:Nat) (A0:Option Addr) (c0:Nat) (l0:List Int) (a1:Int) (a2:Int) (r1:Int) (r2:Bool) (w:World) (hr0:Kd.C (Kd.int .u8) w A0 l0.length l0) (hc0:l0.length≤c0) (h:aI.f k l0 a1 a2=some (r1,r2)) :
 Calls Try.prog 139 #[.slice A0 l0.length c0,.int .i64 a1,.int .i64 a2] w fun e w'=>e = .returned (.tuple #[.int .u32 r1,.bool r2])∧bZ w w':=by
 have HR0:=aa.mk hr0
 have HC0:=aa.mk hc0
 clear hr0 hc0
 have H:(if a2=1 then ((dJ.f (l0.length:Int) a1 a2).bind fun t275=>(aI.j0 k l0 a1 a2 (!t275))) else (if a2=2 then ((dJ.f (l0.length:Int) a1 a2).bind fun t276=>(aI.j0 k l0 a1 a2 (!t276))) else (if a2=4 then ((dJ.f (l0.length:Int) a1 a2).bind fun t277=>(aI.j0 k l0 a1 a2 (!t277))) else (aI.j0 k l0 a1 a2 true))))=some (r1,r2):=h
 clear h
 have HC4:=aa.mk H
 clear H
 go_enter Try.func139,Try.ntmps139
 go_upto_region 1 with (fail)
 go_cut [27] (fun v27 wc=>∃ (kq:Nat) (x27_3:Bool),v27 = .bool x27_3∧aa (aI.j0 kq l0 a1 a2 x27_3=some (r1,r2))∧aa (kq≤k)∧bZ w wc)
 case first=>
  have H:=HC4.out
  clear HC4
  replace H:=bN H
  obtain ⟨H,-,c5b0,_⟩ | ⟨H,c5,c5b0,_⟩:=H
  · (first | rw [c5b0] | (simp only [dD,dE];rw [c5b0]) | skip)
    replace H:=bnd H
    obtain ⟨t275,A6,H⟩:=H
    replace H:=aa.mk H
    go_wp2_with (go_at_call 162;(with_reducible refine (dJ.calls _ _ _ _ _ A6.out).mono ?_);rintro e w' ⟨rfl,⟨nd,rfl⟩⟩)
    go_meet
    case rel=>exact ⟨_,(!t275),aY,H,⟨le0⟩,bC⟩
  (first | rw [c5b0] | (simp only [dD,dE];rw [c5b0]) | skip)
  iterate 2
   replace H:=bN H
   obtain ⟨H,-,_,_⟩ | ⟨H,c7,_,_⟩:=H
   · replace H:=bnd H
     obtain ⟨t276,A8,H⟩:=H
     replace H:=aa.mk H
     go_wp2_with (go_at_call 162;(with_reducible refine (dJ.calls _ _ _ _ _ A8.out).mono ?_);rintro e w' ⟨rfl,⟨nd,rfl⟩⟩)
     go_meet
     case rel=>exact ⟨_,(!t276),aY,H,⟨le0⟩,bC⟩
  replace H:=aa.mk H
  go_wp2
  go_meet
  case rel=>exact ⟨_,(true),aY,H,⟨le0⟩,bC⟩
 case rest=>
  clear HC4
  obtain ⟨kq,x27_3,rfl,HA,HJ3,⟨mc3,rfl⟩⟩:=hcut
  cases kq with
  | zero=>exact absurd HA.out (by simp [aI.j0])
  | succ kj3=>
   have H:=HA.out
   clear HA
   simp only [aI.j0] at H
   by_cases c11:x27_3=true
   · subst c11
     have H1:(some (0,false))=some (r1,r2):=by rw [if_pos rfl] at H;exact H
     clear H
     have H:=H1
     clear H1
     obtain ⟨rfl,rfl⟩:=so2 H
     go_wp2
     go_ret2
     exact ⟨aY,bC⟩
   replace c11:=Bool.eq_false_iff.mpr c11
   subst c11
   have H1:(aI.l0 kj3 l0 a1 a2 0 0)=some (r1,r2):=by rw [if_neg (show ¬(false=true) by decide)] at H;exact H
   clear H
   have H:=H1
   clear H1
   replace H:=aa.mk H
   go_wp2
   go_loopg [8,9] kj3 (fun kq v8 v9 w'=>∃ (x8_2:Int) (x9_2:Int),v8 = .int .u32 x8_2∧v9 = .int .i64 x9_2∧aa (aI.l0 kq l0 a1 a2 x8_2 x9_2=some (r1,r2))∧aa (kq≤kj3)∧bZ w w')
   case atStart=>exact ⟨(0),(0),aY,aY,H,⟨Nat.le_refl _⟩,bC⟩
   case round=>
    clear H
    obtain ⟨x8_2,x9_2,rfl,rfl,HA,HK2,⟨m2,rfl⟩⟩:=hrel
    cases gk with
    | zero=>exact absurd HA.out (by simp [aI.l0])
    | succ k2=>
     have H:=HA.out
     clear HA
     simp only [aI.l0] at H
     replace H:=fo H
     obtain ⟨H,-,_⟩ | ⟨H,-,_⟩:=H
     · obtain ⟨ji13,hji13⟩:∃ j_:Int,(wrap64 (a1+x9_2))=j_:=⟨_,rfl⟩
       replace H:(if 0≤(ji13) then (if (ji13)<(l0.length:Int) then (aI.l0 k2 l0 a1 a2 (Go.bits .or .u32 ((x8_2*256) % 4294967296) ((rd l0 (ji13)) % 4294967296)) (wrap64 (x9_2+1))) else (none)) else (none))=some (r1,r2):=by first | (rw [hji13] at H;exact H) | (simp only [hji13] at H ⊢;exact H)
       have hji13w:(IntKind.i64.wrap (a1+x9_2))=ji13:=(dD _).trans hji13
       replace H:=fo H
       obtain ⟨H,-,_⟩ | ⟨H,c14,-⟩:=H
       · replace H:=fo H
         obtain ⟨H,-,_⟩ | ⟨H,c15,-⟩:=H
         · replace H:=aa.mk H
           have p278:0≤((ji13):Int):=of_decide_eq_true (by first | (with_reducible assumption) | assumption)
           have q278:(ji13)<(l0.length:Int):=of_decide_eq_true (by first | (with_reducible assumption) | assumption)
           obtain ⟨ad278,e278,hx278_0⟩:=Kd.kC HR0.out (ji13) p278 q278
           cases e278
           replace p278:=eq_true p278
           replace q278:=eq_true q278
           go_wp2
           go_roundg k2
           case measure=>have:=HJ3.out;have:=HK2.out;omega
           case rel=>exact ⟨(Go.bits .or .u32 ((x8_2*256) % 4294967296) ((rd l0 (ji13)) % 4294967296)),(wrap64 (x9_2+1)),(by first | rfl | (simp;done) | (simp only [←hji13]<;>(first | rfl | simp)) | (simp [*];done)),aY,H,⟨by have:=HJ3.out;have:=HK2.out;omega⟩,bC⟩
         exact absurd H (by simp)
       exact absurd H (by simp)
     obtain ⟨rfl,rfl⟩:=so2 H
     go_wp2
     go_ret2
     exact ⟨aY,bC⟩
attribute [local go_sem] dZ ek fF fG dQ dR d9 eu
def cZ.f (k:Nat) (l0:List Int) (a1:Int) (a2:Int):Option (Int × Int):=if a1>(IntKind.u64.wrap ((l0.length:Int))) then (some (0,1)) else ((aI.f k l0 (wrap64 (a1)) a2).bind fun bt279=>(if bt279.2=true then (some (bt279.1,0)) else (some (0,1))))
theorem cZ.calls (k:Nat) (A0:Option Addr) (c0:Nat) (l0:List Int) (a1:Int) (a2:Int) (r1:Int) (r2:Int) (w:World) (hr0:Kd.C (Kd.int .u8) w A0 l0.length l0) (hc0:l0.length≤c0) (h:cZ.f k l0 a1 a2=some (r1,r2)) :
 Calls Try.prog 95 #[.slice A0 l0.length c0,.int .u64 a1,.int .i64 a2] w fun e w'=>e = .returned (.tuple #[.int .u32 r1,.int .i64 r2])∧bZ w w':=by
 have HR0:=aa.mk hr0
 have HC0:=aa.mk hc0
 clear hr0 hc0
 have H:(if a1>(IntKind.u64.wrap ((l0.length:Int))) then (some (0,1)) else ((aI.f k l0 (wrap64 (a1)) a2).bind fun bt279=>(if bt279.2=true then (some (bt279.1,0)) else (some (0,1)))))=some (r1,r2):=h
 clear h
 replace H:=qD H
 obtain ⟨H,-,_⟩ | ⟨H,-,_⟩:=H
 · obtain ⟨rfl,rfl⟩:=so2 H
   go_enter Try.func95,Try.ntmps95
   go_wp2
   go_ret2
   exact ⟨aY,bC⟩
 replace H:=Option.bind_eq_some_iff.mp H
 obtain ⟨⟨t279,t280⟩,A50,H⟩:=H
 replace H:(if t280=true then (some (t279,0)) else (some (0,1)))=some (r1,r2):=H
 have A5:=aa.mk A50
 clear A50
 replace H:=iY H
 obtain ⟨rfl,H⟩ | ⟨rfl,H⟩:=H
 · obtain ⟨rfl,rfl⟩:=so2 H
   go_enter Try.func95,Try.ntmps95
   go_wp2_with (go_at_call 139;(with_reducible refine (aI.calls _ _ _ _ _ _ _ _ _ ?side1 HC0.out A5.out).mono ?_);(case side1=>repeat (first | exact HR0.out | (with_reducible refine Kd.iT ?_ _) | (with_reducible refine Kd.oG ?_ _) | (with_reducible refine Kd.q8 ?_)));rintro e w' ⟨rfl,⟨nd,rfl⟩⟩)
   go_ret2
   exact ⟨aY,bC⟩
 obtain ⟨rfl,rfl⟩:=so2 H
 go_enter Try.func95,Try.ntmps95
 go_wp2_with (go_at_call 139;(with_reducible refine (aI.calls _ _ _ _ _ _ _ _ _ ?side1 HC0.out A5.out).mono ?_);(case side1=>repeat (first | exact HR0.out | (with_reducible refine Kd.iT ?_ _) | (with_reducible refine Kd.oG ?_ _) | (with_reducible refine Kd.q8 ?_)));rintro e w' ⟨rfl,⟨nd,rfl⟩⟩)
 go_ret2
 exact ⟨aY,bC⟩
def bU.j0:Nat→Int→Bool→Option (Int)
 | 0,_,_=>none
 | k+1,x3,x4=>if x4=true then (some 4) else (if x3=40 then (some 2) else (if x3=72 then (some 2) else (some 1)))
def bU.f (k:Nat) (a0:Int):Option (Int):=if a0=32 then (bU.j0 k a0 (a0==32)) else (bU.j0 k a0 (a0==64))
theorem bU.calls (k:Nat) (a0:Int) (r:Int) (w:World) (h:bU.f k a0=some r) :
 Calls Try.prog 96 #[.int .u16 a0] w fun e w'=>e = .returned (.int .i64 r)∧bZ w w':=by
 have H:(if a0=32 then (bU.j0 k a0 (a0==32)) else (bU.j0 k a0 (a0==64)))=some r:=h
 clear h
 have HC2:=aa.mk H
 clear H
 go_enter Try.func96,Try.ntmps96
 go_upto_if 4 with (fail)
 go_cut [4] (fun v4 wc=>∃ (kq:Nat) (x4_1:Bool),v4 = .bool x4_1∧aa (bU.j0 kq a0 x4_1=some r)∧aa (kq≤k)∧bZ w wc)
 case first=>
  have H:=HC2.out
  clear HC2
  replace H:=bN H
  obtain ⟨H,-,c3b0,_⟩ | ⟨H,c3,c3b0,_⟩:=H
  · (first | rw [c3b0] | (simp only [dD,dE];rw [c3b0]) | skip)
    replace H:=aa.mk H
    go_wp2
    go_meet
    case rel=>exact ⟨_,_,aY,H,⟨le0⟩,bC⟩
  (first | rw [c3b0] | (simp only [dD,dE];rw [c3b0]) | skip)
  replace H:=aa.mk H
  go_wp2
  go_meet
  case rel=>exact ⟨_,_,aY,H,⟨le0⟩,bC⟩
 case rest=>
  clear HC2
  obtain ⟨kq,x4_1,rfl,HA,HJ1,⟨mc1,rfl⟩⟩:=hcut
  cases kq with
  | zero=>exact absurd HA.out (by simp [bU.j0])
  | succ kj1=>
   have H:=HA.out
   clear HA
   simp only [bU.j0] at H
   by_cases c4:x4_1=true
   · subst c4
     have H1:(some 4)=some r:=by rw [if_pos rfl] at H;exact H
     clear H
     have H:=H1
     clear H1
     cases H
     go_wp2
     go_ret
     exact ⟨aY,bC⟩
   replace c4:=Bool.eq_false_iff.mpr c4
   subst c4
   have H1:(if a0=40 then (some 2) else (if a0=72 then (some 2) else (some 1)))=some r:=by rw [if_neg (show ¬(false=true) by decide)] at H;exact H
   clear H
   have H:=H1
   clear H1
   iterate 2
    replace H:=bN H
    obtain ⟨H,-,_,_⟩ | ⟨H,c5,_,_⟩:=H
    · cases H
      go_wp2
      go_ret
      exact ⟨aY,bC⟩
   cases H
   go_wp2
   go_ret
   exact ⟨aY,bC⟩
def bQ.f (a0:Int) (a1:Int) (a2:Bool):Option (Int):=if a1>31 then (some 0) else (if a2=true then (if 0≤a1 then (some (shl .u32 a0 a1)) else (none)) else (if 0≤a1 then (some (shr .u32 a0 a1)) else (none)))
theorem bQ.calls (a0:Int) (a1:Int) (a2:Bool) (r:Int) (w:World) (h:bQ.f a0 a1 a2=some r) :
 Calls Try.prog 140 #[.int .u32 a0,.int .u32 a1,.bool a2] w fun e w'=>e = .returned (.int .u32 r)∧bZ w w':=by
 have H:(if a1>31 then (some 0) else (if a2=true then (if 0≤a1 then (some (shl .u32 a0 a1)) else (none)) else (if 0≤a1 then (some (shr .u32 a0 a1)) else (none))))=some r:=h
 clear h
 replace H:=qD H
 obtain ⟨H,-,_⟩ | ⟨H,-,_⟩:=H
 · cases H
   go_enter Try.func140,Try.ntmps140
   go_wp2
   go_ret
   exact ⟨aY,bC⟩
 by_cases c5:a2=true
 · subst c5
   have H1:(if 0≤a1 then (some (shl .u32 a0 a1)) else (none))=some r:=by rw [if_pos rfl] at H;exact H
   clear H
   have H:=H1
   clear H1
   replace H:=mZ H
   obtain ⟨H,c6⟩ | ⟨H,c6⟩:=H
   · have c6b0:=eq_true c6
     have c6b1:decide (0≤a1)=true:=decide_eq_true c6
     clear c6
     obtain ⟨ji7,hji7⟩:∃ j_:Int,(shl .u32 a0 a1)=j_:=⟨_,rfl⟩
     replace H:(some ji7)=some r:=by first | (rw [hji7] at H;exact H) | (simp only [hji7] at H ⊢;exact H)
     have hji7_:(IntKind.u32.wrap (a0*2 ^ min a1.toNat 32))=ji7:=hji7
     have hji7z:a1≤32→(IntKind.u32.wrap (a0*2 ^ a1.toNat))=ji7:=qR hji7
     cases H
     go_enter Try.func140,Try.ntmps140
     go_wp2
     go_ret
     exact ⟨by first | rfl | (simp;done) | (simp only [←hji7]<;>(first | rfl | simp)) | (simp [*];done),bC⟩
   exact absurd H (by simp)
 replace c5:=Bool.eq_false_iff.mpr c5
 subst c5
 have H1:(if 0≤a1 then (some (shr .u32 a0 a1)) else (none))=some r:=by rw [if_neg (show ¬(false=true) by decide)] at H;exact H
 clear H
 have H:=H1
 clear H1
 replace H:=mZ H
 obtain ⟨H,c8⟩ | ⟨H,c8⟩:=H
 · have c8b0:=eq_true c8
   have c8b1:decide (0≤a1)=true:=decide_eq_true c8
   clear c8
   obtain ⟨ji9,hji9⟩:∃ j_:Int,(shr .u32 a0 a1)=j_:=⟨_,rfl⟩
   replace H:(some ji9)=some r:=by first | (rw [hji9] at H;exact H) | (simp only [hji9] at H ⊢;exact H)
   have hji9_:(a0 / 2 ^ min a1.toNat 32)=ji9:=hji9
   have hji9z:a1≤32→(a0 / 2 ^ a1.toNat)=ji9:=qU hji9
   cases H
   go_enter Try.func140,Try.ntmps140
   go_wp2
   go_ret
   exact ⟨by first | rfl | (simp;done) | (simp only [←hji9]<;>(first | rfl | simp)) | (simp [*];done),bC⟩
 exact absurd H (by simp)
def bX.f (a0:Int) (a1:Int) (a2:Int):Option (Int × Int):=if (Go.bits .andNot .u16 a0 8)=4 then (some ((a1+a2) % 4294967296,0)) else (if (Go.bits .andNot .u16 a0 8)=20 then (some ((a1 - a2) % 4294967296,0)) else (if (Go.bits .andNot .u16 a0 8)=36 then (some ((a1*a2) % 4294967296,0)) else (if (Go.bits .andNot .u16 a0 8)=68 then (some (Go.bits .or .u32 a1 a2,0)) else (if (Go.bits .andNot .u16 a0 8)=84 then (some (Go.bits .and .u32 a1 a2,0)) else (if (Go.bits .andNot .u16 a0 8)=164 then (some (Go.bits .xor .u32 a1 a2,0)) else (if (Go.bits .andNot .u16 a0 8)=100 then ((bQ.f a1 a2 true).bind fun t281=>(some (t281,0))) else (if (Go.bits .andNot .u16 a0 8)=116 then ((bQ.f a1 a2 false).bind fun t282=>(some (t282,0))) else (if a2=0 then (some (0,2)) else (if (Go.bits .andNot .u16 a0 8)=52 then (some ((Int.tdiv a1 a2) % 4294967296,0)) else (some (Int.tmod a1 a2,0)))))))))))
theorem bX.calls (a0:Int) (a1:Int) (a2:Int) (r1:Int) (r2:Int) (w:World) (h:bX.f a0 a1 a2=some (r1,r2)) :
 Calls Try.prog 97 #[.int .u16 a0,.int .u32 a1,.int .u32 a2] w fun e w'=>e = .returned (.tuple #[.int .u32 r1,.int .i64 r2])∧bZ w w':=by
 have H:(if (Go.bits .andNot .u16 a0 8)=4 then (some ((a1+a2) % 4294967296,0)) else (if (Go.bits .andNot .u16 a0 8)=20 then (some ((a1 - a2) % 4294967296,0)) else (if (Go.bits .andNot .u16 a0 8)=36 then (some ((a1*a2) % 4294967296,0)) else (if (Go.bits .andNot .u16 a0 8)=68 then (some (Go.bits .or .u32 a1 a2,0)) else (if (Go.bits .andNot .u16 a0 8)=84 then (some (Go.bits .and .u32 a1 a2,0)) else (if (Go.bits .andNot .u16 a0 8)=164 then (some (Go.bits .xor .u32 a1 a2,0)) else (if (Go.bits .andNot .u16 a0 8)=100 then ((bQ.f a1 a2 true).bind fun t281=>(some (t281,0))) else (if (Go.bits .andNot .u16 a0 8)=116 then ((bQ.f a1 a2 false).bind fun t282=>(some (t282,0))) else (if a2=0 then (some (0,2)) else (if (Go.bits .andNot .u16 a0 8)=52 then (some ((Int.tdiv a1 a2) % 4294967296,0)) else (some (Int.tmod a1 a2,0))))))))))))=some (r1,r2):=h
 clear h
 iterate 2
  replace H:=bN H
  obtain ⟨H,-,_,_⟩ | ⟨H,c4,_,_⟩:=H
  · obtain ⟨rfl,rfl⟩:=so2 H
    go_enter Try.func97,Try.ntmps97
    go_wp2
    go_ret2
    exact ⟨aY,bC⟩
 iterate 2
  replace H:=bN H
  obtain ⟨H,-,_,_⟩ | ⟨H,c6,_,_⟩:=H
  · obtain ⟨rfl,rfl⟩:=so2 H
    go_enter Try.func97,Try.ntmps97
    go_wp2
    go_ret2
    exact ⟨aY,bC⟩
 iterate 2
  replace H:=bN H
  obtain ⟨H,-,_,_⟩ | ⟨H,c8,_,_⟩:=H
  · obtain ⟨rfl,rfl⟩:=so2 H
    go_enter Try.func97,Try.ntmps97
    go_wp2
    go_ret2
    exact ⟨aY,bC⟩
 iterate 2
  replace H:=bN H
  obtain ⟨H,-,_,_⟩ | ⟨H,c10,_,_⟩:=H
  · replace H:=bnd H
    obtain ⟨t281,A11,H⟩:=H
    obtain ⟨rfl,rfl⟩:=so2 H
    go_enter Try.func97,Try.ntmps97
    go_wp2_with (go_at_call 140;(with_reducible refine (bQ.calls _ _ _ _ _ A11.out).mono ?_);rintro e w' ⟨rfl,⟨nd,rfl⟩⟩)
    go_ret2
    exact ⟨aY,bC⟩
 iterate 2
  replace H:=bN H
  obtain ⟨H,-,_,_⟩ | ⟨H,c14,_,_⟩:=H
  · obtain ⟨rfl,rfl⟩:=so2 H
    go_enter Try.func97,Try.ntmps97
    go_wp2
    go_ret2
    exact ⟨aY,bC⟩
 obtain ⟨rfl,rfl⟩:=so2 H
 go_enter Try.func97,Try.ntmps97
 go_wp2
 go_ret2
 exact ⟨aY,bC⟩
def bM.j0:Nat→Int→Int→Int→Int→Int→Int→Option (Bool)
 | 0,_,_,_,_,_,_=>none
 | k+1,x1,x7,x284000,x284001,x284002,x284003=>if (Go.bits .andNot .u16 x284000 8)=21 then (some (x1==x7)) else (if (Go.bits .andNot .u16 x284000 8)=37 then (some (decide (x1>x7))) else (if (Go.bits .andNot .u16 x284000 8)=53 then (some (decide (x1≥x7))) else (some ((Go.bits .and .u32 x1 x7) != 0))))
def bM.f (k:Nat) (a0_0:Int) (a0_1:Int) (a0_2:Int) (a0_3:Int) (a1:Int) (a2:Int):Option (Bool):=(bI.f k a0_0).bind fun t284=>(if t284=true then (bM.j0 k a1 a2 a0_0 a0_1 a0_2 a0_3) else (bM.j0 k a1 a0_3 a0_0 a0_1 a0_2 a0_3))
theorem bM.calls (k:Nat) (a0_0:Int) (a0_1:Int) (a0_2:Int) (a0_3:Int) (a1:Int) (a2:Int) (r:Bool) (w:World) (h:bM.f k a0_0 a0_1 a0_2 a0_3 a1 a2=some r) :
 Calls Try.prog 64 #[.agg #[.int .u16 a0_0,.int .u8 a0_1,.int .u8 a0_2,.int .u32 a0_3],.int .u32 a1,.int .u32 a2] w fun e w'=>e = .returned (.bool r)∧Below w.heap.size w w':=by
 have hu45:=Try.underlying45
 have HB:=aa.mk (Below.refl w.heap.size w)
 have H:((bI.f k a0_0).bind fun t284=>(if t284=true then (bM.j0 k a1 a2 a0_0 a0_1 a0_2 a0_3) else (bM.j0 k a1 a0_3 a0_0 a0_1 a0_2 a0_3)))=some r:=h
 clear h
 replace H:=bnd H
 obtain ⟨t284,A4,H⟩:=H
 have HC5:=aa.mk H
 clear H
 go_enter Try.func64,Try.ntmps64
 go_upto_if 12 with (first | ((with_reducible refine aW (N:=3) rfl ?_);refine dS (N:=3) (cs:=#[.int .u16 a0_0,.int .u8 a0_1,.int .u8 a0_2,.int .u32 a0_3]) (t:=45) ?_;intro gb283 hg w6 hbox hb;have GE283:=geN HB hg;have BK283:=aa.mk hbox;replace HB:=cK HB hb;clear hb hbox hg;obtain ⟨_,_,_,_,_,_,_,_⟩:=cz4 BK283) | (go_at_call 58;(with_reducible refine (bI.calls _ _ _ _ A4.out).mono ?_);rintro e w' ⟨rfl,⟨nd,rfl⟩⟩))
 (try simp only [Act.put,List.setIfInBounds_toArray,List.set_cons_zero,List.set_cons_succ])
 go_cut [7] (fun v7 wc=>∃ (kq:Nat) (x7_4:Int),v7 = .int .u32 x7_4∧aa (bM.j0 kq a1 x7_4 a0_0 a0_1 a0_2 a0_3=some r)∧aa (kq≤k)∧aa (wc.heap[gb283]?=some (.cells #[.int .u16 a0_0,.int .u8 a0_1,.int .u8 a0_2,.int .u32 a0_3] 45 (0,0)))∧aa (Below w.heap.size w wc))
 case first=>
  have H:=HC5.out
  clear HC5
  replace H:=iY H
  obtain ⟨rfl,H⟩ | ⟨rfl,H⟩:=H
  · replace H:=aa.mk H
    go_wp2
    go_meet
    case rel=>exact ⟨_,_,aY,H,⟨le0⟩,⟨iU⟩,⟨bv⟩⟩
  replace H:=aa.mk H
  go_wp2
  go_meet
  case rel=>exact ⟨_,_,aY,H,⟨le0⟩,⟨iU⟩,⟨bv⟩⟩
 case rest=>
  clear HC5
  obtain ⟨kq,x7_4,rfl,HA,HJ4,BK283,HB⟩:=hcut
  cases kq with
  | zero=>exact absurd HA.out (by simp [bM.j0])
  | succ kj4=>
   have H:=HA.out
   clear HA
   simp only [bM.j0] at H
   replace H:=bN H
   obtain ⟨H,-,_,_⟩ | ⟨H,c9,_,_⟩:=H
   · cases H
     obtain ⟨_,_,_,_,_,_,_,_⟩:=cz4 BK283
     go_wp2
     go_ret
     exact ⟨dm,bv⟩
   iterate 2
    replace H:=bN H
    obtain ⟨H,-,_,_⟩ | ⟨H,c11,_,_⟩:=H
    · cases H
      obtain ⟨_,_,_,_,_,_,_,_⟩:=cz4 BK283
      go_wp2
      go_ret
      exact ⟨dm,bv⟩
   cases H
   obtain ⟨_,_,_,_,_,_,_,_⟩:=cz4 BK283
   go_wp2
   go_ret
   exact ⟨dm,bv⟩
end Go.Proofs.Ytdkalnkplgfgoaa.PA
