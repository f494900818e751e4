/- Lemmas and walks for the statements of the texts ZTZ..: the declarations that they need, taken together by a program of this session. Conditions: as each says. -/
import Derived.Test.YtdkalnkplgfgoaaZTk
set_option maxHeartbeats 8000000
set_option maxRecDepth 100000
set_option linter.unusedVariables false
set_option linter.unusedSimpArgs false
namespace Go.Proofs.Ytdkalnkplgfgoaa.Ln
open Go.RowKit Go.Maps Go.Proofs.YtdkalnkplgfgoaaW.PrintWords Go.Proofs.YtdkalnkplgfgoaaW.PrintLast Go.Proofs.YtdkalnkplgfgoaaW.PrintMore Go.Proofs.Ytdkalnkplgfgoaa.PA
theorem gsz_l (g:List S47) (hn:g.length≤4096) (hM:szG g≤100000):∀ (d j:Nat),g.length - j=d→j≤g.length→∀ acc:Nat,acc+szG (g.drop j)=szG g→∀ k,d+2≤k→bB.l0 k 1 0 1 (acc:Int) g (g.length:Int) (j:Int)=some ((szG g:Int),0):=by
  intro d
  induction d with
  | zero=>
    intro j hd hj acc ha k hk
    obtain ⟨k,rfl⟩:∃ m,k=m+1:=⟨k - 1,by omega⟩
    rw [bB.l0,if_neg (by omega)]
    rw [List.drop_of_length_le (by omega)] at ha
    rw [show acc=szG g from ha]
  | succ d ih=>
    intro j hd hj acc ha k hk
    obtain ⟨k,rfl⟩:∃ m,k=m+1:=⟨k - 1,by omega⟩
    have hlt:j<g.length:=by omega
    rw [List.drop_eq_getElem_cons hlt] at ha
    have hs:szG (g[j] :: g.drop (j+1))=szB g[j]+szG (g.drop (j+1)):=rfl
    rw [hs] at ha
    have hb:szB g[j]=(g[j]).f0.length+(if (g[j]).f1=2 then 0 else 1):=rfl
    have:=ih (j+1) (by omega) (by omega) (acc+szB g[j]) (by omega) k (by omega)
    rw [show ((j+1:Nat):Int)=(j:Int)+1 by omega] at this
    rw [bB.l0,if_pos (by omega),if_pos (by omega),if_pos (by omega),j4 hlt,w64 (n:=(j:Int)+1) (by omega) (by omega),w64 (n:=(acc:Int)+((g[j]).f0.length:Int)) (by omega) (by omega)]
    by_cases e2:(g[j]).f1=2
    · rw [if_pos e2] at hb
      rw [if_neg (by omega),if_pos e2,w64 (n:=(acc:Int)+((g[j]).f0.length:Int)+0) (by omega) (by omega),show (acc:Int)+((g[j]).f0.length:Int)+0=((acc+szB g[j]:Nat):Int) by omega]
      exact this
    · rw [if_neg e2] at hb
      rw [if_neg e2,w64 (n:=(acc:Int)+((g[j]).f0.length:Int)+1) (by omega) (by omega),show (acc:Int)+((g[j]).f0.length:Int)+1=((acc+szB g[j]:Nat):Int) by omega]
      split<;>exact this
theorem gsize {g:List S47} (h:GOk g):fZ.f 10000 g=some ((szG g:Int),0):=by
  have hs:szG g≤100000:=by
    have h1:=szB_sum g
    have h2:=h.sum
    have h3:=h.few
    unfold szG
    omega
  have:=gsz_l g h.few hs g.length 0 rfl (by omega) 0 (by rw [List.drop_zero];omega) 10000 (by have:=h.few;omega)
  unfold fZ.f bB.f
  rw [uY h,Option.bind_some,if_pos rfl]
  rw [show ((0:Nat):Int)=0 from rfl] at this
  rw [this,Option.bind_some]
theorem jM (W:World) (g:List S47) (A:Option Addr) (c:Nat) (H:Kd.C k47 W A g.length g) (hc:g.length≤c) (hG:GOk g) :
    Calls Try.prog 18 #[.slice A g.length c] W fun e w'=>∃ Ac cc,e = .returned (.slice Ac g.length cc)∧Kd.C k47 w' Ac g.length g∧g.length≤cc∧Below W.heap.size W w':=by
  refine (aU.calls 10000 A c g g W H hc (cpb7 hG)).mono ?_
  rintro e w2 ⟨v,rfl,hs,hb⟩
  obtain ⟨Ac,cc,rfl⟩:=Kd.iU (Kd.S_R hs)
  have:=Kd.iW (Kd.S_R hs)
  exact ⟨Ac,cc,rfl,this.2.2,this.2.1,hb⟩
theorem pI (W:World) (pk:List Int) (A:Option Addr) (c:Nat) (H:Kd.C (Kd.int .u8) W A pk.length pk) (hc:pk.length≤c) (hl:pk.length≤65536) :
    Calls Try.prog 35 #[.slice A pk.length c] W fun e w'=>∃ Ac cc,e = .returned (.slice Ac pk.length cc)∧Kd.C (Kd.int .u8) w' Ac pk.length pk∧pk.length≤cc∧Below W.heap.size W w':=by
  refine (dJ.calls A c pk pk W H hc (cpy7 pk (by omega))).mono ?_
  rintro e w2 ⟨v,rfl,hs,hb⟩
  obtain ⟨Ac,cc,rfl⟩:=Kd.iU hs
  have:=Kd.iW hs
  exact ⟨Ac,cc,rfl,this.2.2,this.2.1,hb⟩
theorem rM (w:World) (g:List S47) (A:Option Addr) (c:Nat) (Ap:Option Addr) (l cp:Nat) (HG:Kd.C k47 w A g.length g) (hc:g.length≤c) (H:wH g) (hn:TkB g=false) :
    Calls Try.prog 13 #[.slice A g.length c,.slice Ap l cp] w fun e w'=>e = .returned (.bool true)∧Below w.heap.size w w':=by
  obtain ⟨⟨r1,r2⟩,hr,he⟩:=sN g H.fit 10000 (Nat.le_refl _)
  have h2:r2≠0:=fun h=>by
    have:=he.1 h
    rw [hn] at this;cases this
  have HCP:=aa.mk (aU.calls (g.length+1) A c g g w HG hc (cpbG g (by have:=H.long;omega) (fun b hb=>by have:=H.code b hb;omega)))
  have HCK:=aa.mk (And.intro hr h2)
  clear HG hc H hn hr he h2
  go_enter Try.func13,Try.ntmps13
  go_wp2_with (first
    | (go_at_call 18;refine HCP.out.mono ?_;rintro e w1 ⟨v,rfl,hs,hb⟩;obtain ⟨Ac,cc,rfl⟩:=Kd.iU (Kd.S_R hs);have HS:=aa.mk (Kd.iW (Kd.S_R hs));have HB1:=aa.mk hb;clear hs hb)
    | (go_at_call 27;refine (oh w1 g Ac cc 10000 r1 r2 HS.out.2.2 HS.out.2.1 HCK.out.1 HCK.out.2).mono ?_;rintro e w2 ⟨rfl,hb⟩;have HB2:=aa.mk hb;clear hb)
    | (go_at_call 29;refine (jI w2).mono ?_;rintro e w3 ⟨rfl,hb⟩;have HB3:=aa.mk hb;clear hb))
  go_ret
  exact ⟨rfl,au HB1.out (au HB2.out HB3.out)⟩
theorem qI (w:World) (g:List S47) (A:Option Addr) (c:Nat) (pk:List Int) (Ap:Option Addr) (cp:Nat) (HG:Kd.C k47 w A g.length g) (hc:g.length≤c)
    (HP:Kd.C (Kd.int .u8) w Ap pk.length pk) (hcp:pk.length≤cp) (hG:GOk g) :
    Calls Try.prog 13 #[.slice A g.length c,.slice Ap pk.length cp] w fun e w'=>e = .returned (.bool true)∧Below w.heap.size w w':=by
  have HGA:=aa.mk (And.intro HG (And.intro hc hG))
  have HPA:=aa.mk (And.intro HP hcp)
  clear HG hc HP hcp hG
  go_enter Try.func13,Try.ntmps13
  go_upto_region 2 with (first
    | (go_at_call 18;refine (jM w g A c HGA.out.1 HGA.out.2.1 HGA.out.2.2).mono ?_;rintro e w1 ⟨A1,c1,rfl,hk,hle,hb⟩;have H1:=aa.mk (And.intro hk (And.intro hle hb));clear hk hle hb)
    | (go_at_call 27;refine (og w1 g A1 c1 H1.out.1 H1.out.2.1 HGA.out.2.2).mono ?_;rintro e w2 ⟨gx,cx,x,rfl,hx,hcx,hI,hb⟩;have HX:=aa.mk (And.intro hx (And.intro hcx hI));have HB2:=aa.mk (au H1.out.2.2 hb);clear hx hcx hI hb))
  by_cases hpk:65536<pk.length
  · have p1:decide (65536<pk.length)=true:=decide_eq_true hpk
    have p2:decide ((65536:Int)<(pk.length:Int))=true:=decide_eq_true (by omega)
    go_wp2_with (go_at_call 29;refine (jI w2).mono ?_;rintro e w3 ⟨rfl,hb⟩;have HB3:=aa.mk hb;clear hb)
    go_ret
    exact ⟨rfl,au HB2.out HB3.out⟩
  have p1:decide (65536<pk.length)=false:=decide_eq_false hpk
  have p2:decide ((65536:Int)<(pk.length:Int))=false:=decide_eq_false (by omega)
  have HPK:=aa.mk (show pk.length≤65536 by omega)
  have HKX:=aa.mk HX.out.2.2.done.gok
  clear hpk
  have L2:=aa.mk (Below.refl w2.heap.size w2)
  go_upto_region 5 with (first
    | (go_at_call 18;refine (jM w2 x (some ⟨gx,0,none⟩) cx (Kd.bY HX.out.1 L2.out) HX.out.2.1 HKX.out).mono ?_;rintro e w3 ⟨A3,c3,rfl,hk,hle,hb⟩;have H3:=aa.mk (And.intro hk hle);have L3:=aa.mk (au L2.out hb);clear hk hle hb)
    | (go_at_call 27;refine (og w3 x A3 c3 H3.out.1 H3.out.2 HKX.out).mono ?_;rintro e w4 ⟨gy,cy,y,rfl,hx,hcx,hI,hb⟩;have HY:=aa.mk (And.intro hx (And.intro hcx hI));have L4:=aa.mk (au L3.out hb);clear hx hcx hI hb))
  have M4:=aa.mk (Below.refl w4.heap.size w4)
  have HKY:=aa.mk HY.out.2.2.done.gok
  obtain ⟨n,en⟩:∃ n:Int,n=(szG x:Int):=⟨_,rfl⟩
  obtain ⟨m,em⟩:∃ m:Int,m=(szG y:Int):=⟨_,rfl⟩
  obtain ⟨a,ea⟩:∃ a:Int,a=msL x:=⟨_,rfl⟩
  obtain ⟨b,eb⟩:∃ b:Int,b=msL y:=⟨_,rfl⟩
  have F1:aa (fZ.f 10000 x=some (n,0)):=⟨by rw [en];exact gsize HKX.out⟩
  have F2:aa (fZ.f 10000 y=some (m,0)):=⟨by rw [em];exact gsize HKY.out⟩
  have F3:aa (dX.f 10000 x=some (a,0)):=⟨by rw [ea];exact ry HKX.out.fit HKX.out.tk 10000 (Nat.le_refl _)⟩
  have F4:aa (dX.f 10000 y=some (b,0)):=⟨by rw [eb];exact ry HKY.out.fit HKY.out.tk 10000 (Nat.le_refl _)⟩
  have q1:m≤n:=by rw [em,en];exact Int.ofNat_le.2 HY.out.2.2.sz
  have q2:b≤a:=by
    have h1:=zz y
    have h2:=zz x
    have h3:=HY.out.2.2.ms
    unfold msG at h3
    omega
  have q1b:decide (m≤n)=true:=decide_eq_true q1
  have q2b:decide (b≤a)=true:=decide_eq_true q2
  clear en em ea eb
  go_upto_region 6 with (first
    | (go_at_call 18;refine (jM w4 x (some ⟨gx,0,none⟩) cx (Kd.bY HX.out.1 L4.out) HX.out.2.1 HKX.out).mono ?_;rintro e w5 ⟨A5,c5,rfl,hk,hle,hb⟩;have H5:=aa.mk (And.intro hk hle);have L5:=aa.mk (au L4.out hb);have M5:=aa.mk (au M4.out hb);clear hk hle hb)
    | (go_at_call 41;refine (fZ.calls 10000 A5 c5 x _ 0 w5 H5.out.1 H5.out.2 F1.out).mono ?_;rintro e w6 ⟨rfl,hb⟩;have L6:=aa.mk (au L5.out hb);have M6:=aa.mk (au M5.out hb);clear hb))
  go_upto_region 7 with (first
    | (go_at_call 18;refine (jM w6 y (some ⟨gy,0,none⟩) cy (Kd.bY HY.out.1 M6.out) HY.out.2.1 HKY.out).mono ?_;rintro e w7 ⟨A7,c7,rfl,hk,hle,hb⟩;have H7:=aa.mk (And.intro hk hle);have L7:=aa.mk (au L6.out hb);have M7:=aa.mk (au M6.out hb);clear hk hle hb)
    | (go_at_call 41;refine (fZ.calls 10000 A7 c7 y _ 0 w7 H7.out.1 H7.out.2 F2.out).mono ?_;rintro e w8 ⟨rfl,hb⟩;have L8:=aa.mk (au L7.out hb);have M8:=aa.mk (au M7.out hb);clear hb))
  go_upto_region 8 with (first
    | (go_at_call 18;refine (jM w8 x (some ⟨gx,0,none⟩) cx (Kd.bY HX.out.1 L8.out) HX.out.2.1 HKX.out).mono ?_;rintro e w9 ⟨A9,c9,rfl,hk,hle,hb⟩;have H9:=aa.mk (And.intro hk hle);have L9:=aa.mk (au L8.out hb);have M9:=aa.mk (au M8.out hb);clear hk hle hb)
    | (go_at_call 42;refine (dX.calls 10000 A9 c9 x _ 0 w9 H9.out.1 H9.out.2 F3.out).mono ?_;rintro e w10 ⟨rfl,hb⟩;have L10:=aa.mk (au L9.out hb);have M10:=aa.mk (au M9.out hb);clear hb))
  go_upto_region 9 with (first
    | (go_at_call 18;refine (jM w10 y (some ⟨gy,0,none⟩) cy (Kd.bY HY.out.1 M10.out) HY.out.2.1 HKY.out).mono ?_;rintro e w11 ⟨A11,c11,rfl,hk,hle,hb⟩;have H11:=aa.mk (And.intro hk hle);have L11:=aa.mk (au L10.out hb);have M11:=aa.mk (au M10.out hb);clear hk hle hb)
    | (go_at_call 42;refine (dX.calls 10000 A11 c11 y _ 0 w11 H11.out.1 H11.out.2 F4.out).mono ?_;rintro e w12 ⟨rfl,hb⟩;have L12:=aa.mk (au L11.out hb);have M12:=aa.mk (au M11.out hb);clear hb))
  obtain ⟨v,f,t,nx,hr,ht,hgx⟩:=gok_run HKX.out pk
  obtain ⟨t',hle,hr'⟩:=HY.out.2.2.run pk v f t hr
  obtain ⟨ny,hgy⟩:=uQ HKY.out hr'
  have hgy0:=hgy 0 (by omega)
  rw [Nat.zero_add] at hgy0
  have F5:=aa.mk hgx
  have F6:=aa.mk hgy0
  obtain ⟨tx,etx⟩:∃ z:Int,z=(t:Int):=⟨_,rfl⟩
  obtain ⟨ty,ety⟩:∃ z:Int,z=(t':Int):=⟨_,rfl⟩
  rw [←etx] at F5
  rw [←ety] at F6
  have q3:ty≤tx:=by omega
  have q3b:decide (ty≤tx)=true:=decide_eq_true q3
  have HB12:=aa.mk (au HB2.out L12.out)
  clear hr ht hgx hle hr' hgy hgy0 etx ety
  go_upto_region 10 with (first
    | (go_at_call 35;refine (pI w12 pk Ap cp (Kd.bY HPA.out.1 HB12.out) HPA.out.2 HPK.out).mono ?_;rintro e w13 ⟨A13,c13,rfl,hk,hle,hb⟩;have H13:=aa.mk (And.intro hk (And.intro hle hb));clear hk hle hb)
    | (go_at_call 39;refine (oK w13 x (some ⟨gx,0,none⟩) cx pk A13 c13 (Kd.bY HX.out.1 (au L12.out H13.out.2.2)) HX.out.2.1 H13.out.1 H13.out.2.1 HPK.out HKX.out nx v f tx F5.out).mono ?_;rintro e w14 ⟨rfl,hb⟩;have H14:=aa.mk (au H13.out.2.2 hb);clear hb))
  refine forget (fun X=>∃ gv,gv=w14.heap.size∧Below w12.heap.size w12 X∧X.heap[gv]?=some (.cells #[.int .u32 v,.int .i64 f,.int .i64 tx] 59 (0,0))) ⟨_,rfl,ai H14.out _,heap_alloc_new _ _⟩ ?_
  rintro X ⟨gv,egv,hb,hv⟩
  rw [←egv]
  have HX2:=aa.mk (And.intro hb hv)
  clear egv hb hv
  go_upto_region 11 with (first
    | (go_at_call 35;refine (pI X pk Ap cp (Kd.bY HPA.out.1 (au HB12.out HX2.out.1)) HPA.out.2 HPK.out).mono ?_;rintro e w15 ⟨A15,c15,rfl,hk,hle,hb⟩;have H15:=aa.mk (And.intro hk (And.intro hle hb));clear hk hle hb)
    | (go_at_call 39;refine (oK w15 y (some ⟨gy,0,none⟩) cy pk A15 c15 (Kd.bY HY.out.1 (au (au M12.out HX2.out.1) H15.out.2.2)) HY.out.2.1 H15.out.1 H15.out.2.1 HPK.out HKY.out ny v f ty F6.out).mono ?_;rintro e w16 ⟨rfl,hb⟩;have H16:=aa.mk (au H15.out.2.2 hb);clear hb))
  refine forget (fun Y=>∃ gu,gu=w16.heap.size∧Below X.heap.size X Y∧Y.heap[gu]?=some (.cells #[.int .u32 v,.int .i64 f,.int .i64 ty] 59 (0,0))) ⟨_,rfl,ai H16.out _,heap_alloc_new _ _⟩ ?_
  rintro Y ⟨gu,egu,hb,hu⟩
  rw [←egu]
  have hv:=ak HX2.out.2 hb
  have y0:Y.cell? ⟨gu,0,none⟩=some (.int .u32 v):=(ae hu 0).trans rfl
  have y2:Y.cell? ⟨gu,2,none⟩=some (.int .i64 ty):=(ae hu 2).trans rfl
  have z0:Y.cell? ⟨gv,0,none⟩=some (.int .u32 v):=(ae hv 0).trans rfl
  have z2:Y.cell? ⟨gv,2,none⟩=some (.int .i64 tx):=(ae hv 2).trans rfl
  have HYB:=aa.mk (au HB12.out (au HX2.out.1 hb))
  clear egu hb hu hv
  go_wp2_with (go_at_call 29;refine (jI Y).mono ?_;rintro e w17 ⟨rfl,hb⟩;have HB17:=aa.mk hb;clear hb)
  go_ret
  exact ⟨rfl,au HYB.out HB17.out⟩
theorem oC (w:World) (g:List S47) (A:Option Addr) (c:Nat) (pk:List Int) (Ap:Option Addr) (cp:Nat) (HG:Kd.C k47 w A g.length g) (hc:g.length≤c)
    (HP:Kd.C (Kd.int .u8) w Ap pk.length pk) (hcp:pk.length≤cp) (H:wH g) (hk:KR g) :
    Calls Try.prog 13 #[.slice A g.length c,.slice Ap pk.length cp] w fun e w'=>e = .returned (.bool true)∧Below w.heap.size w w':=by
  cases htk:TkB g
  · exact rM w g A c Ap pk.length cp HG hc H htk
  · exact qI w g A c pk Ap cp HG hc HP hcp (yA htk hk)
end Go.Proofs.Ytdkalnkplgfgoaa.Ln
