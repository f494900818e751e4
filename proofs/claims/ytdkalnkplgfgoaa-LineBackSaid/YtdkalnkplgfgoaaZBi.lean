/- Lemmas and walks for the statements of the texts ZBZ..: the declarations that they need, taken together by a program of this session. Conditions: as each says. -/
import Derived.ArgAppend
import Derived.Deep.MidRow
import Derived.Deep.RegionHeld3
import Derived.Deep.DeepCutAuto
import Derived.Deep.LoopGhost
import Derived.Test.YtdkalnkplgfgoaaZBb
import Derived.Test.YtdkalnkplgfgoaaZBc
import Derived.Test.YtdkalnkplgfgoaaZBd
import Derived.Test.YtdkalnkplgfgoaaZBe
import Derived.Test.YtdkalnkplgfgoaaZBf
import Derived.Test.YtdkalnkplgfgoaaZBg
import Derived.Test.YtdkalnkplgfgoaaZBh
set_option maxHeartbeats 8000000
set_option maxRecDepth 100000
set_option linter.unusedVariables false
set_option linter.unusedSimpArgs false
namespace Go.Proofs.Ytdkalnkplgfgoaa.Ln
open Go.RowKit Go.Maps Go.Proofs.YtdkalnkplgfgoaaW.PrintWords Go.Proofs.YtdkalnkplgfgoaaW.PrintLast Go.Proofs.YtdkalnkplgfgoaaW.PrintMore Go.Proofs.Ytdkalnkplgfgoaa.PA
theorem um (p:List Int) (a s:Int) (h0:0≤a) (h1:a+s≤p.length) (h4:s≤4) (hl:p.length<2 ^ 62):∀ (n:Nat) (k:Nat) (x i:Int),(s - i).toNat=n→0≤i→i≤s→n<k →
    aC.l0 k p a s x i=some ((((p.drop (a+i).toNat).take n).foldl (fun x b=>Go.bits .or .u32 ((x*256) % 4294967296) (b % 4294967296)) x),true):=by
  intro n
  induction n with
  | zero=>
    intro k x i hn hi hs hk
    obtain ⟨k,rfl⟩:∃ m,k=m+1:=⟨k - 1,by omega⟩
    rw [aC.l0,if_neg (by omega)];rfl
  | succ n ih=>
    intro k x i hn hi hs hk
    obtain ⟨k,rfl⟩:∃ m,k=m+1:=⟨k - 1,by omega⟩
    have hw:wrap64 (a+i)=a+i:=w64 (by omega) (by omega)
    have hlt:(a+i).toNat<p.length:=by omega
    rw [aC.l0,if_pos (by omega),hw,if_pos (by omega),if_pos (by omega),w64 (n:=i+1) (by omega) (by omega),ih k _ (i+1) (by omega) (by omega) (by omega) (by omega),List.drop_eq_getElem_cons hlt,List.take_succ_cons,List.foldl_cons,show (a+(i+1)).toNat=(a+i).toNat+1 by omega]
    unfold rd
    rw [List.getD_eq_getElem?_getD,List.getElem?_eq_getElem hlt];rfl
theorem lT (p:List Int) (k s:Int) (h0:0≤k) (h1:k<2 ^ 62) (hl:p.length<2 ^ 62) (hs:s=1∨s=2∨s=4):rdP p (IntKind.u64.wrap k) s=((rdG p k s).1,okF (rdG p k s).2):=by
  have hk:IntKind.u64.wrap k=k:=by rw [IntKind.wrap_u64];omega
  have hL:IntKind.u64.wrap (p.length:Int)=p.length:=by rw [IntKind.wrap_u64];omega
  unfold rdP bM.f
  rw [hk,hL,w64 (n:=k) (by omega) (by omega)]
  by_cases hb:k>(p.length:Int)
  · rw [if_pos hb]
    have:rdG p k s=(0,false):=by unfold rdG;rw [if_neg (by omega)]
    rw [this];rfl
  rw [if_neg hb]
  have hin:bX.f (p.length:Int) k s=some (decide (k+s≤p.length)):=by
    unfold bX.f
    rw [if_pos h0,if_pos (by omega)]
    by_cases h2:s≤(p.length:Int)
    · rw [if_pos h2,w64 (n:=(p.length:Int) - s) (by omega) (by omega)]
      exact congrArg some (decide_eq_decide.2 (by omega))
    · rw [if_neg h2,decide_eq_false (by omega)]
  have hget:aC.f 10 p k s=some (rdG p k s):=by
    have hj:aC.j0 10 p k s (!decide (k+s≤(p.length:Int)))=some (rdG p k s):=by
      rw [aC.j0]
      unfold rdG
      by_cases h:k+s≤(p.length:Int)
      · rw [decide_eq_true h,if_pos h,if_neg (by decide),um p k s h0 h (by omega) hl (s - 0).toNat 9 0 0 rfl (by omega) (by omega) (by omega)]
        unfold be4
        rw [List.drop_take,show (k+0).toNat=k.toNat by omega,show (k+s).toNat - k.toNat=(s - 0).toNat by omega]
      · rw [decide_eq_false h,if_neg h];rfl
    unfold aC.f
    rw [hin]
    rcases hs with rfl | rfl | rfl
    · exact hj
    · exact hj
    · exact hj
  rw [hget]
  cases h:(rdG p k s).2
  · have:(rdG p k s).1=0:=by
      unfold rdG at h ⊢
      split
      · rename_i hc;rw [if_pos hc] at h;cases h
      · rfl
    show (if (rdG p k s).2=true then some ((rdG p k s).1,(0:Int)) else some ((0:Int),(1:Int))).getD (0,0)=_
    rw [h,this];rfl
  · show (if (rdG p k s).2=true then some ((rdG p k s).1,(0:Int)) else some ((0:Int),(1:Int))).getD (0,0)=_
    rw [h];rfl
theorem sj (c a b:Int) (ha:Rg a) (hb:Rg b):eH.f c a b=some ((opP c a b).1,decide ((opP c a b).2=0))∧((opP c a b).2=0∨(opP c a b).2=2):=by
  have hs1:bu.f a b true=some (shl .u32 a b):=by
    unfold bu.f
    by_cases h:b>31
    · rw [if_pos h]
      unfold shl
      rw [show min b.toNat IntKind.u32.bits=32 from by show min b.toNat 32=32;omega,IntKind.wrap_u32]
      exact congrArg some (by omega)
    · rw [if_neg h,if_pos rfl,if_pos hb.1]
  have hs2:bu.f a b false=some (shr .u32 a b):=by
    unfold bu.f
    by_cases h:b>31
    · rw [if_pos h]
      unfold shr
      rw [show min b.toNat IntKind.u32.bits=32 from by show min b.toNat 32=32;omega]
      exact congrArg some (by have:=ha.1;have:=ha.2;omega)
    · rw [if_neg h,if_neg (by decide),if_pos hb.1]
  unfold opP eH.f bG.f
  rw [hs1,hs2]
  generalize Go.bits .andNot .u16 c 8=d
  by_cases c1:d=4
  · rw [if_pos c1,if_pos c1];exact ⟨rfl,.inl rfl⟩
  rw [if_neg c1,if_neg c1]
  by_cases c2:d=20
  · rw [if_pos c2,if_pos c2];exact ⟨rfl,.inl rfl⟩
  rw [if_neg c2,if_neg c2]
  by_cases c3:d=36
  · rw [if_pos c3,if_pos c3];exact ⟨rfl,.inl rfl⟩
  rw [if_neg c3,if_neg c3]
  by_cases c4:d=68
  · rw [if_pos c4,if_pos c4];exact ⟨rfl,.inl rfl⟩
  rw [if_neg c4,if_neg c4]
  by_cases c5:d=84
  · rw [if_pos c5,if_pos c5];exact ⟨rfl,.inl rfl⟩
  rw [if_neg c5,if_neg c5]
  by_cases c6:d=164
  · rw [if_pos c6,if_pos c6];exact ⟨rfl,.inl rfl⟩
  rw [if_neg c6,if_neg c6]
  by_cases c7:d=100
  · rw [if_pos c7,if_pos c7,if_pos hb.1];exact ⟨rfl,.inl rfl⟩
  rw [if_neg c7,if_neg c7]
  by_cases c8:d=116
  · rw [if_pos c8,if_pos c8,if_pos hb.1];exact ⟨rfl,.inl rfl⟩
  rw [if_neg c8,if_neg c8]
  by_cases c9:b=0
  · rw [if_pos c9,if_pos c9];exact ⟨rfl,.inr rfl⟩
  rw [if_neg c9,if_neg c9]
  by_cases ca:d=52
  · rw [if_pos ca,if_pos ca];exact ⟨rfl,.inl rfl⟩
  rw [if_neg ca,if_neg ca];exact ⟨rfl,.inl rfl⟩
def GP (w:World) (gm T:Nat) (M:bn) (i:S45) (pk:List Int) (P:Value) (R:List Value):Ending→World→Prop:=fun e w'=>e = .returned (.tuple #[])∧Kp (fun k=>k=gm) w w'∧∃ M1,PM w' gm T M1 P (cK i pk M).2 R∧((cK i pk M).2=0→M1=(cK i pk M).1)
theorem ig {w:World} {gm T:Nat} {M M1:bn} {i:S45} {pk:List Int} {P:Value} {R:List Value} {e:Ending} {w':World} {f:Int} (h:SP w gm T M1 P f R e w') (hf:(cK i pk M).2=f) (hm:f=0→M1=(cK i pk M).1):GP w gm T M i pk P R e w':=
  ⟨h.1,h.2.2,M1,by rw [hf];exact h.2.1,fun h0=>hm (by rw [←hf];exact h0)⟩
theorem j6 {w:World} {gm T:Nat} {M:bn} {i:S45} {pk:List Int} {P:Value} {R:List Value} {e:Ending} {w':World} {r:Int × Bool} (h:SP w gm T (ldA M r) P (okF r.2) R e w') (hq:cK i pk M=({M with a:=r.1},okF r.2)):GP w gm T M i pk P R e w':=
  ig h (by rw [hq]) (fun h0=>by
    rw [hq]
    obtain ⟨v,ok⟩:=r
    cases ok
    · cases h0
    · rfl)
def sW (fk:Nat) (i:S45):Prop:=∀ (w:World) (gm T:Nat) (M:bn) (p:List Int) (A:Option Addr) (c:Nat) (R:List Value),PM w gm T M (.slice A p.length c) 0 R→Kd.C (Kd.int .u8) w A p.length p→p.length≤c→p.length<2 ^ 62→MB M →
  Calls Try.prog fk #[.pointer (some ⟨gm,0,none⟩),.agg #[.int .u16 i.f0,.int .u8 i.f1,.int .u8 i.f2,.int .u32 i.f3]] w (GP w gm T M i p (.slice A p.length c) R)
structure sK (f:Nat):Prop where
  ok:∃ fn,Try.prog.funcs[f]?=some fn∧(fn.name == "runtime.NumGoroutine")=false∧fn.body.isSome=true
theorem fn_ok:sK 119∧∀ p∈tbB,sK p.2:=by
  refine ⟨⟨_,Try.func119,by kernel_rfl,rfl⟩,fun p hp=>?_⟩
  simp only [tbB,List.mem_cons,List.not_mem_nil,or_false] at hp
  rcases hp with rfl | rfl | rfl | rfl | rfl | rfl | rfl | rfl | rfl | rfl | rfl | rfl | rfl | rfl | rfl | rfl | rfl | rfl
  · exact ⟨_,Try.func101,by kernel_rfl,rfl⟩
  · exact ⟨_,Try.func102,by kernel_rfl,rfl⟩
  · exact ⟨_,Try.func103,by kernel_rfl,rfl⟩
  · exact ⟨_,Try.func104,by kernel_rfl,rfl⟩
  · exact ⟨_,Try.func105,by kernel_rfl,rfl⟩
  · exact ⟨_,Try.func106,by kernel_rfl,rfl⟩
  · exact ⟨_,Try.func107,by kernel_rfl,rfl⟩
  · exact ⟨_,Try.func108,by kernel_rfl,rfl⟩
  · exact ⟨_,Try.func109,by kernel_rfl,rfl⟩
  · exact ⟨_,Try.func110,by kernel_rfl,rfl⟩
  · exact ⟨_,Try.func111,by kernel_rfl,rfl⟩
  · exact ⟨_,Try.func112,by kernel_rfl,rfl⟩
  · exact ⟨_,Try.func113,by kernel_rfl,rfl⟩
  · exact ⟨_,Try.func114,by kernel_rfl,rfl⟩
  · exact ⟨_,Try.func115,by kernel_rfl,rfl⟩
  · exact ⟨_,Try.func116,by kernel_rfl,rfl⟩
  · exact ⟨_,Try.func117,by kernel_rfl,rfl⟩
  · exact ⟨_,Try.func118,by kernel_rfl,rfl⟩
theorem vH (c i1 i2 k:Int) (hc:c∈ou∨c∈mi) (hk:Rg k):sW 119 ⟨c,i1,i2,k⟩:=by
  intro w gm T M p A c0 R h hP hcc hl hM
  have hbx:byX c=(Go.bits .and .u16 c 8 != 0):=by
    have H:∀ x∈ou++mi,byX x=(Go.bits .and .u16 x 8 != 0):=by decide +kernel
    exact H c (List.mem_append.2 hc)
  have hst:=stepA c i1 i2 k hc p M
  rw [hbx] at hst
  have hy:Rg (if (Go.bits .and .u16 c 8 != 0)=true then M.x else k):=by split;exact hM.x;exact hk
  obtain ⟨h1,h2⟩:=sj c M.a _ hM.a hy
  refine (g_alu w gm T M c i1 i2 k _ _ _ R h h1).mono (fun e w' hh=>ig hh ?_ ?_)
  · rw [hst]
    dsimp only
    rcases h2 with h2 | h2
    · rw [h2];rfl
    · rw [h2];rfl
  · rw [hst]
    dsimp only
    rcases h2 with h2 | h2
    · rw [h2];exact fun _=>rfl
    · rw [h2];intro h;cases h
theorem vK (i:S45) (arr:Array Value) (hT:TB arr 10) (hs:stB i.f0 i.f3=true) (hk:Rg i.f3):∃ fk,arr[i.f0.toNat]?=some (fnV fk)∧sK fk∧sW fk i∧0≤i.f0∧i.f0<256:=by
  obtain ⟨c,i1,i2,k⟩:=i
  obtain ⟨hm,h16,-,-⟩:=st_mem hs
  dsimp only at hs hk hm h16 ⊢
  have hrg:0≤c∧c<256:=by
    have H:∀ x∈stL,0≤x∧x<256:=by decide
    exact H c hm
  suffices hh:∃ fk,arr[c.toNat]?=some (fnV fk)∧sK fk∧sW fk ⟨c,i1,i2,k⟩ by
    obtain ⟨fk,h1,h2,h3⟩:=hh
    exact ⟨fk,h1,h2,h3,hrg⟩
  by_cases ha:c∈ou∨c∈mi
  · refine ⟨_,?_,fn_ok.1,vH c i1 i2 k ha hk⟩
    have H:∀ x∈ou++mi,∃ j<10,x.toNat=tbC.getD j 0∨x.toNat=tbC.getD j 0+8:=by decide
    obtain ⟨j,hj,e⟩:=H c (List.mem_append.2 ha)
    rcases e with e | e
    · rw [e];exact (hT.alu j hj).1
    · rw [e];exact (hT.alu j hj).2
  have hk1:k<4294967296:=hk.2
  have hx:∀ M:bn,MB M→0≤M.x∧M.x<4294967296:=fun M h=>h.x
  have hb:∀ n fk,(n,fk)∈tbB→arr[n]?=some (fnV fk):=fun n fk h=>hT.base _ h
  have ho:∀ n fk,(n,fk)∈tbB→sK fk:=fun n fk h=>fn_ok.2 _ h
  have hix:∀ {q:Int},q<16→0≤q→ix q=q.toNat:=fun h1 h0=>ix_id h0 h1
  have hu:∀ (M:bn),MB M→IntKind.u64.wrap (IntKind.u64.wrap k+IntKind.u64.wrap M.x)=IntKind.u64.wrap (M.x+k):=fun M h=>by
    have:=hx M h;have:=hk.1
    simp only [IntKind.wrap_u64];omega
  simp only [stL,List.mem_cons,List.not_mem_nil,or_false] at hm
  rcases hm with rfl | rfl | rfl | rfl | rfl | rfl | rfl | rfl | rfl | rfl | rfl | rfl | rfl | rfl | rfl | rfl | rfl | rfl | hm
  · exact ⟨_,hb 0 _ (by decide),ho 0 _ (by decide),fun w gm T M p A c0 R h hP hcc hl hM=>(g_ldImm w gm T M 0 i1 i2 k p A c0 R h).mono (fun e w' hh=>ig hh rfl (fun _=>rfl))⟩
  · exact ⟨_,hb 32 _ (by decide),ho 32 _ (by decide),fun w gm T M p A c0 R h hP hcc hl hM=>(tY w gm T M 32 i1 i2 k p A c0 R h hP hcc hl hk.1 hk1).mono (fun e w' hh=>j6 hh (by show ({M with a:=(rdP p (IntKind.u64.wrap k) 4).1},(rdP p (IntKind.u64.wrap k) 4).2)=_;rw [lT p k 4 hk.1 (by omega) hl (by decide)]))⟩
  · exact ⟨_,hb 40 _ (by decide),ho 40 _ (by decide),fun w gm T M p A c0 R h hP hcc hl hM=>(tV w gm T M 40 i1 i2 k p A c0 R h hP hcc hl hk.1 hk1).mono (fun e w' hh=>j6 hh (by show ({M with a:=(rdP p (IntKind.u64.wrap k) 2).1},(rdP p (IntKind.u64.wrap k) 2).2)=_;rw [lT p k 2 hk.1 (by omega) hl (by decide)]))⟩
  · exact ⟨_,hb 48 _ (by decide),ho 48 _ (by decide),fun w gm T M p A c0 R h hP hcc hl hM=>(tT w gm T M 48 i1 i2 k p A c0 R h hP hcc hl hk.1 hk1).mono (fun e w' hh=>j6 hh (by show ({M with a:=(rdP p (IntKind.u64.wrap k) 1).1},(rdP p (IntKind.u64.wrap k) 1).2)=_;rw [lT p k 1 hk.1 (by omega) hl (by decide)]))⟩
  · exact ⟨_,hb 64 _ (by decide),ho 64 _ (by decide),fun w gm T M p A c0 R h hP hcc hl hM=>(ug w gm T M 64 i1 i2 k p A c0 R h hP hcc hl hk.1 hk1 (hx M hM).1 (hx M hM).2).mono (fun e w' hh=>j6 hh (by show ({M with a:=(rdP p (IntKind.u64.wrap (IntKind.u64.wrap k+IntKind.u64.wrap M.x)) 4).1},(rdP p (IntKind.u64.wrap (IntKind.u64.wrap k+IntKind.u64.wrap M.x)) 4).2)=_;rw [hu M hM,lT p (M.x+k) 4 (by have:=hx M hM;have:=hk.1;omega) (by have:=hx M hM;omega) hl (by decide)]))⟩
  · exact ⟨_,hb 72 _ (by decide),ho 72 _ (by decide),fun w gm T M p A c0 R h hP hcc hl hM=>(uf w gm T M 72 i1 i2 k p A c0 R h hP hcc hl hk.1 hk1 (hx M hM).1 (hx M hM).2).mono (fun e w' hh=>j6 hh (by show ({M with a:=(rdP p (IntKind.u64.wrap (IntKind.u64.wrap k+IntKind.u64.wrap M.x)) 2).1},(rdP p (IntKind.u64.wrap (IntKind.u64.wrap k+IntKind.u64.wrap M.x)) 2).2)=_;rw [hu M hM,lT p (M.x+k) 2 (by have:=hx M hM;have:=hk.1;omega) (by have:=hx M hM;omega) hl (by decide)]))⟩
  · exact ⟨_,hb 80 _ (by decide),ho 80 _ (by decide),fun w gm T M p A c0 R h hP hcc hl hM=>(tZ w gm T M 80 i1 i2 k p A c0 R h hP hcc hl hk.1 hk1 (hx M hM).1 (hx M hM).2).mono (fun e w' hh=>j6 hh (by show ({M with a:=(rdP p (IntKind.u64.wrap (IntKind.u64.wrap k+IntKind.u64.wrap M.x)) 1).1},(rdP p (IntKind.u64.wrap (IntKind.u64.wrap k+IntKind.u64.wrap M.x)) 1).2)=_;rw [hu M hM,lT p (M.x+k) 1 (by have:=hx M hM;have:=hk.1;omega) (by have:=hx M hM;omega) hl (by decide)]))⟩
  · exact ⟨_,hb 96 _ (by decide),ho 96 _ (by decide),fun w gm T M p A c0 R h hP hcc hl hM=>(g_ldMem w gm T M 96 i1 i2 k _ p A c0 R h rfl hk.1 (h16 (by omega))).mono (fun e w' hh=>ig hh rfl (fun _=>by show _=({M with a:=M.m.getD (ix k) 0}:bn);rw [hix (h16 (by omega)) hk.1]))⟩
  · exact ⟨_,hb 128 _ (by decide),ho 128 _ (by decide),fun w gm T M p A c0 R h hP hcc hl hM=>(g_ldLen w gm T M 128 i1 i2 k p A c0 R h).mono (fun e w' hh=>ig hh rfl (fun _=>by show _=({M with a:=IntKind.u32.wrap (p.length:Int)}:bn);rw [IntKind.wrap_u32]))⟩
  · exact ⟨_,hb 1 _ (by decide),ho 1 _ (by decide),fun w gm T M p A c0 R h hP hcc hl hM=>(uh w gm T M 1 i1 i2 k p A c0 R h).mono (fun e w' hh=>ig hh rfl (fun _=>rfl))⟩
  · exact ⟨_,hb 97 _ (by decide),ho 97 _ (by decide),fun w gm T M p A c0 R h hP hcc hl hM=>(uj w gm T M 97 i1 i2 k _ p A c0 R h rfl hk.1 (h16 (by omega))).mono (fun e w' hh=>ig hh rfl (fun _=>by show _=({M with x:=M.m.getD (ix k) 0}:bn);rw [hix (h16 (by omega)) hk.1]))⟩
  · exact ⟨_,hb 129 _ (by decide),ho 129 _ (by decide),fun w gm T M p A c0 R h hP hcc hl hM=>(ui w gm T M 129 i1 i2 k p A c0 R h).mono (fun e w' hh=>ig hh rfl (fun _=>by show _=({M with x:=IntKind.u32.wrap (p.length:Int)}:bn);rw [IntKind.wrap_u32]))⟩
  · refine ⟨_,hb 177 _ (by decide),ho 177 _ (by decide),fun w gm T M p A c0 R h hP hcc hl hM=>(ul w gm T M 177 i1 i2 k p A c0 R h hP hcc hl hk.1 hk1).mono (fun e w' hh=>?_)⟩
    have hq:cK ⟨177,i1,i2,k⟩ p M=({M with x:=IntKind.u32.wrap (4*Go.bits .and .u32 (rdG p k 1).1 15)},okF (rdG p k 1).2):=by
      show ({M with x:=IntKind.u32.wrap (4*Go.bits .and .u32 (rdP p (IntKind.u64.wrap k) 1).1 15)},(rdP p (IntKind.u64.wrap k) 1).2)=_
      rw [lT p k 1 hk.1 (by omega) hl (by decide)]
    refine ig hh (by rw [hq]) (fun h0=>?_)
    rw [hq]
    generalize rdG p k 1=r at *
    obtain ⟨v,ok⟩:=r
    cases ok
    · cases h0
    · show ({M with x:=4*Go.bits .and .u32 v 15 % 4294967296}:bn)={M with x:=IntKind.u32.wrap (4*Go.bits .and .u32 v 15)}
      rw [IntKind.wrap_u32]
  · exact ⟨_,hb 2 _ (by decide),ho 2 _ (by decide),fun w gm T M p A c0 R h hP hcc hl hM=>(g_st w gm T M 2 i1 i2 k _ p A c0 R h rfl hk.1 (h16 (by omega))).mono (fun e w' hh=>ig hh rfl (fun _=>by show _=({M with m:=M.m.set (ix k) M.a}:bn);rw [hix (h16 (by omega)) hk.1]))⟩
  · exact ⟨_,hb 3 _ (by decide),ho 3 _ (by decide),fun w gm T M p A c0 R h hP hcc hl hM=>(g_stx w gm T M 3 i1 i2 k _ p A c0 R h rfl hk.1 (h16 (by omega))).mono (fun e w' hh=>ig hh rfl (fun _=>by show _=({M with m:=M.m.set (ix k) M.x}:bn);rw [hix (h16 (by omega)) hk.1]))⟩
  · exact ⟨_,hb 132 _ (by decide),ho 132 _ (by decide),fun w gm T M p A c0 R h hP hcc hl hM=>(g_neg w gm T M 132 i1 i2 k p A c0 R h).mono (fun e w' hh=>ig hh rfl (fun _=>by show _=({M with a:=IntKind.u32.wrap (-M.a)}:bn);rw [IntKind.wrap_u32]))⟩
  · exact ⟨_,hb 7 _ (by decide),ho 7 _ (by decide),fun w gm T M p A c0 R h hP hcc hl hM=>(g_tax w gm T M 7 i1 i2 k p A c0 R h).mono (fun e w' hh=>ig hh rfl (fun _=>rfl))⟩
  · exact ⟨_,hb 135 _ (by decide),ho 135 _ (by decide),fun w gm T M p A c0 R h hP hcc hl hM=>(g_txa w gm T M 135 i1 i2 k p A c0 R h).mono (fun e w' hh=>ig hh rfl (fun _=>rfl))⟩
  · exact absurd (by rcases hm with h | h | h | h | h | h | h | h | h | h | h | h | h | h | h | h | h | h | h | h<;>subst h<;>decide) ha
theorem j4 {P:Program} {ops:Array Oper} {Q:Exit→Act→World→Prop} {oi:Oper} {N:Option Tmp} {a:Act} {w:World} {K:Act→World→Prop} {f:FuncId} {fn:Func} {az:Array Operand} {ts:Array TypeId} (t:Tmp) (hf:P.funcs[f]?=some fn) (hname:(fn.name == "runtime.NumGoroutine")=false) (hb:fn.body.isSome=true) (args:Array Value)
    (hw:Region.wanted oi (yielded ops a.tmps)=true) (hN:oi.dst=N) (hop:oi.op = .call {callee := .value (.tmp t),args:=az,argTypes:=ts}) (hv:a.eval (.tmp t) = .func (.func f) #[] #[]) (hargs:az.map a.eval=args)
    (h:Calls P f args w fun e w'=>∃ v,e = .returned v∧K (a.put N v) w'):if Region.wanted oi (yielded ops a.tmps)=true then Oper.wp P oi a w K Q else K (a.put N undef) w:=by
  refine call_ f args hw hN ?_ h
  have he:=qW hf hname hb args w
  unfold execOp
  simp [hop,resolve,Deferred.ofValue,invoke,hv,hargs,he]
structure RR (w0 w:World) (gr gd:Nat) (arr:Array Value) (M:bn) (P:Value) (f s v:Int):Prop where
  m:PM w gr 106 M P f [.int .i64 s,.int .u32 v]
  t:w.heap[gd]?=some (.cells arr 143 (0,0))
  low:Below w0.heap.size w0 w
  gr:w0.heap.size≤gr
section
variable {w0 w w1:World} {gr gd:Nat} {arr:Array Value} {M M1:bn} {P:Value} {f f1 s s1 v v1:Int}
theorem RR.below (h:RR w0 w gr gd arr M P f s v) (hb:Below w.heap.size w w1):RR w0 w1 gr gd arr M P f s v:=⟨h.m.below hb,au h.t hb,ak h.low hb,h.gr⟩
theorem RR.kp (h:RR w0 w gr gd arr M P f s v) (hk:Kp (fun k=>k=gr) w w1) (hm:PM w1 gr 106 M1 P f1 [.int .i64 s1,.int .u32 v1]):RR w0 w1 gr gd arr M1 P f1 s1 v1:=
  ⟨hm,(hk.block gd (aZ h.t) (lH h.t h.m.me (by decide))).trans h.t,hk.il h.low h.low.size (fun k e=>e ▸ h.gr),h.gr⟩
end
structure SR (w0 w wr:World) (gr gd:Nat) (arr:Array Value) (pk:List Int) (P:Value) (c:List S45) (M:bn) (s0 v:Int) (M2:bn) (f s:Int) (j:Nat):Prop where
  r:RR w0 wr gr gd arr M2 P f s v
  k:Kp (fun k=>k=gr) w wr
  go:f=0→dA pk (c.drop j) M2 s=dA pk c M s0∧MB M2
  no:f≠0→(dA pk c M s0).2=(s,f)
theorem kY (w0 w:World) (gr gd:Nat) (arr:Array Value) (M:bn) (s0 v:Int) (c:List S45) (A:Option Addr) (cap:Nat) (pk:List Int) (Ap:Option Addr) (cp:Nat) (hT:TB arr 10) (hR:RR w0 w gr gd arr M (.slice Ap pk.length cp) 0 s0 v) (hM:MB M)
    (hC:Kd.C k45 w0 A c.length c) (hcl:c.length≤4096) (hP:Kd.C (Kd.int .u8) w0 Ap pk.length pk) (hcp:pk.length≤cp) (hpl:pk.length<2 ^ 62) (hst:∀ i∈c,stB i.f0 i.f3=true∧Rg i.f3) :
    Calls Try.prog 70 #[.pointer (some ⟨gr,0,none⟩),.slice A c.length cap,.pointer (some ⟨gd,0,none⟩)] w fun e w'=>e = .returned (.tuple #[])∧Kp (fun k=>k=gr) w w'∧∃ M1,RR w0 w' gr gd arr M1 (.slice Ap pk.length cp) (dA pk c M s0).2.2 (dA pk c M s0).2.1 v∧((dA pk c M s0).2.2=0→M1=(dA pk c M s0).1∧MB M1):=by
  have HS0:aa (SR w0 w w gr gd arr pk (.slice Ap pk.length cp) c M s0 v M 0 s0 0):=⟨⟨hR,Kp.refl _ _,fun _=>⟨rfl,hM⟩,fun h=>absurd rfl h⟩⟩
  have HC:=aa.mk hC
  have HPK:=aa.mk (And.intro hP (And.intro hcp hpl))
  have HST:=aa.mk hst
  have HT:=aa.mk hT
  clear hT hR hM hC hP hcp hpl hst
  go_enter Try.func70,Try.ntmps70
  go_wp2
  go_loopw [10] (fun v10 wr=>∃ (j:Nat) (M2:bn) (f s:Int),j≤c.length∧v10 = .int .i64 j∧aa (SR w0 w wr gr gd arr pk (.slice Ap pk.length cp) c M s0 v M2 f s j)) (fun v10 _=>c.length - (intOf v10).toNat)
  case atStart=>exact ⟨0,M,0,s0,Nat.zero_le _,rfl,HS0⟩
  case round=>
    clear HS0
    obtain ⟨j,M2,f,s,hj,rfl,HS⟩:=hrel
    obtain ⟨X,rfl⟩:∃ X:World,X=wr:=⟨_,rfl⟩
    by_cases hlt:j<c.length
    · obtain ⟨i,hi⟩:∃ i,c[j]?=some i:=⟨_,List.getElem?_eq_getElem hlt⟩
      have hrd:bg c (j:Int)=i:=by
        obtain ⟨h1,h2⟩:=List.getElem?_eq_some_iff.1 hi
        rw [fV h1,h2]
      have hdr:c.drop j=i :: c.drop (j+1):=by
        obtain ⟨h1,h2⟩:=List.getElem?_eq_some_iff.1 hi
        rw [List.drop_eq_getElem_cons h1,h2]
      have i0:(0:Int)≤(j:Int):=by omega
      have j1:(j:Int)<(c.length:Int):=by omega
      have HB:aa (Below w0.heap.size w0 X):=⟨HS.out.r.low⟩
      obtain ⟨ad,rfl,x0,x1,x2,x3,-,-⟩:=fK HC HB (j:Int) (decide_eq_true i0) (decide_eq_true j1)
      rw [hrd,Int.toNat_natCast] at x0 x1 x2 x3
      obtain ⟨fk,hfk,hok,hsc,hc0,hc1⟩:=vK i arr HT.out (HST.out i (List.mem_of_getElem? hi)).1 (HST.out i (List.mem_of_getElem? hi)).2
      have HFN:=aa.mk hok
      have HD:=aa.mk (And.intro hdr (HST.out i (List.mem_of_getElem? hi)).2)
      obtain ⟨cc,i1,i2,k⟩:=i
      dsimp only at x0 x1 x2 x3 hfk hc0 hc1
      have HFK:=aa.mk hfk
      have HSG:=aa.mk hsc
      clear hi hrd hdr hfk hok hsc
      have cf:=(ag HS.out.r.m.me 19).trans (oO M2 _ _ _ HS.out.r.m.len)
      go_upto_region 3 with (fail)
      refine forget (fun Y=>∃ gi,gi=X.heap.size∧Below X.heap.size X Y∧BX Y gi gr 106 cc i1 i2 k (cB M2 (.slice Ap pk.length cp) f [.int .i64 s,.int .u32 v])) ⟨_,rfl,ai (Below.refl _ _) _,heap_alloc_new _ _,(HS.out.r.m.below (ai (Below.refl _ _) _)).me⟩ ?_
      clear x0 x1 x2 x3 HB cf
      rintro Y ⟨gi,egi,hb,hx⟩
      rw [←egi]
      have HG:=aa.mk (show gr≠gi by have:=aZ HS.out.r.m.me;omega)
      have HR:=aa.mk (And.intro (HS.out.r.below hb) (And.intro (HS.out.k.below hb) hx.ci))
      have cf:=(ag (HS.out.r.below hb).m.me 19).trans (oO M2 _ _ _ HS.out.r.m.len)
      have cs:=(ag (HS.out.r.below hb).m.me 20).trans (jM M2 _ _ _ HS.out.r.m.len 0)
      have fs:=aj (HS.out.r.below hb).m.me 20
      dsimp only [List.getElem?_cons_zero] at cs
      clear egi hb hx
      by_cases hf:f=0
      · subst hf
        go_upto_region 5 with (fail)
        refine forget (fun Z=>BX Z gi gr 106 cc i1 i2 k (cB M2 (.slice Ap pk.length cp) 0 [.int .i64 (wrap64 (s+1)),.int .u32 v])∧RR w0 Z gr gd arr M2 (.slice Ap pk.length cp) 0 (wrap64 (s+1)) v∧Kp (fun k=>k=gr) w Z)
          ⟨⟨bQ HR.out.2.2 (by exact HG.out.symm) _,(HR.out.1.m.o8 0 (.int .i64 (wrap64 (s+1)))).me⟩,HR.out.1.kp (Kp.set (S:=fun k=>k=gr) (g:=gr) (Kp.refl _ Y) (.inl rfl) 20 _) (HR.out.1.m.o8 0 (.int .i64 (wrap64 (s+1)))),Kp.set (S:=fun k=>k=gr) (g:=gr) HR.out.2.1 (.inl rfl) 20 _⟩ ?_
        clear cf cs fs HR
        rintro Z ⟨hx,hr,hk⟩
        have HX:=aa.mk hx
        have HXM:=aa.mk hr.m
        have HXB:=aa.mk hr.low
        have HZ:=aa.mk (And.intro hr hk)
        have hfn:Z.cell? ⟨gd,cc.toNat,none⟩=some (.func (.func fk) #[] #[]):=(ag hr.t cc.toNat).trans HFK.out
        have HGO:=aa.mk (HS.out.go rfl)
        have HSC:=aa.mk (fun (W:World) (h1:PM W gr 106 M2 (.slice Ap pk.length cp) 0 [.int .i64 (wrap64 (s+1)),.int .u32 v]) (h2:Below w0.heap.size w0 W)=>HSG.out W gr 106 M2 pk Ap cp _ h1 (Kd.bJ HPK.out.1 h2) HPK.out.2.1 HPK.out.2.2 HGO.out.2)
        clear hx hr hk HSG HFK
        refine dR (n:=11) (S:=fun w'=>w'.cell? ⟨gi,0,none⟩=some (.int .u16 cc)∧w'.cell? ⟨gi,1,none⟩=some (.int .u8 i1)∧w'.cell? ⟨gi,2,none⟩=some (.int .u8 i2)∧w'.cell? ⟨gi,3,none⟩=some (.int .u32 k)∧w'.cell? ⟨gd,cc.toNat,none⟩=some (.func (.func fk) #[] #[])) (ds:=[10]) #[false,false,false,false,false,false,false,false,false,false,false] (by kernel_rfl) rfl rfl ⟨(HX.out.below (by repeat (first | (with_reducible exact Below.refl _ _) | apply af | apply ae))).k0,(HX.out.below (by repeat (first | (with_reducible exact Below.refl _ _) | apply af | apply ae))).k1,(HX.out.below (by repeat (first | (with_reducible exact Below.refl _ _) | apply af | apply ae))).k2,(HX.out.below (by repeat (first | (with_reducible exact Below.refl _ _) | apply af | apply ae))).k3,(aI (by repeat (first | (with_reducible exact Below.refl _ _) | apply af | apply ae)) hfn)⟩ (fun hHeld=>?_)
        refine aH (i:=0) (N:=some 27) (v:=?_) (a':=?_) #[true,false,false,false,false,false,false,false,false,false,false] rfl rfl (by kernel_rfl) (fun _ _ _ h=>h) (Or.inl ⟨by rfl,?_⟩) ?_ ?_
        rotate_left
        · intro w'
          go_simp
          with_reducible rfl
        rotate_left
        · simp only [Act.put,List.setIfInBounds_toArray,List.set_cons_zero,List.set_cons_succ,ax,ay]
          rfl
        refine aH (i:=1) (N:=some 28) (v:=?_) (a':=?_) #[true,true,false,false,false,false,false,false,false,false,false] rfl rfl (by kernel_rfl) (fun _ _ _ h=>h) (Or.inl ⟨by rfl,?_⟩) ?_ ?_
        rotate_left
        · intro w'
          go_simp
          with_reducible rfl
        rotate_left
        · simp only [Act.put,List.setIfInBounds_toArray,List.set_cons_zero,List.set_cons_succ,ax,ay]
          rfl
        refine aH (i:=3) (N:=some 30) (v:=?_) (a':=?_) #[true,true,false,true,false,false,false,false,false,false,false] rfl rfl (by kernel_rfl) (fun _ _ _ h=>h) (Or.inl ⟨by rfl,?_⟩) ?_ ?_
        rotate_left
        · intro w'
          go_simp
          with_reducible rfl
        rotate_left
        · simp only [Act.put,List.setIfInBounds_toArray,List.set_cons_zero,List.set_cons_succ,ax,ay]
          rfl
        refine aH (i:=6) (N:=some 33) (v:=?_) (a':=?_) #[true,true,false,true,false,false,true,false,false,false,false] rfl rfl (by kernel_rfl) (fun _ _ _ h=>h) (Or.inl ⟨by rfl,?_⟩) ?_ ?_
        rotate_left
        · intro w'
          go_simp
          with_reducible rfl
        rotate_left
        · simp only [Act.put,List.setIfInBounds_toArray,List.set_cons_zero,List.set_cons_succ,ax,ay]
          rfl
        refine aH (i:=7) (N:=some 34) (v:=?_) (a':=?_) #[true,true,false,true,false,false,true,true,false,false,false] rfl rfl (by kernel_rfl) (fun _ _ _ h=>h) (Or.inl ⟨by rfl,?_⟩) ?_ ?_
        rotate_left
        · intro w'
          go_simp
          with_reducible rfl
        rotate_left
        · simp only [Act.put,List.setIfInBounds_toArray,List.set_cons_zero,List.set_cons_succ,ax,ay]
          rfl
        refine aH (i:=8) (N:=some 35) (v:=?_) (a':=?_) #[true,true,false,true,false,false,true,true,true,false,false] rfl rfl (by kernel_rfl) (fun _ _ _ h=>h) (Or.inl ⟨by rfl,?_⟩) ?_ ?_
        rotate_left
        · intro w'
          go_simp
          with_reducible rfl
        rotate_left
        · simp only [Act.put,List.setIfInBounds_toArray,List.set_cons_zero,List.set_cons_succ,ax,ay]
          rfl
        refine cu (i:=2) (N:=some 29) (v:=?_) (a':=?_) #[true,true,true,true,false,false,true,true,true,false,false] rfl rfl (by kernel_rfl) (fun _ _ _ h=>h) (Or.inl ⟨by rfl,?_⟩) hHeld ?_ ?_
        rotate_left
        · rintro w' ⟨s0,s1,s2,s3,s4⟩
          go_simp
          with_reducible rfl
        rotate_left
        · simp only [Act.put,List.setIfInBounds_toArray,List.set_cons_zero,List.set_cons_succ,ax,ay]
          rfl
        refine aH (i:=4) (N:=some 31) (v:=?_) (a':=?_) #[true,true,true,true,true,false,true,true,true,false,false] rfl rfl (by kernel_rfl) (fun _ _ _ h=>h) (Or.inl ⟨by rfl,?_⟩) ?_ ?_
        rotate_left
        · intro w'
          go_simp
          with_reducible rfl
        rotate_left
        · simp only [Act.put,List.setIfInBounds_toArray,List.set_cons_zero,List.set_cons_succ,ax,ay]
          rfl
        refine cu (i:=5) (N:=some 32) (v:=?_) (a':=?_) #[true,true,true,true,true,true,true,true,true,false,false] rfl rfl (by kernel_rfl) (fun _ _ _ h=>h) (Or.inl ⟨by rfl,?_⟩) hHeld ?_ ?_
        rotate_left
        · rintro w' ⟨s0,s1,s2,s3,s4⟩
          go_simp
          with_reducible rfl
        rotate_left
        · simp only [Act.put,List.setIfInBounds_toArray,List.set_cons_zero,List.set_cons_succ,ax,ay]
          rfl
        refine cu (i:=9) (N:=some 36) (v:=?_) (a':=?_) #[true,true,true,true,true,true,true,true,true,true,false] rfl rfl (by kernel_rfl) (fun _ _ _ h=>h) (Or.inl ⟨by rfl,?_⟩) hHeld ?_ ?_
        rotate_left
        · rintro w' ⟨s0,s1,s2,s3,s4⟩
          go_simp
          with_reducible rfl
        rotate_left
        · simp only [Act.put,List.setIfInBounds_toArray,List.set_cons_zero,List.set_cons_succ,ax,ay]
          rfl
        refine gL (i:=10) (N:=some 37) #[true,true,true,true,true,true,true,true,true,true,true] rfl rfl (by kernel_rfl) (by decide) (fun K hK=>?_)
        obtain ⟨fn,hf1,hf2,hf3⟩:=HFN.out.ok
        refine j4 32 hf1 hf2 hf3 #[.pointer (some ⟨gr,0,none⟩),.agg #[.int .u16 cc,.int .u8 i1,.int .u8 i2,.int .u32 k]] (by rfl) rfl rfl rfl (by simp only [List.map_toArray,List.map_cons,List.map_nil];rfl) ?_
        refine (HSC.out _ (HXM.out.below (by repeat (first | (with_reducible exact Below.refl _ _) | apply af | apply ae))) (ak HXB.out (by repeat (first | (with_reducible exact Below.refl _ _) | apply af | apply ae)))).mono ?_
        rintro e w3 ⟨rfl,hK,M3,hM3,hM0⟩
        have H3:=aa.mk (And.intro hK (And.intro hM3 hM0))
        clear hK hM3 hM0
        refine ⟨_,rfl,?_⟩
        refine hK.out _ _ ?_
        clear hK K
        refine fe (a':=?_) ?_ ?_
        rotate_left
        · show Act.put _ (some 37) _=_
          simp only [Act.put,List.setIfInBounds_toArray,List.set_cons_zero,List.set_cons_succ,ax,ay]
          rfl
        refine dS (by kernel_rfl) ?_
        have HN:∃ M4 f4,aa (SR w0 w w3 gr gd arr pk (.slice Ap pk.length cp) c M s0 v M4 f4 (wrap64 (s+1)) (j+1)):=by
          have hr4:=(HZ.out.1.below (ae (Below.refl _ _))).kp H3.out.1 H3.out.2.1
          refine ⟨M3,(cK ⟨cc,i1,i2,k⟩ pk M2).2,⟨hr4,(HZ.out.2.below (ae (Below.refl _ _))).trans H3.out.1,fun h0=>?_,fun hn=>?_⟩⟩
          · rw [H3.out.2.2 h0]
            refine ⟨?_,pq _ _ _ HGO.out.2 HD.out.2⟩
            rw [←HGO.out.1,HD.out.1]
            show _=if (cK ⟨cc,i1,i2,k⟩ pk M2).2=0 then _ else _
            rw [if_pos h0]
          · rw [←HGO.out.1,HD.out.1]
            show (if (cK ⟨cc,i1,i2,k⟩ pk M2).2=0 then _ else _:bn × Int × Int).2=_
            rw [if_neg hn]
        obtain ⟨M4,f4,HN⟩:=HN
        clear hfn HX HXM HXB HZ HSC H3 HGO
        go_wp2
        go_roundw
        case rel=>exact ⟨j+1,M4,f4,_,by omega,by go_num,HN⟩
        case measure=>simp [intOf];omega
      · have hfb:(f != 0)=true:=bne_iff_ne.mpr hf
        have HNO:=aa.mk (HS.out.no hf)
        have HF:=aa.mk hf
        clear hf
        go_wp2
        refine bodyPost_ret (results_none (by rfl) _ _ _) rfl ?_
        refine ⟨rfl,HR.out.2.1,M2,?_,fun h0=>?_⟩
        · rw [HNO.out];exact HR.out.1
        · rw [HNO.out] at h0;exact absurd h0 HF.out
    · go_wp2
      go_end0
      have hjl:j=c.length:=by omega
      refine ⟨rfl,HS.out.k,M2,?_⟩
      by_cases hf:f=0
      · subst hf
        obtain ⟨h1,h2⟩:=HS.out.go rfl
        rw [hjl,List.drop_length] at h1
        rw [←h1]
        exact ⟨HS.out.r,fun _=>⟨rfl,h2⟩⟩
      · rw [HS.out.no hf]
        exact ⟨HS.out.r,fun h0=>absurd h0 hf⟩
def neI (a b:S45):Bool:=!(decide (a.f0=b.f0)&&decide (a.f1=b.f1)&&decide (a.f2=b.f2)&&decide (a.f3=b.f3))
def l7:St→List S45→List S45 × St × Bool
 | s,[]=>([],s,false)
 | s,i :: r=>
  if idleF s (mW s i)=true then ((l7 s r).1,(l7 s r).2.1,true)
  else (mW s i :: (l7 (pJ s (mW s i)) r).1,(l7 (pJ s (mW s i)) r).2.1,neI (mW s i) i||(l7 (pJ s (mW s i)) r).2.2)
def tX:List Int:=[29,45,61,77]
def hoK (c a k:Int):Bool:=if c=21 then a==k else if c=37 then decide (a>k) else if c=53 then decide (a≥k) else Go.bits .and .u32 a k != 0
def decF (s:St) (l:S45):Option Bool:=
 if l.f0∈tX then none
 else match gS s 0 with
  | some a=>some (hoK l.f0 a l.f3)
  | none=>if l.f0=53∧l.f3=0 then some true else if (l.f0=37∧l.f3=4294967295)∨(l.f0=69∧l.f3=0) then some false else none
def uD (s:St) (l:S45):S45 × Bool:=
 if l.f0∈tX then (match gS s 1 with | some x=>(⟨l.f0 - 8,0,0,x⟩,true) | none=>(l,false)) else (l,false)
def enF (s:St) (b:S47):S47 × Bool:=
 if b.f1=1∧b.f2.f0=22 then (match gS s 0 with | some a=>(⟨b.f0,b.f1,⟨6,0,0,a⟩,b.f3,b.f4⟩,true) | none=>(b,false))
 else if b.f1≠3 then (b,false)
 else match decF s (uD s b.f2).1 with
  | none=>(⟨b.f0,b.f1,(uD s b.f2).1,b.f3,b.f4⟩,(uD s b.f2).2)
  | some y=>(⟨b.f0,2,⟨0,0,0,0⟩,if y=true then b.f3 else b.f4,0⟩,true)
def mJ (s:St) (b:S47):S47 × St × Bool:=
 ((enF (l7 s b.f0).2.1 ⟨(l7 s b.f0).1,b.f1,b.f2,b.f3,b.f4⟩).1,(l7 s b.f0).2.1,(l7 s b.f0).2.2||(enF (l7 s b.f0).2.1 ⟨(l7 s b.f0).1,b.f1,b.f2,b.f3,b.f4⟩).2)
theorem nL (c jt jf k a x:Int) (b:Bool) (d:Int) (hb:bT.f 10 c=some b) (hd:Go.bits .andNot .u16 c 8=d):hoP ⟨c,jt,jf,k⟩ a x=hoK d a (if b=true then x else k):=by
 have hj:∀ y,(aW.j0 (9+1) a y c jt jf k).getD false=hoK d a y:=by
  intro y
  simp only [aW.j0,hd]
  unfold hoK
  by_cases h1:d=21
  · rw [if_pos h1,if_pos h1];rfl
  rw [if_neg h1,if_neg h1]
  by_cases h2:d=37
  · rw [if_pos h2,if_pos h2];rfl
  rw [if_neg h2,if_neg h2]
  by_cases h3:d=53
  · rw [if_pos h3,if_pos h3];rfl
  rw [if_neg h3,if_neg h3];rfl
 unfold hoP aW.f
 dsimp only
 rw [hb]
 cases b
 · exact hj k
 exact hj x
def metF (s t:St):St:=List.zipWith (fun x y=>if x=y then x else none) s t
abbrev AC:=List St × List Bool
def gosF (A:AC) (tg:Nat) (s:St):AC:=(A.1.set tg (if A.2.getD tg false=true then metF s (A.1.getD tg []) else s),A.2.set tg true)
def yesS (b:S47) (s:St):St:=if b.f2.f0=21 then s.set 0 (some b.f2.f3) else s
def nxF (b:S47) (s:St) (A:AC):AC:=
 if b.f1=2 then gosF A b.f3.toNat s else if b.f1=3 then gosF (gosF A b.f3.toNat (yesS b s)) b.f4.toNat s else A
def fdL:List S47→Nat→AC→List S47 × Bool
 | [],_,_=>([],false)
 | b :: r,n,A=>
  if A.2.getD n false=true then ((mJ (A.1.getD n []) b).1 :: (fdL r (n+1) (nxF (mJ (A.1.getD n []) b).1 (mJ (A.1.getD n []) b).2.1 A)).1,
   (mJ (A.1.getD n []) b).2.2||(fdL r (n+1) (nxF (mJ (A.1.getD n []) b).1 (mJ (A.1.getD n []) b).2.1 A)).2)
  else (b :: (fdL r (n+1) A).1,(fdL r (n+1) A).2)
def foldG (g:List S47):List S47 × Bool:=
 fdL g 0 ((List.replicate g.length (List.replicate 18 none)).set 0 (List.replicate 18 (some 0)),(List.replicate g.length false).set 0 true)
def wrF (i:S45):Nat:=if i.f0=1∨i.f0=97∨i.f0=129∨i.f0=177∨i.f0=7 then 1 else if i.f0=2∨i.f0=3 then 2+i.f3.toNat else 0
def mvF (i:S45):Option (Nat × Nat):=
 if i.f0=96 then some (2+i.f3.toNat,0) else if i.f0=97 then some (2+i.f3.toNat,1) else if i.f0=2 then some (0,2+i.f3.toNat)
 else if i.f0=3 then some (1,2+i.f3.toNat) else if i.f0=7 then some (0,1) else if i.f0=135 then some (1,0) else none
def flL:List Int:=[32,40,48,64,72,80,177,60,156]
def rdB (i:S45) (j:Nat):Bool:=
 (decide (j=0)&&decide (i.f0=2∨i.f0=132∨i.f0∈ou∨i.f0∈mi∨i.f0=7∨jmB i.f0=true∨i.f0=22))
 || (decide (j=1)&&decide (i.f0=64∨i.f0=72∨i.f0=80∨i.f0=3∨i.f0∈mi∨i.f0=135∨i.f0∈tX))
 || (decide (j=2+i.f3.toNat)&&decide (i.f0=96∨i.f0=97))
def cpF:List Int→Int→List S45→List S45 × Bool
 | _,_,[]=>([],false)
 | of,nx,i :: r=>
  match mvF i with
  | some (f,t)=>if of.getD t 0≠of.getD f 0 then (i :: (cpF (of.set t (of.getD f 0)) nx r).1,(cpF (of.set t (of.getD f 0)) nx r).2) else ((cpF of nx r).1,true)
  | none=>(i :: (cpF (of.set (wrF i) (nx+1)) (nx+1) r).1,(cpF (of.set (wrF i) (nx+1)) (nx+1) r).2)
def of18:List Int:=[1,2,3,4,5,6,7,8,9,10,11,12,13,14,15,16,17,18]
def copyB (b:S47):S47 × Bool:=(⟨(cpF of18 18 b.f0).1,b.f1,b.f2,b.f3,b.f4⟩,(cpF of18 18 b.f0).2)
def copyG (g:List S47):List S47 × Bool:=(g.map (fun b=>(copyB b).1),g.any (fun b=>(copyB b).2))
abbrev Lw:=List Bool
def inW (l:Lw) (j:Nat):Bool:=l.getD j false
def rdF (l:Lw) (i:S45):Lw:=(List.range 18).map (fun j=>inW l j||rdB i j)
def noW:Lw:=List.replicate 18 false
def bkF (l:Lw):List S45→List S45 × Lw × Bool
 | []=>([],l,false)
 | i :: r=>
  if inW (bkF l r).2.1 (wrF i)=false∧i.f0 ∉ flL then ((bkF l r).1,(bkF l r).2.1,true)
  else (i :: (bkF l r).1,rdF ((bkF l r).2.1.set (wrF i) false) i,(bkF l r).2.2)
def lvF (b:S47) (y n:Lw):Lw:=
 if b.f1=1 then rdF noW b.f2 else if b.f1=2 then y else rdF ((List.range 18).map (fun j=>inW y j||inW n j)) b.f2
def ddL:List S47→Nat→List S47 × List Lw × Bool
 | [],_=>([],[],false)
 | b :: r,n=>
  let q:=ddL r (n+1)
  let l:=lvF b (q.2.1.getD (b.f3.toNat - (n+1)) noW) (q.2.1.getD (b.f4.toNat - (n+1)) noW)
  (⟨(bkF l b.f0).1,b.f1,b.f2,b.f3,b.f4⟩ :: q.1,(bkF l b.f0).2.1 :: q.2.1,(bkF l b.f0).2.2||q.2.2)
def deadG (g:List S47):List S47 × Bool:=((ddL g 0).1,(ddL g 0).2.2)
def r1 (g:List S47):=foldG g
def r2 (g:List S47):=copyG (r1 g).1
def r3 (g:List S47):=deadG (r2 g).1
theorem size_alloc (w:World) (o:Obj):(w.alloc o).heap.size=w.heap.size+1:=by show (w.heap.push o).size=_;exact Array.size_push ..
theorem new2 (w:World) (o1 o2:Obj):((w.alloc o1).alloc o2).heap[w.heap.size+1]?=some o2:=by
 have:=heap_alloc_new (w.alloc o1) o2
 rwa [size_alloc] at this
def b8 (p:Value × S47):List Value:=[p.1,.int .i64 p.2.f1,.int .u16 p.2.f2.f0,.int .u8 p.2.f2.f1,.int .u8 p.2.f2.f2,.int .u32 p.2.f2.f3,.int .i64 p.2.f3,.int .i64 p.2.f4]
def i4 (i:S45):List Value:=[.int .u16 i.f0,.int .u8 i.f1,.int .u8 i.f2,.int .u32 i.f3]
theorem nM (c:List S45):(c.flatMap i4).length=c.length*4:=by
 induction c with
 | nil=>rfl
 | cons a r ih=>rw [List.flatMap_cons,List.length_append,ih,List.length_cons];show 4+_=_;omega
theorem ut:∀ (c:List S45) (n:Nat) (i:S45),c[n]?=some i→∀ j,j<4→(c.flatMap i4)[n*4+j]?=(i4 i)[j]?:=by
 intro c
 induction c with
 | nil=>intro n p h;simp at h
 | cons a r ih=>
  intro n p h j hj
  rw [List.flatMap_cons]
  have hl:(i4 a).length=4:=rfl
  cases n with
  | zero=>
   cases h
   rw [Nat.zero_mul,Nat.zero_add,List.getElem?_append_left (by omega)]
  | succ n=>
   rw [List.getElem?_append_right (by omega),hl,show (n+1)*4+j - 4=n*4+j by omega]
   exact ih n p h j hj
structure CdA (w:World) (g cap:Nat) (c:List S45) (tl:List Value):Prop where
 blk:w.heap[g]?=some (.cells (c.flatMap i4++tl).toArray 45 (0,0))
 len:c.length≤cap
 max:cap≤maxLen
 size:(c.flatMap i4++tl).length=cap*4
def Cd (w:World) (v:Value) (c:List S45):Prop:=(v = .slice none 0 0∧c=[])∨∃ g cap tl,v = .slice (some ⟨g,0,none⟩) c.length cap∧CdA w g cap c tl
theorem reps_i4 {W:World} {base:Nat} {ok:Nat→Prop}:∀ (c:List S45),dQ (k45.M W base ok) 4 c (c.flatMap i4):=by
 intro c
 refine ⟨nM c,fun j i h=>?_⟩
 have h2:((c.flatMap i4).drop (j*4)).take 4=i4 i:=by
  apply List.ext_getElem?
  intro q
  rw [List.getElem?_take,List.getElem?_drop]
  split
  · rename_i hq;exact ut c j i h q hq
  rename_i hq;exact (List.getElem?_eq_none (by show 4≤q;omega)).symm
 rw [h2]
 exact ik _ _ _ i
theorem i4_reps {W:World} {base:Nat} {ok:Nat→Prop} {c:List S45} {cs:List Value} (h:dQ (k45.M W base ok) 4 c cs):cs=c.flatMap i4:=by
 obtain ⟨h1,h2⟩:=h
 apply List.ext_getElem?
 intro q
 by_cases hq:q<c.length*4
 · have hj:q / 4<c.length:=by omega
   have h3:=h2 (q / 4) c[q / 4] (List.getElem?_eq_getElem hj)
   have h4:=iE (k45.K_of_M h3)
   have e1:cs[q]?=((cs.drop (q / 4*4)).take 4)[q % 4]?:=by
    rw [List.getElem?_take,List.getElem?_drop,if_pos (by omega)];congr 1;omega
   rw [e1,h4]
   have e2:=ut c (q / 4) c[q / 4] (List.getElem?_eq_getElem hj) (q % 4) (by omega)
   rw [show q / 4*4+q % 4=q by omega] at e2
   rw [e2];rfl
 rw [List.getElem?_eq_none (by omega),List.getElem?_eq_none (by rw [nM];omega)]
theorem qQ {w:World} {base:Nat} {ok:Nat→Prop} {v:Value} {c:List S45} (h:k45.R 45 w base ok v c):Cd w v c:=by
 obtain ⟨_,inner,ho,hr⟩:=h
 obtain rfl:=i4_reps hr
 rcases ho.2 with ⟨h1,h2⟩ | ⟨g,cap,cur,h1,_,h3,h4,h5,h6,h7⟩
 · exact .inl ⟨h1,List.eq_nil_of_length_eq_zero h2⟩
 refine .inr ⟨g,cap,cur.toList.drop (c.length*4),h1,?_,h4,h5,?_⟩
 · rw [h3]
   congr 2
   have:=List.take_append_drop (c.length*4) cur.toList
   rw [show cur.toList.take (c.length*4)=c.flatMap i4 from h7] at this
   rw [this]
 have:=List.take_append_drop (c.length*4) cur.toList
 rw [show cur.toList.take (c.length*4)=c.flatMap i4 from h7] at this
 rw [this,Array.length_toList,h6];rfl
theorem nu {w:World} {base:Nat} {ok:Nat→Prop} {v:Value} {c:List S45} (h:Cd w v c) (hb:∀ g,v.ownBlock=some g→base≤g∧ok g):k45.R 45 w base ok v c:=by
 refine ⟨fun k hk=>(hb k hk).2,c.flatMap i4,⟨nM c,?_⟩,reps_i4 c⟩
 rcases h with ⟨h1,rfl⟩ | ⟨g,cap,tl,h1,h2⟩
 · exact .inl ⟨h1,rfl⟩
 refine .inr ⟨g,cap,_,h1,(hb g (by rw [h1];rfl)).1,h2.blk,h2.len,h2.max,?_,?_⟩
 · rw [List.size_toArray,h2.size];rfl
 show (c.flatMap i4++tl).take (c.length*4)=_
 rw [←nM c,List.take_left]
theorem Cd.kp {S:Nat→Prop} {w w1:World} {v:Value} {c:List S45} (h:Cd w v c) (k:Kp S w w1) (hS:∀ g,v.ownBlock=some g→¬S g):Cd w1 v c:=by
 rcases h with h | ⟨g,cap,tl,h1,h2⟩
 · exact .inl h
 exact .inr ⟨g,cap,tl,h1,(k.block g (aZ h2.blk) (hS g (by rw [h1];rfl))).trans h2.blk,h2.len,h2.max,h2.size⟩
theorem new3 (w:World) (o1 o2 o3:Obj):(((w.alloc o1).alloc o2).alloc o3).heap[w.heap.size]?=some o1∧(((w.alloc o1).alloc o2).alloc o3).heap[w.heap.size+1]?=some o2∧(((w.alloc o1).alloc o2).alloc o3).heap[w.heap.size+1+1]?=some o3∧Below w.heap.size w (((w.alloc o1).alloc o2).alloc o3):=by
 have h1:=heap_alloc_new w o1
 have h2:=heap_alloc_new (w.alloc o1) o2
 have h3:=heap_alloc_new ((w.alloc o1).alloc o2) o3
 rw [World.size_alloc] at h2
 rw [World.size_alloc,World.size_alloc] at h3
 refine ⟨?_,?_,h3,ai (ai (ai (Below.refl _ w) _) _) _⟩
 · rw [heap_alloc_old _ _ (by rw [World.size_alloc,World.size_alloc];omega),heap_alloc_old _ _ (by rw [World.size_alloc];omega)];exact h1
 rw [heap_alloc_old _ _ (by rw [World.size_alloc,World.size_alloc];omega)];exact h2
def cellV (w:World) (a:Addr):Value:=(w.cell? a).getD undef
theorem tF {w:World} {a:Addr} {v:Value} (h:w.cell? a=some v):w.cell? a=some (cellV w a):=by unfold cellV;rw [h];rfl
theorem mQ {α:Type} (f:α→List Value) (z:α) (K:Nat) (hf:(f z).length=K) (n:Nat):madeCells (f z).toArray (n*K)=((List.replicate n z).flatMap f).toArray:=by
 apply Array.ext'
 have hl:((List.replicate n z).flatMap f).length=n*K:=by
  induction n with
  | zero=>simp
  | succ n ih=>rw [List.replicate_succ,List.flatMap_cons,List.length_append,ih,hf,Nat.add_mul,Nat.one_mul,Nat.add_comm]
 apply List.ext_getElem
 · rw [Array.length_toList,size_madeCells];exact hl.symm
 intro i h1 h2
 have hi:i<n*K:=by rw [Array.length_toList,size_madeCells] at h1;exact h1
 have hK:0<K:=by
  rcases Nat.eq_zero_or_pos K with h | h
  · rw [h] at hi;omega
  exact h
 have e:∀ (m j:Nat),j<m*K→((List.replicate m z).flatMap f)[j]?=(f z)[j % K]?:=by
  intro m
  induction m with
  | zero=>intro j hj;omega
  | succ m ih=>
   intro j hj
   rw [List.replicate_succ,List.flatMap_cons]
   by_cases hjk:j<K
   · rw [List.getElem?_append_left (by omega),Nat.mod_eq_of_lt hjk]
   rw [List.getElem?_append_right (by omega),hf,ih (j - K) (by rw [Nat.add_mul,Nat.one_mul] at hj;omega),Nat.mod_eq_sub_mod (show j≥K by omega)]
 have e2:=e n i hi
 have hm:i % K<(f z).length:=by rw [hf];exact Nat.mod_lt _ hK
 rw [List.getElem?_eq_getElem (by rw [hl];exact hi),List.getElem?_eq_getElem hm] at e2
 injection e2 with e2
 have e3:((List.replicate n z).flatMap f).toArray.toList[i]=((List.replicate n z).flatMap f)[i]'(by rw [hl];exact hi):=rfl
 rw [e3,e2]
 unfold madeCells
 simp only [Array.toList_map,List.getElem_map,Array.toList_range,List.getElem_range,List.size_toArray,hf]
 rw [getElem!_pos (f z).toArray (i % K) (by rw [List.size_toArray];exact hm)]
 rfl
def boC (l:List Bool):Array Value:=(l.map Value.bool).toArray
theorem info_bo:(Try.prog.info? 4).map (fun i=>(i.zero,i.size,i.bytes))=some (some (.bool false),1,1):=by kernel_rfl
def qH (l:Lw):Array Value:=(l.map Value.bool).toArray
theorem wc_get {l:Lw} {j:Nat} (h:j<l.length):(qH l)[j]?=some (.bool (inW l j)):=by
 unfold qH inW
 rw [List.getElem?_toArray,List.getElem?_map,List.getD_eq_getElem?_getD,List.getElem?_eq_getElem h];rfl
structure RI (w V:World) (gl gi:Nat) (l:Lw) (c i1 i2 k:Int):Prop where
 kp:Kp (fun x=>x=gl) w V
 l:V.heap[gl]?=some (.cells (qH l) 167 (0,0))
 i:V.heap[gi]?=some (.cells #[.int .u16 c,.int .u8 i1,.int .u8 i2,.int .u32 k] 45 (0,0))
 ne:gi≠gl
theorem RI.x {w V:World} {gl gi:Nat} {l:Lw} {c i1 i2 k:Int} (h:RI w V gl gi l c i1 i2 k) (j:Nat) (hj:j<l.length:=by (try simp only [List.length_set]);omega):V.cell? ⟨gl,j,none⟩=some (.bool (inW l j)):=(ag h.l j).trans (wc_get hj)
theorem jV {w:World} {base:Nat} {ok:Nat→Prop} {v:Value} {xs:List S45} (h:k45.R 45 w base ok v xs):∀ g,v.ownBlock=some g→base≤g:=by
 obtain ⟨inner,ho⟩:=Kd.kJ h
 exact fun g hg=>gq ho g hg
theorem info_in:(Try.prog.info? 3).map (fun i=>(i.zero,i.size,i.bytes))=some (some (.int .i64 0),1,8):=by kernel_rfl
def inC (l:List Int):Array Value:=(l.map (Value.int .i64)).toArray
theorem nN {l:List Int} {j:Nat} (h:j<l.length):(inC l)[j]?=some (.int .i64 (l.getD j 0)):=by
 unfold inC
 rw [List.getElem?_toArray,List.getElem?_map,List.getD_eq_getElem?_getD,List.getElem?_eq_getElem h];rfl
theorem inC_set {l:List Int} (j:Nat) (v:Int):(inC l).setIfInBounds j (.int .i64 v)=inC (l.set j v):=by
 unfold inC
 rw [List.setIfInBounds_toArray,←List.map_set]
theorem nE {l:List Bool} {j:Nat} (h:j<l.length):(boC l)[j]?=some (.bool (l.getD j false)):=by
 unfold boC
 rw [List.getElem?_toArray,List.getElem?_map,List.getD_eq_getElem?_getD,List.getElem?_eq_getElem h];rfl
theorem boC_set {l:List Bool} (j:Nat) (v:Bool):(boC l).setIfInBounds j (.bool v)=boC (l.set j v):=by
 unfold boC
 rw [List.setIfInBounds_toArray,←List.map_set]
section
variable {P:Program} {α:Type}
theorem uW (d:Kd α) {Rr:α→List Value→Prop} {W:World} (base:Nat) (t ty e:TypeId) (i0:TypeInfo) (z:Value) (bytes:Nat)
 (ht:P.underlying t=some (.slice e)) (hi:P.info? e=some i0) (hz0:i0.zero=some z) (hz1:i0.size=d.sz) (hz2:i0.bytes=bytes) (hz:z.cells.size=d.sz) (hs0:0<d.sz)
 (v:Value) (xs ys:List α) (A:Option Addr) (m c:Nat) (ok okp:Nat→Prop)
 (HO:d.R e W base ok v xs) (HR:dC Rr d.sz W A m ys) (hKM:∀ x cs,Rr x cs→d.M W base okp x cs) (hokp:∀ k,okp k→ok k∧some k≠v.ownBlock) (hfresh:∀ k,W.heap.size≤k→ok k)
 (hbase:base≤W.heap.size) (hlen:xs.length+m≤140737488355328) (hl:(xs.length+m)*bytes≤140737488355328) :
 ∃ v1 w1,(Builtin.append_ #[t,t] ty #[v,.slice A m c]).run P W = .ok v1 w1∧d.R e w1 base ok v1 (xs++ys)∧W.grownBy w1 v.ownBlock∧(v1.ownBlock=v.ownBlock∨∃ b,v1.ownBlock=some b∧W.heap.size≤b):=by
 have hm:ys.length=m:=HR.1
 obtain ⟨hok,inner,hown,hr⟩:=HO
 rcases A with _ | ad
 · have h0:m=0:=by
    rcases Nat.eq_zero_or_pos m with h0 | h0
    · exact h0
    obtain ⟨ad,h,_⟩:=HR.2.2 h0
    cases h
   subst h0
   obtain rfl:ys=[]:=List.eq_nil_of_length_eq_zero hm
   refine ⟨v,W,?_,by rw [List.append_nil];exact ⟨hok,inner,hown,hr⟩,World.grownBy.refl W _,.inl rfl⟩
   rcases hown.2 with ⟨rfl,hn⟩ | ⟨g,cap,cur,rfl,_,_,hnc,_⟩
   · simp [Builtin.append_,run_underlying ht,sizeOf,typeInfo,hi,Builtin.lenOf,Builtin.firstCells]
   simp [Builtin.append_,run_underlying ht,sizeOf,typeInfo,hi,Builtin.lenOf,Builtin.firstCells,hnc,storeCells]
 obtain ⟨news,hnr,hnc⟩:=dC.uw HR
 have hnM:dQ (d.M W base okp) d.sz ys news:=hnr.gH (fun p c hp=>hKM p c hp)
 have hone:∀ u∈news,u.oneCell'=true:=by
  intro u hu
  obtain ⟨q,hq,rfl⟩:=List.mem_iff_getElem.1 hu
  have hql:q / d.sz<ys.length:=by
   rw [Nat.div_lt_iff_lt_mul hs0]
   rw [←hnM.1]
   exact hq
  have hc:=hnM.2 (q / d.sz) _ (List.getElem?_eq_getElem hql)
  refine d.K_one (d.K_of_M hc) _ ?_
  rw [List.mem_iff_getElem?]
  refine ⟨q % d.sz,?_⟩
  rw [List.getElem?_take,if_pos (Nat.mod_lt _ hs0),List.getElem?_drop,Nat.mul_comm,Nat.div_add_mod,List.getElem?_eq_getElem hq]
 obtain ⟨v1,w1,hrun,h2,hg,_,hat⟩:=run_append_own_at (P:=P) W base t ty e i0 z d.sz bytes ht hi hz0 hz1 hz2 hz hs0 v xs.length inner hown ad m c news (by rw [hnM.1,hm]) hnc hone (by simp only [maxLen];omega) hl hbase
 have hat':v1.ownBlock=v.ownBlock∨∃ b,v1.ownBlock=some b∧W.heap.size≤b:=by
  rcases hat with hat | hat
  · exact .inl hat
  exact .inr ⟨_,hat,Nat.le_refl _⟩
 have hne:∀ k,some k≠v.ownBlock→k<W.heap.size→some k≠v1.ownBlock:=by
  intro k hk hlt
  rcases hat' with hat | ⟨b,hb,hle⟩
  · rw [hat];exact hk
  rw [hb]
  intro he
  injection he with he
  omega
 have step:∀ {q:α} {c:List Value} {o:Nat→Prop},d.M W base o q c→(∀ k,o k→ok k∧some k≠v.ownBlock)→d.M w1 base (fun k=>ok k∧some k≠v1.ownBlock) q c:=by
  intro q c o hq ho
  have h1:=d.M_move (w1:=w1) (fun k hk=>hg.block k hk.2.2.1 (ho k hk.1).2) (d.M_bound hq)
  exact d.M_mono (fun k hk=>⟨(ho k hk.1).1,hne k (ho k hk.1).2 hk.2.2.1⟩) h1
 refine ⟨v1,w1,hrun,⟨fun k hk=>?_,inner++news,by rw [List.length_append,hm];exact h2,Kd.kT (hr.gH (fun _ _ hq=>step hq (fun _ hk=>hk))) (hnM.gH (fun _ _ hq=>step hq hokp))⟩,hg,hat'⟩
 rcases hat' with hat | ⟨b,hb,hle⟩
 · exact hok k (hat ▸ hk)
 rw [hb] at hk
 injection hk with hk
 exact hfresh k (by omega)
variable {ops:Array Oper} {o:Oper} {a:Act} {Q:Exit→Act→World→Prop} {Kc:Act→World→Prop}
theorem oq (d:Kd α) {Rr:α→List Value→Prop} {w0 W:World} (base:Nat) (s x:Operand) (t e:TypeId) (z:Value) (bytes:Nat) (hg:o.guard=none)
 (ho:o.op = .call {callee := .builtin .append,args:=#[s,x],argTypes:=#[t,t]})
 (ht:P.underlying t=some (.slice e)) (hinfo:(P.info? e).map (fun i=>(i.zero,i.size,i.bytes))=some (some z,d.sz,bytes)) (hz:z.cells.size=d.sz) (hs0:0<d.sz) (hb0:0<bytes)
 (v:Value) (xs ys:List α) (A:Option Addr) (m c:Nat) (hs:a.eval s=v) (hx:a.eval x = .slice A m c)
 (HO:d.R e W base (fun _=>True) v xs) (HR:dC Rr d.sz W A m ys) (hKM:∀ x cs,Rr x cs→d.M W base (fun _=>False) x cs)
 (HB:Below base w0 W) (hbase:base≤W.heap.size) (hl:(xs.length+m)*bytes≤140737488355328)
 (h:∀ v1 w1,d.R e w1 base (fun _=>True) v1 (xs++ys)→Below base w0 w1→W.grownBy w1 v.ownBlock→Kc (a.put o.dst v1) w1) :
 if Region.wanted o (yielded ops a.tmps)=true then Oper.wp P o a W Kc Q else Kc (a.put o.dst undef) W:=by
 have hw:Region.wanted o (yielded ops a.tmps)=true:=by simp [Region.wanted,hg]
 rw [if_pos hw]
 obtain ⟨i0,hi,hzz⟩:=Option.map_eq_some_iff.1 hinfo
 simp only [Prod.mk.injEq] at hzz
 obtain ⟨hz0,hz1,hz2⟩:=hzz
 have hlen:xs.length+m≤140737488355328:=Nat.le_trans (Nat.le_mul_of_pos_right _ hb0) hl
 have hown:=(Kd.kJ HO)
 obtain ⟨v1,w1,hr1,h1,hg1,hat⟩:=uW d base t o.type e i0 z bytes ht hi hz0 hz1 hz2 hz hs0 v xs ys A m c (fun _=>True) (fun _=>False) HO HR hKM (fun _ h=>h.elim) (fun _ _=>trivial) hbase hlen hl
 unfold Oper.wp execOp
 simp only [ho,resolve,invoke,builtin,Sem.run_bind,Sem.run_pure,Result.andThen_ok,List.map_toArray,List.map_cons,List.map_nil,hs,hx,hr1]
 obtain ⟨inner,hown⟩:=hown
 exact h v1 w1 h1 (HB.grown hg1 hbase (gq hown)) hg1
end
theorem tJ (X:World):Cd (X.alloc (.cells #[] 45)) (.slice (some ⟨X.heap.size,0,none⟩) 0 0) []:=
 .inr ⟨X.heap.size,0,[],rfl,⟨heap_alloc_new _ _,Nat.le_refl _,Nat.zero_le _,rfl⟩⟩
theorem gcheck (g:List S47) (hF:Fit g) (k:Nat) (hk:10000≤k):∃ r:Int × Int,bW.f k g=some r∧(r.2=0↔TkB g=true):=by
 unfold bW.f TkB
 by_cases a:(g.length:Int)=0
 · rw [if_pos a,decide_eq_false (by omega:¬0<g.length)];exact ⟨_,rfl,by simp⟩
 rw [if_neg a,decide_eq_true (by omega:0<g.length)]
 by_cases b:(g.length:Int)>4096
 · rw [if_pos b,decide_eq_false (by omega:¬g.length≤4096)];exact ⟨_,rfl,by simp⟩
 rw [if_neg b,decide_eq_true (by omega:g.length≤4096)]
 obtain ⟨r,e,h⟩:=gck_l g (by omega) hF g.length 0 rfl (by omega) 4096 (by omega) (by omega) k (by omega)
 rw [show ((0:Nat):Int)=0 from rfl] at e h
 rw [show (4096:Int) - 4096=0 from rfl] at e
 rw [List.drop_zero] at h
 exact ⟨r,e,by simpa using h⟩
theorem cpi7 (c:List S45) (h:c.length<17592186044416):bZ.f c=some c:=by
 unfold bZ.f
 rw [Option.bind_some,if_pos (by simpa using h)]
 rfl
theorem cpb7_l (g:List S47) (hg:g.length≤1000000000) (hc:∀ b∈g,b.f0.length<17592186044416):∀ (d j:Nat),g.length - j=d→j≤g.length→∀ k,d+1≤k→aU.l0 k g (g.take j) (j:Int)=some g:=by
 intro d
 induction d with
 | zero=>
  intro j hd hj k hk
  obtain ⟨k,rfl⟩:∃ m,k=m+1:=⟨k - 1,by omega⟩
  rw [aU.l0,if_neg (by omega),List.take_of_length_le (by omega)]
 | succ d ih=>
  intro j hd hj k hk
  obtain ⟨k,rfl⟩:∃ m,k=m+1:=⟨k - 1,by omega⟩
  have hlt:j<g.length:=by omega
  rw [aU.l0,if_pos (by omega),if_pos (by omega),ko hlt,cpi7 _ (hc _ (List.getElem_mem hlt)),Option.bind_some,if_pos (by rw [List.length_take];omega),w64 (n:=(j:Int)+1) (by omega) (by omega)]
  have:=ih (j+1) (by omega) (by omega) k (by omega)
  rw [show ((j+1:Nat):Int)=(j:Int)+1 by omega,List.take_succ_eq_append_getElem hlt] at this
  exact this
theorem cpb7 {g:List S47} (h:GOk g):aU.f 10000 g=some g:=by
 have hf:=h.few
 have:=cpb7_l g (by omega) (fun b hb=>by
  obtain ⟨j,hj⟩:=List.getElem?_of_mem hb
  have:=h.len hj
  omega) g.length 0 rfl (by omega) 10000 (by omega)
 exact this
theorem GOk.fit {g:List S47} (h:GOk g):Fit g:=fun b hb=>by
 obtain ⟨j,hj⟩:=List.getElem?_of_mem hb
 have:=h.len hj
 omega
end Go.Proofs.Ytdkalnkplgfgoaa.Ln
