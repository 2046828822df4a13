/- Functions of the program as plain Lean functions, and that calls of them come to what these tell. Conditions: those in each law. -/
import Derived.Test.YtklkdpcopfjmcaaGreatSqV
import Derived.Test.YtklkdpcopfjmcaaGreatDFnExactAbsWidenV
import Derived.Test.YtklkdpcopfjmcaaGreatQFnExactAbsWidenx0V
import Derived.Test.YtklkdpcopfjmcaaGreatQFnExactAbsWidenx3V
import Derived.Test.YtklkdpcopfjmcaaGreatQFnExactAbsWidenx9V
namespace Go.Proofs.YtklkdpcopfjmcaaGreat.PFnExactAbsWiden
open Go.RowKit Tryz Go.Proofs.YtklkdpcopfjmcaaGreat.Sq Go.Proofs.YtklkdpcopfjmcaaGreatW.PrintWords Go.Proofs.YtklkdpcopfjmcaaGreatW.PrintLast Go.Proofs.YtklkdpcopfjmcaaGreatW.PrintMore
attribute [local go_sem] nV nT o8 pz mV mW nW nS 
set_option linter.unusedVariables false
set_option linter.unusedSimpArgs false
attribute [local go_sem high] xq
set_option maxHeartbeats 8000000
set_option maxRecDepth 100000
def bq.T1 : Bool × List (List Nat × List Nat):=(true,[([],[]),([0],[0]),([1],[1]),([2,1],[2]),([3],[3]),([4,3,3],[3,4]),([5,3],[3,5]),([3,6],[3,6]),([7,5],[7]),([8],[8]),([8,8],[8]),([9,10,8],[8,9,10]),([8,11],[8,11])])
def bq.B1 : List Nat:=[0,1,3,7,15,31,63,127,255,511,511,2047,4095]
theorem bq.qo : l9 .any (opsOf f90 1) = bq.T1:=by kernel_rfl
theorem bq.nP : fQ bq.T1.2 bq.B1 = true:=by kernel_rfl
def bq.T7 : Bool × List (List Nat × List Nat):=(true,[([],[]),([0],[0]),([],[]),([2],[2]),([],[]),([4],[4]),([3,5],[3,5]),([],[]),([7],[7]),([6,8],[6,8]),([1,9],[1,9]),([10,9,0,1,2,3,4,5,6,7,8,9,10],[10])])
def bq.B7 : List Nat:=[0,1,0,4,0,16,60,0,128,508,1023,2047]
theorem bq.xA : l9 .any (opsOf f90 7) = bq.T7:=by kernel_rfl
theorem bq.uD : fQ bq.T7.2 bq.B7 = true:=by kernel_rfl
def bq.T8 : Bool × List (List Nat × List Nat):=(true,[([],[]),([0],[0]),([],[]),([2],[2]),([],[]),([4],[4]),([3,5],[3,5]),([],[]),([7],[7]),([6,8],[6,8]),([1,9],[1,9]),([10,9,0,1,2,3,4,5,6,7,8,9,10],[10])])
def bq.B8 : List Nat:=[0,1,0,4,0,16,60,0,128,508,1023,2047]
theorem bq.Fe : l9 .any (opsOf f90 8) = bq.T8:=by kernel_rfl
theorem bq.yE : fQ bq.T8.2 bq.B8 = true:=by kernel_rfl
theorem bq.calls (k : Nat) (ai : Int) (aD : Int) (aG : Int) (bG : Int) (r1 : Int) (r2 : Int) (r3 : Int) (r4 : Int) (w : World) (h : bq.f k ai aD aG bG = some (r1,r2,r3,r4)) :
  Calls prog 90 #[.agg #[.int .i64 ai,.int .i64 aD],.agg #[.int .i64 aG,.int .i64 bG]] w fun e w'=>e = .returned (.agg #[.int .i64 r1,.int .i64 r2,.int .i64 r3,.int .i64 r4])∧Below w.heap.size w w':=by
 have hu108:=underlying108;have hu111:=underlying111;have hu58:=underlying58;have HB:=af.mk (Below.refl w.heap.size w);have H:=h;unfold bq.f at H;clear h;have HC3:=af.mk H;clear H;go_enter func90,ntmps90;go_upto_region 1 with (first | ((with_reducible refine gd 2 rfl ?_);refine eO 2 #[.int .i64 ai,.int .i64 aD] 108 HB ?_;clear HB;intro gb0 hg w4 hb B0 GW0 HB;clear hb hg) | ((with_reducible refine gd 3 rfl ?_);refine eO 3 #[.int .i64 aG,.int .i64 bG] 111 HB ?_;clear HB;intro gb1 hg w5 hb B1 GW1 HB;have N0_1:=fC B0 hg;have N1_0:=fD B0 hg;replace B0:=bF B0 hb;clear hb hg) | ((with_reducible refine gd 4 rfl ?_);refine eO 4 #[.int .i64 0,.int .i64 0,.int .i64 0,.int .i64 0] 58 HB ?_;clear HB;intro gb2 hg w6 hb B2 GW2 HB;have N0_2:=fC B0 hg;have N2_0:=fD B0 hg;have N1_2:=fC B1 hg;have N2_1:=fD B1 hg;refine mM B0 B1 hb ?_;clear B0 B1;intro B0 B1;clear hb hg))
 (try simp only [Act.put,List.setIfInBounds_toArray,List.set_cons_zero,List.set_cons_succ])
 go_cut [19] (fun v19 wc=>∃ (kq : Nat) (x0 : Bool),v19 = .bool x0∧af (bq.j0 kq x0 ai aD aG bG = some (r1,r2,r3,r4))∧af (kq ≤ k)∧af (wc.heap[gb0]? = some (.cells #[.int .i64 ai,.int .i64 aD] 108 (0,0)))∧af (wc.heap[gb1]? = some (.cells #[.int .i64 aG,.int .i64 bG] 111 (0,0)))∧af (wc.heap[gb2]? = some (.cells #[.int .i64 0,.int .i64 0,.int .i64 0,.int .i64 0] 58 (0,0)))∧af (Below w.heap.size w wc))
 case first =>
  have H:=HC3.o;clear HC3;replace H:=bK H;obtain ⟨t0,A7,H⟩:=H;(try dsimp only at H);rcases qm (t0 = true) with c8 | c8
  ·replace c8:=Bool.eq_false_iff.mpr c8;subst c8;rw [gD] at H;have H':=af.mk H;clear H
   try go_wp2
   replace B0:=bU B0;replace B1:=bU B1;replace B2:=bU B2;replace HB:=iI HB;refine mI 13 (fun w'=>rf w' gb0 (.int .i64 ai) (.int .i64 aD)) gu (fun hHeld=>?_);refine bD bq.qo bq.nP (fun ax dM=>?_);generalize w6.drew = w19 at B0 B1 B2 HB hHeld ⊢;refine fA ax dM 0 7 hHeld ?_;refine gL ax 1 8 (fun K hK=>?_);refine fF rfl func154 (bT.calls _ _ _ _ A7.o) ?_;intro w20 hb;refine dI B0 B1 B2 hb ?_;clear B0 B1 B2;intro B0 B1 B2;replace HB:=bX HB hb;(try clear hb);refine hK.out _ _ gu (fun hHeld=>?_);clear hK K;refine bP ?_;refine bC ax 2 9 ?_;refine bC ax 3 10 ?_;refine bY ax 4 11 ?_;refine bY ax 5 12 ?_;refine bY ax 6 13 ?_;refine bC ax 7 14 ?_;refine bC ax 8 15 ?_;refine bY ax 9 16 ?_;refine bY ax 10 17 ?_;refine bY ax 11 18 ?_;refine bC ax 12 19 ?_;refine eX (cO ax.o (by kernel_rfl)) ?_
   try go_wp2
   go_meet
   case rel=>exact ⟨_,(true),fw,H',⟨ng⟩,fE B0,fE B1,fE B2,lD HB⟩
  subst c8;rw [if_pos rfl] at H;replace H:=bK H;obtain ⟨t1,A9,H⟩:=H;(try dsimp only at H);rcases qm (t1 = true) with c10 | c10
  ·replace c10:=Bool.eq_false_iff.mpr c10;subst c10;rw [gD] at H;have H':=af.mk H;clear H
   try go_wp2
   replace B0:=bU B0;replace B1:=bU B1;replace B2:=bU B2;replace HB:=iI HB;refine mI 13 (fun w'=>rf w' gb0 (.int .i64 ai) (.int .i64 aD)∧rf w' gb1 (.int .i64 aG) (.int .i64 bG)) gu (fun hHeld=>?_);refine bD bq.qo bq.nP (fun ax dM=>?_);generalize w6.drew = w16 at B0 B1 B2 HB hHeld ⊢;refine fA ax dM 0 7 hHeld ?_;refine gL ax 1 8 (fun K hK=>?_);refine fF rfl func154 (bT.calls _ _ _ _ A7.o) ?_;intro w17 hb;refine dI B0 B1 B2 hb ?_;clear B0 B1 B2;intro B0 B1 B2;replace HB:=bX HB hb;(try clear hb);refine hK.out _ _ gu (fun hHeld=>?_);clear hK K;refine bP ?_;refine bC ax 2 9 ?_;refine bC ax 3 10 ?_;refine fA ax dM 4 11 hHeld ?_;refine gL ax 5 12 (fun K hK=>?_);refine fF rfl func155 (lv.calls _ _ _ _ A9.o) ?_;intro w18 hb;refine dI B0 B1 B2 hb ?_;clear B0 B1 B2;intro B0 B1 B2;replace HB:=bX HB hb;(try clear hb);refine hK.out _ _ gu (fun hHeld=>?_);clear hK K;refine bP ?_;refine bC ax 6 13 ?_;refine bC ax 7 14 ?_;refine bC ax 8 15 ?_;refine bY ax 9 16 ?_;refine bY ax 10 17 ?_;refine bY ax 11 18 ?_;refine bC ax 12 19 ?_;refine eX (cO ax.o (by kernel_rfl)) ?_
   try go_wp2
   go_meet
   case rel=>exact ⟨_,(true),fw,H',⟨ng⟩,fE B0,fE B1,fE B2,lD HB⟩
  subst c10;rw [if_pos rfl] at H;replace H:=bK H;obtain ⟨⟨t2,t3⟩,A11,H⟩:=H;(try dsimp only at H);have H':=af.mk H;clear H
  try go_wp2
  replace B0:=bU B0;replace B1:=bU B1;replace B2:=bU B2;replace HB:=iI HB;refine mI 13 (fun w'=>rf w' gb0 (.int .i64 ai) (.int .i64 aD)∧rf w' gb1 (.int .i64 aG) (.int .i64 bG)) gu (fun hHeld=>?_);refine bD bq.qo bq.nP (fun ax dM=>?_);generalize w6.drew = w12 at B0 B1 B2 HB hHeld ⊢;refine fA ax dM 0 7 hHeld ?_;refine gL ax 1 8 (fun K hK=>?_);refine fF rfl func154 (bT.calls _ _ _ _ A7.o) ?_;intro w13 hb;refine dI B0 B1 B2 hb ?_;clear B0 B1 B2;intro B0 B1 B2;replace HB:=bX HB hb;(try clear hb);refine hK.out _ _ gu (fun hHeld=>?_);clear hK K;refine bP ?_;refine bC ax 2 9 ?_;refine bC ax 3 10 ?_;refine fA ax dM 4 11 hHeld ?_;refine gL ax 5 12 (fun K hK=>?_);refine fF rfl func155 (lv.calls _ _ _ _ A9.o) ?_;intro w14 hb;refine dI B0 B1 B2 hb ?_;clear B0 B1 B2;intro B0 B1 B2;replace HB:=bX HB hb;(try clear hb);refine hK.out _ _ gu (fun hHeld=>?_);clear hK K;refine bP ?_;refine bC ax 6 13 ?_;refine bC ax 7 14 ?_;refine bC ax 8 15 ?_;refine fA ax dM 9 16 hHeld ?_;refine gL ax 10 17 (fun K hK=>?_);refine fF rfl func156 (fH.calls _ _ _ A11.o) ?_;intro w15 hb;refine dI B0 B1 B2 hb ?_;clear B0 B1 B2;intro B0 B1 B2;replace HB:=bX HB hb;(try clear hb);refine hK.out _ _ gu (fun hHeld=>?_);clear hK K;refine bP ?_;refine bC ax 11 18 ?_;refine bC ax 12 19 ?_;refine eX (cO ax.o (by kernel_rfl)) ?_
  try go_wp2
  go_meet
  case rel=>exact ⟨_,((ai == t2 && (aD == t3))),fw,H',⟨ng⟩,fE B0,fE B1,fE B2,lD HB⟩
 case rest =>
  clear HC3;obtain ⟨kq,x0,rfl,HA,HJ2,B0,B1,B2,HB⟩:=hcut;cases kq with
  | zero=>exact absurd HA.o (by simp [bq.j0])
  | succ kj2 =>
   have H:=HA.o;clear HA;simp only [bq.j0] at H
   by_cases c21 : x0 = true
   ·subst c21;rw [if_pos rfl] at H;replace H:=bK H;obtain ⟨⟨t4,t5,t6,t7⟩,A22,H⟩:=H;(try dsimp only at H);simp only [Option.some.injEq,Prod.mk.injEq] at H;obtain ⟨rfl,rfl,rfl,rfl⟩:=H;go_wp2_with (first | ((with_reducible refine gf 93 rfl ?_);refine eZ rfl (some 20) func93 (dw.calls _ _ _ _ _ A22.o) ?_;intro w23 hb;refine dI B0 B1 B2 hb ?_;clear B0 B1 B2;intro B0 B1 B2;replace HB:=bX HB hb;(try clear hb);obtain ⟨_,_,_,_⟩:=eY N2_0 N2_1;obtain ⟨_,_,_,_,_,_,_,_⟩:=fU B2));refine iC #[.int .i64 t4,.int .i64 t5,.int .i64 t6,.int .i64 t7] (lV B2) underlying58 ?_;exact iw HB
   replace c21:=Bool.eq_false_iff.mpr c21;subst c21;rw [gD] at H;replace H:=qc H;rcases H with ⟨c27,H⟩ | ⟨c27,H⟩
   ·have z0 : (aG == 0) = true:=beq_iff_eq.mpr c27;have z1 : (aG != 0) = false:=bne_eq_false_iff_eq.mpr c27;clear c27;replace H:=bK H;obtain ⟨t8,A28,H⟩:=H;(try dsimp only at H);rcases qm (t8 = true) with c29 | c29
    ·replace c29:=Bool.eq_false_iff.mpr c29;subst c29;rw [gD] at H;replace H:=bK H;obtain ⟨⟨t9,t10,t11,t12⟩,A40,H⟩:=H;(try dsimp only at H);simp only [Option.some.injEq,Prod.mk.injEq] at H;obtain ⟨rfl,rfl,rfl,rfl⟩:=H;obtain ⟨_,_,_,_⟩:=eY N1_0 N1_2;obtain ⟨_,_,_,_⟩:=bE B1;obtain ⟨_,_⟩:=dU N0_2;obtain ⟨_,_,_,_⟩:=bE B0;go_wp2_with (first | ((with_reducible refine gf 128 rfl ?_);refine eZ rfl (some 27) func128 (om.calls _ _ _ _ _ A28.o) ?_;intro w46 hb;refine dI B0 B1 B2 hb ?_;clear B0 B1 B2;intro B0 B1 B2;replace HB:=bX HB hb;(try clear hb)) | ((with_reducible refine gf 93 rfl ?_);refine eZ rfl (some 31) func93 (dw.calls _ _ _ _ _ A40.o) ?_;intro w47 hb;refine dI B0 B1 B2 hb ?_;clear B0 B1 B2;intro B0 B1 B2;replace HB:=bX HB hb;(try clear hb);obtain ⟨_,_,_,_,_,_,_,_⟩:=fU B2));refine iC #[.int .i64 t9,.int .i64 t10,.int .i64 t11,.int .i64 t12] (lV B2) underlying58 ?_;exact iw HB
    subst c29;rw [if_pos rfl] at H;replace H:=bK H;obtain ⟨⟨t13,t14,t15,t16⟩,A30,H⟩:=H;(try dsimp only at H);simp only [Option.some.injEq,Prod.mk.injEq] at H;obtain ⟨rfl,rfl,rfl,rfl⟩:=H;obtain ⟨_,_,_,_⟩:=eY N1_0 N1_2;obtain ⟨_,_,_,_⟩:=bE B1;obtain ⟨_,_⟩:=dU N0_2;obtain ⟨_,_,_,_⟩:=bE B0;go_wp2_with (first | ((with_reducible refine gf 128 rfl ?_);refine eZ rfl (some 27) func128 (om.calls _ _ _ _ _ A28.o) ?_;intro w36 hb;refine dI B0 B1 B2 hb ?_;clear B0 B1 B2;intro B0 B1 B2;replace HB:=bX HB hb;(try clear hb);obtain ⟨_,_,_,_⟩:=bE B1) | ((with_reducible refine gf 123 rfl ?_);refine eZ rfl (some 30) func123 (pI.calls _ _ _ _ _ _ A30.o) ?_;intro w38 hb;refine dI B0 B1 B2 hb ?_;clear B0 B1 B2;intro B0 B1 B2;replace HB:=bX HB hb;(try clear hb);obtain ⟨_,_,_,_,_,_,_,_⟩:=fU B2));refine iC #[.int .i64 t13,.int .i64 t14,.int .i64 t15,.int .i64 t16] (lV B2) underlying58 ?_;exact iw HB
   have z0 : (aG == 0) = false:=beq_eq_false_iff_ne.mpr c27;have z1 : (aG != 0) = true:=bne_iff_ne.mpr c27;replace H:=bK H;obtain ⟨t17,A49,H⟩:=H;(try dsimp only at H);replace H:=bK H;obtain ⟨t18,A50,H⟩:=H;(try dsimp only at H);replace H:=qc H;rcases H with ⟨c51,H⟩ | ⟨c51,H⟩
   ·have z2 : decide ((wrap64 (aD - t18)) < (wrap64 (ai + t17))) = true:=decide_eq_true c51;clear c51;replace H:=bK H;obtain ⟨⟨t19,t20,t21,t22⟩,A52,H⟩:=H;(try dsimp only at H);simp only [Option.some.injEq,Prod.mk.injEq] at H;obtain ⟨rfl,rfl,rfl,rfl⟩:=H;obtain ⟨_,_,_,_⟩:=eY N1_0 N1_2;obtain ⟨_,_,_,_⟩:=bE B1
    try go_wp2
    replace B0:=bU B0;replace B1:=bU B1;replace B2:=bU B2;replace HB:=iI HB;refine mI 12 (fun w'=>rf w' gb0 (.int .i64 ai) (.int .i64 aD)∧rf w' gb1 (.int .i64 aG) (.int .i64 bG)) gu (fun hHeld=>?_);refine bD bq.xA bq.uD (fun ax dM=>?_);generalize wc.drew = w56 at B0 B1 B2 HB hHeld ⊢;refine bC ax 0 32 ?_;refine bC ax 2 34 ?_;refine bC ax 4 36 ?_;refine bC ax 7 39 ?_;refine fA ax dM 1 33 hHeld ?_;refine fA ax dM 3 35 hHeld ?_;refine fA ax dM 5 37 hHeld ?_;refine bC ax 6 38 ?_;refine fA ax dM 8 40 hHeld ?_;refine gL ax 9 41 (fun K hK=>?_);refine su rfl func157 (lY.calls _ _ _ _ A49.o) ?_;intro nd;refine hK.out _ _ gu (fun hHeld=>?_);clear hK K;refine bP ?_;refine bC ax 10 42 ?_;refine bC ax 11 5 ?_;refine eX (cO ax.o (by kernel_rfl)) ?_
    try go_wp2
    (try (rw [mP w56];generalize hq_ : World.drewN w56 _ = w56;replace B0:=wN B0 hq_;replace B1:=wN B1 hq_;replace B2:=wN B2 hq_;replace HB:=Dp HB hq_;clear hq_;obtain ⟨z5,z6,z7,z8⟩:=bE B0;obtain ⟨z9,za,zb,zc⟩:=bE B1;obtain ⟨zd,ze,zf,zg,zh,zi,zj,zk⟩:=fU B2))
    replace B0:=bU B0;replace B1:=bU B1;replace B2:=bU B2;replace HB:=iI HB;refine mI 12 (fun w'=>rf w' gb0 (.int .i64 ai) (.int .i64 aD)∧rf w' gb1 (.int .i64 aG) (.int .i64 bG)) gu (fun hHeld=>?_);refine bD bq.Fe bq.yE (fun ax dM=>?_);generalize w56.drew = w57 at B0 B1 B2 HB hHeld ⊢;refine bC ax 0 43 ?_;refine bC ax 2 45 ?_;refine bC ax 4 47 ?_;refine bC ax 7 50 ?_;refine fA ax dM 1 44 hHeld ?_;refine fA ax dM 3 46 hHeld ?_;refine fA ax dM 5 48 hHeld ?_;refine bC ax 6 49 ?_;refine fA ax dM 8 51 hHeld ?_;refine gL ax 9 52 (fun K hK=>?_);refine su rfl func157 (lY.calls _ _ _ _ A50.o) ?_;intro nd;refine hK.out _ _ gu (fun hHeld=>?_);clear hK K;refine bP ?_;refine bC ax 10 53 ?_;refine bC ax 11 6 ?_;refine eX (cO ax.o (by kernel_rfl)) ?_
    try go_wp2_with (first | ((with_reducible refine gf 93 rfl ?_);refine eZ rfl (some 57) func93 (dw.calls _ _ _ _ _ A52.o) ?_;intro w58 hb;refine dI B0 B1 B2 hb ?_;clear B0 B1 B2;intro B0 B1 B2;replace HB:=bX HB hb;(try clear hb);obtain ⟨_,_⟩:=dU N2_0;obtain ⟨_,_,_,_,_,_,_,_⟩:=fU B2))
    refine iC #[.int .i64 t19,.int .i64 t20,.int .i64 t21,.int .i64 t22] (lV B2) underlying58 ?_;exact iw HB
   have z2 : decide ((wrap64 (aD - t18)) < (wrap64 (ai + t17))) = false:=decide_eq_false c51;clear c51;replace H:=gy H;rcases H with ⟨c61,H⟩ | ⟨c61,H⟩
   ·have z3 : ((wrap64 (ai + t17)) == (wrap64 (aD - t18))) = false:=beq_eq_false_iff_ne.mpr c61;have z4 : ((wrap64 (ai + t17)) != (wrap64 (aD - t18))) = true:=bne_iff_ne.mpr c61;simp only [Option.some.injEq,Prod.mk.injEq] at H;obtain ⟨rfl,rfl,rfl,rfl⟩:=H;obtain ⟨_,_,_,_⟩:=eY N1_0 N1_2;obtain ⟨_,_,_,_⟩:=bE B1
    try go_wp2
    replace B0:=bU B0;replace B1:=bU B1;replace B2:=bU B2;replace HB:=iI HB;refine mI 12 (fun w'=>rf w' gb0 (.int .i64 ai) (.int .i64 aD)∧rf w' gb1 (.int .i64 aG) (.int .i64 bG)) gu (fun hHeld=>?_);refine bD bq.xA bq.uD (fun ax dM=>?_);generalize wc.drew = w74 at B0 B1 B2 HB hHeld ⊢;refine bC ax 0 32 ?_;refine bC ax 2 34 ?_;refine bC ax 4 36 ?_;refine bC ax 7 39 ?_;refine fA ax dM 1 33 hHeld ?_;refine fA ax dM 3 35 hHeld ?_;refine fA ax dM 5 37 hHeld ?_;refine bC ax 6 38 ?_;refine fA ax dM 8 40 hHeld ?_;refine gL ax 9 41 (fun K hK=>?_);refine su rfl func157 (lY.calls _ _ _ _ A49.o) ?_;intro nd;refine hK.out _ _ gu (fun hHeld=>?_);clear hK K;refine bP ?_;refine bC ax 10 42 ?_;refine bC ax 11 5 ?_;refine eX (cO ax.o (by kernel_rfl)) ?_
    try go_wp2
    (try (rw [mP w74];generalize hq_ : World.drewN w74 _ = w74;replace B0:=wN B0 hq_;replace B1:=wN B1 hq_;replace B2:=wN B2 hq_;replace HB:=Dp HB hq_;clear hq_;obtain ⟨zl,zm,zn,zo⟩:=bE B0;obtain ⟨zp,zq,zr,zt⟩:=bE B1;obtain ⟨zu,zv,zw,zx,zy,zz,zA,zB⟩:=fU B2))
    replace B0:=bU B0;replace B1:=bU B1;replace B2:=bU B2;replace HB:=iI HB;refine mI 12 (fun w'=>rf w' gb0 (.int .i64 ai) (.int .i64 aD)∧rf w' gb1 (.int .i64 aG) (.int .i64 bG)) gu (fun hHeld=>?_);refine bD bq.Fe bq.yE (fun ax dM=>?_);generalize w74.drew = w75 at B0 B1 B2 HB hHeld ⊢;refine bC ax 0 43 ?_;refine bC ax 2 45 ?_;refine bC ax 4 47 ?_;refine bC ax 7 50 ?_;refine fA ax dM 1 44 hHeld ?_;refine fA ax dM 3 46 hHeld ?_;refine fA ax dM 5 48 hHeld ?_;refine bC ax 6 49 ?_;refine fA ax dM 8 51 hHeld ?_;refine gL ax 9 52 (fun K hK=>?_);refine su rfl func157 (lY.calls _ _ _ _ A50.o) ?_;intro nd;refine hK.out _ _ gu (fun hHeld=>?_);clear hK K;refine bP ?_;refine bC ax 10 53 ?_;refine bC ax 11 6 ?_;refine eX (cO ax.o (by kernel_rfl)) ?_;obtain ⟨_,_,_,_⟩:=bE B1;obtain ⟨_,_⟩:=dU N2_0;obtain ⟨_,_,_,_,_,_,_,_⟩:=fU B2
    try go_wp2
    refine iC #[.int .i64 (wrap64 (ai + t17)),.int .i64 (wrap64 (aD - t18)),.int .i64 aG,.int .i64 bG] (lV B2) underlying58 ?_;exact iw HB
   have z3 : ((wrap64 (ai + t17)) == (wrap64 (aD - t18))) = true:=beq_iff_eq.mpr c61;have z4 : ((wrap64 (ai + t17)) != (wrap64 (aD - t18))) = false:=bne_eq_false_iff_eq.mpr c61;clear c61;replace H:=bK H;obtain ⟨⟨t23,t24,t25,t26⟩,A62,H⟩:=H;(try dsimp only at H);simp only [Option.some.injEq,Prod.mk.injEq] at H;obtain ⟨rfl,rfl,rfl,rfl⟩:=H;obtain ⟨_,_,_,_⟩:=eY N1_0 N1_2;obtain ⟨_,_,_,_⟩:=bE B1
   try go_wp2
   replace B0:=bU B0;replace B1:=bU B1;replace B2:=bU B2;replace HB:=iI HB;refine mI 12 (fun w'=>rf w' gb0 (.int .i64 ai) (.int .i64 aD)∧rf w' gb1 (.int .i64 aG) (.int .i64 bG)) gu (fun hHeld=>?_);refine bD bq.xA bq.uD (fun ax dM=>?_);generalize wc.drew = w66 at B0 B1 B2 HB hHeld ⊢;refine bC ax 0 32 ?_;refine bC ax 2 34 ?_;refine bC ax 4 36 ?_;refine bC ax 7 39 ?_;refine fA ax dM 1 33 hHeld ?_;refine fA ax dM 3 35 hHeld ?_;refine fA ax dM 5 37 hHeld ?_;refine bC ax 6 38 ?_;refine fA ax dM 8 40 hHeld ?_;refine gL ax 9 41 (fun K hK=>?_);refine su rfl func157 (lY.calls _ _ _ _ A49.o) ?_;intro nd;refine hK.out _ _ gu (fun hHeld=>?_);clear hK K;refine bP ?_;refine bC ax 10 42 ?_;refine bC ax 11 5 ?_;refine eX (cO ax.o (by kernel_rfl)) ?_
   try go_wp2
   (try (rw [mP w66];generalize hq_ : World.drewN w66 _ = w66;replace B0:=wN B0 hq_;replace B1:=wN B1 hq_;replace B2:=wN B2 hq_;replace HB:=Dp HB hq_;clear hq_;obtain ⟨zC,zD,zE,zF⟩:=bE B0;obtain ⟨zG,zH,zI,zJ⟩:=bE B1;obtain ⟨zK,zL,zM,zN,zO,zP,zQ,zR⟩:=fU B2))
   replace B0:=bU B0;replace B1:=bU B1;replace B2:=bU B2;replace HB:=iI HB;refine mI 12 (fun w'=>rf w' gb0 (.int .i64 ai) (.int .i64 aD)∧rf w' gb1 (.int .i64 aG) (.int .i64 bG)) gu (fun hHeld=>?_);refine bD bq.Fe bq.yE (fun ax dM=>?_);generalize w66.drew = w67 at B0 B1 B2 HB hHeld ⊢;refine bC ax 0 43 ?_;refine bC ax 2 45 ?_;refine bC ax 4 47 ?_;refine bC ax 7 50 ?_;refine fA ax dM 1 44 hHeld ?_;refine fA ax dM 3 46 hHeld ?_;refine fA ax dM 5 48 hHeld ?_;refine bC ax 6 49 ?_;refine fA ax dM 8 51 hHeld ?_;refine gL ax 9 52 (fun K hK=>?_);refine su rfl func157 (lY.calls _ _ _ _ A50.o) ?_;intro nd;refine hK.out _ _ gu (fun hHeld=>?_);clear hK K;refine bP ?_;refine bC ax 10 53 ?_;refine bC ax 11 6 ?_;refine eX (cO ax.o (by kernel_rfl)) ?_
   try go_wp2_with (first | ((with_reducible refine gf 123 rfl ?_);refine eZ rfl (some 62) func123 (pI.calls _ _ _ _ _ _ A62.o) ?_;intro w68 hb;refine dI B0 B1 B2 hb ?_;clear B0 B1 B2;intro B0 B1 B2;replace HB:=bX HB hb;(try clear hb);obtain ⟨_,_⟩:=dU N2_0;obtain ⟨_,_,_,_,_,_,_,_⟩:=fU B2))
   refine iC #[.int .i64 t23,.int .i64 t24,.int .i64 t25,.int .i64 t26] (lV B2) underlying58 ?_;exact iw HB
theorem gZ.calls (ai : Int) (aD : Int) (bM : Int) (bL : Int) (r1 : Int) (r2 : Int) (w : World) (h : gZ.f ai aD bM bL = some (r1,r2)) :
  Calls prog 129 #[.agg #[.int .i64 ai,.int .i64 aD,.int .i64 bM,.int .i64 bL]] w fun e w'=>e = .returned (.agg #[.int .i64 r1,.int .i64 r2])∧Below w.heap.size w w':=by
 have hu58:=underlying58;have hu108:=underlying108;have HB:=af.mk (Below.refl w.heap.size w);have H:=h;unfold gZ.f at H;clear h;simp only [Option.some.injEq,Prod.mk.injEq] at H;obtain ⟨rfl,rfl⟩:=H;go_enter func129,ntmps129;go_wp2_with (first | ((with_reducible refine gd 1 rfl ?_);refine eO 1 #[.int .i64 ai,.int .i64 aD,.int .i64 bM,.int .i64 bL] 58 HB ?_;clear HB;intro gb0 hg w2 hb B0 GW0 HB;clear hb hg) | ((with_reducible refine gd 2 rfl ?_);refine eO 2 #[.int .i64 0,.int .i64 0] 108 HB ?_;clear HB;intro gb1 hg w3 hb B1 GW1 HB;have N0_1:=fC B0 hg;have N1_0:=fD B0 hg;replace B0:=bF B0 hb;clear hb hg;obtain ⟨_,_⟩:=dU N0_1;obtain ⟨_,_,_,_,_,_,_,_⟩:=fU B0;obtain ⟨_,_,_,_⟩:=bE B1));refine iC #[.int .i64 ai,.int .i64 aD] (lV B1) underlying108 ?_;exact iw HB
theorem iR.calls (ai : Int) (aD : Int) (bM : Int) (bL : Int) (r1 : Int) (r2 : Int) (w : World) (h : iR.f ai aD bM bL = some (r1,r2)) :
  Calls prog 131 #[.agg #[.int .i64 ai,.int .i64 aD,.int .i64 bM,.int .i64 bL]] w fun e w'=>e = .returned (.agg #[.int .i64 r1,.int .i64 r2])∧Below w.heap.size w w':=by
 have hu58:=underlying58;have hu111:=underlying111;have HB:=af.mk (Below.refl w.heap.size w);have H:=h;unfold iR.f at H;clear h;simp only [Option.some.injEq,Prod.mk.injEq] at H;obtain ⟨rfl,rfl⟩:=H;go_enter func131,ntmps131;go_wp2_with (first | ((with_reducible refine gd 1 rfl ?_);refine eO 1 #[.int .i64 ai,.int .i64 aD,.int .i64 bM,.int .i64 bL] 58 HB ?_;clear HB;intro gb0 hg w2 hb B0 GW0 HB;clear hb hg) | ((with_reducible refine gd 2 rfl ?_);refine eO 2 #[.int .i64 0,.int .i64 0] 111 HB ?_;clear HB;intro gb1 hg w3 hb B1 GW1 HB;have N0_1:=fC B0 hg;have N1_0:=fD B0 hg;replace B0:=bF B0 hb;clear hb hg;obtain ⟨_,_⟩:=dU N0_1;obtain ⟨_,_,_,_,_,_,_,_⟩:=fU B0;obtain ⟨_,_,_,_⟩:=bE B1));refine iC #[.int .i64 bM,.int .i64 bL] (lV B1) underlying111 ?_;exact iw HB
attribute [local go_sem high] Ap
def dG.T1 : Bool × List (List Nat × List Nat):=(true,[([],[]),([],[]),([0,1],[0,1]),([2,1],[2]),([3],[3]),([4,3,3],[3,4]),([5,5,3],[3,5]),([6,6,3],[3,6]),([7],[7]),([8,7,7],[7,8]),([9,9,7],[7,9]),([7,10,3],[3,7,10]),([11,10,3],[3,11]),([12],[12]),([12],[12]),([14,12,12],[12,14]),([12],[12]),([16,15,12],[12,16]),([15,17,17,12],[12,15,17]),([13,18,12],[12,13,18]),([12,19,3],[3,12,19]),([3,20],[3,20]),([21,18,0,1,2,3,4,5,6,7,8,9,10,11,12,13,14,15,16,17,18,19,20,21],[21])])
def dG.B1 : List Nat:=[0,0,3,7,15,31,63,127,255,511,1023,2047,4095,8191,8191,24575,8191,122879,253951,524287,1048575,2097151,4194303]
theorem dG.qo : l9 .any (opsOf f127 1) = dG.T1:=by kernel_rfl
theorem dG.nP : fQ dG.T1.2 dG.B1 = true:=by kernel_rfl
theorem dG.calls (k : Nat) (ai : Int) (aD : Int) (bM : Int) (bL : Int) (r : Bool) (w : World) (h : dG.f k ai aD bM bL = some r) :
  Calls prog 127 #[.agg #[.int .i64 ai,.int .i64 aD,.int .i64 bM,.int .i64 bL]] w fun e w'=>e = .returned (.bool r)∧Below w.heap.size w w':=by
 have hu58:=underlying58;have HB:=af.mk (Below.refl w.heap.size w);have H:=h;unfold dG.f at H;clear h;replace H:=bK H;obtain ⟨⟨t0,t1,t2,t3⟩,A2,H⟩:=H;(try dsimp only at H);replace H:=qc H;rcases H with ⟨c3,H⟩ | ⟨c3,H⟩
 ·have z0 : (ai == t0 && (aD == t1 && (bM == t2 && (bL == t3)))) = true:=c3
  (try (have z1 : decide (ai = t0 && (aD == t1 && (bM == t2 && (bL == t3)))) = true:=by simpa using c3))
  (try (have z2 : (ai == t0 && (aD == t1 && (bM == t2 && (bL == t3)))) = true:=by simpa using c3))
  clear c3;obtain rfl:=Option.some.inj H;go_enter func127,ntmps127
  try go_wp2_with (first | ((with_reducible refine gd 1 rfl ?_);refine eO 1 #[.int .i64 ai,.int .i64 aD,.int .i64 bM,.int .i64 bL] 58 HB ?_;clear HB;intro gb0 hg w4 hb B0 GW0 HB;clear hb hg))
  replace B0:=bU B0;replace HB:=iI HB;refine mI 23 (fun w'=>vE w' gb0 (.int .i64 ai) (.int .i64 aD) (.int .i64 bM) (.int .i64 bL)) gu (fun hHeld=>?_);refine bD dG.qo dG.nP (fun ax dM=>?_);generalize w4.drew = w5 at B0 HB hHeld ⊢;refine fA ax dM 0 3 hHeld ?_;refine gL ax 1 4 (fun K hK=>?_);refine fF rfl func93 (dw.calls _ _ _ _ _ A2.o) ?_;intro w6 hb;replace B0:=bF B0 hb;replace HB:=bX HB hb;(try clear hb);refine hK.out _ _ gu (fun hHeld=>?_);clear hK K;refine bP ?_;refine bC ax 2 5 ?_;refine bC ax 3 6 ?_;refine bY ax 4 7 ?_;refine bY ax 5 8 ?_;refine bY ax 6 9 ?_;refine bY ax 7 10 ?_;refine bY ax 8 11 ?_;refine bY ax 9 12 ?_;refine bY ax 10 13 ?_;refine bY ax 11 14 ?_;refine bY ax 12 15 ?_;refine bY ax 13 16 ?_;refine bY ax 14 17 ?_;refine bY ax 15 18 ?_;refine bY ax 16 19 ?_;refine bY ax 17 20 ?_;refine bY ax 18 21 ?_;refine bY ax 19 22 ?_;refine bY ax 20 23 ?_;refine bC ax 21 24 ?_;refine bC ax 22 2 ?_;refine eX (cO ax.o (by kernel_rfl)) ?_
  try go_wp2
  go_ret
  exact iw HB
 have z0 : (ai == t0 && (aD == t1 && (bM == t2 && (bL == t3)))) = false:=by simpa using c3
 (try (have z1 : decide (ai = t0 && (aD == t1 && (bM == t2 && (bL == t3)))) = false:=by simpa using c3))
 (try (have z2 : (ai == t0 && (aD == t1 && (bM == t2 && (bL == t3)))) = false:=by simpa using c3))
 (try (have z3 : ¬ (ai = t0 && (aD == t1 && (bM == t2 && (bL == t3)))):=by simpa using c3))
 clear c3;replace H:=bK H;obtain ⟨⟨t4,t5⟩,A7,H⟩:=H;(try dsimp only at H);replace H:=bK H;obtain ⟨t6,A8,H⟩:=H;(try dsimp only at H);rcases qm (t6 = true) with c9 | c9
 ·replace c9:=Bool.eq_false_iff.mpr c9;subst c9;rw [gD] at H;obtain rfl:=Option.some.inj H;go_enter func127,ntmps127
  try go_wp2_with (first | ((with_reducible refine gd 1 rfl ?_);refine eO 1 #[.int .i64 ai,.int .i64 aD,.int .i64 bM,.int .i64 bL] 58 HB ?_;clear HB;intro gb0 hg w33 hb B0 GW0 HB;clear hb hg))
  replace B0:=bU B0;replace HB:=iI HB;refine mI 23 (fun w'=>vE w' gb0 (.int .i64 ai) (.int .i64 aD) (.int .i64 bM) (.int .i64 bL)) gu (fun hHeld=>?_);refine bD dG.qo dG.nP (fun ax dM=>?_);generalize w33.drew = w34 at B0 HB hHeld ⊢;refine fA ax dM 0 3 hHeld ?_;refine gL ax 1 4 (fun K hK=>?_);refine fF rfl func93 (dw.calls _ _ _ _ _ A2.o) ?_;intro w35 hb;replace B0:=bF B0 hb;replace HB:=bX HB hb;(try clear hb);refine hK.out _ _ gu (fun hHeld=>?_);clear hK K;refine bP ?_;refine bC ax 2 5 ?_;refine bC ax 3 6 ?_;refine fA ax dM 4 7 hHeld ?_;refine gL ax 5 8 (fun K hK=>?_);refine fF rfl func129 (gZ.calls _ _ _ _ _ _ _ A7.o) ?_;intro w36 hb;replace B0:=bF B0 hb;replace HB:=bX HB hb;(try clear hb);refine hK.out _ _ gu (fun hHeld=>?_);clear hK K;refine bP ?_;refine gL ax 6 9 (fun K hK=>?_);refine fF rfl func154 (bT.calls _ _ _ _ A8.o) ?_;intro w37 hb;replace B0:=bF B0 hb;replace HB:=bX HB hb;(try clear hb);refine hK.out _ _ gu (fun hHeld=>?_);clear hK K;refine bP ?_;refine bC ax 7 10 ?_;refine bY ax 8 11 ?_;refine bY ax 9 12 ?_;refine bY ax 10 13 ?_;refine bC ax 11 14 ?_;refine bC ax 12 15 ?_;refine bY ax 13 16 ?_;refine bY ax 14 17 ?_;refine bY ax 15 18 ?_;refine bY ax 16 19 ?_;refine bY ax 17 20 ?_;refine bY ax 18 21 ?_;refine bY ax 19 22 ?_;refine bC ax 20 23 ?_;refine bC ax 21 24 ?_;refine bC ax 22 2 ?_;refine eX (cO ax.o (by kernel_rfl)) ?_
  try go_wp2
  go_ret
  exact iw HB
 subst c9;rw [if_pos rfl] at H;replace H:=bK H;obtain ⟨⟨t7,t8⟩,A10,H⟩:=H;(try dsimp only at H);replace H:=bK H;obtain ⟨t9,A11,H⟩:=H;(try dsimp only at H);rcases qm (t9 = true) with c12 | c12
 ·replace c12:=Bool.eq_false_iff.mpr c12;subst c12;rw [gD] at H;obtain rfl:=Option.some.inj H;go_enter func127,ntmps127
  try go_wp2_with (first | ((with_reducible refine gd 1 rfl ?_);refine eO 1 #[.int .i64 ai,.int .i64 aD,.int .i64 bM,.int .i64 bL] 58 HB ?_;clear HB;intro gb0 hg w26 hb B0 GW0 HB;clear hb hg))
  replace B0:=bU B0;replace HB:=iI HB;refine mI 23 (fun w'=>vE w' gb0 (.int .i64 ai) (.int .i64 aD) (.int .i64 bM) (.int .i64 bL)) gu (fun hHeld=>?_);refine bD dG.qo dG.nP (fun ax dM=>?_);generalize w26.drew = w27 at B0 HB hHeld ⊢;refine fA ax dM 0 3 hHeld ?_;refine gL ax 1 4 (fun K hK=>?_);refine fF rfl func93 (dw.calls _ _ _ _ _ A2.o) ?_;intro w28 hb;replace B0:=bF B0 hb;replace HB:=bX HB hb;(try clear hb);refine hK.out _ _ gu (fun hHeld=>?_);clear hK K;refine bP ?_;refine bC ax 2 5 ?_;refine bC ax 3 6 ?_;refine fA ax dM 4 7 hHeld ?_;refine gL ax 5 8 (fun K hK=>?_);refine fF rfl func129 (gZ.calls _ _ _ _ _ _ _ A7.o) ?_;intro w29 hb;replace B0:=bF B0 hb;replace HB:=bX HB hb;(try clear hb);refine hK.out _ _ gu (fun hHeld=>?_);clear hK K;refine bP ?_;refine gL ax 6 9 (fun K hK=>?_);refine fF rfl func154 (bT.calls _ _ _ _ A8.o) ?_;intro w30 hb;replace B0:=bF B0 hb;replace HB:=bX HB hb;(try clear hb);refine hK.out _ _ gu (fun hHeld=>?_);clear hK K;refine bP ?_;refine bC ax 7 10 ?_;refine fA ax dM 8 11 hHeld ?_;refine gL ax 9 12 (fun K hK=>?_);refine fF rfl func131 (iR.calls _ _ _ _ _ _ _ A10.o) ?_;intro w31 hb;replace B0:=bF B0 hb;replace HB:=bX HB hb;(try clear hb);refine hK.out _ _ gu (fun hHeld=>?_);clear hK K;refine bP ?_;refine gL ax 10 13 (fun K hK=>?_);refine fF rfl func155 (lv.calls _ _ _ _ A11.o) ?_;intro w32 hb;replace B0:=bF B0 hb;replace HB:=bX HB hb;(try clear hb);refine hK.out _ _ gu (fun hHeld=>?_);clear hK K;refine bP ?_;refine bC ax 11 14 ?_;refine bC ax 12 15 ?_;refine bY ax 13 16 ?_;refine bY ax 14 17 ?_;refine bY ax 15 18 ?_;refine bY ax 16 19 ?_;refine bY ax 17 20 ?_;refine bY ax 18 21 ?_;refine bY ax 19 22 ?_;refine bC ax 20 23 ?_;refine bC ax 21 24 ?_;refine bC ax 22 2 ?_;refine eX (cO ax.o (by kernel_rfl)) ?_
  try go_wp2
  go_ret
  exact iw HB
 subst c12;rw [if_pos rfl] at H;replace H:=bK H;obtain ⟨⟨t10,t11⟩,A13,H⟩:=H;(try dsimp only at H);replace H:=bK H;obtain ⟨⟨t12,t13⟩,A14,H⟩:=H;(try dsimp only at H);replace H:=bK H;obtain ⟨⟨t14,t15,t16,t17⟩,A15,H⟩:=H;(try dsimp only at H);obtain rfl:=Option.some.inj H;go_enter func127,ntmps127
 try go_wp2_with (first | ((with_reducible refine gd 1 rfl ?_);refine eO 1 #[.int .i64 ai,.int .i64 aD,.int .i64 bM,.int .i64 bL] 58 HB ?_;clear HB;intro gb0 hg w16 hb B0 GW0 HB;clear hb hg))
 replace B0:=bU B0;replace HB:=iI HB;refine mI 23 (fun w'=>vE w' gb0 (.int .i64 ai) (.int .i64 aD) (.int .i64 bM) (.int .i64 bL)) gu (fun hHeld=>?_);refine bD dG.qo dG.nP (fun ax dM=>?_);generalize w16.drew = w17 at B0 HB hHeld ⊢;refine fA ax dM 0 3 hHeld ?_;refine gL ax 1 4 (fun K hK=>?_);refine fF rfl func93 (dw.calls _ _ _ _ _ A2.o) ?_;intro w18 hb;replace B0:=bF B0 hb;replace HB:=bX HB hb;(try clear hb);refine hK.out _ _ gu (fun hHeld=>?_);clear hK K;refine bP ?_;refine bC ax 2 5 ?_;refine bC ax 3 6 ?_;refine fA ax dM 4 7 hHeld ?_;refine gL ax 5 8 (fun K hK=>?_);refine fF rfl func129 (gZ.calls _ _ _ _ _ _ _ A7.o) ?_;intro w19 hb;replace B0:=bF B0 hb;replace HB:=bX HB hb;(try clear hb);refine hK.out _ _ gu (fun hHeld=>?_);clear hK K;refine bP ?_;refine gL ax 6 9 (fun K hK=>?_);refine fF rfl func154 (bT.calls _ _ _ _ A8.o) ?_;intro w20 hb;replace B0:=bF B0 hb;replace HB:=bX HB hb;(try clear hb);refine hK.out _ _ gu (fun hHeld=>?_);clear hK K;refine bP ?_;refine bC ax 7 10 ?_;refine fA ax dM 8 11 hHeld ?_;refine gL ax 9 12 (fun K hK=>?_);refine fF rfl func131 (iR.calls _ _ _ _ _ _ _ A10.o) ?_;intro w21 hb;replace B0:=bF B0 hb;replace HB:=bX HB hb;(try clear hb);refine hK.out _ _ gu (fun hHeld=>?_);clear hK K;refine bP ?_;refine gL ax 10 13 (fun K hK=>?_);refine fF rfl func155 (lv.calls _ _ _ _ A11.o) ?_;intro w22 hb;replace B0:=bF B0 hb;replace HB:=bX HB hb;(try clear hb);refine hK.out _ _ gu (fun hHeld=>?_);clear hK K;refine bP ?_;refine bC ax 11 14 ?_;refine bC ax 12 15 ?_;refine fA ax dM 13 16 hHeld ?_;refine fA ax dM 14 17 hHeld ?_;refine fA ax dM 16 19 hHeld ?_;refine gL ax 15 18 (fun K hK=>?_);refine fF rfl func129 (gZ.calls _ _ _ _ _ _ _ A13.o) ?_;intro w23 hb;replace B0:=bF B0 hb;replace HB:=bX HB hb;(try clear hb);refine hK.out _ _ gu (fun hHeld=>?_);clear hK K;refine bP ?_;refine gL ax 17 20 (fun K hK=>?_);refine fF rfl func131 (iR.calls _ _ _ _ _ _ _ A14.o) ?_;intro w24 hb;replace B0:=bF B0 hb;replace HB:=bX HB hb;(try clear hb);refine hK.out _ _ gu (fun hHeld=>?_);clear hK K;refine bP ?_;refine gL ax 18 21 (fun K hK=>?_);refine fF rfl func90 (bq.calls _ _ _ _ _ _ _ _ _ _ A15.o) ?_;intro w25 hb;replace B0:=bF B0 hb;replace HB:=bX HB hb;(try clear hb);refine hK.out _ _ gu (fun hHeld=>?_);clear hK K;refine bP ?_;refine bC ax 19 22 ?_;refine bC ax 20 23 ?_;refine bC ax 21 24 ?_;refine bC ax 22 2 ?_;refine eX (cO ax.o (by kernel_rfl)) ?_
 try go_wp2
 go_ret
 exact iw HB
attribute [local go_sem high] Ap
def aT.T1 : Bool × List (List Nat × List Nat):=(true,[([],[]),([0],[0]),([1],[1]),([2],[2]),([3,2],[3]),([4],[4]),([5,4],[4,5]),([6,4],[4,6]),([7,4],[4,7]),([4],[4]),([9,4],[4,9]),([4,4],[4]),([10,11,4],[4,10,11]),([8,12,4],[4,8,12]),([4,13],[4,13]),([14,11],[14]),([15],[15]),([16,15],[15,16]),([17,15],[15,17]),([18,15,15],[15,18]),([19],[19]),([20,19],[19,20]),([21,19],[19,21]),([22,19],[19,22]),([19,23,15],[15,19,23]),([15,24],[15,24])])
def aT.B1 : List Nat:=[0,1,3,7,15,31,63,127,255,31,543,31,3615,8191,16383,32767,65535,131071,262143,524287,1048575,2097151,4194303,8388607,16777215,33554431]
theorem aT.qo : l9 .any (opsOf f72 1) = aT.T1:=by kernel_rfl
theorem aT.nP : fQ aT.T1.2 aT.B1 = true:=by kernel_rfl
def aT.T6 : Bool × List (List Nat × List Nat):=(true,[([],[]),([0],[0]),([],[]),([1,2],[1,2]),([3],[3]),([4],[4]),([5],[5]),([6],[6]),([7,6],[6,7]),([8,6,6],[6,8]),([9],[9]),([10,9],[9,10]),([9],[9]),([12,9],[9,12]),([11,13,9],[9,11,13]),([14,9],[9,14]),([9],[9]),([16,9],[9,16]),([9],[9]),([17,18,9],[9,17,18]),([19,9],[9,19]),([15,20,9],[9,15,20]),([9,21,6],[6,9,21]),([6,22],[6,22])])
def aT.B6 : List Nat:=[0,1,0,7,15,31,63,127,255,511,1023,2047,1023,5119,16383,32767,1023,66559,1023,459775,984063,2097151,4194303,8388607]
theorem aT.tab6 : l9 .any (opsOf f72 6) = aT.T6:=by kernel_rfl
theorem aT.tu : fQ aT.T6.2 aT.B6 = true:=by kernel_rfl
theorem aT.calls (k : Nat) (ai : Bool) (bB : Option Addr) (bu : Nat) (av : List Int) (bM : Int) (bL : Int) (bf : Int) (lL : Int) (r : Bool) (w : World) (dB : Kd.C (Kd.int .i64) w bB av.length av) (dC : av.length ≤ bu) (h : aT.f k ai av bM bL bf lL = some r) :
  Calls prog 72 #[.agg #[.bool ai,.slice bB av.length bu,.int .i64 bM,.int .i64 bL,.int .i64 bf,.int .i64 lL]] w fun e w'=>e = .returned (.bool r)∧Below w.heap.size w w':=by
 have hu84:=underlying84;have hu58:=underlying58;have bZ:=af.mk dB;have dN:=af.mk dC;clear dB dC;have HB:=af.mk (Below.refl w.heap.size w);have H:=h;unfold aT.f at H;clear h;have HC2:=af.mk H;clear H;go_enter func72,ntmps72;go_upto_region 1 with (first | ((with_reducible refine gd 1 rfl ?_);(try (refine bJ (by rfl) ?_;dsimp only));refine eO 1 #[.bool ai,.slice bB av.length bu,.int .i64 bM,.int .i64 bL,.int .i64 bf,.int .i64 lL] 84 HB ?_;clear HB;intro gb0 hg w3 hb B0 GW0 HB;clear hb hg))
 (try simp only [Act.put,List.setIfInBounds_toArray,List.set_cons_zero,List.set_cons_succ])
 go_cut [29] (fun v29 wc=>∃ (kq : Nat) (x0 : Bool),v29 = .bool x0∧af (aT.j0 kq x0 ai av bM bL bf lL = some r)∧af (kq ≤ k)∧af (wc.heap[gb0]? = some (.cells #[.bool ai,(.slice bB av.length bu),.int .i64 bM,.int .i64 bL,.int .i64 bf,.int .i64 lL] 84 (0,0)))∧af (Below w.heap.size w wc))
 case first =>
  have H:=HC2.o;clear HC2;replace H:=bK H;obtain ⟨t0,A4,H⟩:=H;(try dsimp only at H);rcases qm (t0 = true) with c5 | c5
  ·replace c5:=Bool.eq_false_iff.mpr c5;subst c5;rw [gD] at H;have H':=af.mk H;clear H
   try go_wp2
   replace B0:=bU B0;replace HB:=iI HB;refine mI 26 (fun w'=>rU w' gb0 (.bool ai) (.slice bB av.length bu) (.int .i64 bM) (.int .i64 bL) (.int .i64 bf) (.int .i64 lL)) gu (fun hHeld=>?_);refine bD aT.qo aT.nP (fun ax dM=>?_);generalize w3.drew = w18 at B0 HB hHeld ⊢;refine bC ax 0 4 ?_;refine fA ax dM 1 5 hHeld ?_;refine gL ax 2 6 (fun K hK=>?_);refine fF rfl func127 (dG.calls _ _ _ _ _ _ _ A4.o) ?_;intro w19 hb;replace B0:=bF B0 hb;replace HB:=bX HB hb;(try clear hb);refine hK.out _ _ gu (fun hHeld=>?_);clear hK K;refine bP ?_;refine bC ax 3 7 ?_;refine bC ax 4 8 ?_;refine bY ax 5 9 ?_;refine bY ax 6 10 ?_;refine bY ax 7 11 ?_;refine bY ax 8 12 ?_;refine bY ax 9 13 ?_;refine bY ax 10 14 ?_;refine bY ax 11 15 ?_;refine bY ax 12 16 ?_;refine bY ax 13 17 ?_;refine bC ax 14 18 ?_;refine bC ax 15 19 ?_;refine bY ax 16 20 ?_;refine bY ax 17 21 ?_;refine bY ax 18 22 ?_;refine bY ax 19 23 ?_;refine bY ax 20 24 ?_;refine bY ax 21 25 ?_;refine bY ax 22 26 ?_;refine bY ax 23 27 ?_;refine bY ax 24 28 ?_;refine bC ax 25 29 ?_;refine eX (cO ax.o (by kernel_rfl)) ?_
   try go_wp2
   go_meet
   case rel=>exact ⟨_,(true),fw,H',⟨ng⟩,fE B0,lD HB⟩
  subst c5;rw [if_pos rfl] at H;replace H:=bK H;obtain ⟨⟨t1,t2,t3,t4⟩,A6,H⟩:=H;(try dsimp only at H);replace H:=qc H;rcases H with ⟨c7,H⟩ | ⟨c7,H⟩
  ·have zd : (((av.length : Int) == 0) != (bM == t1 && (bL == t2 && (bf == t3 && (lL == t4))))) = true:=c7
   (try (have zk : decide (((av.length : Int) == 0) = (bM == t1 && (bL == t2 && (bf == t3 && (lL == t4))))) = false:=by simpa using c7))
   (try (have zl : (((av.length : Int) == 0) == (bM == t1 && (bL == t2 && (bf == t3 && (lL == t4))))) = false:=by simpa using c7))
   (try (have zr : ¬ (((av.length : Int) == 0) = (bM == t1 && (bL == t2 && (bf == t3 && (lL == t4))))):=by simpa using c7))
   clear c7
   (first | rw [zd] | (simp only [iQ,lg];rw [zd]) | skip)
   have H':=af.mk H;clear H
   try go_wp2
   replace B0:=bU B0;replace HB:=iI HB;refine mI 26 (fun w'=>rU w' gb0 (.bool ai) (.slice bB av.length bu) (.int .i64 bM) (.int .i64 bL) (.int .i64 bf) (.int .i64 lL)) gu (fun hHeld=>?_);refine bD aT.qo aT.nP (fun ax dM=>?_);generalize w3.drew = w8 at B0 HB hHeld ⊢;refine bC ax 0 4 ?_;refine fA ax dM 1 5 hHeld ?_;refine gL ax 2 6 (fun K hK=>?_);refine fF rfl func127 (dG.calls _ _ _ _ _ _ _ A4.o) ?_;intro w9 hb;replace B0:=bF B0 hb;replace HB:=bX HB hb;(try clear hb);refine hK.out _ _ gu (fun hHeld=>?_);clear hK K;refine bP ?_;refine bC ax 3 7 ?_;refine bC ax 4 8 ?_;refine bC ax 5 9 ?_;refine bC ax 9 13 ?_;refine fA ax dM 6 10 hHeld ?_;refine bC ax 7 11 ?_;refine bC ax 8 12 ?_;refine fA ax dM 10 14 hHeld ?_;refine gL ax 11 15 (fun K hK=>?_);refine fF rfl func93 (dw.calls _ _ _ _ _ A6.o) ?_;intro w10 hb;replace B0:=bF B0 hb;replace HB:=bX HB hb;(try clear hb);refine hK.out _ _ gu (fun hHeld=>?_);clear hK K;refine bP ?_;refine bC ax 12 16 ?_;refine bC ax 13 17 ?_;refine bC ax 14 18 ?_;refine bC ax 15 19 ?_;refine bY ax 16 20 ?_;refine bY ax 17 21 ?_;refine bY ax 18 22 ?_;refine bY ax 19 23 ?_;refine bY ax 20 24 ?_;refine bY ax 21 25 ?_;refine bY ax 22 26 ?_;refine bY ax 23 27 ?_;refine bY ax 24 28 ?_;refine bC ax 25 29 ?_;refine eX (cO ax.o (by kernel_rfl)) ?_
   try go_wp2
   go_meet
   case rel=>exact ⟨_,(true),fw,H',⟨ng⟩,fE B0,lD HB⟩
  have zd : (((av.length : Int) == 0) != (bM == t1 && (bL == t2 && (bf == t3 && (lL == t4))))) = false:=by simpa using c7
  (try (have zk : decide (((av.length : Int) == 0) = (bM == t1 && (bL == t2 && (bf == t3 && (lL == t4))))) = true:=by simpa using c7))
  (try (have zl : (((av.length : Int) == 0) == (bM == t1 && (bL == t2 && (bf == t3 && (lL == t4))))) = true:=by simpa using c7))
  clear c7
  (first | rw [zd] | (simp only [iQ,lg];rw [zd]) | skip)
  by_cases c11 : ai = true
  ·subst c11;rw [if_pos rfl] at H;have H':=af.mk H;clear H
   try go_wp2
   replace B0:=bU B0;replace HB:=iI HB;refine mI 26 (fun w'=>rU w' gb0 (.bool true) (.slice bB av.length bu) (.int .i64 bM) (.int .i64 bL) (.int .i64 bf) (.int .i64 lL)) gu (fun hHeld=>?_);refine bD aT.qo aT.nP (fun ax dM=>?_);generalize w3.drew = w12 at B0 HB hHeld ⊢;refine bC ax 0 4 ?_;refine fA ax dM 1 5 hHeld ?_;refine gL ax 2 6 (fun K hK=>?_);refine fF rfl func127 (dG.calls _ _ _ _ _ _ _ A4.o) ?_;intro w13 hb;replace B0:=bF B0 hb;replace HB:=bX HB hb;(try clear hb);refine hK.out _ _ gu (fun hHeld=>?_);clear hK K;refine bP ?_;refine bC ax 3 7 ?_;refine bC ax 4 8 ?_;refine bC ax 5 9 ?_;refine bC ax 9 13 ?_;refine fA ax dM 6 10 hHeld ?_;refine bC ax 7 11 ?_;refine bC ax 8 12 ?_;refine fA ax dM 10 14 hHeld ?_;refine gL ax 11 15 (fun K hK=>?_);refine fF rfl func93 (dw.calls _ _ _ _ _ A6.o) ?_;intro w14 hb;replace B0:=bF B0 hb;replace HB:=bX HB hb;(try clear hb);refine hK.out _ _ gu (fun hHeld=>?_);clear hK K;refine bP ?_;refine bC ax 12 16 ?_;refine bC ax 13 17 ?_;refine bC ax 14 18 ?_;refine bC ax 15 19 ?_;refine bC ax 16 20 ?_;refine fA ax dM 17 21 hHeld ?_;refine bC ax 18 22 ?_;refine bC ax 19 23 ?_;refine bY ax 20 24 ?_;refine bY ax 21 25 ?_;refine bY ax 22 26 ?_;refine bY ax 23 27 ?_;refine bC ax 24 28 ?_;refine bC ax 25 29 ?_;refine eX (cO ax.o (by kernel_rfl)) ?_
   try go_wp2
   go_meet
   case rel=>exact ⟨_,(false),fw,H',⟨ng⟩,fE B0,lD HB⟩
  replace c11:=Bool.eq_false_iff.mpr c11;subst c11;rw [gD] at H;have H':=af.mk H;clear H
  try go_wp2
  replace B0:=bU B0;replace HB:=iI HB;refine mI 26 (fun w'=>rU w' gb0 (.bool false) (.slice bB av.length bu) (.int .i64 bM) (.int .i64 bL) (.int .i64 bf) (.int .i64 lL)) gu (fun hHeld=>?_);refine bD aT.qo aT.nP (fun ax dM=>?_);generalize w3.drew = w15 at B0 HB hHeld ⊢;refine bC ax 0 4 ?_;refine fA ax dM 1 5 hHeld ?_;refine gL ax 2 6 (fun K hK=>?_);refine fF rfl func127 (dG.calls _ _ _ _ _ _ _ A4.o) ?_;intro w16 hb;replace B0:=bF B0 hb;replace HB:=bX HB hb;(try clear hb);refine hK.out _ _ gu (fun hHeld=>?_);clear hK K;refine bP ?_;refine bC ax 3 7 ?_;refine bC ax 4 8 ?_;refine bC ax 5 9 ?_;refine bC ax 9 13 ?_;refine fA ax dM 6 10 hHeld ?_;refine bC ax 7 11 ?_;refine bC ax 8 12 ?_;refine fA ax dM 10 14 hHeld ?_;refine gL ax 11 15 (fun K hK=>?_);refine fF rfl func93 (dw.calls _ _ _ _ _ A6.o) ?_;intro w17 hb;replace B0:=bF B0 hb;replace HB:=bX HB hb;(try clear hb);refine hK.out _ _ gu (fun hHeld=>?_);clear hK K;refine bP ?_;refine bC ax 12 16 ?_;refine bC ax 13 17 ?_;refine bC ax 14 18 ?_;refine bC ax 15 19 ?_;refine bC ax 16 20 ?_;refine fA ax dM 17 21 hHeld ?_;refine bC ax 18 22 ?_;refine bC ax 19 23 ?_;refine bC ax 20 24 ?_;refine fA ax dM 21 25 hHeld ?_;refine bC ax 22 26 ?_;refine bC ax 23 27 ?_;refine bC ax 24 28 ?_;refine bC ax 25 29 ?_;refine eX (cO ax.o (by kernel_rfl)) ?_
  try go_wp2
  go_meet
  case rel=>exact ⟨_,(((av.length : Int) == 0)),fw,H',⟨ng⟩,fE B0,lD HB⟩
 case rest =>
  clear HC2;obtain ⟨kq,x0,rfl,HA,HJ1,B0,HB⟩:=hcut;cases kq with
  | zero=>exact absurd HA.o (by simp [aT.j0])
  | succ kj1 =>
   have H:=HA.o;clear HA;simp only [aT.j0] at H
   by_cases c20 : x0 = true
   ·subst c20;rw [if_pos rfl] at H;obtain rfl:=Option.some.inj H
    go_wp2
    go_ret
    exact iw HB
   replace c20:=Bool.eq_false_iff.mpr c20;subst c20;rw [gD] at H;have H':=af.mk H;clear H
   go_wp2
   go_loopg [3] kj1 (fun kq v3 w'=>∃ (x1 : Int),v3 = .int .i64 x1∧af (aT.l0 kq x1 ai av bM bL bf lL = some r)∧af (kq ≤ kj1)∧af (w'.heap[gb0]? = some (.cells #[.bool ai,(.slice bB av.length bu),.int .i64 bM,.int .i64 bL,.int .i64 bf,.int .i64 lL] 84 (0,0)))∧af (Below w.heap.size w w'))
   case atStart=>exact ⟨(0),fw,H',⟨Nat.le_refl _⟩,fE B0,lD HB⟩
   case round =>
    clear H';obtain ⟨x1,rfl,HA,HK2,B0,HB⟩:=hrel;cases gk with
    | zero=>exact absurd HA.o (by simp [aT.l0])
    | succ k2 =>
     have H:=HA.o;clear HA;simp only [aT.l0] at H;replace H:=gy H;rcases H with ⟨c21,H⟩ | ⟨c21,H⟩
     ·have zm:=decide_eq_false c21;clear c21;obtain rfl:=Option.some.inj H;obtain ⟨_,_,_,_,_,_,_,_,_,_,_,_⟩:=bH B0
      go_wp2
      go_ret
      exact iw HB
     have zm:=decide_eq_true c21;clear c21;replace H:=gy H;rcases H with ⟨c22,H⟩ | ⟨c22,H⟩
     ·cases H
     have zt:=decide_eq_true c22;clear c22;replace H:=qc H;rcases H with ⟨c23,H⟩ | ⟨c23,H⟩
     ·have zn:=decide_eq_true c23;clear c23;obtain rfl:=Option.some.inj H;obtain ⟨_,_,_,_,_,_,_,_,_,_,_,_⟩:=bH B0
      try go_wp2
      replace B0:=bU B0;replace HB:=iI HB;have z3 : 0 ≤ (x1 : Int):=df;have z4 : x1 < (av.length : Int):=df;obtain ⟨z1,z7,z0⟩:=Kd.eB bZ.o x1 z3 z4;have z8:=z0;cases z7;replace z0:=aX HB z0;replace z3:=eq_true z3;replace z4:=eq_true z4;refine rO 24 (fun w'=>rU w' gb0 (.bool ai) (.slice (some z1) av.length bu) (.int .i64 bM) (.int .i64 bL) (.int .i64 bf) (.int .i64 lL)∧w'.cell? (z1.add (x1).toNat) = some (.int .i64 (rd av x1))) [] ⟨dX B0,(aX HB z8 :)⟩ (fun hHeld=>?_);refine bD aT.tab6 aT.tu (fun ax dM=>?_);generalize wr.drew = w25 at B0 HB z0 hHeld ⊢;refine bC ax 0 37 ?_;refine bC ax 2 39 ?_;refine fA ax dM 1 38 hHeld ?_;refine bC ax 3 40 ?_;refine fA ax dM 4 41 hHeld ?_;refine bC ax 5 42 ?_;refine bC ax 6 43 ?_;refine bY ax 7 44 ?_;refine bY ax 8 45 ?_;refine bY ax 9 46 ?_;refine bY ax 10 47 ?_;refine bY ax 11 48 ?_;refine bY ax 12 49 ?_;refine bY ax 13 50 ?_;refine bY ax 14 51 ?_;refine bY ax 15 52 ?_;refine bY ax 16 53 ?_;refine bY ax 17 54 ?_;refine bY ax 18 55 ?_;refine bY ax 19 56 ?_;refine bY ax 20 57 ?_;refine bY ax 21 58 ?_;refine bY ax 22 59 ?_;refine bC ax 23 60 ?_;refine eX (cO ax.o (by kernel_rfl)) ?_
      try go_wp2
      go_ret
      exact iw HB
     have zn:=decide_eq_false c23;clear c23;replace H:=gy H;rcases H with ⟨c26,H⟩ | ⟨c26,H⟩
     ·have zo : decide (0 < x1) = false:=decide_eq_false c26;clear c26;have H':=af.mk H;clear H;obtain ⟨_,_,_,_,_,_,_,_,_,_,_,_⟩:=bH B0
      try go_wp2
      replace B0:=bU B0;replace HB:=iI HB;have z3 : 0 ≤ (x1 : Int):=df;have z4 : x1 < (av.length : Int):=df;obtain ⟨z1,z7,z0⟩:=Kd.eB bZ.o x1 z3 z4;have z8:=z0;cases z7;replace z0:=aX HB z0;replace z3:=eq_true z3;replace z4:=eq_true z4;refine rO 24 (fun w'=>rU w' gb0 (.bool ai) (.slice (some z1) av.length bu) (.int .i64 bM) (.int .i64 bL) (.int .i64 bf) (.int .i64 lL)∧w'.cell? (z1.add (x1).toNat) = some (.int .i64 (rd av x1))) [] ⟨dX B0,(aX HB z8 :)⟩ (fun hHeld=>?_);refine bD aT.tab6 aT.tu (fun ax dM=>?_);generalize wr.drew = w36 at B0 HB z0 hHeld ⊢;refine bC ax 0 37 ?_;refine bC ax 2 39 ?_;refine fA ax dM 1 38 hHeld ?_;refine bC ax 3 40 ?_;refine fA ax dM 4 41 hHeld ?_;refine bC ax 5 42 ?_;refine bC ax 6 43 ?_;refine bC ax 7 44 ?_;refine bC ax 8 45 ?_;refine bC ax 9 46 ?_;refine bY ax 10 47 ?_;refine bY ax 11 48 ?_;refine bY ax 12 49 ?_;refine bY ax 13 50 ?_;refine bY ax 14 51 ?_;refine bY ax 15 52 ?_;refine bY ax 16 53 ?_;refine bY ax 17 54 ?_;refine bY ax 18 55 ?_;refine bY ax 19 56 ?_;refine bY ax 20 57 ?_;refine bY ax 21 58 ?_;refine bC ax 22 59 ?_;refine bC ax 23 60 ?_;refine eX (cO ax.o (by kernel_rfl)) ?_
      try go_wp2
      go_roundg k2
      case measure=>have:=HJ1.o;have:=HK2.o;omega
      case rel=>exact ⟨(wrap64 (x1 + 1)),fw,H',⟨by have:=HJ1.o;have:=HK2.o;omega⟩,fE B0,lD HB⟩
     have zo : decide (0 < x1) = true:=decide_eq_true c26;clear c26;obtain ⟨z2,ze⟩ : ∃ j_ : Int,(wrap64 (x1 - 1)) = j_:=⟨_,rfl⟩
     replace H : (if 0 ≤ (z2) then (if (z2) < (av.length : Int) then (if (rd av (z2)) ≥ (rd av x1) then (some false) else (aT.l0 k2 (wrap64 (x1 + 1)) ai av bM bL bf lL)) else (none)) else (none)) = some r:=by first | (rw [ze] at H;exact H) | (simp only [ze] at H ⊢;exact H)
     have zu : (IntKind.i64.wrap (x1 - 1)) = z2:=(iQ _).trans ze;replace H:=gy H;rcases H with ⟨c28,H⟩ | ⟨c28,H⟩
     ·cases H
     have zv:=decide_eq_true c28;clear c28;replace H:=gy H;rcases H with ⟨c29,H⟩ | ⟨c29,H⟩
     ·cases H
     have zw:=decide_eq_true c29;clear c29;replace H:=qc H;rcases H with ⟨c30,H⟩ | ⟨c30,H⟩
     ·have zp : decide ((rd av x1) ≤ (rd av (z2))) = true:=decide_eq_true c30;clear c30;obtain rfl:=Option.some.inj H;obtain ⟨_,_,_,_,_,_,_,_,_,_,_,_⟩:=bH B0
      try go_wp2
      replace B0:=bU B0;replace HB:=iI HB;have z3 : 0 ≤ (x1 : Int):=df;have z4 : x1 < (av.length : Int):=df;obtain ⟨z1,z7,z0⟩:=Kd.eB bZ.o x1 z3 z4;have z8:=z0;cases z7;replace z0:=aX HB z0;replace z3:=eq_true z3;replace z4:=eq_true z4;have z9 : 0 ≤ ((z2) : Int):=df;have za : (z2) < (av.length : Int):=df;obtain ⟨zf,zg,z5⟩:=Kd.eB bZ.o (z2) z9 za;have zh:=z5;obtain rfl : z1 = zf:=(by injection zg);replace z5:=aX HB z5;replace z9:=eq_true z9;replace za:=eq_true za;have zb : 0 ≤ (x1 : Int):=df;have zc : x1 < (av.length : Int):=df;obtain ⟨zi,zj,z6⟩:=Kd.eB bZ.o x1 zb zc;have zq:=z6;obtain rfl : z1 = zi:=(by injection zj);replace z6:=aX HB z6;replace zb:=eq_true zb;replace zc:=eq_true zc;refine rO 24 (fun w'=>rU w' gb0 (.bool ai) (.slice (some z1) av.length bu) (.int .i64 bM) (.int .i64 bL) (.int .i64 bf) (.int .i64 lL)∧w'.cell? (z1.add (x1).toNat) = some (.int .i64 (rd av x1))∧w'.cell? (z1.add ((z2)).toNat) = some (.int .i64 (rd av (z2)))) [] ⟨dX B0,(aX HB z8 :),(aX HB zh :)⟩ (fun hHeld=>?_);refine bD aT.tab6 aT.tu (fun ax dM=>?_);generalize wr.drew = w32 at B0 HB z0 z5 z6 hHeld ⊢;refine bC ax 0 37 ?_;refine bC ax 2 39 ?_;refine fA ax dM 1 38 hHeld ?_;refine bC ax 3 40 ?_;refine fA ax dM 4 41 hHeld ?_;refine bC ax 5 42 ?_;refine bC ax 6 43 ?_;refine bC ax 7 44 ?_;refine bC ax 8 45 ?_;refine bC ax 9 46 ?_;refine bC ax 10 47 ?_;refine bC ax 12 49 ?_;refine bC ax 13 50 ?_;refine bC ax 16 53 ?_;refine bC ax 18 55 ?_;refine fA ax dM 11 48 hHeld ?_;refine bC ax 14 51 ?_;refine fA ax dM 15 52 hHeld ?_;refine fA ax dM 17 54 hHeld ?_;refine bC ax 19 56 ?_;refine fA ax dM 20 57 hHeld ?_;refine bC ax 21 58 ?_;refine bC ax 22 59 ?_;refine bC ax 23 60 ?_;refine eX (cO ax.o (by kernel_rfl)) ?_
      try go_wp2
      go_ret
      exact ⟨by first | rfl | (simp [oq,ou] <;> rfl) | (simp only [← ze];first | rfl | (simp [oq,ou] <;> rfl)) | (simp [*,oq,ou] <;> rfl),ig HB⟩
     have zp : decide ((rd av x1) ≤ (rd av (z2))) = false:=decide_eq_false c30;clear c30;have H':=af.mk H;clear H;obtain ⟨_,_,_,_,_,_,_,_,_,_,_,_⟩:=bH B0
     try go_wp2
     replace B0:=bU B0;replace HB:=iI HB;have z3 : 0 ≤ (x1 : Int):=df;have z4 : x1 < (av.length : Int):=df;obtain ⟨z1,z7,z0⟩:=Kd.eB bZ.o x1 z3 z4;have z8:=z0;cases z7;replace z0:=aX HB z0;replace z3:=eq_true z3;replace z4:=eq_true z4;have z9 : 0 ≤ ((z2) : Int):=df;have za : (z2) < (av.length : Int):=df;obtain ⟨zf,zg,z5⟩:=Kd.eB bZ.o (z2) z9 za;have zh:=z5;obtain rfl : z1 = zf:=(by injection zg);replace z5:=aX HB z5;replace z9:=eq_true z9;replace za:=eq_true za;have zb : 0 ≤ (x1 : Int):=df;have zc : x1 < (av.length : Int):=df;obtain ⟨zi,zj,z6⟩:=Kd.eB bZ.o x1 zb zc;have zq:=z6;obtain rfl : z1 = zi:=(by injection zj);replace z6:=aX HB z6;replace zb:=eq_true zb;replace zc:=eq_true zc;refine rO 24 (fun w'=>rU w' gb0 (.bool ai) (.slice (some z1) av.length bu) (.int .i64 bM) (.int .i64 bL) (.int .i64 bf) (.int .i64 lL)∧w'.cell? (z1.add (x1).toNat) = some (.int .i64 (rd av x1))∧w'.cell? (z1.add ((z2)).toNat) = some (.int .i64 (rd av (z2)))) [] ⟨dX B0,(aX HB z8 :),(aX HB zh :)⟩ (fun hHeld=>?_);refine bD aT.tab6 aT.tu (fun ax dM=>?_);generalize wr.drew = w34 at B0 HB z0 z5 z6 hHeld ⊢;refine bC ax 0 37 ?_;refine bC ax 2 39 ?_;refine fA ax dM 1 38 hHeld ?_;refine bC ax 3 40 ?_;refine fA ax dM 4 41 hHeld ?_;refine bC ax 5 42 ?_;refine bC ax 6 43 ?_;refine bC ax 7 44 ?_;refine bC ax 8 45 ?_;refine bC ax 9 46 ?_;refine bC ax 10 47 ?_;refine bC ax 12 49 ?_;refine bC ax 13 50 ?_;refine bC ax 16 53 ?_;refine bC ax 18 55 ?_;refine fA ax dM 11 48 hHeld ?_;refine bC ax 14 51 ?_;refine fA ax dM 15 52 hHeld ?_;refine fA ax dM 17 54 hHeld ?_;refine bC ax 19 56 ?_;refine fA ax dM 20 57 hHeld ?_;refine bC ax 21 58 ?_;refine bC ax 22 59 ?_;refine bC ax 23 60 ?_;refine eX (cO ax.o (by kernel_rfl)) ?_
     try go_wp2
     go_roundg k2
     case measure=>have:=HJ1.o;have:=HK2.o;omega
     case rel=>exact ⟨(wrap64 (x1 + 1)),fw,H',⟨by have:=HJ1.o;have:=HK2.o;omega⟩,fE B0,lD HB⟩
attribute [local go_sem high] Ap
def dh.T4 : Bool × List (List Nat × List Nat):=(true,[([],[]),([],[]),([0,1],[0,1]),([2],[2]),([3],[3]),([4],[4]),([5,4],[5]),([6],[6]),([6],[6]),([7,8,6],[6,7,8]),([9,6],[6,9]),([6,6],[6]),([10,11,6],[6,10,11]),([6,12],[6,12])])
def dh.B4 : List Nat:=[0,0,3,7,15,31,63,127,127,511,1023,127,4095,8191]
theorem dh.DF : l9 .any (opsOf f73 4) = dh.T4:=by kernel_rfl
theorem dh.Bc : fQ dh.T4.2 dh.B4 = true:=by kernel_rfl
theorem dh.calls (k : Nat) (A0 : Option Addr) (c0 : Nat) (l0 : List (bV)) (r : Bool) (w : World) (hr0 : Kd.C mo w A0 l0.length l0) (hc0 : l0.length ≤ c0) (h : dh.f k l0 = some r) :
  Calls prog 73 #[.slice A0 l0.length c0] w fun e w'=>e = .returned (.bool r)∧Below w.heap.size w w':=by
 have hu58:=underlying58;have HR0:=af.mk hr0;have HC0:=af.mk hc0;clear hr0 hc0;have HB:=af.mk (Below.refl w.heap.size w);have H:=h;unfold dh.f at H;clear h;have H':=af.mk H;clear H;go_enter func73,ntmps73
 go_wp2
 go_loopg [3] k (fun kq v3 w'=>∃ (x0 : Int),v3 = .int .i64 x0∧af (dh.l0 kq l0 x0 = some r)∧af (kq ≤ k)∧af (Below w.heap.size w w'))
 case atStart=>exact ⟨(0),fw,H',⟨Nat.le_refl _⟩,lD HB⟩
 case round =>
  clear H';obtain ⟨x0,rfl,HA,HK1,HB⟩:=hrel;cases gk with
  | zero=>exact absurd HA.o (by simp [dh.l0])
  | succ k1 =>
   have H:=HA.o;clear HA;simp only [dh.l0] at H;replace H:=gy H;rcases H with ⟨c2,H⟩ | ⟨c2,H⟩
   ·have zk:=decide_eq_false c2;clear c2;obtain rfl:=Option.some.inj H
    go_wp2
    go_ret
    exact iw HB
   have zk:=decide_eq_true c2;clear c2;replace H:=gy H;rcases H with ⟨c3,H⟩ | ⟨c3,H⟩
   ·cases H
   have zt:=decide_eq_true c3;clear c3;replace H:=bK H;obtain ⟨t0,A4,H⟩:=H;(try dsimp only at H);rcases qm (t0 = true) with c5 | c5
   ·replace c5:=Bool.eq_false_iff.mpr c5;subst c5;rw [gD] at H;obtain rfl:=Option.some.inj H
    try go_wp2
    replace HB:=iI HB;have z5 : 0 ≤ (x0 : Int):=df;have z6 : x0 < (l0.length : Int):=df;obtain ⟨z0,zh,z1,z2,z3,z4⟩:=lF HR0.o x0 z5 z6;have z7:=z4;have z8:=z3;have z9:=z2;have za:=z1;cases zh;replace z1:=aX HB z1;replace z2:=aX HB z2;replace z3:=aX HB z3;replace z4:=aX HB z4;replace z5:=eq_true z5;replace z6:=eq_true z6;refine rO 14 (fun w'=>w'.cell? (z0.add ((x0).toNat * 4)) = some (.int .i64 ((ak l0 x0).f0))∧w'.cell? ⟨(z0.add ((x0).toNat * 4)).block,(z0.add ((x0).toNat * 4)).off + 1,none⟩ = some (.int .i64 ((ak l0 x0).f1))∧w'.cell? ⟨(z0.add ((x0).toNat * 4)).block,(z0.add ((x0).toNat * 4)).off + 2,none⟩ = some (.int .i64 ((ak l0 x0).f2))∧w'.cell? ⟨(z0.add ((x0).toNat * 4)).block,(z0.add ((x0).toNat * 4)).off + 3,none⟩ = some (.int .i64 ((ak l0 x0).f3))) [] ⟨(aX HB za :),(aX HB z9 :),(aX HB z8 :),(aX HB z7 :)⟩ (fun hHeld=>?_);refine bD dh.DF dh.Bc (fun ax dM=>?_);generalize wr.drew = w14 at HB z1 z2 z3 z4 hHeld ⊢;refine bC ax 0 10 ?_;refine bC ax 1 11 ?_;refine bC ax 2 12 ?_;refine fA ax dM 3 13 hHeld ?_;refine gL ax 4 14 (fun K hK=>?_);refine fF rfl func127 (dG.calls _ _ _ _ _ _ _ A4.o) ?_;intro w15 hb;replace HB:=bX HB hb;(try clear hb);refine hK.out _ _ ⟨(aX HB za :),(aX HB z9 :),(aX HB z8 :),(aX HB z7 :)⟩ (fun hHeld=>?_);clear hK K;refine bP ?_;refine bC ax 5 15 ?_;refine bC ax 6 16 ?_;refine bY ax 7 17 ?_;refine bY ax 8 18 ?_;refine bY ax 9 19 ?_;refine bY ax 10 20 ?_;refine bY ax 11 21 ?_;refine bY ax 12 22 ?_;refine bC ax 13 23 ?_;refine eX (cO ax.o (by kernel_rfl)) ?_
    try go_wp2
    go_ret
    exact iw HB
   subst c5;rw [if_pos rfl] at H;replace H:=bK H;obtain ⟨⟨t1,t2,t3,t4⟩,A6,H⟩:=H;(try dsimp only at H);replace H:=qc H;rcases H with ⟨c7,H⟩ | ⟨c7,H⟩
   ·have zl : (((ak l0 x0).f0) == t1 && (((ak l0 x0).f1) == t2 && (((ak l0 x0).f2) == t3 && (((ak l0 x0).f3) == t4)))) = true:=c7
    (try (have zm : decide (((ak l0 x0).f0) = t1 && (((ak l0 x0).f1) == t2 && (((ak l0 x0).f2) == t3 && (((ak l0 x0).f3) == t4)))) = true:=by simpa using c7))
    (try (have zn : (((ak l0 x0).f0) == t1 && (((ak l0 x0).f1) == t2 && (((ak l0 x0).f2) == t3 && (((ak l0 x0).f3) == t4)))) = true:=by simpa using c7))
    clear c7;obtain rfl:=Option.some.inj H
    try go_wp2
    replace HB:=iI HB;have z5 : 0 ≤ (x0 : Int):=df;have z6 : x0 < (l0.length : Int):=df;obtain ⟨z0,zh,z1,z2,z3,z4⟩:=lF HR0.o x0 z5 z6;have z7:=z4;have z8:=z3;have z9:=z2;have za:=z1;cases zh;replace z1:=aX HB z1;replace z2:=aX HB z2;replace z3:=aX HB z3;replace z4:=aX HB z4;replace z5:=eq_true z5;replace z6:=eq_true z6;have zf : 0 ≤ (x0 : Int):=df;have zg : x0 < (l0.length : Int):=df;obtain ⟨zi,zj,zb,zc,zd,ze⟩:=lF HR0.o x0 zf zg;have zo:=ze;have zp:=zd;have zq:=zc;have zr:=zb;obtain rfl : z0 = zi:=(by injection zj);replace zb:=aX HB zb;replace zc:=aX HB zc;replace zd:=aX HB zd;replace ze:=aX HB ze;replace zf:=eq_true zf;replace zg:=eq_true zg;refine rO 14 (fun w'=>w'.cell? (z0.add ((x0).toNat * 4)) = some (.int .i64 ((ak l0 x0).f0))∧w'.cell? ⟨(z0.add ((x0).toNat * 4)).block,(z0.add ((x0).toNat * 4)).off + 1,none⟩ = some (.int .i64 ((ak l0 x0).f1))∧w'.cell? ⟨(z0.add ((x0).toNat * 4)).block,(z0.add ((x0).toNat * 4)).off + 2,none⟩ = some (.int .i64 ((ak l0 x0).f2))∧w'.cell? ⟨(z0.add ((x0).toNat * 4)).block,(z0.add ((x0).toNat * 4)).off + 3,none⟩ = some (.int .i64 ((ak l0 x0).f3))) [] ⟨(aX HB za :),(aX HB z9 :),(aX HB z8 :),(aX HB z7 :)⟩ (fun hHeld=>?_);refine bD dh.DF dh.Bc (fun ax dM=>?_);generalize wr.drew = w8 at HB z1 z2 z3 z4 zb zc zd ze hHeld ⊢;refine bC ax 0 10 ?_;refine bC ax 1 11 ?_;refine bC ax 2 12 ?_;refine fA ax dM 3 13 hHeld ?_;refine gL ax 4 14 (fun K hK=>?_);refine fF rfl func127 (dG.calls _ _ _ _ _ _ _ A4.o) ?_;intro w9 hb;replace HB:=bX HB hb;(try clear hb);refine hK.out _ _ ⟨(aX HB za :),(aX HB z9 :),(aX HB z8 :),(aX HB z7 :)⟩ (fun hHeld=>?_);clear hK K;refine bP ?_;refine bC ax 5 15 ?_;refine bC ax 6 16 ?_;refine bC ax 7 17 ?_;refine bC ax 8 18 ?_;refine bC ax 9 19 ?_;refine fA ax dM 10 20 hHeld ?_;refine gL ax 11 21 (fun K hK=>?_);refine fF rfl func93 (dw.calls _ _ _ _ _ A6.o) ?_;intro w10 hb;replace HB:=bX HB hb;(try clear hb);refine hK.out _ _ ⟨(aX HB za :),(aX HB z9 :),(aX HB z8 :),(aX HB z7 :)⟩ (fun hHeld=>?_);clear hK K;refine bP ?_;refine bC ax 12 22 ?_;refine bC ax 13 23 ?_;refine eX (cO ax.o (by kernel_rfl)) ?_
    try go_wp2
    go_ret
    exact iw HB
   have zl : (((ak l0 x0).f0) == t1 && (((ak l0 x0).f1) == t2 && (((ak l0 x0).f2) == t3 && (((ak l0 x0).f3) == t4)))) = false:=by simpa using c7
   (try (have zm : decide (((ak l0 x0).f0) = t1 && (((ak l0 x0).f1) == t2 && (((ak l0 x0).f2) == t3 && (((ak l0 x0).f3) == t4)))) = false:=by simpa using c7))
   (try (have zn : (((ak l0 x0).f0) == t1 && (((ak l0 x0).f1) == t2 && (((ak l0 x0).f2) == t3 && (((ak l0 x0).f3) == t4)))) = false:=by simpa using c7))
   (try (have zu : ¬ (((ak l0 x0).f0) = t1 && (((ak l0 x0).f1) == t2 && (((ak l0 x0).f2) == t3 && (((ak l0 x0).f3) == t4)))):=by simpa using c7))
   clear c7;have H':=af.mk H;clear H
   try go_wp2
   replace HB:=iI HB;have z5 : 0 ≤ (x0 : Int):=df;have z6 : x0 < (l0.length : Int):=df;obtain ⟨z0,zh,z1,z2,z3,z4⟩:=lF HR0.o x0 z5 z6;have z7:=z4;have z8:=z3;have z9:=z2;have za:=z1;cases zh;replace z1:=aX HB z1;replace z2:=aX HB z2;replace z3:=aX HB z3;replace z4:=aX HB z4;replace z5:=eq_true z5;replace z6:=eq_true z6;have zf : 0 ≤ (x0 : Int):=df;have zg : x0 < (l0.length : Int):=df;obtain ⟨zi,zj,zb,zc,zd,ze⟩:=lF HR0.o x0 zf zg;have zo:=ze;have zp:=zd;have zq:=zc;have zr:=zb;obtain rfl : z0 = zi:=(by injection zj);replace zb:=aX HB zb;replace zc:=aX HB zc;replace zd:=aX HB zd;replace ze:=aX HB ze;replace zf:=eq_true zf;replace zg:=eq_true zg;refine rO 14 (fun w'=>w'.cell? (z0.add ((x0).toNat * 4)) = some (.int .i64 ((ak l0 x0).f0))∧w'.cell? ⟨(z0.add ((x0).toNat * 4)).block,(z0.add ((x0).toNat * 4)).off + 1,none⟩ = some (.int .i64 ((ak l0 x0).f1))∧w'.cell? ⟨(z0.add ((x0).toNat * 4)).block,(z0.add ((x0).toNat * 4)).off + 2,none⟩ = some (.int .i64 ((ak l0 x0).f2))∧w'.cell? ⟨(z0.add ((x0).toNat * 4)).block,(z0.add ((x0).toNat * 4)).off + 3,none⟩ = some (.int .i64 ((ak l0 x0).f3))) [] ⟨(aX HB za :),(aX HB z9 :),(aX HB z8 :),(aX HB z7 :)⟩ (fun hHeld=>?_);refine bD dh.DF dh.Bc (fun ax dM=>?_);generalize wr.drew = w11 at HB z1 z2 z3 z4 zb zc zd ze hHeld ⊢;refine bC ax 0 10 ?_;refine bC ax 1 11 ?_;refine bC ax 2 12 ?_;refine fA ax dM 3 13 hHeld ?_;refine gL ax 4 14 (fun K hK=>?_);refine fF rfl func127 (dG.calls _ _ _ _ _ _ _ A4.o) ?_;intro w12 hb;replace HB:=bX HB hb;(try clear hb);refine hK.out _ _ ⟨(aX HB za :),(aX HB z9 :),(aX HB z8 :),(aX HB z7 :)⟩ (fun hHeld=>?_);clear hK K;refine bP ?_;refine bC ax 5 15 ?_;refine bC ax 6 16 ?_;refine bC ax 7 17 ?_;refine bC ax 8 18 ?_;refine bC ax 9 19 ?_;refine fA ax dM 10 20 hHeld ?_;refine gL ax 11 21 (fun K hK=>?_);refine fF rfl func93 (dw.calls _ _ _ _ _ A6.o) ?_;intro w13 hb;replace HB:=bX HB hb;(try clear hb);refine hK.out _ _ ⟨(aX HB za :),(aX HB z9 :),(aX HB z8 :),(aX HB z7 :)⟩ (fun hHeld=>?_);clear hK K;refine bP ?_;refine bC ax 12 22 ?_;refine bC ax 13 23 ?_;refine eX (cO ax.o (by kernel_rfl)) ?_
   try go_wp2
   go_roundg k1
   case measure=>have:=HK1.o;omega
   case rel=>exact ⟨(wrap64 (x0 + 1)),fw,H',⟨by have:=HK1.o;omega⟩,lD HB⟩
theorem oZ.calls (ai : Int) (bB : Option Addr) (bu : Nat) (av : List Int) (a1 : Int) (a2 : Int) (r : Int) (w : World) (dB : Kd.C (Kd.int .i64) w bB av.length av) (dC : av.length ≤ bu) (h : oZ.f ai av a1 a2 = some r) :
  Calls prog 135 #[.agg #[.int .i64 ai,.slice bB av.length bu],.int .i64 a1,.int .i64 a2] w fun e w'=>e = .returned (.int .i64 r)∧Below w.heap.size w w':=by
 have hu32:=underlying32;have bZ:=af.mk dB;have dN:=af.mk dC;clear dB dC;have HB:=af.mk (Below.refl w.heap.size w);have H:=h;unfold oZ.f at H;clear h;obtain ⟨z0,z1⟩ : ∃ j_ : Int,(wrap64 ((wrap64 (a1 * (wrap64 (ai + 1)))) + a2)) = j_:=⟨_,rfl⟩
 replace H : (if 0 ≤ (z0) then (if (z0) < (av.length : Int) then (some (rd av (z0))) else (none)) else (none)) = some r:=by first | (rw [z1] at H;exact H) | (simp only [z1] at H ⊢;exact H)
 have z6 : (IntKind.i64.wrap ((wrap64 (a1 * (wrap64 (ai + 1)))) + a2)) = z0:=(iQ _).trans z1;replace H:=gy H;rcases H with ⟨c5,H⟩ | ⟨c5,H⟩
 ·cases H
 have z7:=decide_eq_true c5;clear c5;replace H:=gy H;rcases H with ⟨c6,H⟩ | ⟨c6,H⟩
 ·cases H
 have z8:=decide_eq_true c6;clear c6;obtain rfl:=Option.some.inj H;go_enter func135,ntmps135;go_wp2_with (first | ((with_reducible refine gd 3 rfl ?_);refine eO 3 #[.int .i64 ai,.slice bB av.length bu] 32 HB ?_;clear HB;intro gb0 hg w7 hb B0 GW0 HB;clear hb hg;obtain ⟨_,_,_,_⟩:=bE B0;have z2 : 0 ≤ ((z0) : Int):=df;have z3 : (z0) < (av.length : Int):=df;obtain ⟨z9,z5,z4⟩:=Kd.eB bZ.o (z0) z2 z3;cases z5;replace z4:=aX HB z4;replace z2:=eq_true z2;replace z3:=eq_true z3))
 go_ret
 exact ⟨by first | rfl | (simp [oq,ou] <;> rfl) | (simp only [← z1];first | rfl | (simp [oq,ou] <;> rfl)) | (simp [*,oq,ou] <;> rfl),ig HB⟩
end Go.Proofs.YtklkdpcopfjmcaaGreat.PFnExactAbsWiden
