/- Functions of the program as plain Lean functions, and that calls of them come to what these tell. Conditions: those in each law. -/
import Derived.Test.YtlbheepfmjbpnaaSqV
import Derived.Test.YtlbheepfmjbpnaaDFnValDoV
import Derived.Test.YtlbheepfmjbpnaaQFnValDox0V
import Derived.Test.YtlbheepfmjbpnaaQFnValDox4V
import Derived.Test.YtlbheepfmjbpnaaQFnValDox8V
import Derived.Test.YtlbheepfmjbpnaaQFnValDox33V
import Derived.Test.YtlbheepfmjbpnaaQFnValDox27V
namespace Go.Proofs.Ytlbheepfmjbpnaa.PFnValDo
open Go.RowKit Go.Proofs.Ytlbheepfmjbpnaa.Sq Go.Proofs.YtlbheepfmjbpnaaW.PrintWords Go.Proofs.YtlbheepfmjbpnaaW.PrintLast Go.Proofs.YtlbheepfmjbpnaaW.PrintMore
attribute [local go_sem] max2_int min2_int max_two min_two max_three min_three max_four min_four   -- for this text's walks alone
set_option linter.unusedVariables false
set_option linter.unusedSimpArgs false

attribute [local go_sem high] eqA39
set_option maxHeartbeats 8000000
set_option maxRecDepth 100000
/-! ### spec_ValOk: function 60 -/
def spec_ValOk.T1 : Bool × List (List Nat × List Nat):=(true,[([],[]),([],[]),([0,1],[0,1]),([2,1],[2]),([3],[3]),([4,3,3],[3,4]),([5,5,3],[3,5]),([6,6,3],[3,6]),([7],[7]),([8,7,7],[7,8]),([9,9,7],[7,9]),([7,10,3],[3,7,10]),([11,10,3],[3,11]),([12],[12]),([12],[12]),([14,12,12],[12,14]),([12],[12]),([16,15,12],[12,16]),([15,17,17,12],[12,15,17]),([13,18,12],[12,13,18]),([12,19,3],[3,12,19]),([3,20],[3,20]),([21,18,0,1,2,3,4,5,6,7,8,9,10,11,12,13,14,15,16,17,18,19,20,21],[21])])
def spec_ValOk.B1 : List Nat:=[0,0,3,7,15,31,63,127,255,511,1023,2047,4095,8191,8191,24575,8191,122879,253951,524287,1048575,2097151,4194303]
theorem spec_ValOk.tab1 : rtab .any (opsOf Try.f60 1) = spec_ValOk.T1:=by kernel_rfl
theorem spec_ValOk.bits1 : waitsOk spec_ValOk.T1.2 spec_ValOk.B1 = true:=by kernel_rfl
theorem spec_ValOk.calls (k : Nat) (a0_0 : Int) (a0_1 : Int) (a0_2 : Int) (a0_3 : Int) (r : Bool) (w : World) (h : spec_ValOk.f k a0_0 a0_1 a0_2 a0_3 = some r) :
  Calls Try.prog 60 #[.agg #[.int .i64 a0_0,.int .i64 a0_1,.int .i64 a0_2,.int .i64 a0_3]] w fun e w'=>e = .returned (.bool r)∧Below w.heap.size w w':=by
 have hu39:=Try.underlying39;have HB:=Aside0.mk (Below.refl w.heap.size w);have H:=h;unfold spec_ValOk.f at H;clear h;replace H:=sqbi H;obtain ⟨⟨t0,t1,t2,t3⟩,A2,H⟩:=H;(try dsimp only at H);replace H:=sqj H;rcases H with ⟨c3,H⟩ | ⟨c3,H⟩
 ·have z0 : (a0_0 == t0 && (a0_1 == t1 && (a0_2 == t2 && (a0_3 == t3)))) = true:=c3
  (try (have z1 : decide (a0_0 = t0 && (a0_1 == t1 && (a0_2 == t2 && (a0_3 == t3)))) = true:=by simpa using c3))
  (try (have z2 : (a0_0 == t0 && (a0_1 == t1 && (a0_2 == t2 && (a0_3 == t3)))) = true:=by simpa using c3))
  clear c3;obtain rfl:=Option.some.inj H;go_enter Try.func60,Try.ntmps60
  try go_wp2_with (first | ((with_reducible refine gd 1 rfl ?_);refine sqX 1 #[.int .i64 a0_0,.int .i64 a0_1,.int .i64 a0_2,.int .i64 a0_3] 39 HB ?_;clear HB;intro gb0 hg w4 hb B0 GW0 HB;clear hb hg))
  replace B0:=sqdr B0;replace HB:=sqdB HB;refine sqst 23 (fun w'=>Ce4 w' gb0 (.int .i64 a0_0) (.int .i64 a0_1) (.int .i64 a0_2) (.int .i64 a0_3)) sqz (fun hHeld=>?_);refine with_tabW spec_ValOk.tab1 spec_ValOk.bits1 (fun HT_ HW_=>?_);generalize w4.drew = w5 at B0 HB hHeld ⊢;refine sqw HT_ HW_ 0 3 hHeld ?_;refine sqo HT_ 1 4 (fun K hK=>?_);refine sqGb rfl Try.func61 (spec_l10None.calls _ _ _ _ _ A2.out) ?_;intro w6 hb;replace B0:=sqb B0 hb;replace HB:=sqs HB hb;(try clear hb);refine hK.out _ _ sqz (fun hHeld=>?_);clear hK K;refine sqnm ?_;refine sqp HT_ 2 5 ?_;refine sqp HT_ 3 6 ?_;refine sqpu HT_ 4 7 ?_;refine sqpu HT_ 5 8 ?_;refine sqpu HT_ 6 9 ?_;refine sqpu HT_ 7 10 ?_;refine sqpu HT_ 8 11 ?_;refine sqpu HT_ 9 12 ?_;refine sqpu HT_ 10 13 ?_;refine sqpu HT_ 11 14 ?_;refine sqpu HT_ 12 15 ?_;refine sqpu HT_ 13 16 ?_;refine sqpu HT_ 14 17 ?_;refine sqpu HT_ 15 18 ?_;refine sqpu HT_ 16 19 ?_;refine sqpu HT_ 17 20 ?_;refine sqpu HT_ 18 21 ?_;refine sqpu HT_ 19 22 ?_;refine sqpu HT_ 20 23 ?_;refine sqp HT_ 21 24 ?_;refine sqp HT_ 22 2 ?_;refine done_ (done_of HT_.out (by kernel_rfl)) ?_
  try go_wp2
  go_ret
  exact sqe HB
 have z0 : (a0_0 == t0 && (a0_1 == t1 && (a0_2 == t2 && (a0_3 == t3)))) = false:=by simpa using c3
 (try (have z1 : decide (a0_0 = t0 && (a0_1 == t1 && (a0_2 == t2 && (a0_3 == t3)))) = false:=by simpa using c3))
 (try (have z2 : (a0_0 == t0 && (a0_1 == t1 && (a0_2 == t2 && (a0_3 == t3)))) = false:=by simpa using c3))
 (try (have z3 : ¬ (a0_0 = t0 && (a0_1 == t1 && (a0_2 == t2 && (a0_3 == t3)))):=by simpa using c3))
 clear c3;replace H:=sqbi H;obtain ⟨⟨t4,t5⟩,A7,H⟩:=H;(try dsimp only at H);replace H:=sqbi H;obtain ⟨t6,A8,H⟩:=H;(try dsimp only at H);rcases sqI (t6 = true) with c9 | c9
 ·replace c9:=Bool.eq_false_iff.mpr c9;subst c9;rw [sqff] at H;obtain rfl:=Option.some.inj H;go_enter Try.func60,Try.ntmps60
  try go_wp2_with (first | ((with_reducible refine gd 1 rfl ?_);refine sqX 1 #[.int .i64 a0_0,.int .i64 a0_1,.int .i64 a0_2,.int .i64 a0_3] 39 HB ?_;clear HB;intro gb0 hg w33 hb B0 GW0 HB;clear hb hg))
  replace B0:=sqdr B0;replace HB:=sqdB HB;refine sqst 23 (fun w'=>Ce4 w' gb0 (.int .i64 a0_0) (.int .i64 a0_1) (.int .i64 a0_2) (.int .i64 a0_3)) sqz (fun hHeld=>?_);refine with_tabW spec_ValOk.tab1 spec_ValOk.bits1 (fun HT_ HW_=>?_);generalize w33.drew = w34 at B0 HB hHeld ⊢;refine sqw HT_ HW_ 0 3 hHeld ?_;refine sqo HT_ 1 4 (fun K hK=>?_);refine sqGb rfl Try.func61 (spec_l10None.calls _ _ _ _ _ A2.out) ?_;intro w35 hb;replace B0:=sqb B0 hb;replace HB:=sqs HB hb;(try clear hb);refine hK.out _ _ sqz (fun hHeld=>?_);clear hK K;refine sqnm ?_;refine sqp HT_ 2 5 ?_;refine sqp HT_ 3 6 ?_;refine sqw HT_ HW_ 4 7 hHeld ?_;refine sqo HT_ 5 8 (fun K hK=>?_);refine sqGb rfl Try.func62 (spec_l10Range.calls _ _ _ _ _ _ _ A7.out) ?_;intro w36 hb;replace B0:=sqb B0 hb;replace HB:=sqs HB hb;(try clear hb);refine hK.out _ _ sqz (fun hHeld=>?_);clear hK K;refine sqnm ?_;refine sqo HT_ 6 9 (fun K hK=>?_);refine sqGb rfl Try.func9 (spec_RangeOk.calls _ _ _ _ A8.out) ?_;intro w37 hb;replace B0:=sqb B0 hb;replace HB:=sqs HB hb;(try clear hb);refine hK.out _ _ sqz (fun hHeld=>?_);clear hK K;refine sqnm ?_;refine sqp HT_ 7 10 ?_;refine sqpu HT_ 8 11 ?_;refine sqpu HT_ 9 12 ?_;refine sqpu HT_ 10 13 ?_;refine sqp HT_ 11 14 ?_;refine sqp HT_ 12 15 ?_;refine sqpu HT_ 13 16 ?_;refine sqpu HT_ 14 17 ?_;refine sqpu HT_ 15 18 ?_;refine sqpu HT_ 16 19 ?_;refine sqpu HT_ 17 20 ?_;refine sqpu HT_ 18 21 ?_;refine sqpu HT_ 19 22 ?_;refine sqp HT_ 20 23 ?_;refine sqp HT_ 21 24 ?_;refine sqp HT_ 22 2 ?_;refine done_ (done_of HT_.out (by kernel_rfl)) ?_
  try go_wp2
  go_ret
  exact sqe HB
 subst c9;rw [if_pos rfl] at H;replace H:=sqbi H;obtain ⟨⟨t7,t8⟩,A10,H⟩:=H;(try dsimp only at H);replace H:=sqbi H;obtain ⟨t9,A11,H⟩:=H;(try dsimp only at H);rcases sqI (t9 = true) with c12 | c12
 ·replace c12:=Bool.eq_false_iff.mpr c12;subst c12;rw [sqff] at H;obtain rfl:=Option.some.inj H;go_enter Try.func60,Try.ntmps60
  try go_wp2_with (first | ((with_reducible refine gd 1 rfl ?_);refine sqX 1 #[.int .i64 a0_0,.int .i64 a0_1,.int .i64 a0_2,.int .i64 a0_3] 39 HB ?_;clear HB;intro gb0 hg w26 hb B0 GW0 HB;clear hb hg))
  replace B0:=sqdr B0;replace HB:=sqdB HB;refine sqst 23 (fun w'=>Ce4 w' gb0 (.int .i64 a0_0) (.int .i64 a0_1) (.int .i64 a0_2) (.int .i64 a0_3)) sqz (fun hHeld=>?_);refine with_tabW spec_ValOk.tab1 spec_ValOk.bits1 (fun HT_ HW_=>?_);generalize w26.drew = w27 at B0 HB hHeld ⊢;refine sqw HT_ HW_ 0 3 hHeld ?_;refine sqo HT_ 1 4 (fun K hK=>?_);refine sqGb rfl Try.func61 (spec_l10None.calls _ _ _ _ _ A2.out) ?_;intro w28 hb;replace B0:=sqb B0 hb;replace HB:=sqs HB hb;(try clear hb);refine hK.out _ _ sqz (fun hHeld=>?_);clear hK K;refine sqnm ?_;refine sqp HT_ 2 5 ?_;refine sqp HT_ 3 6 ?_;refine sqw HT_ HW_ 4 7 hHeld ?_;refine sqo HT_ 5 8 (fun K hK=>?_);refine sqGb rfl Try.func62 (spec_l10Range.calls _ _ _ _ _ _ _ A7.out) ?_;intro w29 hb;replace B0:=sqb B0 hb;replace HB:=sqs HB hb;(try clear hb);refine hK.out _ _ sqz (fun hHeld=>?_);clear hK K;refine sqnm ?_;refine sqo HT_ 6 9 (fun K hK=>?_);refine sqGb rfl Try.func9 (spec_RangeOk.calls _ _ _ _ A8.out) ?_;intro w30 hb;replace B0:=sqb B0 hb;replace HB:=sqs HB hb;(try clear hb);refine hK.out _ _ sqz (fun hHeld=>?_);clear hK K;refine sqnm ?_;refine sqp HT_ 7 10 ?_;refine sqw HT_ HW_ 8 11 hHeld ?_;refine sqo HT_ 9 12 (fun K hK=>?_);refine sqGb rfl Try.func64 (spec_l10Rest.calls _ _ _ _ _ _ _ A10.out) ?_;intro w31 hb;replace B0:=sqb B0 hb;replace HB:=sqs HB hb;(try clear hb);refine hK.out _ _ sqz (fun hHeld=>?_);clear hK K;refine sqnm ?_;refine sqo HT_ 10 13 (fun K hK=>?_);refine sqGb rfl Try.func86 (spec_RestOk.calls _ _ _ _ A11.out) ?_;intro w32 hb;replace B0:=sqb B0 hb;replace HB:=sqs HB hb;(try clear hb);refine hK.out _ _ sqz (fun hHeld=>?_);clear hK K;refine sqnm ?_;refine sqp HT_ 11 14 ?_;refine sqp HT_ 12 15 ?_;refine sqpu HT_ 13 16 ?_;refine sqpu HT_ 14 17 ?_;refine sqpu HT_ 15 18 ?_;refine sqpu HT_ 16 19 ?_;refine sqpu HT_ 17 20 ?_;refine sqpu HT_ 18 21 ?_;refine sqpu HT_ 19 22 ?_;refine sqp HT_ 20 23 ?_;refine sqp HT_ 21 24 ?_;refine sqp HT_ 22 2 ?_;refine done_ (done_of HT_.out (by kernel_rfl)) ?_
  try go_wp2
  go_ret
  exact sqe HB
 subst c12;rw [if_pos rfl] at H;replace H:=sqbi H;obtain ⟨⟨t10,t11⟩,A13,H⟩:=H;(try dsimp only at H);replace H:=sqbi H;obtain ⟨⟨t12,t13⟩,A14,H⟩:=H;(try dsimp only at H);replace H:=sqbi H;obtain ⟨⟨t14,t15,t16,t17⟩,A15,H⟩:=H;(try dsimp only at H);obtain rfl:=Option.some.inj H;go_enter Try.func60,Try.ntmps60
 try go_wp2_with (first | ((with_reducible refine gd 1 rfl ?_);refine sqX 1 #[.int .i64 a0_0,.int .i64 a0_1,.int .i64 a0_2,.int .i64 a0_3] 39 HB ?_;clear HB;intro gb0 hg w16 hb B0 GW0 HB;clear hb hg))
 replace B0:=sqdr B0;replace HB:=sqdB HB;refine sqst 23 (fun w'=>Ce4 w' gb0 (.int .i64 a0_0) (.int .i64 a0_1) (.int .i64 a0_2) (.int .i64 a0_3)) sqz (fun hHeld=>?_);refine with_tabW spec_ValOk.tab1 spec_ValOk.bits1 (fun HT_ HW_=>?_);generalize w16.drew = w17 at B0 HB hHeld ⊢;refine sqw HT_ HW_ 0 3 hHeld ?_;refine sqo HT_ 1 4 (fun K hK=>?_);refine sqGb rfl Try.func61 (spec_l10None.calls _ _ _ _ _ A2.out) ?_;intro w18 hb;replace B0:=sqb B0 hb;replace HB:=sqs HB hb;(try clear hb);refine hK.out _ _ sqz (fun hHeld=>?_);clear hK K;refine sqnm ?_;refine sqp HT_ 2 5 ?_;refine sqp HT_ 3 6 ?_;refine sqw HT_ HW_ 4 7 hHeld ?_;refine sqo HT_ 5 8 (fun K hK=>?_);refine sqGb rfl Try.func62 (spec_l10Range.calls _ _ _ _ _ _ _ A7.out) ?_;intro w19 hb;replace B0:=sqb B0 hb;replace HB:=sqs HB hb;(try clear hb);refine hK.out _ _ sqz (fun hHeld=>?_);clear hK K;refine sqnm ?_;refine sqo HT_ 6 9 (fun K hK=>?_);refine sqGb rfl Try.func9 (spec_RangeOk.calls _ _ _ _ A8.out) ?_;intro w20 hb;replace B0:=sqb B0 hb;replace HB:=sqs HB hb;(try clear hb);refine hK.out _ _ sqz (fun hHeld=>?_);clear hK K;refine sqnm ?_;refine sqp HT_ 7 10 ?_;refine sqw HT_ HW_ 8 11 hHeld ?_;refine sqo HT_ 9 12 (fun K hK=>?_);refine sqGb rfl Try.func64 (spec_l10Rest.calls _ _ _ _ _ _ _ A10.out) ?_;intro w21 hb;replace B0:=sqb B0 hb;replace HB:=sqs HB hb;(try clear hb);refine hK.out _ _ sqz (fun hHeld=>?_);clear hK K;refine sqnm ?_;refine sqo HT_ 10 13 (fun K hK=>?_);refine sqGb rfl Try.func86 (spec_RestOk.calls _ _ _ _ A11.out) ?_;intro w22 hb;replace B0:=sqb B0 hb;replace HB:=sqs HB hb;(try clear hb);refine hK.out _ _ sqz (fun hHeld=>?_);clear hK K;refine sqnm ?_;refine sqp HT_ 11 14 ?_;refine sqp HT_ 12 15 ?_;refine sqw HT_ HW_ 13 16 hHeld ?_;refine sqw HT_ HW_ 14 17 hHeld ?_;refine sqw HT_ HW_ 16 19 hHeld ?_;refine sqo HT_ 15 18 (fun K hK=>?_);refine sqGb rfl Try.func62 (spec_l10Range.calls _ _ _ _ _ _ _ A13.out) ?_;intro w23 hb;replace B0:=sqb B0 hb;replace HB:=sqs HB hb;(try clear hb);refine hK.out _ _ sqz (fun hHeld=>?_);clear hK K;refine sqnm ?_;refine sqo HT_ 17 20 (fun K hK=>?_);refine sqGb rfl Try.func64 (spec_l10Rest.calls _ _ _ _ _ _ _ A14.out) ?_;intro w24 hb;replace B0:=sqb B0 hb;replace HB:=sqs HB hb;(try clear hb);refine hK.out _ _ sqz (fun hHeld=>?_);clear hK K;refine sqnm ?_;refine sqo HT_ 18 21 (fun K hK=>?_);refine sqGb rfl Try.func52 (spec_ValMake.calls _ _ _ _ _ _ _ _ _ _ A15.out) ?_;intro w25 hb;replace B0:=sqb B0 hb;replace HB:=sqs HB hb;(try clear hb);refine hK.out _ _ sqz (fun hHeld=>?_);clear hK K;refine sqnm ?_;refine sqp HT_ 19 22 ?_;refine sqp HT_ 20 23 ?_;refine sqp HT_ 21 24 ?_;refine sqp HT_ 22 2 ?_;refine done_ (done_of HT_.out (by kernel_rfl)) ?_
 try go_wp2
 go_ret
 exact sqe HB

/-! ### spec_NumDo: function 20 -/
theorem spec_NumDo.calls (k : Nat) (a0 : Int) (a1 : Int) (a2 : Int) (r1 : Int) (r2 : Int) (w : World) (h : spec_NumDo.f k a0 a1 a2 = some (r1,r2)) :
  Calls Try.prog 20 #[.int .i64 a0,.int .i64 a1,.int .i64 a2] w fun e w'=>e = .returned (.tuple #[.int .i64 r1,.int .i64 r2])∧Drawn0 w w':=by
 have H:=h;unfold spec_NumDo.f at H;clear h;have HC4:=Aside0.mk H;clear H;go_enter Try.func20,Try.ntmps20;go_upto_region 1 with (fail);go_cut [21] (fun v21 wc=>∃ (kq : Nat) (x0 : Bool),v21 = .bool x0∧Aside0 (spec_NumDo.j0 kq a0 a1 a2 x0 = some (r1,r2))∧Aside0 (kq ≤ k)∧Drawn0 w wc)
 case first =>
  have H:=HC4.out;clear HC4;replace H:=sqbi H;obtain ⟨t0,A5,H⟩:=H;(try dsimp only at H);rcases sqI (t0 = true) with c6 | c6
  ·replace c6:=Bool.eq_false_iff.mpr c6;subst c6;rw [sqff] at H;have H':=Aside0.mk H;clear H;go_wp2_with (first | ((with_reducible refine gf 37 rfl ?_);refine sqLq rfl (some 10) Try.func37 (spec_l1In.calls _ _ _ _ _ A5.out) ?_;intro nd));go_meet
   case rel=>exact ⟨_,(true),sqE,H',⟨sqle⟩,sqD⟩
  subst c6;rw [if_pos rfl] at H;replace H:=sqbi H;obtain ⟨t1,A7,H⟩:=H;(try dsimp only at H);rcases sqI (t1 = true) with c8 | c8
  ·replace c8:=Bool.eq_false_iff.mpr c8;subst c8;rw [sqff] at H;have H':=Aside0.mk H;clear H;go_wp2_with (first | ((with_reducible refine gf 37 rfl ?_);refine sqLq rfl (some 10) Try.func37 (spec_l1In.calls _ _ _ _ _ A5.out) ?_;intro nd) | (go_at_call 45;(with_reducible refine (spec_NumOk.calls a1 false _ A7.out).mono ?_);rintro e w' ⟨rfl,⟨nd,rfl⟩⟩));go_meet
   case rel=>exact ⟨_,(true),sqE,H',⟨sqle⟩,sqD⟩
  subst c8;rw [if_pos rfl] at H;replace H:=sqbi H;obtain ⟨t2,A9,H⟩:=H;(try dsimp only at H);have H':=Aside0.mk H;clear H;go_wp2_with (first | ((with_reducible refine gf 37 rfl ?_);refine sqLq rfl (some 10) Try.func37 (spec_l1In.calls _ _ _ _ _ A5.out) ?_;intro nd) | (go_at_call 45;(with_reducible refine (spec_NumOk.calls a1 true _ A7.out).mono ?_);rintro e w' ⟨rfl,⟨nd,rfl⟩⟩) | (go_at_call 45;(with_reducible refine (spec_NumOk.calls a2 t2 _ A9.out).mono ?_);rintro e w' ⟨rfl,⟨nd,rfl⟩⟩));go_meet
  case rel=>exact ⟨_,(!t2),sqE,H',⟨sqle⟩,sqD⟩
 case rest =>
  clear HC4;obtain ⟨kq,x0,rfl,HA,HJ3,⟨mc3,rfl⟩⟩:=hcut;cases kq with
  | zero=>exact absurd HA.out (by simp [spec_NumDo.j0])
  | succ kj3 =>
   have H:=HA.out;clear HA;simp only [spec_NumDo.j0] at H
   by_cases c10 : x0 = true
   ·subst c10;rw [if_pos rfl] at H;simp only [Option.some.injEq,Prod.mk.injEq] at H;obtain ⟨rfl,rfl⟩:=H
    go_wp2
    go_ret2
    exact ⟨sqE,sqD⟩
   replace c10:=Bool.eq_false_iff.mpr c10;subst c10;rw [sqff] at H;have HC11:=Aside0.mk H;clear H;go_upto_region 3 with (fail);go_cut [31] (fun v31 wc=>∃ (kq : Nat) (x1 : Bool),v31 = .bool x1∧Aside0 (spec_NumDo.j1 kq a0 a1 a2 x1 = some (r1,r2))∧Aside0 (kq ≤ kj3)∧Drawn0 w wc)
   case first =>
    have H:=HC11.out;clear HC11;replace H:=sqj H;rcases H with ⟨c12,H⟩ | ⟨c12,H⟩
    ·have z0 : (a0 == 4) = true:=beq_iff_eq.mpr c12;have z2 : (a0 != 4) = false:=bne_eq_false_iff_eq.mpr c12;clear c12
     (first | rw [z0] | (simp only [i64_w,i32_w];rw [z0]) | skip)
     have H':=Aside0.mk H;clear H
     go_wp2
     go_meet
     case rel=>exact ⟨_,((a2 == 0)),sqE,H',⟨by have:=HJ3.out;first | omega | exact Nat.le_refl _⟩,sqD⟩
    have z0 : (a0 == 4) = false:=beq_eq_false_iff_ne.mpr c12;have z2 : (a0 != 4) = true:=bne_iff_ne.mpr c12
    (first | rw [z0] | (simp only [i64_w,i32_w];rw [z0]) | skip)
    replace H:=sqi H;rcases H with ⟨c13,H⟩ | ⟨c13,H⟩
    ·have z3 : (a0 == 5) = false:=beq_eq_false_iff_ne.mpr c13;have z4 : (a0 != 5) = true:=bne_iff_ne.mpr c13;have H':=Aside0.mk H;clear H
     go_wp2
     go_meet
     case rel=>exact ⟨_,(false),sqE,H',⟨by have:=HJ3.out;first | omega | exact Nat.le_refl _⟩,sqD⟩
    have z3 : (a0 == 5) = true:=beq_iff_eq.mpr c13;have z4 : (a0 != 5) = false:=bne_eq_false_iff_eq.mpr c13;clear c13;have H':=Aside0.mk H;clear H
    go_wp2
    go_meet
    case rel=>exact ⟨_,((a2 == 0)),sqE,H',⟨by have:=HJ3.out;first | omega | exact Nat.le_refl _⟩,sqD⟩
   case rest =>
    clear HC11;obtain ⟨kq,x1,rfl,HA,HJ10,⟨mc10,rfl⟩⟩:=hcut;cases kq with
    | zero=>exact absurd HA.out (by simp [spec_NumDo.j1])
    | succ kj10 =>
     have H:=HA.out;clear HA;simp only [spec_NumDo.j1] at H
     by_cases c14 : x1 = true
     ·subst c14;rw [if_pos rfl] at H;simp only [Option.some.injEq,Prod.mk.injEq] at H;obtain ⟨rfl,rfl⟩:=H
      go_wp2
      go_ret2
      exact ⟨sqE,sqD⟩
     replace c14:=Bool.eq_false_iff.mpr c14;subst c14;rw [sqff] at H;have HC15:=Aside0.mk H;clear H;go_upto_region 5 with (fail);go_cut [42] (fun v42 wc=>∃ (kq : Nat) (x2 : Bool),v42 = .bool x2∧Aside0 (spec_NumDo.j2 kq a0 a1 a2 x2 = some (r1,r2))∧Aside0 (kq ≤ kj10)∧Drawn0 w wc)
     case first =>
      have H:=HC15.out;clear HC15;replace H:=sqj H;rcases H with ⟨c16,H⟩ | ⟨c16,H⟩
      ·have z1 : (a0 == 9) = true:=beq_iff_eq.mpr c16;have z5 : (a0 != 9) = false:=bne_eq_false_iff_eq.mpr c16;clear c16
       (first | rw [z1] | (simp only [i64_w,i32_w];rw [z1]) | skip)
       replace H:=sqbi H;obtain ⟨t3,A17,H⟩:=H;(try dsimp only at H);have H':=Aside0.mk H;clear H;go_wp2_with (first | (go_at_call 37;(with_reducible refine (spec_l1In.calls a2 0 31 t3 _ A17.out).mono ?_);rintro e w' ⟨rfl,⟨nd,rfl⟩⟩));go_meet
       case rel=>exact ⟨_,(!t3),sqE,H',⟨by have:=HJ3.out;have:=HJ10.out;first | omega | exact Nat.le_refl _⟩,sqD⟩
      have z1 : (a0 == 9) = false:=beq_eq_false_iff_ne.mpr c16;have z5 : (a0 != 9) = true:=bne_iff_ne.mpr c16
      (first | rw [z1] | (simp only [i64_w,i32_w];rw [z1]) | skip)
      replace H:=sqi H;rcases H with ⟨c18,H⟩ | ⟨c18,H⟩
      ·have z6 : (a0 == 10) = false:=beq_eq_false_iff_ne.mpr c18;have z7 : (a0 != 10) = true:=bne_iff_ne.mpr c18;have H':=Aside0.mk H;clear H
       go_wp2
       go_meet
       case rel=>exact ⟨_,(false),sqE,H',⟨by have:=HJ3.out;have:=HJ10.out;first | omega | exact Nat.le_refl _⟩,sqD⟩
      have z6 : (a0 == 10) = true:=beq_iff_eq.mpr c18;have z7 : (a0 != 10) = false:=bne_eq_false_iff_eq.mpr c18;clear c18;replace H:=sqbi H;obtain ⟨t4,A19,H⟩:=H;(try dsimp only at H);have H':=Aside0.mk H;clear H;go_wp2_with (first | (go_at_call 37;(with_reducible refine (spec_l1In.calls a2 0 31 t4 _ A19.out).mono ?_);rintro e w' ⟨rfl,⟨nd,rfl⟩⟩));go_meet
      case rel=>exact ⟨_,(!t4),sqE,H',⟨by have:=HJ3.out;have:=HJ10.out;first | omega | exact Nat.le_refl _⟩,sqD⟩
     case rest =>
      clear HC15;obtain ⟨kq,x2,rfl,HA,HJ14,⟨mc14,rfl⟩⟩:=hcut;cases kq with
      | zero=>exact absurd HA.out (by simp [spec_NumDo.j2])
      | succ kj14 =>
       have H:=HA.out;clear HA;simp only [spec_NumDo.j2] at H
       by_cases c20 : x2 = true
       ·subst c20;rw [if_pos rfl] at H;simp only [Option.some.injEq,Prod.mk.injEq] at H;obtain ⟨rfl,rfl⟩:=H
        go_wp2
        go_ret2
        exact ⟨sqE,sqD⟩
       replace c20:=Bool.eq_false_iff.mpr c20;subst c20;rw [sqff] at H;replace H:=sqbi H;obtain ⟨t5,A21,H⟩:=H;(try dsimp only at H);replace H:=sqj H;rcases H with ⟨c22,H⟩ | ⟨c22,H⟩
       ·have z8 : decide (11 ≤ a0) = true:=decide_eq_true c22;clear c22;replace H:=sqbi H;obtain ⟨t6,A23,H⟩:=H;(try dsimp only at H);simp only [Option.some.injEq,Prod.mk.injEq] at H;obtain ⟨rfl,rfl⟩:=H;go_wp2_with (first | ((with_reducible refine gf 65 rfl ?_);refine sqLq rfl (some 46) Try.func65 (spec_l1Exact.calls _ _ _ _ _ _ A21.out) ?_;intro nd) | ((with_reducible refine gf 66 rfl ?_);refine sqLq rfl (some 50) Try.func66 (spec_NumWrap.calls _ _ _ A23.out) ?_;intro nd))
        go_ret2
        exact ⟨sqE,sqD⟩
       have z8 : decide (11 ≤ a0) = false:=decide_eq_false c22;clear c22;replace H:=sqbi H;obtain ⟨t7,A24,H⟩:=H;(try dsimp only at H)
       by_cases c25 : t7 = true
       ·subst c25;rw [if_pos rfl] at H;simp only [Option.some.injEq,Prod.mk.injEq] at H;obtain ⟨rfl,rfl⟩:=H;go_wp2_with (first | ((with_reducible refine gf 65 rfl ?_);refine sqLq rfl (some 46) Try.func65 (spec_l1Exact.calls _ _ _ _ _ _ A21.out) ?_;intro nd) | ((with_reducible refine gf 45 rfl ?_);refine sqLq rfl (some 52) Try.func45 (spec_NumOk.calls _ _ _ A24.out) ?_;intro nd))
        go_ret2
        exact ⟨sqE,sqD⟩
       replace c25:=Bool.eq_false_iff.mpr c25;subst c25;rw [sqff] at H;simp only [Option.some.injEq,Prod.mk.injEq] at H;obtain ⟨rfl,rfl⟩:=H;go_wp2_with (first | ((with_reducible refine gf 65 rfl ?_);refine sqLq rfl (some 46) Try.func65 (spec_l1Exact.calls _ _ _ _ _ _ A21.out) ?_;intro nd) | ((with_reducible refine gf 45 rfl ?_);refine sqLq rfl (some 52) Try.func45 (spec_NumOk.calls _ _ _ A24.out) ?_;intro nd))
       go_ret2
       exact ⟨sqE,sqD⟩

/-! ### spec_l9Wraps: function 95 -/
theorem spec_l9Wraps.calls (a0 : Int) (r : Int) (w : World) (h : spec_l9Wraps.f a0 = some r) :
  Calls Try.prog 95 #[.int .i64 a0] w fun e w'=>e = .returned (.int .i64 r)∧Drawn0 w w':=by
 have H:=h;unfold spec_l9Wraps.f at H;clear h;replace H:=sqj H;rcases H with ⟨c2,H⟩ | ⟨c2,H⟩
 ·have z0 : decide (11 ≤ a0) = true:=decide_eq_true c2;clear c2;obtain rfl:=Option.some.inj H;go_enter Try.func95,Try.ntmps95
  go_wp2
  go_ret
  exact ⟨sqE,sqD⟩
 have z0 : decide (11 ≤ a0) = false:=decide_eq_false c2;clear c2;obtain rfl:=Option.some.inj H;go_enter Try.func95,Try.ntmps95
 go_wp2
 go_ret
 exact ⟨sqE,sqD⟩

/-! ### spec_l9Gcd: function 97 -/
theorem spec_l9Gcd.calls (k : Nat) (a0 : Int) (a1 : Int) (r : Int) (w : World) (h : spec_l9Gcd.f k a0 a1 = some r) :
  Calls Try.prog 97 #[.int .i64 a0,.int .i64 a1] w fun e w'=>e = .returned (.int .i64 r)∧Drawn0 w w':=by
 have H:=h;unfold spec_l9Gcd.f at H;clear h;have HC3:=Aside0.mk H;clear H;go_enter Try.func97,Try.ntmps97
 go_upto_if 7 with (fail)
 go_cut [0] (fun v0 wc=>∃ (kq : Nat) (x0 : Int),v0 = .int .i64 x0∧Aside0 (spec_l9Gcd.j0 kq x0 a1 = some r)∧Aside0 (kq ≤ k)∧Drawn0 w wc)
 case first =>
  have H:=HC3.out;clear HC3;replace H:=sqi H;rcases H with ⟨c4,H⟩ | ⟨c4,H⟩
  ·have z0:=decide_eq_false c4;clear c4
   (first | rw [z0] | (simp only [i64_w,i32_w];rw [z0]) | skip)
   have H':=Aside0.mk H;clear H
   go_wp2
   go_meet
   case rel=>exact ⟨_,(a0),sqE,H',⟨sqle⟩,sqD⟩
  have z0:=decide_eq_true c4;clear c4
  (first | rw [z0] | (simp only [i64_w,i32_w];rw [z0]) | skip)
  have H':=Aside0.mk H;clear H
  go_wp2
  go_meet
  case rel=>exact ⟨_,(wrap64 (-a0)),sqE,H',⟨sqle⟩,sqD⟩
 case rest =>
  clear HC3;obtain ⟨kq,x0,rfl,HA,HJ2,⟨mc2,rfl⟩⟩:=hcut;cases kq with
  | zero=>exact absurd HA.out (by simp [spec_l9Gcd.j0])
  | succ kj2 =>
   have H:=HA.out;clear HA;simp only [spec_l9Gcd.j0] at H;have HC5:=Aside0.mk H;clear H
   go_upto_if 11 with (fail)
   go_cut [1] (fun v1 wc=>∃ (kq : Nat) (x1 : Int),v1 = .int .i64 x1∧Aside0 (spec_l9Gcd.j1 kq x0 x1 = some r)∧Aside0 (kq ≤ kj2)∧Drawn0 w wc)
   case first =>
    have H:=HC5.out;clear HC5;replace H:=sqi H;rcases H with ⟨c6,H⟩ | ⟨c6,H⟩
    ·have z1:=decide_eq_false c6;clear c6
     (first | rw [z1] | (simp only [i64_w,i32_w];rw [z1]) | skip)
     have H':=Aside0.mk H;clear H
     go_wp2
     go_meet
     case rel=>exact ⟨_,(a1),sqE,H',⟨by have:=HJ2.out;first | omega | exact Nat.le_refl _⟩,sqD⟩
    have z1:=decide_eq_true c6;clear c6
    (first | rw [z1] | (simp only [i64_w,i32_w];rw [z1]) | skip)
    have H':=Aside0.mk H;clear H
    go_wp2
    go_meet
    case rel=>exact ⟨_,(wrap64 (-a1)),sqE,H',⟨by have:=HJ2.out;first | omega | exact Nat.le_refl _⟩,sqD⟩
   case rest =>
    clear HC5;obtain ⟨kq,x1,rfl,HA,HJ4,⟨mc4,rfl⟩⟩:=hcut;cases kq with
    | zero=>exact absurd HA.out (by simp [spec_l9Gcd.j1])
    | succ kj4 =>
     have H:=HA.out;clear HA;simp only [spec_l9Gcd.j1] at H;have H':=Aside0.mk H;clear H
     go_wp2
     go_loopg [0,1] kj4 (fun kq v0 v1 w'=>∃ (x2 : Int) (x3 : Int),v0 = .int .i64 x2∧v1 = .int .i64 x3∧Aside0 (spec_l9Gcd.l0 kq x2 x3 = some r)∧Aside0 (kq ≤ kj4)∧Drawn0 w w')
     case atStart=>exact ⟨(x0),(x1),sqE,sqE,H',⟨Nat.le_refl _⟩,sqD⟩
     case round =>
      clear H';obtain ⟨x2,x3,rfl,rfl,HA,HK3,⟨m3,rfl⟩⟩:=hrel;cases gk with
      | zero=>exact absurd HA.out (by simp [spec_l9Gcd.l0])
      | succ k3 =>
       have H:=HA.out;clear HA;simp only [spec_l9Gcd.l0] at H;replace H:=sqj H;rcases H with ⟨c7,H⟩ | ⟨c7,H⟩
       ·have z2 : (x3 == 0) = true:=beq_iff_eq.mpr c7;have z3 : (x3 != 0) = false:=bne_eq_false_iff_eq.mpr c7;clear c7;obtain rfl:=Option.some.inj H
        go_wp2
        go_ret
        exact ⟨sqE,sqD⟩
       have z2 : (x3 == 0) = false:=beq_eq_false_iff_ne.mpr c7;have z3 : (x3 != 0) = true:=bne_iff_ne.mpr c7;have H':=Aside0.mk H;clear H
       go_wp2
       go_roundg k3
       case measure=>have:=HJ2.out;have:=HJ4.out;have:=HK3.out;omega
       case rel=>exact ⟨(x3),(Int.tmod x2 x3),sqE,sqE,H',⟨by have:=HJ2.out;have:=HJ4.out;have:=HK3.out;omega⟩,sqD⟩

/-! ### spec_l9Make: function 96 -/
theorem spec_l9Make.calls (k : Nat) (a0 : Int) (a1 : Int) (r1 : Int) (r2 : Int) (w : World) (h : spec_l9Make.f k a0 a1 = some (r1,r2)) :
  Calls Try.prog 96 #[.int .i64 a0,.int .i64 a1] w fun e w'=>e = .returned (.agg #[.int .i64 r1,.int .i64 r2])∧Below w.heap.size w w':=by
 have hu71:=Try.underlying71;have HB:=Aside0.mk (Below.refl w.heap.size w);have H:=h;unfold spec_l9Make.f at H;clear h;replace H:=sqi H;rcases H with ⟨c3,H⟩ | ⟨c3,H⟩
 ·have z0 : decide (65536 < a0) = false:=decide_eq_false c3;clear c3;replace H:=sqj H;rcases H with ⟨c11,H⟩ | ⟨c11,H⟩
  ·have z1 : (a0 == 0) = true:=beq_iff_eq.mpr c11;have z2 : (a0 != 0) = false:=bne_eq_false_iff_eq.mpr c11;clear c11;simp only [Option.some.injEq,Prod.mk.injEq] at H;obtain ⟨rfl,rfl⟩:=H;go_enter Try.func96,Try.ntmps96;go_wp2_with (first | ((with_reducible refine gd 4 rfl ?_);refine sqX 4 #[.int .i64 0,.int .i64 0] 71 HB ?_;clear HB;intro gb0 hg w12 hb B0 GW0 HB;clear hb hg;obtain ⟨_,_,_,_⟩:=sqc2 B0));refine sqre #[.int .i64 0,.int .i64 a1] (sqP B0) Try.underlying71 ?_;exact sqe HB
  have z1 : (a0 == 0) = false:=beq_eq_false_iff_ne.mpr c11;have z2 : (a0 != 0) = true:=bne_iff_ne.mpr c11;replace H:=sqbi H;obtain ⟨t0,A14,H⟩:=H;(try dsimp only at H);simp only [Option.some.injEq,Prod.mk.injEq] at H;obtain ⟨rfl,rfl⟩:=H;go_enter Try.func96,Try.ntmps96;go_wp2_with (first | ((with_reducible refine gd 4 rfl ?_);refine sqX 4 #[.int .i64 0,.int .i64 0] 71 HB ?_;clear HB;intro gb0 hg w15 hb B0 GW0 HB;clear hb hg) | ((with_reducible refine gf 88 rfl ?_);refine sqLq rfl (some 16) Try.func88 (spec_l1Mod.calls _ _ _ _ A14.out) ?_;intro nd;(try (rw [drewN_self w15];generalize hq_ : World.drewN w15 _ = w15;replace B0:=sqq B0 hq_;replace HB:=sqr HB hq_;clear hq_;obtain ⟨z5,z6,z7,z8⟩:=sqc2 B0));obtain ⟨_,_,_,_⟩:=sqc2 B0));refine sqre #[.int .i64 a0,.int .i64 t0] (sqP B0) Try.underlying71 ?_;exact sqe HB
 have z0 : decide (65536 < a0) = true:=decide_eq_true c3;clear c3;replace H:=sqbi H;obtain ⟨t1,A4,H⟩:=H;(try dsimp only at H);replace H:=sqj H;rcases H with ⟨c5,H⟩ | ⟨c5,H⟩
 ·have z3 : (t1 == 0) = true:=beq_iff_eq.mpr c5;have z4 : (t1 != 0) = false:=bne_eq_false_iff_eq.mpr c5;clear c5;simp only [Option.some.injEq,Prod.mk.injEq] at H;obtain ⟨rfl,rfl⟩:=H;go_enter Try.func96,Try.ntmps96;go_wp2_with (first | ((with_reducible refine gd 4 rfl ?_);refine sqX 4 #[.int .i64 0,.int .i64 0] 71 HB ?_;clear HB;intro gb0 hg w6 hb B0 GW0 HB;clear hb hg) | ((with_reducible refine gf 97 rfl ?_);refine sqLq rfl (some 8) Try.func97 (spec_l9Gcd.calls _ _ _ _ _ A4.out) ?_;intro nd;(try (rw [drewN_self w6];generalize hq_ : World.drewN w6 _ = w6;replace B0:=sqq B0 hq_;replace HB:=sqr HB hq_;clear hq_;obtain ⟨z9,za,zb,zc⟩:=sqc2 B0));obtain ⟨_,_,_,_⟩:=sqc2 B0));refine sqre #[.int .i64 0,.int .i64 a1] (sqP B0) Try.underlying71 ?_;exact sqe HB
 have z3 : (t1 == 0) = false:=beq_eq_false_iff_ne.mpr c5;have z4 : (t1 != 0) = true:=bne_iff_ne.mpr c5;replace H:=sqbi H;obtain ⟨t2,A8,H⟩:=H;(try dsimp only at H);simp only [Option.some.injEq,Prod.mk.injEq] at H;obtain ⟨rfl,rfl⟩:=H;go_enter Try.func96,Try.ntmps96;go_wp2_with (first | ((with_reducible refine gd 4 rfl ?_);refine sqX 4 #[.int .i64 0,.int .i64 0] 71 HB ?_;clear HB;intro gb0 hg w9 hb B0 GW0 HB;clear hb hg) | ((with_reducible refine gf 97 rfl ?_);refine sqLq rfl (some 8) Try.func97 (spec_l9Gcd.calls _ _ _ _ _ A4.out) ?_;intro nd;(try (rw [drewN_self w9];generalize hq_ : World.drewN w9 _ = w9;replace B0:=sqq B0 hq_;replace HB:=sqr HB hq_;clear hq_;obtain ⟨zd,ze,zf,zg⟩:=sqc2 B0))) | ((with_reducible refine gf 88 rfl ?_);refine sqLq rfl (some 16) Try.func88 (spec_l1Mod.calls _ _ _ _ A8.out) ?_;intro nd;(try (rw [drewN_self w9];generalize hq_ : World.drewN w9 _ = w9;replace B0:=sqq B0 hq_;replace HB:=sqr HB hq_;clear hq_;obtain ⟨zh,zi,zj,zk⟩:=sqc2 B0));obtain ⟨_,_,_,_⟩:=sqc2 B0));refine sqre #[.int .i64 t1,.int .i64 t2] (sqP B0) Try.underlying71 ?_;exact sqe HB

/-! ### spec_RestDo: function 63 -/
def spec_RestDo.T10 : Bool × List (List Nat × List Nat):=(true,[([],[]),([0],[0]),([],[]),([2],[2]),([1,3],[1,3]),([],[]),([4,5,4],[4,5]),([],[]),([7],[7]),([],[]),([9],[9]),([8,10],[8,10]),([6,11,6],[6,11]),([12,12,0,1,2,3,4,5,6,7,8,9,10,11,12],[12])])
def spec_RestDo.B10 : List Nat:=[0,1,0,4,15,0,63,0,128,0,512,1920,4095,8191]
theorem spec_RestDo.tab10 : rtab .any (opsOf Try.f63 10) = spec_RestDo.T10:=by kernel_rfl
theorem spec_RestDo.bits10 : waitsOk spec_RestDo.T10.2 spec_RestDo.B10 = true:=by kernel_rfl
def spec_RestDo.T12 : Bool × List (List Nat × List Nat):=(true,[([],[]),([0],[0]),([],[]),([2],[2]),([1,3],[1,3]),([],[]),([4,5,4],[4,5]),([],[]),([7],[7]),([],[]),([9],[9]),([8,10],[8,10]),([6,11,6],[6,11]),([12,12,0,1,2,3,4,5,6,7,8,9,10,11,12],[12])])
def spec_RestDo.B12 : List Nat:=[0,1,0,4,15,0,63,0,128,0,512,1920,4095,8191]
theorem spec_RestDo.tab12 : rtab .any (opsOf Try.f63 12) = spec_RestDo.T12:=by kernel_rfl
theorem spec_RestDo.bits12 : waitsOk spec_RestDo.T12.2 spec_RestDo.B12 = true:=by kernel_rfl
def spec_RestDo.T14 : Bool × List (List Nat × List Nat):=(true,[([],[]),([0],[0]),([],[]),([2],[2]),([3],[3]),([1,4],[1,4]),([],[]),([6],[6]),([],[]),([8],[8]),([9,4],[9]),([7,10],[7,10]),([5,11,10],[5,11]),([12,12,0,1,2,3,4,5,6,7,8,9,10,11,12],[12])])
def spec_RestDo.B14 : List Nat:=[0,1,0,4,12,31,0,64,0,256,796,2012,4095,8191]
theorem spec_RestDo.tab14 : rtab .any (opsOf Try.f63 14) = spec_RestDo.T14:=by kernel_rfl
theorem spec_RestDo.bits14 : waitsOk spec_RestDo.T14.2 spec_RestDo.B14 = true:=by kernel_rfl
def spec_RestDo.T16 : Bool × List (List Nat × List Nat):=(true,[([],[]),([0],[0]),([],[]),([2],[2]),([1,3],[1,3]),([],[]),([5],[5]),([],[]),([7],[7]),([6,8],[6,8]),([4,9],[4,9]),([],[]),([11],[11]),([],[]),([13],[13]),([12,14],[12,14]),([10,15,10],[10,15]),([16,16,0,1,2,3,4,5,6,7,8,9,10,11,12,13,14,15,16],[16])])
def spec_RestDo.B16 : List Nat:=[0,1,0,4,15,0,32,0,128,480,1023,0,2048,0,8192,30720,65535,131071]
theorem spec_RestDo.tab16 : rtab .any (opsOf Try.f63 16) = spec_RestDo.T16:=by kernel_rfl
theorem spec_RestDo.bits16 : waitsOk spec_RestDo.T16.2 spec_RestDo.B16 = true:=by kernel_rfl
def spec_RestDo.T19 : Bool × List (List Nat × List Nat):=(true,[([],[]),([],[]),([0,1],[0,1]),([],[]),([3],[3]),([],[]),([5],[5]),([4,6],[4,6]),([2,7,2],[2,7]),([8,8,0,1,2,3,4,5,6,7,8],[8])])
def spec_RestDo.B19 : List Nat:=[0,0,3,0,8,0,32,120,255,511]
theorem spec_RestDo.tab19 : rtab .any (opsOf Try.f63 19) = spec_RestDo.T19:=by kernel_rfl
theorem spec_RestDo.bits19 : waitsOk spec_RestDo.T19.2 spec_RestDo.B19 = true:=by kernel_rfl
def spec_RestDo.T21 : Bool × List (List Nat × List Nat):=(true,[([],[]),([0],[0]),([],[]),([2],[2]),([],[]),([4],[4]),([3,5],[3,5]),([1,6,6],[1,6]),([7,7,0,1,2,3,4,5,6,7],[7])])
def spec_RestDo.B21 : List Nat:=[0,1,0,4,0,16,60,127,255]
theorem spec_RestDo.tab21 : rtab .any (opsOf Try.f63 21) = spec_RestDo.T21:=by kernel_rfl
theorem spec_RestDo.bits21 : waitsOk spec_RestDo.T21.2 spec_RestDo.B21 = true:=by kernel_rfl
theorem spec_RestDo.calls (k : Nat) (a0 : Int) (a1_0 : Int) (a1_1 : Int) (a2_0 : Int) (a2_1 : Int) (r1 : Int) (r2 : Int) (w : World) (h : spec_RestDo.f k a0 a1_0 a1_1 a2_0 a2_1 = some (r1,r2)) :
  Calls Try.prog 63 #[.int .i64 a0,.agg #[.int .i64 a1_0,.int .i64 a1_1],.agg #[.int .i64 a2_0,.int .i64 a2_1]] w fun e w'=>e = .returned (.agg #[.int .i64 r1,.int .i64 r2])∧Below w.heap.size w w':=by
 have hu71:=Try.underlying71;have HB:=Aside0.mk (Below.refl w.heap.size w);have H:=h;unfold spec_RestDo.f at H;clear h;have HC4:=Aside0.mk H;clear H;go_enter Try.func63,Try.ntmps63;go_upto_region 1 with (first | ((with_reducible refine gd 4 rfl ?_);refine sqX 4 #[.int .i64 a1_0,.int .i64 a1_1] 71 HB ?_;clear HB;intro gb0 hg w5 hb B0 GW0 HB;clear hb hg) | ((with_reducible refine gd 5 rfl ?_);refine sqX 5 #[.int .i64 a2_0,.int .i64 a2_1] 71 HB ?_;clear HB;intro gb1 hg w6 hb B1 GW1 HB;have N0_1:=sqn B0 hg;have N1_0:=sqm B0 hg;replace B0:=sqb B0 hb;clear hb hg) | ((with_reducible refine gd 6 rfl ?_);refine sqX 6 #[.int .i64 0,.int .i64 0] 71 HB ?_;clear HB;intro gb2 hg w7 hb B2 GW2 HB;have N0_2:=sqn B0 hg;have N2_0:=sqm B0 hg;have N1_2:=sqn B1 hg;have N2_1:=sqm B1 hg;refine sqM2 B0 B1 hb ?_;clear B0 B1;intro B0 B1;clear hb hg))
 (try simp only [Act.put,List.setIfInBounds_toArray,List.set_cons_zero,List.set_cons_succ])
 go_cut [24] (fun v24 wc=>∃ (kq : Nat) (x0 : Bool),v24 = .bool x0∧Aside0 (spec_RestDo.j0 kq a0 x0 a1_0 a1_1 a2_0 a2_1 = some (r1,r2))∧Aside0 (kq ≤ k)∧Aside0 (wc.heap[gb0]? = some (.cells #[.int .i64 a1_0,.int .i64 a1_1] 71 (0,0)))∧Aside0 (wc.heap[gb1]? = some (.cells #[.int .i64 a2_0,.int .i64 a2_1] 71 (0,0)))∧Aside0 (wc.heap[gb2]? = some (.cells #[.int .i64 0,.int .i64 0] 71 (0,0)))∧Aside0 (Below w.heap.size w wc))
 case first =>
  have H:=HC4.out;clear HC4;replace H:=sqbi H;obtain ⟨t0,A8,H⟩:=H;(try dsimp only at H);rcases sqI (t0 = true) with c9 | c9
  ·replace c9:=Bool.eq_false_iff.mpr c9;subst c9;rw [sqff] at H;have H':=Aside0.mk H;clear H;go_wp2_with (first | ((with_reducible refine gf 37 rfl ?_);refine sqLq rfl (some 13) Try.func37 (spec_l1In.calls _ _ _ _ _ A8.out) ?_;intro nd));go_meet
   case rel=>exact ⟨_,(true),sqE,H',⟨sqle⟩,sqk B0,sqk B1,sqk B2,sqh HB⟩
  subst c9;rw [if_pos rfl] at H;replace H:=sqbi H;obtain ⟨t1,A10,H⟩:=H;(try dsimp only at H);rcases sqI (t1 = true) with c11 | c11
  ·replace c11:=Bool.eq_false_iff.mpr c11;subst c11;rw [sqff] at H;have H':=Aside0.mk H;clear H;go_wp2_with (first | ((with_reducible refine gf 37 rfl ?_);refine sqLq rfl (some 13) Try.func37 (spec_l1In.calls _ _ _ _ _ A8.out) ?_;intro nd;obtain ⟨_,_,_,_⟩:=sqN2 N0_1 N0_2;obtain ⟨_,_,_,_⟩:=sqc2 B0) | (go_at_call 86;(with_reducible refine (spec_RestOk.calls a1_0 a1_1 false _ A10.out).mono ?_);rintro e w23 ⟨rfl,hb⟩;refine sqM3 B0 B1 B2 hb ?_;clear B0 B1 B2;intro B0 B1 B2;replace HB:=sqs HB hb;(try clear hb)));go_meet
   case rel=>exact ⟨_,(true),sqE,H',⟨sqle⟩,sqk B0,sqk B1,sqk B2,sqh HB⟩
  subst c11;rw [if_pos rfl] at H;replace H:=sqbi H;obtain ⟨t2,A12,H⟩:=H;(try dsimp only at H);have H':=Aside0.mk H;clear H;go_wp2_with (first | ((with_reducible refine gf 37 rfl ?_);refine sqLq rfl (some 13) Try.func37 (spec_l1In.calls _ _ _ _ _ A8.out) ?_;intro nd;obtain ⟨_,_,_,_⟩:=sqN2 N0_1 N0_2;obtain ⟨_,_,_,_⟩:=sqc2 B0) | (go_at_call 86;(with_reducible refine (spec_RestOk.calls a1_0 a1_1 true _ A10.out).mono ?_);rintro e w16 ⟨rfl,hb⟩;refine sqM3 B0 B1 B2 hb ?_;clear B0 B1 B2;intro B0 B1 B2;replace HB:=sqs HB hb;(try clear hb);obtain ⟨_,_⟩:=sqN1 N1_2;obtain ⟨_,_,_,_⟩:=sqc2 B1) | (go_at_call 86;(with_reducible refine (spec_RestOk.calls a2_0 a2_1 t2 _ A12.out).mono ?_);rintro e w19 ⟨rfl,hb⟩;refine sqM3 B0 B1 B2 hb ?_;clear B0 B1 B2;intro B0 B1 B2;replace HB:=sqs HB hb;(try clear hb)));go_meet
  case rel=>exact ⟨_,(!t2),sqE,H',⟨sqle⟩,sqk B0,sqk B1,sqk B2,sqh HB⟩
 case rest =>
  clear HC4;obtain ⟨kq,x0,rfl,HA,HJ3,B0,B1,B2,HB⟩:=hcut;cases kq with
  | zero=>exact absurd HA.out (by simp [spec_RestDo.j0])
  | succ kj3 =>
   have H:=HA.out;clear HA;simp only [spec_RestDo.j0] at H
   by_cases c24 : x0 = true
   ·subst c24;rw [if_pos rfl] at H;replace H:=sqbi H;obtain ⟨⟨t3,t4⟩,A25,H⟩:=H;(try dsimp only at H);simp only [Option.some.injEq,Prod.mk.injEq] at H;obtain ⟨rfl,rfl⟩:=H;go_wp2_with (first | ((with_reducible refine gf 53 rfl ?_);refine sqLb rfl (some 25) Try.func53 (spec_l9All.calls _ _ _ A25.out) ?_;intro w26 hb;refine sqM3 B0 B1 B2 hb ?_;clear B0 B1 B2;intro B0 B1 B2;replace HB:=sqs HB hb;(try clear hb);obtain ⟨_,_,_,_⟩:=sqN2 N2_0 N2_1;obtain ⟨_,_,_,_⟩:=sqc2 B2));refine sqre #[.int .i64 t3,.int .i64 t4] (sqP B2) Try.underlying71 ?_;exact sqe HB
   replace c24:=Bool.eq_false_iff.mpr c24;subst c24;rw [sqff] at H;have HC30:=Aside0.mk H;clear H;go_upto_region 3 with (fail);go_cut [33] (fun v33 wc=>∃ (kq : Nat) (x1 : Bool),v33 = .bool x1∧Aside0 (spec_RestDo.j1 kq a0 x1 a1_0 a1_1 a2_0 a2_1 = some (r1,r2))∧Aside0 (kq ≤ kj3)∧Aside0 (wc.heap[gb0]? = some (.cells #[.int .i64 a1_0,.int .i64 a1_1] 71 (0,0)))∧Aside0 (wc.heap[gb1]? = some (.cells #[.int .i64 a2_0,.int .i64 a2_1] 71 (0,0)))∧Aside0 (wc.heap[gb2]? = some (.cells #[.int .i64 0,.int .i64 0] 71 (0,0)))∧Aside0 (Below w.heap.size w wc))
   case first =>
    have H:=HC30.out;clear HC30;replace H:=sqi H;rcases H with ⟨c31,H⟩ | ⟨c31,H⟩
    ·have z0 : (a1_0 == 0) = false:=beq_eq_false_iff_ne.mpr c31;have z5 : (a1_0 != 0) = true:=bne_iff_ne.mpr c31
     (first | rw [z0] | (simp only [i64_w,i32_w];rw [z0]) | skip)
     have H':=Aside0.mk H;clear H;obtain ⟨_,_,_,_⟩:=sqN2 N0_1 N0_2;obtain ⟨_,_,_,_⟩:=sqc2 B0
     go_wp2
     go_meet
     case rel=>exact ⟨_,(false),sqE,H',⟨by have:=HJ3.out;first | omega | exact Nat.le_refl _⟩,sqk B0,sqk B1,sqk B2,sqh HB⟩
    have z0 : (a1_0 == 0) = true:=beq_iff_eq.mpr c31;have z5 : (a1_0 != 0) = false:=bne_eq_false_iff_eq.mpr c31;clear c31
    (first | rw [z0] | (simp only [i64_w,i32_w];rw [z0]) | skip)
    have H':=Aside0.mk H;clear H;obtain ⟨_,_,_,_⟩:=sqN2 N0_1 N0_2;obtain ⟨_,_,_,_⟩:=sqc2 B0;obtain ⟨_,_⟩:=sqN1 N1_2;obtain ⟨_,_,_,_⟩:=sqc2 B1
    go_wp2
    go_meet
    case rel=>exact ⟨_,((a2_0 == 0)),sqE,H',⟨by have:=HJ3.out;first | omega | exact Nat.le_refl _⟩,sqk B0,sqk B1,sqk B2,sqh HB⟩
   case rest =>
    clear HC30;obtain ⟨kq,x1,rfl,HA,HJ29,B0,B1,B2,HB⟩:=hcut;cases kq with
    | zero=>exact absurd HA.out (by simp [spec_RestDo.j1])
    | succ kj29 =>
     have H:=HA.out;clear HA;simp only [spec_RestDo.j1] at H
     by_cases c40 : x1 = true
     ·subst c40;rw [if_pos rfl] at H;replace H:=sqbi H;obtain ⟨⟨t5,t6⟩,A41,H⟩:=H;(try dsimp only at H);replace H:=sqj H;rcases H with ⟨c42,H⟩ | ⟨c42,H⟩
      ·have z6 : (t6 == 0) = true:=beq_iff_eq.mpr c42;have z7 : (t6 != 0) = false:=bne_eq_false_iff_eq.mpr c42;clear c42;simp only [Option.some.injEq,Prod.mk.injEq] at H;obtain ⟨rfl,rfl⟩:=H;obtain ⟨_,_,_,_⟩:=sqN2 N0_1 N0_2;obtain ⟨_,_,_,_⟩:=sqc2 B0;obtain ⟨_,_⟩:=sqN1 N1_2;obtain ⟨_,_,_,_⟩:=sqc2 B1;go_wp2_with (first | ((with_reducible refine gf 20 rfl ?_);refine sqLq rfl (some 40) Try.func20 (spec_NumDo.calls _ _ _ _ _ _ _ A41.out) ?_;intro nd;(try (rw [drewN_self wc];generalize hq_ : World.drewN wc _ = wc;replace B0:=sqq B0 hq_;replace B1:=sqq B1 hq_;replace B2:=sqq B2 hq_;replace HB:=sqr HB hq_;clear hq_;obtain ⟨zl,zm,zn,zo⟩:=sqc2 B0;obtain ⟨zp,zq,zr,zt⟩:=sqc2 B1;obtain ⟨zu,zv,zw,zx⟩:=sqc2 B2));obtain ⟨_,_,_,_⟩:=sqc2 B2));refine sqre #[.int .i64 0,.int .i64 t5] (sqP B2) Try.underlying71 ?_;exact sqe HB
      have z6 : (t6 == 0) = false:=beq_eq_false_iff_ne.mpr c42;have z7 : (t6 != 0) = true:=bne_iff_ne.mpr c42;replace H:=sqbi H;obtain ⟨⟨t7,t8⟩,A49,H⟩:=H;(try dsimp only at H);simp only [Option.some.injEq,Prod.mk.injEq] at H;obtain ⟨rfl,rfl⟩:=H;obtain ⟨_,_,_,_⟩:=sqN2 N0_1 N0_2;obtain ⟨_,_,_,_⟩:=sqc2 B0;obtain ⟨_,_⟩:=sqN1 N1_2;obtain ⟨_,_,_,_⟩:=sqc2 B1;go_wp2_with (first | ((with_reducible refine gf 20 rfl ?_);refine sqLq rfl (some 40) Try.func20 (spec_NumDo.calls _ _ _ _ _ _ _ A41.out) ?_;intro nd;(try (rw [drewN_self wc];generalize hq_ : World.drewN wc _ = wc;replace B0:=sqq B0 hq_;replace B1:=sqq B1 hq_;replace B2:=sqq B2 hq_;replace HB:=sqr HB hq_;clear hq_;obtain ⟨zy,zz,zA,zB⟩:=sqc2 B0;obtain ⟨zC,zD,zE,zF⟩:=sqc2 B1;obtain ⟨zG,zH,zI,zJ⟩:=sqc2 B2))) | ((with_reducible refine gf 53 rfl ?_);refine sqLb rfl (some 45) Try.func53 (spec_l9All.calls _ _ _ A49.out) ?_;intro w55 hb;refine sqM3 B0 B1 B2 hb ?_;clear B0 B1 B2;intro B0 B1 B2;replace HB:=sqs HB hb;(try clear hb);obtain ⟨_,_,_,_⟩:=sqc2 B2));refine sqre #[.int .i64 t7,.int .i64 t8] (sqP B2) Try.underlying71 ?_;exact sqe HB
     replace c40:=Bool.eq_false_iff.mpr c40;subst c40;rw [sqff] at H;replace H:=sqbi H;obtain ⟨t9,A57,H⟩:=H;(try dsimp only at H);have HC58:=Aside0.mk H;clear H;go_upto_region 9 with (first | ((with_reducible refine gf 95 rfl ?_);refine sqLq rfl (some 49) Try.func95 (spec_l9Wraps.calls _ _ _ A57.out) ?_;intro nd))
     (try simp only [Act.put,List.setIfInBounds_toArray,List.set_cons_zero,List.set_cons_succ])
     go_cut [55] (fun v55 wc=>∃ (kq : Nat) (x2 : Bool),v55 = .bool x2∧Aside0 (spec_RestDo.j2 kq a0 t9 x2 a1_0 a1_1 a2_0 a2_1 = some (r1,r2))∧Aside0 (kq ≤ kj29)∧Aside0 (wc.heap[gb0]? = some (.cells #[.int .i64 a1_0,.int .i64 a1_1] 71 (0,0)))∧Aside0 (wc.heap[gb1]? = some (.cells #[.int .i64 a2_0,.int .i64 a2_1] 71 (0,0)))∧Aside0 (wc.heap[gb2]? = some (.cells #[.int .i64 0,.int .i64 0] 71 (0,0)))∧Aside0 (Below w.heap.size w wc))
     case first =>
      have H:=HC58.out;clear HC58;replace H:=sqi H;rcases H with ⟨c59,H⟩ | ⟨c59,H⟩
      ·have z1 : (a0 == 1) = false:=beq_eq_false_iff_ne.mpr c59;have z8 : (a0 != 1) = true:=bne_iff_ne.mpr c59
       (first | rw [z1] | (simp only [i64_w,i32_w];rw [z1]) | skip)
       have H':=Aside0.mk H;clear H
       go_wp2
       go_meet
       case rel=>exact ⟨_,((a0 == 11)),sqE,H',⟨by have:=HJ3.out;have:=HJ29.out;first | omega | exact Nat.le_refl _⟩,sqk B0,sqk B1,sqk B2,sqh HB⟩
      have z1 : (a0 == 1) = true:=beq_iff_eq.mpr c59;have z8 : (a0 != 1) = false:=bne_eq_false_iff_eq.mpr c59;clear c59
      (first | rw [z1] | (simp only [i64_w,i32_w];rw [z1]) | skip)
      have H':=Aside0.mk H;clear H
      go_wp2
      go_meet
      case rel=>exact ⟨_,(true),sqE,H',⟨by have:=HJ3.out;have:=HJ29.out;first | omega | exact Nat.le_refl _⟩,sqk B0,sqk B1,sqk B2,sqh HB⟩
     case rest =>
      clear HC58;obtain ⟨kq,x2,rfl,HA,HJ57,B0,B1,B2,HB⟩:=hcut;cases kq with
      | zero=>exact absurd HA.out (by simp [spec_RestDo.j2])
      | succ kj57 =>
       have H:=HA.out;clear HA;simp only [spec_RestDo.j2] at H
       by_cases c60 : x2 = true
       ·subst c60;rw [if_pos rfl] at H;replace H:=sqbi H;obtain ⟨t10,A61,H⟩:=H;(try dsimp only at H);replace H:=sqbi H;obtain ⟨t11,A62,H⟩:=H;(try dsimp only at H);replace H:=sqbi H;obtain ⟨⟨t12,t13⟩,A63,H⟩:=H;(try dsimp only at H);simp only [Option.some.injEq,Prod.mk.injEq] at H;obtain ⟨rfl,rfl⟩:=H
        try go_wp2
        replace B0:=sqdr B0;replace B1:=sqdr B1;replace B2:=sqdr B2;replace HB:=sqdB HB;refine sqst 14 (fun w'=>Ce2 w' gb0 (.int .i64 a1_0) (.int .i64 a1_1)∧Ce2 w' gb1 (.int .i64 a2_0) (.int .i64 a2_1)) sqz (fun hHeld=>?_);refine with_tabW spec_RestDo.tab10 spec_RestDo.bits10 (fun HT_ HW_=>?_);generalize wc.drew = w64 at B0 B1 B2 HB hHeld ⊢;refine sqp HT_ 0 56 ?_;refine sqp HT_ 2 58 ?_;refine sqp HT_ 5 61 ?_;refine sqp HT_ 7 63 ?_;refine sqp HT_ 9 65 ?_;refine sqw HT_ HW_ 1 57 hHeld ?_;refine sqw HT_ HW_ 3 59 hHeld ?_;refine sqw HT_ HW_ 8 64 hHeld ?_;refine sqw HT_ HW_ 10 66 hHeld ?_;refine sqp HT_ 11 67 ?_;refine sqo HT_ 4 60 (fun K hK=>?_);refine sqGq rfl Try.func97 (spec_l9Gcd.calls _ _ _ _ _ A61.out) ?_;intro nd;refine hK.out _ _ sqz (fun hHeld=>?_);clear hK K;refine sqnm ?_;refine sqo HT_ 6 62 (fun K hK=>?_);refine sqGq rfl Try.func97 (spec_l9Gcd.calls _ _ _ _ _ A62.out) ?_;intro nd;refine hK.out _ _ sqz (fun hHeld=>?_);clear hK K;refine sqnm ?_;refine sqo HT_ 12 68 (fun K hK=>?_);refine sqGb rfl Try.func96 (spec_l9Make.calls _ _ _ _ _ _ A63.out) ?_;intro w65 hb;refine sqM3 B0 B1 B2 hb ?_;clear B0 B1 B2;intro B0 B1 B2;replace HB:=sqs HB hb;(try clear hb);refine hK.out _ _ sqz (fun hHeld=>?_);clear hK K;refine sqnm ?_;refine sqo0 HT_ 13 (fun K hK=>?_);obtain ⟨_,_,_,_⟩:=sqc2 B2;obtain ⟨_,_,_,_⟩:=sqN2 N0_2 N1_2;refine sqsk ?_;refine hK.out _ _ sqzf (fun hHeld=>?_);clear hK K;refine done_ (done_of HT_.out (by kernel_rfl)) ?_
        try go_wp2
        refine sqre #[.int .i64 t12,.int .i64 t13] (sqP B2) Try.underlying71 ?_;exact sqe HB
       replace c60:=Bool.eq_false_iff.mpr c60;subst c60;rw [sqff] at H;have HC68:=Aside0.mk H;clear H;go_upto_region 11 with (fail);go_cut [74] (fun v74 wc=>∃ (kq : Nat) (x3 : Bool),v74 = .bool x3∧Aside0 (spec_RestDo.j3 kq a0 t9 x3 a1_0 a1_1 a2_0 a2_1 = some (r1,r2))∧Aside0 (kq ≤ kj57)∧Aside0 (wc.heap[gb0]? = some (.cells #[.int .i64 a1_0,.int .i64 a1_1] 71 (0,0)))∧Aside0 (wc.heap[gb1]? = some (.cells #[.int .i64 a2_0,.int .i64 a2_1] 71 (0,0)))∧Aside0 (wc.heap[gb2]? = some (.cells #[.int .i64 0,.int .i64 0] 71 (0,0)))∧Aside0 (Below w.heap.size w wc))
       case first =>
        have H:=HC68.out;clear HC68;replace H:=sqi H;rcases H with ⟨c69,H⟩ | ⟨c69,H⟩
        ·have z2 : (a0 == 2) = false:=beq_eq_false_iff_ne.mpr c69;have z9 : (a0 != 2) = true:=bne_iff_ne.mpr c69
         (first | rw [z2] | (simp only [i64_w,i32_w];rw [z2]) | skip)
         have H':=Aside0.mk H;clear H
         go_wp2
         go_meet
         case rel=>exact ⟨_,((a0 == 12)),sqE,H',⟨by have:=HJ3.out;have:=HJ29.out;have:=HJ57.out;first | omega | exact Nat.le_refl _⟩,sqk B0,sqk B1,sqk B2,sqh HB⟩
        have z2 : (a0 == 2) = true:=beq_iff_eq.mpr c69;have z9 : (a0 != 2) = false:=bne_eq_false_iff_eq.mpr c69;clear c69
        (first | rw [z2] | (simp only [i64_w,i32_w];rw [z2]) | skip)
        have H':=Aside0.mk H;clear H
        go_wp2
        go_meet
        case rel=>exact ⟨_,(true),sqE,H',⟨by have:=HJ3.out;have:=HJ29.out;have:=HJ57.out;first | omega | exact Nat.le_refl _⟩,sqk B0,sqk B1,sqk B2,sqh HB⟩
       case rest =>
        clear HC68;obtain ⟨kq,x3,rfl,HA,HJ67,B0,B1,B2,HB⟩:=hcut;cases kq with
        | zero=>exact absurd HA.out (by simp [spec_RestDo.j3])
        | succ kj67 =>
         have H:=HA.out;clear HA;simp only [spec_RestDo.j3] at H
         by_cases c70 : x3 = true
         ·subst c70;rw [if_pos rfl] at H;replace H:=sqbi H;obtain ⟨t14,A71,H⟩:=H;(try dsimp only at H);replace H:=sqbi H;obtain ⟨t15,A72,H⟩:=H;(try dsimp only at H);replace H:=sqbi H;obtain ⟨⟨t16,t17⟩,A73,H⟩:=H;(try dsimp only at H);simp only [Option.some.injEq,Prod.mk.injEq] at H;obtain ⟨rfl,rfl⟩:=H
          try go_wp2
          replace B0:=sqdr B0;replace B1:=sqdr B1;replace B2:=sqdr B2;replace HB:=sqdB HB;refine sqst 14 (fun w'=>Ce2 w' gb0 (.int .i64 a1_0) (.int .i64 a1_1)∧Ce2 w' gb1 (.int .i64 a2_0) (.int .i64 a2_1)) sqz (fun hHeld=>?_);refine with_tabW spec_RestDo.tab12 spec_RestDo.bits12 (fun HT_ HW_=>?_);generalize wc.drew = w74 at B0 B1 B2 HB hHeld ⊢;refine sqp HT_ 0 75 ?_;refine sqp HT_ 2 77 ?_;refine sqp HT_ 5 80 ?_;refine sqp HT_ 7 82 ?_;refine sqp HT_ 9 84 ?_;refine sqw HT_ HW_ 1 76 hHeld ?_;refine sqw HT_ HW_ 3 78 hHeld ?_;refine sqw HT_ HW_ 8 83 hHeld ?_;refine sqw HT_ HW_ 10 85 hHeld ?_;refine sqp HT_ 11 86 ?_;refine sqo HT_ 4 79 (fun K hK=>?_);refine sqGq rfl Try.func97 (spec_l9Gcd.calls _ _ _ _ _ A71.out) ?_;intro nd;refine hK.out _ _ sqz (fun hHeld=>?_);clear hK K;refine sqnm ?_;refine sqo HT_ 6 81 (fun K hK=>?_);refine sqGq rfl Try.func97 (spec_l9Gcd.calls _ _ _ _ _ A72.out) ?_;intro nd;refine hK.out _ _ sqz (fun hHeld=>?_);clear hK K;refine sqnm ?_;refine sqo HT_ 12 87 (fun K hK=>?_);refine sqGb rfl Try.func96 (spec_l9Make.calls _ _ _ _ _ _ A73.out) ?_;intro w75 hb;refine sqM3 B0 B1 B2 hb ?_;clear B0 B1 B2;intro B0 B1 B2;replace HB:=sqs HB hb;(try clear hb);refine hK.out _ _ sqz (fun hHeld=>?_);clear hK K;refine sqnm ?_;refine sqo0 HT_ 13 (fun K hK=>?_);obtain ⟨_,_,_,_⟩:=sqc2 B2;obtain ⟨_,_,_,_⟩:=sqN2 N0_2 N1_2;refine sqsk ?_;refine hK.out _ _ sqzf (fun hHeld=>?_);clear hK K;refine done_ (done_of HT_.out (by kernel_rfl)) ?_
          try go_wp2
          refine sqre #[.int .i64 t16,.int .i64 t17] (sqP B2) Try.underlying71 ?_;exact sqe HB
         replace c70:=Bool.eq_false_iff.mpr c70;subst c70;rw [sqff] at H;have HC78:=Aside0.mk H;clear H;go_upto_region 13 with (fail);go_cut [99] (fun v99 wc=>∃ (kq : Nat) (x4 : Bool),v99 = .bool x4∧Aside0 (spec_RestDo.j4 kq a0 t9 x4 a1_0 a1_1 a2_0 a2_1 = some (r1,r2))∧Aside0 (kq ≤ kj67)∧Aside0 (wc.heap[gb0]? = some (.cells #[.int .i64 a1_0,.int .i64 a1_1] 71 (0,0)))∧Aside0 (wc.heap[gb1]? = some (.cells #[.int .i64 a2_0,.int .i64 a2_1] 71 (0,0)))∧Aside0 (wc.heap[gb2]? = some (.cells #[.int .i64 0,.int .i64 0] 71 (0,0)))∧Aside0 (Below w.heap.size w wc))
         case first =>
          have H:=HC78.out;clear HC78;replace H:=sqi H;rcases H with ⟨c79,H⟩ | ⟨c79,H⟩
          ·have z3 : (a0 == 9) = false:=beq_eq_false_iff_ne.mpr c79;have za : (a0 != 9) = true:=bne_iff_ne.mpr c79
           (first | rw [z3] | (simp only [i64_w,i32_w];rw [z3]) | skip)
           have H':=Aside0.mk H;clear H
           go_wp2
           go_meet
           case rel=>exact ⟨_,(false),sqE,H',⟨by have:=HJ3.out;have:=HJ29.out;have:=HJ57.out;have:=HJ67.out;first | omega | exact Nat.le_refl _⟩,sqk B0,sqk B1,sqk B2,sqh HB⟩
          have z3 : (a0 == 9) = true:=beq_iff_eq.mpr c79;have za : (a0 != 9) = false:=bne_eq_false_iff_eq.mpr c79;clear c79
          (first | rw [z3] | (simp only [i64_w,i32_w];rw [z3]) | skip)
          replace H:=sqi H;rcases H with ⟨c80,H⟩ | ⟨c80,H⟩
          ·have zb : (a2_0 == 0) = false:=beq_eq_false_iff_ne.mpr c80;have zc : (a2_0 != 0) = true:=bne_iff_ne.mpr c80;have H':=Aside0.mk H;clear H;obtain ⟨_,_,_,_⟩:=sqN2 N1_0 N1_2;obtain ⟨_,_,_,_⟩:=sqc2 B1
           go_wp2
           go_meet
           case rel=>exact ⟨_,(false),sqE,H',⟨by have:=HJ3.out;have:=HJ29.out;have:=HJ57.out;have:=HJ67.out;first | omega | exact Nat.le_refl _⟩,sqk B0,sqk B1,sqk B2,sqh HB⟩
          have zb : (a2_0 == 0) = true:=beq_iff_eq.mpr c80;have zc : (a2_0 != 0) = false:=bne_eq_false_iff_eq.mpr c80;clear c80;replace H:=sqbi H;obtain ⟨t18,A81,H⟩:=H;(try dsimp only at H);have H':=Aside0.mk H;clear H;obtain ⟨_,_,_,_⟩:=sqN2 N1_0 N1_2;obtain ⟨_,_,_,_⟩:=sqc2 B1;go_wp2_with (first | (go_at_call 37;(with_reducible refine (spec_l1In.calls a2_1 0 31 t18 _ A81.out).mono ?_);rintro e w' ⟨rfl,⟨nd,rfl⟩⟩));go_meet
          case rel=>exact ⟨_,(t18),sqE,H',⟨by have:=HJ3.out;have:=HJ29.out;have:=HJ57.out;have:=HJ67.out;first | omega | exact Nat.le_refl _⟩,sqk B0,sqk B1,sqk B2,sqh HB⟩
         case rest =>
          clear HC78;obtain ⟨kq,x4,rfl,HA,HJ77,B0,B1,B2,HB⟩:=hcut;cases kq with
          | zero=>exact absurd HA.out (by simp [spec_RestDo.j4])
          | succ kj77 =>
           have H:=HA.out;clear HA;simp only [spec_RestDo.j4] at H
           by_cases c88 : x4 = true
           ·subst c88;rw [if_pos rfl] at H;replace H:=sqbi H;obtain ⟨t19,A89,H⟩:=H;(try dsimp only at H);replace H:=sqbi H;obtain ⟨t20,A90,H⟩:=H;(try dsimp only at H);replace H:=sqbi H;obtain ⟨⟨t21,t22⟩,A91,H⟩:=H;(try dsimp only at H);simp only [Option.some.injEq,Prod.mk.injEq] at H;obtain ⟨rfl,rfl⟩:=H
            try go_wp2
            replace B0:=sqdr B0;replace B1:=sqdr B1;replace B2:=sqdr B2;replace HB:=sqdB HB;refine sqst 14 (fun w'=>Ce2 w' gb0 (.int .i64 a1_0) (.int .i64 a1_1)∧Ce2 w' gb1 (.int .i64 a2_0) (.int .i64 a2_1)) sqz (fun hHeld=>?_);refine with_tabW spec_RestDo.tab14 spec_RestDo.bits14 (fun HT_ HW_=>?_);generalize wc.drew = w92 at B0 B1 B2 HB hHeld ⊢;refine sqp HT_ 0 100 ?_;refine sqp HT_ 2 102 ?_;refine sqp HT_ 6 106 ?_;refine sqp HT_ 8 108 ?_;refine sqw HT_ HW_ 1 101 hHeld ?_;refine sqw HT_ HW_ 3 103 hHeld ?_;refine sqw HT_ HW_ 7 107 hHeld ?_;refine sqw HT_ HW_ 9 109 hHeld ?_;refine sqo HT_ 4 104 (fun K hK=>?_);refine sqGq rfl Try.func98 (spec_l1Power.calls _ _ _ _ A89.out) ?_;intro nd;refine hK.out _ _ sqz (fun hHeld=>?_);clear hK K;refine sqnm ?_;refine sqp HT_ 5 105 ?_;refine sqo HT_ 10 110 (fun K hK=>?_);refine sqGq rfl Try.func98 (spec_l1Power.calls _ _ _ _ A90.out) ?_;intro nd;refine hK.out _ _ sqz (fun hHeld=>?_);clear hK K;refine sqnm ?_;refine sqp HT_ 11 111 ?_;refine sqo HT_ 12 112 (fun K hK=>?_);refine sqGb rfl Try.func96 (spec_l9Make.calls _ _ _ _ _ _ A91.out) ?_;intro w93 hb;refine sqM3 B0 B1 B2 hb ?_;clear B0 B1 B2;intro B0 B1 B2;replace HB:=sqs HB hb;(try clear hb);refine hK.out _ _ sqz (fun hHeld=>?_);clear hK K;refine sqnm ?_;refine sqo0 HT_ 13 (fun K hK=>?_);obtain ⟨_,_,_,_⟩:=sqc2 B2;obtain ⟨_,_,_,_⟩:=sqN2 N0_2 N1_2;refine sqsk ?_;refine hK.out _ _ sqzf (fun hHeld=>?_);clear hK K;refine done_ (done_of HT_.out (by kernel_rfl)) ?_
            try go_wp2
            refine sqre #[.int .i64 t21,.int .i64 t22] (sqP B2) Try.underlying71 ?_;exact sqe HB
           replace c88:=Bool.eq_false_iff.mpr c88;subst c88;rw [sqff] at H;have HC96:=Aside0.mk H;clear H;go_upto_region 15 with (fail);go_cut [118] (fun zd wc=>∃ (kq : Nat) (x5 : Bool),zd = .bool x5∧Aside0 (spec_RestDo.j5 kq a0 t9 x5 a1_0 a1_1 a2_0 a2_1 = some (r1,r2))∧Aside0 (kq ≤ kj77)∧Aside0 (wc.heap[gb0]? = some (.cells #[.int .i64 a1_0,.int .i64 a1_1] 71 (0,0)))∧Aside0 (wc.heap[gb1]? = some (.cells #[.int .i64 a2_0,.int .i64 a2_1] 71 (0,0)))∧Aside0 (wc.heap[gb2]? = some (.cells #[.int .i64 0,.int .i64 0] 71 (0,0)))∧Aside0 (Below w.heap.size w wc))
           case first =>
            have H:=HC96.out;clear HC96;replace H:=sqi H;rcases H with ⟨c97,H⟩ | ⟨c97,H⟩
            ·have z4 : (a0 == 3) = false:=beq_eq_false_iff_ne.mpr c97;have ze : (a0 != 3) = true:=bne_iff_ne.mpr c97
             (first | rw [z4] | (simp only [i64_w,i32_w];rw [z4]) | skip)
             have H':=Aside0.mk H;clear H
             go_wp2
             go_meet
             case rel=>exact ⟨_,((a0 == 13)),sqE,H',⟨by have:=HJ3.out;have:=HJ29.out;have:=HJ57.out;have:=HJ67.out;have:=HJ77.out;first | omega | exact Nat.le_refl _⟩,sqk B0,sqk B1,sqk B2,sqh HB⟩
            have z4 : (a0 == 3) = true:=beq_iff_eq.mpr c97;have ze : (a0 != 3) = false:=bne_eq_false_iff_eq.mpr c97;clear c97
            (first | rw [z4] | (simp only [i64_w,i32_w];rw [z4]) | skip)
            have H':=Aside0.mk H;clear H
            go_wp2
            go_meet
            case rel=>exact ⟨_,(true),sqE,H',⟨by have:=HJ3.out;have:=HJ29.out;have:=HJ57.out;have:=HJ67.out;have:=HJ77.out;first | omega | exact Nat.le_refl _⟩,sqk B0,sqk B1,sqk B2,sqh HB⟩
           case rest =>
            clear HC96;obtain ⟨kq,x5,rfl,HA,HJ95,B0,B1,B2,HB⟩:=hcut;cases kq with
            | zero=>exact absurd HA.out (by simp [spec_RestDo.j5])
            | succ kj95 =>
             have H:=HA.out;clear HA;simp only [spec_RestDo.j5] at H;rcases sqI (x5 = true) with c98 | c98
             ·replace c98:=Bool.eq_false_iff.mpr c98;subst c98;rw [sqff] at H;replace H:=sqi H;rcases H with ⟨c113,H⟩ | ⟨c113,H⟩
              ·have zf : (a0 == 5) = false:=beq_eq_false_iff_ne.mpr c113;have zg : (a0 != 5) = true:=bne_iff_ne.mpr c113;replace H:=sqbi H;obtain ⟨⟨t23,t24⟩,A131,H⟩:=H;(try dsimp only at H);simp only [Option.some.injEq,Prod.mk.injEq] at H;obtain ⟨rfl,rfl⟩:=H;go_wp2_with (first | ((with_reducible refine gf 53 rfl ?_);refine sqLb rfl (some 165) Try.func53 (spec_l9All.calls _ _ _ A131.out) ?_;intro w132 hb;refine sqM3 B0 B1 B2 hb ?_;clear B0 B1 B2;intro B0 B1 B2;replace HB:=sqs HB hb;(try clear hb);obtain ⟨_,_,_,_⟩:=sqN2 N2_0 N2_1;obtain ⟨_,_,_,_⟩:=sqc2 B2));refine sqre #[.int .i64 t23,.int .i64 t24] (sqP B2) Try.underlying71 ?_;exact sqe HB
              have zf : (a0 == 5) = true:=beq_iff_eq.mpr c113;have zg : (a0 != 5) = false:=bne_eq_false_iff_eq.mpr c113;clear c113;replace H:=sqbi H;obtain ⟨t25,A114,H⟩:=H;(try dsimp only at H);replace H:=sqbi H;obtain ⟨t26,A115,H⟩:=H;(try dsimp only at H);replace H:=sqj H;rcases H with ⟨c116,H⟩ | ⟨c116,H⟩
              ·have zh : (t26 == 0) = true:=beq_iff_eq.mpr c116;have zi : (t26 != 0) = false:=bne_eq_false_iff_eq.mpr c116;clear c116;replace H:=sqbi H;obtain ⟨⟨t27,t28⟩,A117,H⟩:=H;(try dsimp only at H);simp only [Option.some.injEq,Prod.mk.injEq] at H;obtain ⟨rfl,rfl⟩:=H
               try go_wp2
               replace B0:=sqdr B0;replace B1:=sqdr B1;replace B2:=sqdr B2;replace HB:=sqdB HB;refine sqst 9 (fun w'=>Ce2 w' gb0 (.int .i64 a1_0) (.int .i64 a1_1)∧Ce2 w' gb1 (.int .i64 a2_0) (.int .i64 a2_1)) sqz (fun hHeld=>?_);refine with_tabW spec_RestDo.tab21 spec_RestDo.bits21 (fun HT_ HW_=>?_);generalize wc.drew = w118 at B0 B1 B2 HB hHeld ⊢;refine sqp HT_ 0 150 ?_;refine sqp HT_ 2 152 ?_;refine sqp HT_ 4 154 ?_;refine sqw HT_ HW_ 1 151 hHeld ?_;refine sqw HT_ HW_ 3 153 hHeld ?_;refine sqw HT_ HW_ 5 155 hHeld ?_;refine sqo HT_ 6 156 (fun K hK=>?_);refine sqGq rfl Try.func97 (spec_l9Gcd.calls _ _ _ _ _ A114.out) ?_;intro nd;refine hK.out _ _ sqz (fun hHeld=>?_);clear hK K;refine sqnm ?_;refine sqo HT_ 7 157 (fun K hK=>?_);refine sqGq rfl Try.func97 (spec_l9Gcd.calls _ _ _ _ _ A115.out) ?_;intro nd;refine hK.out _ _ sqz (fun hHeld=>?_);clear hK K;refine sqnm ?_;refine sqp HT_ 8 11 ?_;refine done_ (done_of HT_.out (by kernel_rfl)) ?_
               try go_wp2_with (first | ((with_reducible refine gf 53 rfl ?_);refine sqLb rfl (some 160) Try.func53 (spec_l9All.calls _ _ _ A117.out) ?_;intro w119 hb;refine sqM3 B0 B1 B2 hb ?_;clear B0 B1 B2;intro B0 B1 B2;replace HB:=sqs HB hb;(try clear hb);obtain ⟨_,_,_,_⟩:=sqN2 N2_0 N2_1;obtain ⟨_,_,_,_⟩:=sqc2 B2))
               refine sqre #[.int .i64 t27,.int .i64 t28] (sqP B2) Try.underlying71 ?_;exact sqe HB
              have zh : (t26 == 0) = false:=beq_eq_false_iff_ne.mpr c116;have zi : (t26 != 0) = true:=bne_iff_ne.mpr c116;replace H:=sqbi H;obtain ⟨⟨t29,t30⟩,A123,H⟩:=H;(try dsimp only at H);simp only [Option.some.injEq,Prod.mk.injEq] at H;obtain ⟨rfl,rfl⟩:=H
              try go_wp2
              replace B0:=sqdr B0;replace B1:=sqdr B1;replace B2:=sqdr B2;replace HB:=sqdB HB;refine sqst 9 (fun w'=>Ce2 w' gb0 (.int .i64 a1_0) (.int .i64 a1_1)∧Ce2 w' gb1 (.int .i64 a2_0) (.int .i64 a2_1)) sqz (fun hHeld=>?_);refine with_tabW spec_RestDo.tab21 spec_RestDo.bits21 (fun HT_ HW_=>?_);generalize wc.drew = w124 at B0 B1 B2 HB hHeld ⊢;refine sqp HT_ 0 150 ?_;refine sqp HT_ 2 152 ?_;refine sqp HT_ 4 154 ?_;refine sqw HT_ HW_ 1 151 hHeld ?_;refine sqw HT_ HW_ 3 153 hHeld ?_;refine sqw HT_ HW_ 5 155 hHeld ?_;refine sqo HT_ 6 156 (fun K hK=>?_);refine sqGq rfl Try.func97 (spec_l9Gcd.calls _ _ _ _ _ A114.out) ?_;intro nd;refine hK.out _ _ sqz (fun hHeld=>?_);clear hK K;refine sqnm ?_;refine sqo HT_ 7 157 (fun K hK=>?_);refine sqGq rfl Try.func97 (spec_l9Gcd.calls _ _ _ _ _ A115.out) ?_;intro nd;refine hK.out _ _ sqz (fun hHeld=>?_);clear hK K;refine sqnm ?_;refine sqp HT_ 8 11 ?_;refine done_ (done_of HT_.out (by kernel_rfl)) ?_;obtain ⟨_,_,_,_⟩:=sqN2 N0_1 N0_2;obtain ⟨_,_,_,_⟩:=sqc2 B0
              try go_wp2_with (first | ((with_reducible refine gf 96 rfl ?_);refine sqLb rfl (some 164) Try.func96 (spec_l9Make.calls _ _ _ _ _ _ A123.out) ?_;intro w128 hb;refine sqM3 B0 B1 B2 hb ?_;clear B0 B1 B2;intro B0 B1 B2;replace HB:=sqs HB hb;(try clear hb);obtain ⟨_,_⟩:=sqN1 N2_1;obtain ⟨_,_,_,_⟩:=sqc2 B2))
              refine sqre #[.int .i64 t29,.int .i64 t30] (sqP B2) Try.underlying71 ?_;exact sqe HB
             subst c98;rw [if_pos rfl] at H;replace H:=sqbi H;obtain ⟨t31,A99,H⟩:=H;(try dsimp only at H);replace H:=sqbi H;obtain ⟨t32,A100,H⟩:=H;(try dsimp only at H);replace H:=sqj H;rcases H with ⟨c101,H⟩ | ⟨c101,H⟩
             ·have zj : (t32 == 0) = true:=beq_iff_eq.mpr c101;have zk : (t32 != 0) = false:=bne_eq_false_iff_eq.mpr c101;clear c101;simp only [Option.some.injEq,Prod.mk.injEq] at H;obtain ⟨rfl,rfl⟩:=H
              try go_wp2
              replace B0:=sqdr B0;replace B1:=sqdr B1;replace B2:=sqdr B2;replace HB:=sqdB HB;refine sqst 18 (fun w'=>Ce2 w' gb0 (.int .i64 a1_0) (.int .i64 a1_1)∧Ce2 w' gb1 (.int .i64 a2_0) (.int .i64 a2_1)) sqz (fun hHeld=>?_);refine with_tabW spec_RestDo.tab16 spec_RestDo.bits16 (fun HT_ HW_=>?_);generalize wc.drew = w102 at B0 B1 B2 HB hHeld ⊢;refine sqp HT_ 0 119 ?_;refine sqp HT_ 2 121 ?_;refine sqp HT_ 5 124 ?_;refine sqp HT_ 7 126 ?_;refine sqp HT_ 11 130 ?_;refine sqp HT_ 13 132 ?_;refine sqw HT_ HW_ 1 120 hHeld ?_;refine sqw HT_ HW_ 3 122 hHeld ?_;refine sqp HT_ 4 123 ?_;refine sqw HT_ HW_ 6 125 hHeld ?_;refine sqw HT_ HW_ 8 127 hHeld ?_;refine sqp HT_ 9 128 ?_;refine sqw HT_ HW_ 12 131 hHeld ?_;refine sqw HT_ HW_ 14 133 hHeld ?_;refine sqp HT_ 15 134 ?_;refine sqo HT_ 10 129 (fun K hK=>?_);refine sqGq rfl Try.func97 (spec_l9Gcd.calls _ _ _ _ _ A99.out) ?_;intro nd;refine hK.out _ _ sqz (fun hHeld=>?_);clear hK K;refine sqnm ?_;refine sqo HT_ 16 135 (fun K hK=>?_);refine sqGq rfl Try.func97 (spec_l9Gcd.calls _ _ _ _ _ A100.out) ?_;intro nd;refine hK.out _ _ sqz (fun hHeld=>?_);clear hK K;refine sqnm ?_;refine sqp HT_ 17 10 ?_;refine done_ (done_of HT_.out (by kernel_rfl)) ?_;obtain ⟨_,_,_,_⟩:=sqN2 N2_0 N2_1;obtain ⟨_,_,_,_⟩:=sqc2 B2
              try go_wp2
              refine sqre #[.int .i64 0,.int .i64 0] (sqP B2) Try.underlying71 ?_;exact sqe HB
             have zj : (t32 == 0) = false:=beq_eq_false_iff_ne.mpr c101;have zk : (t32 != 0) = true:=bne_iff_ne.mpr c101;replace H:=sqbi H;obtain ⟨t33,A106,H⟩:=H;(try dsimp only at H);replace H:=sqbi H;obtain ⟨⟨t34,t35⟩,A107,H⟩:=H;(try dsimp only at H);simp only [Option.some.injEq,Prod.mk.injEq] at H;obtain ⟨rfl,rfl⟩:=H
             try go_wp2
             replace B0:=sqdr B0;replace B1:=sqdr B1;replace B2:=sqdr B2;replace HB:=sqdB HB;refine sqst 18 (fun w'=>Ce2 w' gb0 (.int .i64 a1_0) (.int .i64 a1_1)∧Ce2 w' gb1 (.int .i64 a2_0) (.int .i64 a2_1)) sqz (fun hHeld=>?_);refine with_tabW spec_RestDo.tab16 spec_RestDo.bits16 (fun HT_ HW_=>?_);generalize wc.drew = w108 at B0 B1 B2 HB hHeld ⊢;refine sqp HT_ 0 119 ?_;refine sqp HT_ 2 121 ?_;refine sqp HT_ 5 124 ?_;refine sqp HT_ 7 126 ?_;refine sqp HT_ 11 130 ?_;refine sqp HT_ 13 132 ?_;refine sqw HT_ HW_ 1 120 hHeld ?_;refine sqw HT_ HW_ 3 122 hHeld ?_;refine sqp HT_ 4 123 ?_;refine sqw HT_ HW_ 6 125 hHeld ?_;refine sqw HT_ HW_ 8 127 hHeld ?_;refine sqp HT_ 9 128 ?_;refine sqw HT_ HW_ 12 131 hHeld ?_;refine sqw HT_ HW_ 14 133 hHeld ?_;refine sqp HT_ 15 134 ?_;refine sqo HT_ 10 129 (fun K hK=>?_);refine sqGq rfl Try.func97 (spec_l9Gcd.calls _ _ _ _ _ A99.out) ?_;intro nd;refine hK.out _ _ sqz (fun hHeld=>?_);clear hK K;refine sqnm ?_;refine sqo HT_ 16 135 (fun K hK=>?_);refine sqGq rfl Try.func97 (spec_l9Gcd.calls _ _ _ _ _ A100.out) ?_;intro nd;refine hK.out _ _ sqz (fun hHeld=>?_);clear hK K;refine sqnm ?_;refine sqp HT_ 17 10 ?_;refine done_ (done_of HT_.out (by kernel_rfl)) ?_
             try go_wp2
             (try (rw [drewN_self w108];generalize hq_ : World.drewN w108 _ = w108;replace B0:=sqq B0 hq_;replace B1:=sqq B1 hq_;replace B2:=sqq B2 hq_;replace HB:=sqr HB hq_;clear hq_;obtain ⟨zK,zL,zM,zN⟩:=sqc2 B0;obtain ⟨zO,zP,zQ,zR⟩:=sqc2 B1;obtain ⟨zS,zT,zU,zV⟩:=sqc2 B2))
             replace B0:=sqdr B0;replace B1:=sqdr B1;replace B2:=sqdr B2;replace HB:=sqdB HB;refine sqst 10 (fun w'=>Ce2 w' gb0 (.int .i64 a1_0) (.int .i64 a1_1)∧Ce2 w' gb1 (.int .i64 a2_0) (.int .i64 a2_1)) sqz (fun hHeld=>?_);refine with_tabW spec_RestDo.tab19 spec_RestDo.bits19 (fun HT_ HW_=>?_);generalize w108.drew = w109 at B0 B1 B2 HB hHeld ⊢;refine sqp HT_ 0 139 ?_;refine sqp HT_ 1 140 ?_;refine sqp HT_ 3 142 ?_;refine sqp HT_ 5 144 ?_;refine sqw HT_ HW_ 4 143 hHeld ?_;refine sqw HT_ HW_ 6 145 hHeld ?_;refine sqp HT_ 7 146 ?_;refine sqo HT_ 2 141 (fun K hK=>?_);refine sqGq rfl Try.func97 (spec_l9Gcd.calls _ _ _ _ _ A106.out) ?_;intro nd;refine hK.out _ _ sqz (fun hHeld=>?_);clear hK K;refine sqnm ?_;refine sqo HT_ 8 147 (fun K hK=>?_);refine sqGb rfl Try.func96 (spec_l9Make.calls _ _ _ _ _ _ A107.out) ?_;intro w110 hb;refine sqM3 B0 B1 B2 hb ?_;clear B0 B1 B2;intro B0 B1 B2;replace HB:=sqs HB hb;(try clear hb);refine hK.out _ _ sqz (fun hHeld=>?_);clear hK K;refine sqnm ?_;refine sqo0 HT_ 9 (fun K hK=>?_);obtain ⟨_,_,_,_⟩:=sqc2 B2;obtain ⟨_,_,_,_⟩:=sqN2 N0_2 N1_2;refine sqsk ?_;refine hK.out _ _ sqzf (fun hHeld=>?_);clear hK K;refine done_ (done_of HT_.out (by kernel_rfl)) ?_
             try go_wp2
             refine sqre #[.int .i64 t34,.int .i64 t35] (sqP B2) Try.underlying71 ?_;exact sqe HB

end Go.Proofs.Ytlbheepfmjbpnaa.PFnValDo
