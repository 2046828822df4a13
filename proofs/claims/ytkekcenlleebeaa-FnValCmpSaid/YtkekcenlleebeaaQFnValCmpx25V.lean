/- Functions of the program as plain Lean functions, and that calls of them come to what these tell. Conditions: those in each law. -/
import Derived.Test.YtkekcenlleebeaaSqV
import Derived.Test.YtkekcenlleebeaaDFnValCmpV
import Derived.Test.YtkekcenlleebeaaQFnValCmpx0V
import Derived.Test.YtkekcenlleebeaaQFnValCmpx6V
import Derived.Test.YtkekcenlleebeaaQFnValCmpx11V
import Derived.Test.YtkekcenlleebeaaQFnValCmpx12V
namespace Go.Proofs.Ytkekcenlleebeaa.PFnValCmp
open Go.RowKit Go.Proofs.Ytkekcenlleebeaa.Sq Go.Proofs.YtkekcenlleebeaaW.PrintWords Go.Proofs.YtkekcenlleebeaaW.PrintLast Go.Proofs.YtkekcenlleebeaaW.PrintMore
attribute [local go_sem] max2_int min2_int max_two min_two max_three min_three max_four min_four   -- for this text's walks alone
set_option linter.unusedVariables false
set_option linter.unusedSimpArgs false

attribute [local go_sem high] eqA24
/-! ### spec_RangeMeet: function 131 -/
def spec_RangeMeet.T1 : Bool × List (List Nat × List Nat) := (true, [([], []), ([0], [0]), ([1], [1]), ([2, 1], [2]), ([3], [3]), ([4, 3, 3], [3, 4]), ([5, 3], [3, 5]), ([3, 6], [3, 6]), ([7, 5], [7]), ([8], [8]), ([8, 8], [8]), ([9, 10, 8], [8, 9, 10]), ([8, 11], [8, 11]), ([12, 10], [12]), ([13], [13]), ([13, 13], [13]), ([14, 15, 13], [13, 14, 15]), ([13, 16], [13, 16])])
def spec_RangeMeet.B1 : List Nat := [0, 1, 3, 7, 15, 31, 63, 127, 255, 511, 511, 2047, 4095, 8191, 16383, 16383, 65535, 131071]
theorem spec_RangeMeet.tab1 : rtab .any (opsOf Try.f131 1) = spec_RangeMeet.T1 := by kernel_rfl
theorem spec_RangeMeet.bits1 : waitsOk spec_RangeMeet.T1.2 spec_RangeMeet.B1 = true := by kernel_rfl
def spec_RangeMeet.T3 : Bool × List (List Nat × List Nat) := (true, [([], []), ([0], [0]), ([], []), ([2], [2]), ([1, 3], [1, 3]), ([], []), ([5], [5]), ([], []), ([7], [7]), ([6, 8, 4], [6, 8]), ([4, 9, 9], [4, 9]), ([10, 10, 0, 1, 2, 3, 4, 5, 6, 7, 8, 9, 10], [10])])
def spec_RangeMeet.B3 : List Nat := [0, 1, 0, 4, 15, 0, 32, 0, 128, 511, 1023, 2047]
theorem spec_RangeMeet.tab3 : rtab .any (opsOf Try.f131 3) = spec_RangeMeet.T3 := by kernel_rfl
theorem spec_RangeMeet.bits3 : waitsOk spec_RangeMeet.T3.2 spec_RangeMeet.B3 = true := by kernel_rfl
set_option maxHeartbeats 8000000 in
set_option maxRecDepth 100000 in
theorem spec_RangeMeet.calls (k : Nat) (a0_0 : Int) (a0_1 : Int) (a1_0 : Int) (a1_1 : Int) (r1 : Int) (r2 : Int) (w : World) (h : spec_RangeMeet.f k a0_0 a0_1 a1_0 a1_1 = some (r1, r2)) :
  Calls Try.prog 131 #[.agg #[.int .i64 a0_0, .int .i64 a0_1], .agg #[.int .i64 a1_0, .int .i64 a1_1]] w fun e w' => e = .returned (.agg #[.int .i64 r1, .int .i64 r2]) ∧ Below w.heap.size w w' := by
 have hu24 := Try.underlying24; have HB := Aside0.mk (Below.refl w.heap.size w); have H := h; unfold spec_RangeMeet.f at H; clear h; have HC3 := Aside0.mk H; clear H; go_enter Try.func131, Try.ntmps131; go_upto_region 1 with (first | ((with_reducible refine gate_dst (N := 2) rfl ?_); refine sqx 2 #[.int .i64 a0_0, .int .i64 a0_1] 24 ?_; intro gb0 hg w4 hbox hb; have B0 := Aside0.mk hbox; have GW0 := sqg HB hg; replace HB := sqs HB hb; clear hb hbox hg) | ((with_reducible refine gate_dst (N := 3) rfl ?_); refine sqx 3 #[.int .i64 a1_0, .int .i64 a1_1] 24 ?_; intro gb1 hg w5 hbox hb; have B1 := Aside0.mk hbox; have GW1 := sqg HB hg; have N0_1 := sqn B0 hg; have N1_0 := sqm B0 hg; replace B0 := sqb B0 hb; replace HB := sqs HB hb; clear hb hbox hg) | ((with_reducible refine gate_dst (N := 4) rfl ?_); refine sqx 4 #[.int .i64 0, .int .i64 0] 24 ?_; intro gb2 hg w6 hbox hb; have B2 := Aside0.mk hbox; have GW2 := sqg HB hg; have N0_2 := sqn B0 hg; have N2_0 := sqm B0 hg; have N1_2 := sqn B1 hg; have N2_1 := sqm B1 hg; refine sqM2 B0 B1 hb ?_; clear B0 B1; intro B0 B1; replace HB := sqs HB hb; clear hb hbox hg))
 (try simp only [Act.put, List.setIfInBounds_toArray, List.set_cons_zero, List.set_cons_succ])
 go_cut [22] (fun v22 wc => ∃ (kq : Nat) (x0 : Bool), v22 = .bool x0 ∧ Aside0 (spec_RangeMeet.j0 kq x0 a0_0 a0_1 a1_0 a1_1 = some (r1, r2)) ∧ Aside0 (kq ≤ k) ∧ Aside0 (wc.heap[gb0]? = some (.cells #[.int .i64 a0_0, .int .i64 a0_1] 24 (0, 0))) ∧ Aside0 (wc.heap[gb1]? = some (.cells #[.int .i64 a1_0, .int .i64 a1_1] 24 (0, 0))) ∧ Aside0 (wc.heap[gb2]? = some (.cells #[.int .i64 0, .int .i64 0] 24 (0, 0))) ∧ Aside0 (Below w.heap.size w wc))
 case first =>
  have H := HC3.out; clear HC3; replace H := sqbi H; obtain ⟨t0, A7, H⟩ := H; (try dsimp only at H); rcases sqI (t0 = true) with c8 | c8
  ·replace c8 := Bool.eq_false_iff.mpr c8; subst c8; rw [if_neg (show ¬ (false = true) by decide)] at H; have H' := Aside0.mk H; clear H
   try go_wp2
   replace B0 := sqdr B0; replace B1 := sqdr B1; replace B2 := sqdr B2; replace HB := sqdB HB; refine sqst 18 (fun w' => w'.cell? ⟨gb0, 0, none⟩ = some (.int .i64 a0_0) ∧ w'.cell? ⟨gb0, 1, none⟩ = some (.int .i64 a0_1)) sqz (fun hHeld => ?_); refine with_tabW spec_RangeMeet.tab1 spec_RangeMeet.bits1 (fun HT_ HW_ => ?_); generalize w6.drew = w26 at B0 B1 B2 HB hHeld ⊢; refine sqw HT_ HW_ 0 5 hHeld ?_; refine sqo HT_ 1 6 (fun K hK => ?_); refine sqG Try.func45 #[.agg #[.int .i64 a0_0, .int .i64 a0_1]] ?_; (with_reducible refine (spec_RangeOk.calls a0_0 a0_1 false _ A7.out).mono ?_); rintro e w27 ⟨rfl, hb⟩; refine ⟨_, rfl, ?_⟩; refine sqM3 B0 B1 B2 hb ?_; clear B0 B1 B2; intro B0 B1 B2; replace HB := sqs HB hb; (try clear hb); refine hK.out _ _ sqz (fun hHeld => ?_); clear hK K; refine sqnm ?_; refine sqp HT_ 2 7 ?_; refine sqp HT_ 3 8 ?_; refine sqpu HT_ 4 9 ?_; refine sqpu HT_ 5 10 ?_; refine sqpu HT_ 6 11 ?_; refine sqp HT_ 7 12 ?_; refine sqp HT_ 8 13 ?_; refine sqpu HT_ 9 14 ?_; refine sqpu HT_ 10 15 ?_; refine sqpu HT_ 11 16 ?_; refine sqp HT_ 12 17 ?_; refine sqp HT_ 13 18 ?_; refine sqpu HT_ 14 19 ?_; refine sqpu HT_ 15 20 ?_; refine sqpu HT_ 16 21 ?_; refine sqp HT_ 17 22 ?_; refine done_ (done_of HT_.out (by kernel_rfl)) ?_
   try go_wp2
   go_meet
   case rel => exact ⟨_, (true), (by first | rfl | (simp; done) | (simp [*]; done)), H', ⟨by first | omega | exact Nat.le_refl _⟩, sqk B0, sqk B1, sqk B2, sqh HB⟩
  subst c8; rw [if_pos rfl] at H; replace H := sqbi H; obtain ⟨t1, A9, H⟩ := H; (try dsimp only at H); rcases sqI (t1 = true) with c10 | c10
  ·replace c10 := Bool.eq_false_iff.mpr c10; subst c10; rw [if_neg (show ¬ (false = true) by decide)] at H; have H' := Aside0.mk H; clear H
   try go_wp2
   replace B0 := sqdr B0; replace B1 := sqdr B1; replace B2 := sqdr B2; replace HB := sqdB HB; refine sqst 18 (fun w' => w'.cell? ⟨gb0, 0, none⟩ = some (.int .i64 a0_0) ∧ w'.cell? ⟨gb0, 1, none⟩ = some (.int .i64 a0_1) ∧ w'.cell? ⟨gb1, 0, none⟩ = some (.int .i64 a1_0) ∧ w'.cell? ⟨gb1, 1, none⟩ = some (.int .i64 a1_1)) sqz (fun hHeld => ?_); refine with_tabW spec_RangeMeet.tab1 spec_RangeMeet.bits1 (fun HT_ HW_ => ?_); generalize w6.drew = w23 at B0 B1 B2 HB hHeld ⊢; refine sqw HT_ HW_ 0 5 hHeld ?_; refine sqo HT_ 1 6 (fun K hK => ?_); refine sqG Try.func45 #[.agg #[.int .i64 a0_0, .int .i64 a0_1]] ?_; (with_reducible refine (spec_RangeOk.calls a0_0 a0_1 true _ A7.out).mono ?_); rintro e w24 ⟨rfl, hb⟩; refine ⟨_, rfl, ?_⟩; refine sqM3 B0 B1 B2 hb ?_; clear B0 B1 B2; intro B0 B1 B2; replace HB := sqs HB hb; (try clear hb); refine hK.out _ _ sqz (fun hHeld => ?_); clear hK K; refine sqnm ?_; refine sqp HT_ 2 7 ?_; refine sqp HT_ 3 8 ?_; refine sqw HT_ HW_ 4 9 hHeld ?_; refine sqo HT_ 5 10 (fun K hK => ?_); refine sqG Try.func45 #[.agg #[.int .i64 a1_0, .int .i64 a1_1]] ?_; (with_reducible refine (spec_RangeOk.calls a1_0 a1_1 false _ A9.out).mono ?_); rintro e w25 ⟨rfl, hb⟩; refine ⟨_, rfl, ?_⟩; refine sqM3 B0 B1 B2 hb ?_; clear B0 B1 B2; intro B0 B1 B2; replace HB := sqs HB hb; (try clear hb); refine hK.out _ _ sqz (fun hHeld => ?_); clear hK K; refine sqnm ?_; refine sqp HT_ 6 11 ?_; refine sqp HT_ 7 12 ?_; refine sqp HT_ 8 13 ?_; refine sqpu HT_ 9 14 ?_; refine sqpu HT_ 10 15 ?_; refine sqpu HT_ 11 16 ?_; refine sqp HT_ 12 17 ?_; refine sqp HT_ 13 18 ?_; refine sqpu HT_ 14 19 ?_; refine sqpu HT_ 15 20 ?_; refine sqpu HT_ 16 21 ?_; refine sqp HT_ 17 22 ?_; refine done_ (done_of HT_.out (by kernel_rfl)) ?_
   try go_wp2
   go_meet
   case rel => exact ⟨_, (true), (by first | rfl | (simp; done) | (simp [*]; done)), H', ⟨by first | omega | exact Nat.le_refl _⟩, sqk B0, sqk B1, sqk B2, sqh HB⟩
  subst c10; rw [if_pos rfl] at H; replace H := sqbi H; obtain ⟨⟨t2, t3⟩, A11, H⟩ := H; (try dsimp only at H); replace H := sqj H; rcases H with ⟨c12, H⟩ | ⟨c12, H⟩
  ·have c12b0 : (a0_0 == t2 && (a0_1 == t3)) = true := c12
   (try (have c12b1 : decide (a0_0 = t2 && (a0_1 == t3)) = true := by simpa using c12))
   (try (have c12b2 : (a0_0 == t2 && (a0_1 == t3)) = true := by simpa using c12))
   clear c12
   (first | rw [c12b0] | (simp only [i64_w, i32_w]; rw [c12b0]) | skip)
   have H' := Aside0.mk H; clear H
   try go_wp2
   replace B0 := sqdr B0; replace B1 := sqdr B1; replace B2 := sqdr B2; replace HB := sqdB HB; refine sqst 18 (fun w' => w'.cell? ⟨gb0, 0, none⟩ = some (.int .i64 a0_0) ∧ w'.cell? ⟨gb0, 1, none⟩ = some (.int .i64 a0_1) ∧ w'.cell? ⟨gb1, 0, none⟩ = some (.int .i64 a1_0) ∧ w'.cell? ⟨gb1, 1, none⟩ = some (.int .i64 a1_1)) sqz (fun hHeld => ?_); refine with_tabW spec_RangeMeet.tab1 spec_RangeMeet.bits1 (fun HT_ HW_ => ?_); generalize w6.drew = w13 at B0 B1 B2 HB hHeld ⊢; refine sqw HT_ HW_ 0 5 hHeld ?_; refine sqo HT_ 1 6 (fun K hK => ?_); refine sqG Try.func45 #[.agg #[.int .i64 a0_0, .int .i64 a0_1]] ?_; (with_reducible refine (spec_RangeOk.calls a0_0 a0_1 true _ A7.out).mono ?_); rintro e w14 ⟨rfl, hb⟩; refine ⟨_, rfl, ?_⟩; refine sqM3 B0 B1 B2 hb ?_; clear B0 B1 B2; intro B0 B1 B2; replace HB := sqs HB hb; (try clear hb); refine hK.out _ _ sqz (fun hHeld => ?_); clear hK K; refine sqnm ?_; refine sqp HT_ 2 7 ?_; refine sqp HT_ 3 8 ?_; refine sqw HT_ HW_ 4 9 hHeld ?_; refine sqo HT_ 5 10 (fun K hK => ?_); refine sqG Try.func45 #[.agg #[.int .i64 a1_0, .int .i64 a1_1]] ?_; (with_reducible refine (spec_RangeOk.calls a1_0 a1_1 true _ A9.out).mono ?_); rintro e w15 ⟨rfl, hb⟩; refine ⟨_, rfl, ?_⟩; refine sqM3 B0 B1 B2 hb ?_; clear B0 B1 B2; intro B0 B1 B2; replace HB := sqs HB hb; (try clear hb); refine hK.out _ _ sqz (fun hHeld => ?_); clear hK K; refine sqnm ?_; refine sqp HT_ 6 11 ?_; refine sqp HT_ 7 12 ?_; refine sqp HT_ 8 13 ?_; refine sqw HT_ HW_ 9 14 hHeld ?_; refine sqo HT_ 10 15 (fun K hK => ?_); refine sqG Try.func99 #[] ?_; (with_reducible refine (spec_l8None.calls  t2 t3 _ A11.out).mono ?_); rintro e w16 ⟨rfl, hb⟩; refine ⟨_, rfl, ?_⟩; refine sqM3 B0 B1 B2 hb ?_; clear B0 B1 B2; intro B0 B1 B2; replace HB := sqs HB hb; (try clear hb); refine hK.out _ _ sqz (fun hHeld => ?_); clear hK K; refine sqnm ?_; refine sqp HT_ 11 16 ?_; refine sqp HT_ 12 17 ?_; refine sqp HT_ 13 18 ?_; refine sqpu HT_ 14 19 ?_; refine sqpu HT_ 15 20 ?_; refine sqpu HT_ 16 21 ?_; refine sqp HT_ 17 22 ?_; refine done_ (done_of HT_.out (by kernel_rfl)) ?_
   try go_wp2
   go_meet
   case rel => exact ⟨_, (true), (by first | rfl | (simp; done) | (simp [*]; done)), H', ⟨by first | omega | exact Nat.le_refl _⟩, sqk B0, sqk B1, sqk B2, sqh HB⟩
  have c12b0 : (a0_0 == t2 && (a0_1 == t3)) = false := by simpa using c12
  (try (have c12b1 : decide (a0_0 = t2 && (a0_1 == t3)) = false := by simpa using c12))
  (try (have c12b2 : (a0_0 == t2 && (a0_1 == t3)) = false := by simpa using c12))
  (try (have c12b3 : ¬ (a0_0 = t2 && (a0_1 == t3)) := by simpa using c12))
  clear c12
  (first | rw [c12b0] | (simp only [i64_w, i32_w]; rw [c12b0]) | skip)
  replace H := sqbi H; obtain ⟨⟨t4, t5⟩, A17, H⟩ := H; (try dsimp only at H); have H' := Aside0.mk H; clear H
  try go_wp2
  replace B0 := sqdr B0; replace B1 := sqdr B1; replace B2 := sqdr B2; replace HB := sqdB HB; refine sqst 18 (fun w' => w'.cell? ⟨gb0, 0, none⟩ = some (.int .i64 a0_0) ∧ w'.cell? ⟨gb0, 1, none⟩ = some (.int .i64 a0_1) ∧ w'.cell? ⟨gb1, 0, none⟩ = some (.int .i64 a1_0) ∧ w'.cell? ⟨gb1, 1, none⟩ = some (.int .i64 a1_1)) sqz (fun hHeld => ?_); refine with_tabW spec_RangeMeet.tab1 spec_RangeMeet.bits1 (fun HT_ HW_ => ?_); generalize w6.drew = w18 at B0 B1 B2 HB hHeld ⊢; refine sqw HT_ HW_ 0 5 hHeld ?_; refine sqo HT_ 1 6 (fun K hK => ?_); refine sqG Try.func45 #[.agg #[.int .i64 a0_0, .int .i64 a0_1]] ?_; (with_reducible refine (spec_RangeOk.calls a0_0 a0_1 true _ A7.out).mono ?_); rintro e w19 ⟨rfl, hb⟩; refine ⟨_, rfl, ?_⟩; refine sqM3 B0 B1 B2 hb ?_; clear B0 B1 B2; intro B0 B1 B2; replace HB := sqs HB hb; (try clear hb); refine hK.out _ _ sqz (fun hHeld => ?_); clear hK K; refine sqnm ?_; refine sqp HT_ 2 7 ?_; refine sqp HT_ 3 8 ?_; refine sqw HT_ HW_ 4 9 hHeld ?_; refine sqo HT_ 5 10 (fun K hK => ?_); refine sqG Try.func45 #[.agg #[.int .i64 a1_0, .int .i64 a1_1]] ?_; (with_reducible refine (spec_RangeOk.calls a1_0 a1_1 true _ A9.out).mono ?_); rintro e w20 ⟨rfl, hb⟩; refine ⟨_, rfl, ?_⟩; refine sqM3 B0 B1 B2 hb ?_; clear B0 B1 B2; intro B0 B1 B2; replace HB := sqs HB hb; (try clear hb); refine hK.out _ _ sqz (fun hHeld => ?_); clear hK K; refine sqnm ?_; refine sqp HT_ 6 11 ?_; refine sqp HT_ 7 12 ?_; refine sqp HT_ 8 13 ?_; refine sqw HT_ HW_ 9 14 hHeld ?_; refine sqo HT_ 10 15 (fun K hK => ?_); refine sqG Try.func99 #[] ?_; (with_reducible refine (spec_l8None.calls  t2 t3 _ A11.out).mono ?_); rintro e w21 ⟨rfl, hb⟩; refine ⟨_, rfl, ?_⟩; refine sqM3 B0 B1 B2 hb ?_; clear B0 B1 B2; intro B0 B1 B2; replace HB := sqs HB hb; (try clear hb); refine hK.out _ _ sqz (fun hHeld => ?_); clear hK K; refine sqnm ?_; refine sqp HT_ 11 16 ?_; refine sqp HT_ 12 17 ?_; refine sqp HT_ 13 18 ?_; refine sqw HT_ HW_ 14 19 hHeld ?_; refine sqo HT_ 15 20 (fun K hK => ?_); refine sqG Try.func99 #[] ?_; (with_reducible refine (spec_l8None.calls  t4 t5 _ A17.out).mono ?_); rintro e w22 ⟨rfl, hb⟩; refine ⟨_, rfl, ?_⟩; refine sqM3 B0 B1 B2 hb ?_; clear B0 B1 B2; intro B0 B1 B2; replace HB := sqs HB hb; (try clear hb); refine hK.out _ _ sqz (fun hHeld => ?_); clear hK K; refine sqnm ?_; refine sqp HT_ 16 21 ?_; refine sqp HT_ 17 22 ?_; refine done_ (done_of HT_.out (by kernel_rfl)) ?_
  try go_wp2
  go_meet
  case rel => exact ⟨_, ((a1_0 == t4 && (a1_1 == t5))), (by first | rfl | (simp; done) | (simp [*]; done)), H', ⟨by first | omega | exact Nat.le_refl _⟩, sqk B0, sqk B1, sqk B2, sqh HB⟩
 case rest =>
  clear HC3; obtain ⟨kq, x0, rfl, HA, HJ2, B0, B1, B2, HB⟩ := hcut; cases kq with
  | zero => exact absurd HA.out (by simp [spec_RangeMeet.j0])
  | succ kj2 =>
   have H := HA.out; clear HA; simp only [spec_RangeMeet.j0] at H
   by_cases c28 : x0 = true
   ·subst c28; rw [if_pos rfl] at H; replace H := sqbi H; obtain ⟨⟨t6, t7⟩, A29, H⟩ := H; (try dsimp only at H); simp only [Option.some.injEq, Prod.mk.injEq] at H; obtain ⟨rfl, rfl⟩ := H; go_wp2_with (first | ((with_reducible refine gate_callee (f := 99) rfl ?_); refine sqL (some 23) Try.func99 #[] ?_; (with_reducible refine (spec_l8None.calls  t6 t7 _ A29.out).mono ?_); rintro e w30 ⟨rfl, hb⟩; refine ⟨_, rfl, ?_⟩; refine sqM3 B0 B1 B2 hb ?_; clear B0 B1 B2; intro B0 B1 B2; replace HB := sqs HB hb; (try clear hb); obtain ⟨_, _, _, _⟩ := sqN2 N2_0 N2_1; obtain ⟨_, _, _, _⟩ := sqc2 B2)); refine bodyPost_ret (results_cell_row rfl _ _ gb2 24 #[.int .i64 t6, .int .i64 t7] (0, 0) _ rfl (sqP B2) Try.underlying24 rfl (by kernel_rfl)) rfl ?_; exact sqe HB
   replace c28 := Bool.eq_false_iff.mpr c28; subst c28; rw [if_neg (show ¬ (false = true) by decide)] at H; replace H := sqbi H; obtain ⟨t8, A34, H⟩ := H; (try dsimp only at H); replace H := sqbi H; obtain ⟨t9, A35, H⟩ := H; (try dsimp only at H); replace H := sqbi H; obtain ⟨⟨t10, t11⟩, A36, H⟩ := H; (try dsimp only at H); simp only [Option.some.injEq, Prod.mk.injEq] at H; obtain ⟨rfl, rfl⟩ := H
   try go_wp2
   replace B0 := sqdr B0; replace B1 := sqdr B1; replace B2 := sqdr B2; replace HB := sqdB HB; refine sqst 12 (fun w' => w'.cell? ⟨gb0, 0, none⟩ = some (.int .i64 a0_0) ∧ w'.cell? ⟨gb0, 1, none⟩ = some (.int .i64 a0_1) ∧ w'.cell? ⟨gb1, 0, none⟩ = some (.int .i64 a1_0) ∧ w'.cell? ⟨gb1, 1, none⟩ = some (.int .i64 a1_1)) sqz (fun hHeld => ?_); refine with_tabW spec_RangeMeet.tab3 spec_RangeMeet.bits3 (fun HT_ HW_ => ?_); generalize wc.drew = w37 at B0 B1 B2 HB hHeld ⊢; refine sqp HT_ 0 24 ?_; refine sqp HT_ 2 26 ?_; refine sqp HT_ 5 29 ?_; refine sqp HT_ 7 31 ?_; refine sqw HT_ HW_ 1 25 hHeld ?_; refine sqw HT_ HW_ 3 27 hHeld ?_; refine sqw HT_ HW_ 6 30 hHeld ?_; refine sqw HT_ HW_ 8 32 hHeld ?_; refine sqo HT_ 4 28 (fun K hK => ?_); refine sqG Try.func122 #[.int .i64 a0_0, .int .i64 a1_0] ?_; (with_reducible refine (spec_l8Max.calls a0_0 a1_0 t8 _ A34.out).mono ?_); rintro e w' ⟨rfl, ⟨nd, rfl⟩⟩; refine ⟨_, rfl, ?_⟩; refine hK.out _ _ sqz (fun hHeld => ?_); clear hK K; refine sqnm ?_; refine sqo HT_ 9 33 (fun K hK => ?_); refine sqG Try.func134 #[.int .i64 a0_1, .int .i64 a1_1] ?_; (with_reducible refine (spec_l8Min.calls a0_1 a1_1 t9 _ A35.out).mono ?_); rintro e w' ⟨rfl, ⟨nd, rfl⟩⟩; refine ⟨_, rfl, ?_⟩; refine hK.out _ _ sqz (fun hHeld => ?_); clear hK K; refine sqnm ?_; refine sqo HT_ 10 34 (fun K hK => ?_); refine sqG Try.func133 #[.int .i64 t8, .int .i64 t9] ?_; (with_reducible refine (spec_l8Cut.calls t8 t9 t10 t11 _ A36.out).mono ?_); rintro e w38 ⟨rfl, hb⟩; refine ⟨_, rfl, ?_⟩; refine sqM3 B0 B1 B2 hb ?_; clear B0 B1 B2; intro B0 B1 B2; replace HB := sqs HB hb; (try clear hb); refine hK.out _ _ sqz (fun hHeld => ?_); clear hK K; refine sqnm ?_; refine sqo0 HT_ 11 (fun K hK => ?_); obtain ⟨_, _, _, _⟩ := sqc2 B2; obtain ⟨_, _, _, _⟩ := sqN2 N0_2 N1_2; refine sqsk ?_; refine hK.out _ _ sqzf (fun hHeld => ?_); clear hK K; refine done_ (done_of HT_.out (by kernel_rfl)) ?_
   try go_wp2
   refine bodyPost_ret (results_cell_row rfl _ _ gb2 24 #[.int .i64 t10, .int .i64 t11] (0, 0) _ rfl (sqP B2) Try.underlying24 rfl (by kernel_rfl)) rfl ?_; exact sqe HB

/-! ### spec_l8Ne: function 132 -/
set_option maxHeartbeats 8000000 in
set_option maxRecDepth 100000 in
theorem spec_l8Ne.calls (a0_0 : Int) (a0_1 : Int) (a1_0 : Int) (a1_1 : Int) (r1 : Int) (r2 : Int) (w : World) (h : spec_l8Ne.f a0_0 a0_1 a1_0 a1_1 = some (r1, r2)) :
  Calls Try.prog 132 #[.agg #[.int .i64 a0_0, .int .i64 a0_1], .agg #[.int .i64 a1_0, .int .i64 a1_1]] w fun e w' => e = .returned (.agg #[.int .i64 r1, .int .i64 r2]) ∧ Below w.heap.size w w' := by
 have hu24 := Try.underlying24; have HB := Aside0.mk (Below.refl w.heap.size w); have H := h; unfold spec_l8Ne.f at H; clear h; replace H := sqi H; rcases H with ⟨c3, H⟩ | ⟨c3, H⟩
 ·have c3b0 : (a1_0 == a1_1) = false := beq_eq_false_iff_ne.mpr c3; have c3b1 : (a1_0 != a1_1) = true := bne_iff_ne.mpr c3; simp only [Option.some.injEq, Prod.mk.injEq] at H; obtain ⟨rfl, rfl⟩ := H; go_enter Try.func132, Try.ntmps132; go_wp2_with (first | ((with_reducible refine gate_dst (N := 2) rfl ?_); refine sqx 2 #[.int .i64 a0_0, .int .i64 a0_1] 24 ?_; intro gb0 hg w37 hbox hb; have B0 := Aside0.mk hbox; have GW0 := sqg HB hg; replace HB := sqs HB hb; clear hb hbox hg) | ((with_reducible refine gate_dst (N := 3) rfl ?_); refine sqx 3 #[.int .i64 a1_0, .int .i64 a1_1] 24 ?_; intro gb1 hg w38 hbox hb; have B1 := Aside0.mk hbox; have GW1 := sqg HB hg; have N0_1 := sqn B0 hg; have N1_0 := sqm B0 hg; replace B0 := sqb B0 hb; replace HB := sqs HB hb; clear hb hbox hg) | ((with_reducible refine gate_dst (N := 4) rfl ?_); refine sqx 4 #[.int .i64 0, .int .i64 0] 24 ?_; intro gb2 hg w39 hbox hb; have B2 := Aside0.mk hbox; have GW2 := sqg HB hg; have N0_2 := sqn B0 hg; have N2_0 := sqm B0 hg; have N1_2 := sqn B1 hg; have N2_1 := sqm B1 hg; refine sqM2 B0 B1 hb ?_; clear B0 B1; intro B0 B1; replace HB := sqs HB hb; clear hb hbox hg; obtain ⟨_, _, _, _⟩ := sqN2 N1_0 N1_2; obtain ⟨_, _, _, _⟩ := sqc2 B1; obtain ⟨_, _⟩ := sqN1 N0_2; obtain ⟨_, _, _, _⟩ := sqc2 B0; obtain ⟨_, _, _, _⟩ := sqc2 B2)); refine bodyPost_ret (results_cell_row rfl _ _ gb2 24 #[.int .i64 a0_0, .int .i64 a0_1] (0, 0) _ rfl (sqP B2) Try.underlying24 rfl (by kernel_rfl)) rfl ?_; exact sqe HB
 have c3b0 : (a1_0 == a1_1) = true := beq_iff_eq.mpr c3; have c3b1 : (a1_0 != a1_1) = false := bne_eq_false_iff_eq.mpr c3; clear c3; replace H := sqj H; rcases H with ⟨c4, H⟩ | ⟨c4, H⟩
 ·have c4b0 : (a0_0 == a1_0) = true := beq_iff_eq.mpr c4; have c4b1 : (a0_0 != a1_0) = false := bne_eq_false_iff_eq.mpr c4; clear c4; replace H := sqbi H; obtain ⟨⟨t0, t1⟩, A5, H⟩ := H; (try dsimp only at H); simp only [Option.some.injEq, Prod.mk.injEq] at H; obtain ⟨rfl, rfl⟩ := H; go_enter Try.func132, Try.ntmps132; go_wp2_with (first | ((with_reducible refine gate_dst (N := 2) rfl ?_); refine sqx 2 #[.int .i64 a0_0, .int .i64 a0_1] 24 ?_; intro gb0 hg w6 hbox hb; have B0 := Aside0.mk hbox; have GW0 := sqg HB hg; replace HB := sqs HB hb; clear hb hbox hg) | ((with_reducible refine gate_dst (N := 3) rfl ?_); refine sqx 3 #[.int .i64 a1_0, .int .i64 a1_1] 24 ?_; intro gb1 hg w7 hbox hb; have B1 := Aside0.mk hbox; have GW1 := sqg HB hg; have N0_1 := sqn B0 hg; have N1_0 := sqm B0 hg; replace B0 := sqb B0 hb; replace HB := sqs HB hb; clear hb hbox hg) | ((with_reducible refine gate_dst (N := 4) rfl ?_); refine sqx 4 #[.int .i64 0, .int .i64 0] 24 ?_; intro gb2 hg w8 hbox hb; have B2 := Aside0.mk hbox; have GW2 := sqg HB hg; have N0_2 := sqn B0 hg; have N2_0 := sqm B0 hg; have N1_2 := sqn B1 hg; have N2_1 := sqm B1 hg; refine sqM2 B0 B1 hb ?_; clear B0 B1; intro B0 B1; replace HB := sqs HB hb; clear hb hbox hg; obtain ⟨_, _, _, _⟩ := sqN2 N1_0 N1_2; obtain ⟨_, _, _, _⟩ := sqc2 B1; obtain ⟨_, _⟩ := sqN1 N0_2; obtain ⟨_, _, _, _⟩ := sqc2 B0) | ((with_reducible refine gate_callee (f := 133) rfl ?_); refine sqL (some 21) Try.func133 #[.int .i64 (wrap64 (a0_0 + 1)), .int .i64 a0_1] ?_; (with_reducible refine (spec_l8Cut.calls (wrap64 (a0_0 + 1)) a0_1 t0 t1 _ A5.out).mono ?_); rintro e w14 ⟨rfl, hb⟩; refine ⟨_, rfl, ?_⟩; refine sqM3 B0 B1 B2 hb ?_; clear B0 B1 B2; intro B0 B1 B2; replace HB := sqs HB hb; (try clear hb); obtain ⟨_, _, _, _⟩ := sqc2 B2)); refine bodyPost_ret (results_cell_row rfl _ _ gb2 24 #[.int .i64 t0, .int .i64 t1] (0, 0) _ rfl (sqP B2) Try.underlying24 rfl (by kernel_rfl)) rfl ?_; exact sqe HB
 have c4b0 : (a0_0 == a1_0) = false := beq_eq_false_iff_ne.mpr c4; have c4b1 : (a0_0 != a1_0) = true := bne_iff_ne.mpr c4; replace H := sqi H; rcases H with ⟨c16, H⟩ | ⟨c16, H⟩
 ·have c16b0 : (a0_1 == a1_0) = false := beq_eq_false_iff_ne.mpr c16; have c16b1 : (a0_1 != a1_0) = true := bne_iff_ne.mpr c16; simp only [Option.some.injEq, Prod.mk.injEq] at H; obtain ⟨rfl, rfl⟩ := H; go_enter Try.func132, Try.ntmps132; go_wp2_with (first | ((with_reducible refine gate_dst (N := 2) rfl ?_); refine sqx 2 #[.int .i64 a0_0, .int .i64 a0_1] 24 ?_; intro gb0 hg w28 hbox hb; have B0 := Aside0.mk hbox; have GW0 := sqg HB hg; replace HB := sqs HB hb; clear hb hbox hg) | ((with_reducible refine gate_dst (N := 3) rfl ?_); refine sqx 3 #[.int .i64 a1_0, .int .i64 a1_1] 24 ?_; intro gb1 hg w29 hbox hb; have B1 := Aside0.mk hbox; have GW1 := sqg HB hg; have N0_1 := sqn B0 hg; have N1_0 := sqm B0 hg; replace B0 := sqb B0 hb; replace HB := sqs HB hb; clear hb hbox hg) | ((with_reducible refine gate_dst (N := 4) rfl ?_); refine sqx 4 #[.int .i64 0, .int .i64 0] 24 ?_; intro gb2 hg w30 hbox hb; have B2 := Aside0.mk hbox; have GW2 := sqg HB hg; have N0_2 := sqn B0 hg; have N2_0 := sqm B0 hg; have N1_2 := sqn B1 hg; have N2_1 := sqm B1 hg; refine sqM2 B0 B1 hb ?_; clear B0 B1; intro B0 B1; replace HB := sqs HB hb; clear hb hbox hg; obtain ⟨_, _, _, _⟩ := sqN2 N1_0 N1_2; obtain ⟨_, _, _, _⟩ := sqc2 B1; obtain ⟨_, _⟩ := sqN1 N0_2; obtain ⟨_, _, _, _⟩ := sqc2 B0; obtain ⟨_, _, _, _⟩ := sqc2 B2)); refine bodyPost_ret (results_cell_row rfl _ _ gb2 24 #[.int .i64 a0_0, .int .i64 a0_1] (0, 0) _ rfl (sqP B2) Try.underlying24 rfl (by kernel_rfl)) rfl ?_; exact sqe HB
 have c16b0 : (a0_1 == a1_0) = true := beq_iff_eq.mpr c16; have c16b1 : (a0_1 != a1_0) = false := bne_eq_false_iff_eq.mpr c16; clear c16; replace H := sqbi H; obtain ⟨⟨t2, t3⟩, A17, H⟩ := H; (try dsimp only at H); simp only [Option.some.injEq, Prod.mk.injEq] at H; obtain ⟨rfl, rfl⟩ := H; go_enter Try.func132, Try.ntmps132; go_wp2_with (first | ((with_reducible refine gate_dst (N := 2) rfl ?_); refine sqx 2 #[.int .i64 a0_0, .int .i64 a0_1] 24 ?_; intro gb0 hg w18 hbox hb; have B0 := Aside0.mk hbox; have GW0 := sqg HB hg; replace HB := sqs HB hb; clear hb hbox hg) | ((with_reducible refine gate_dst (N := 3) rfl ?_); refine sqx 3 #[.int .i64 a1_0, .int .i64 a1_1] 24 ?_; intro gb1 hg w19 hbox hb; have B1 := Aside0.mk hbox; have GW1 := sqg HB hg; have N0_1 := sqn B0 hg; have N1_0 := sqm B0 hg; replace B0 := sqb B0 hb; replace HB := sqs HB hb; clear hb hbox hg) | ((with_reducible refine gate_dst (N := 4) rfl ?_); refine sqx 4 #[.int .i64 0, .int .i64 0] 24 ?_; intro gb2 hg w20 hbox hb; have B2 := Aside0.mk hbox; have GW2 := sqg HB hg; have N0_2 := sqn B0 hg; have N2_0 := sqm B0 hg; have N1_2 := sqn B1 hg; have N2_1 := sqm B1 hg; refine sqM2 B0 B1 hb ?_; clear B0 B1; intro B0 B1; replace HB := sqs HB hb; clear hb hbox hg; obtain ⟨_, _, _, _⟩ := sqN2 N1_0 N1_2; obtain ⟨_, _, _, _⟩ := sqc2 B1; obtain ⟨_, _⟩ := sqN1 N0_2; obtain ⟨_, _, _, _⟩ := sqc2 B0) | ((with_reducible refine gate_callee (f := 133) rfl ?_); refine sqL (some 32) Try.func133 #[.int .i64 a0_0, .int .i64 (wrap64 (a0_1 - 1))] ?_; (with_reducible refine (spec_l8Cut.calls a0_0 (wrap64 (a0_1 - 1)) t2 t3 _ A17.out).mono ?_); rintro e w26 ⟨rfl, hb⟩; refine ⟨_, rfl, ?_⟩; refine sqM3 B0 B1 B2 hb ?_; clear B0 B1 B2; intro B0 B1 B2; replace HB := sqs HB hb; (try clear hb); obtain ⟨_, _, _, _⟩ := sqc2 B2)); refine bodyPost_ret (results_cell_row rfl _ _ gb2 24 #[.int .i64 t2, .int .i64 t3] (0, 0) _ rfl (sqP B2) Try.underlying24 rfl (by kernel_rfl)) rfl ?_; exact sqe HB

/-! ### spec_CmpTurn: function 135 -/
set_option maxHeartbeats 8000000 in
set_option maxRecDepth 100000 in
theorem spec_CmpTurn.calls (a0 : Int) (r : Int) (w : World) (h : spec_CmpTurn.f a0 = some r) :
  Calls Try.prog 135 #[.int .i64 a0] w fun e w' => e = .returned (.int .i64 r) ∧ Drawn0 w w' := by
 have H := h; unfold spec_CmpTurn.f at H; clear h; replace H := sqj H; rcases H with ⟨c2, H⟩ | ⟨c2, H⟩
 ·have c2b0 : (a0 == 3) = true := beq_iff_eq.mpr c2; have c2b1 : (a0 != 3) = false := bne_eq_false_iff_eq.mpr c2; clear c2; obtain rfl := Option.some.inj H; go_enter Try.func135, Try.ntmps135
  go_wp2
  go_ret
  exact ⟨by first | rfl | (simp; done) | (simp [*]; done), by repeat (first | exact Drawn0.refl _ | apply Drawn0.step)⟩
 have c2b0 : (a0 == 3) = false := beq_eq_false_iff_ne.mpr c2; have c2b1 : (a0 != 3) = true := bne_iff_ne.mpr c2; replace H := sqj H; rcases H with ⟨c3, H⟩ | ⟨c3, H⟩
 ·have c3b0 : (a0 == 4) = true := beq_iff_eq.mpr c3; have c3b1 : (a0 != 4) = false := bne_eq_false_iff_eq.mpr c3; clear c3; obtain rfl := Option.some.inj H; go_enter Try.func135, Try.ntmps135
  go_wp2
  go_ret
  exact ⟨by first | rfl | (simp; done) | (simp [*]; done), by repeat (first | exact Drawn0.refl _ | apply Drawn0.step)⟩
 have c3b0 : (a0 == 4) = false := beq_eq_false_iff_ne.mpr c3; have c3b1 : (a0 != 4) = true := bne_iff_ne.mpr c3; replace H := sqj H; rcases H with ⟨c4, H⟩ | ⟨c4, H⟩
 ·have c4b0 : (a0 == 5) = true := beq_iff_eq.mpr c4; have c4b1 : (a0 != 5) = false := bne_eq_false_iff_eq.mpr c4; clear c4; obtain rfl := Option.some.inj H; go_enter Try.func135, Try.ntmps135
  go_wp2
  go_ret
  exact ⟨by first | rfl | (simp; done) | (simp [*]; done), by repeat (first | exact Drawn0.refl _ | apply Drawn0.step)⟩
 have c4b0 : (a0 == 5) = false := beq_eq_false_iff_ne.mpr c4; have c4b1 : (a0 != 5) = true := bne_iff_ne.mpr c4; replace H := sqj H; rcases H with ⟨c5, H⟩ | ⟨c5, H⟩
 ·have c5b0 : (a0 == 6) = true := beq_iff_eq.mpr c5; have c5b1 : (a0 != 6) = false := bne_eq_false_iff_eq.mpr c5; clear c5; obtain rfl := Option.some.inj H; go_enter Try.func135, Try.ntmps135
  go_wp2
  go_ret
  exact ⟨by first | rfl | (simp; done) | (simp [*]; done), by repeat (first | exact Drawn0.refl _ | apply Drawn0.step)⟩
 have c5b0 : (a0 == 6) = false := beq_eq_false_iff_ne.mpr c5; have c5b1 : (a0 != 6) = true := bne_iff_ne.mpr c5; replace H := sqj H; rcases H with ⟨c6, H⟩ | ⟨c6, H⟩
 ·have c6b0 : (a0 == 1) = true := beq_iff_eq.mpr c6; have c6b1 : (a0 != 1) = false := bne_eq_false_iff_eq.mpr c6; clear c6; obtain rfl := Option.some.inj H; go_enter Try.func135, Try.ntmps135
  go_wp2
  go_ret
  exact ⟨by first | rfl | (simp; done) | (simp [*]; done), by repeat (first | exact Drawn0.refl _ | apply Drawn0.step)⟩
 have c6b0 : (a0 == 1) = false := beq_eq_false_iff_ne.mpr c6; have c6b1 : (a0 != 1) = true := bne_iff_ne.mpr c6; replace H := sqi H; rcases H with ⟨c7, H⟩ | ⟨c7, H⟩
 ·have c7b0 : (a0 == 2) = false := beq_eq_false_iff_ne.mpr c7; have c7b1 : (a0 != 2) = true := bne_iff_ne.mpr c7; obtain rfl := Option.some.inj H; go_enter Try.func135, Try.ntmps135
  go_wp2
  go_ret
  exact ⟨by first | rfl | (simp; done) | (simp [*]; done), by repeat (first | exact Drawn0.refl _ | apply Drawn0.step)⟩
 have c7b0 : (a0 == 2) = true := beq_iff_eq.mpr c7; have c7b1 : (a0 != 2) = false := bne_eq_false_iff_eq.mpr c7; clear c7; obtain rfl := Option.some.inj H; go_enter Try.func135, Try.ntmps135
 go_wp2
 go_ret
 exact ⟨by first | rfl | (simp; done) | (simp [*]; done), by repeat (first | exact Drawn0.refl _ | apply Drawn0.step)⟩

/-! ### spec_RangeCmp: function 44 -/
def spec_RangeCmp.T3 : Bool × List (List Nat × List Nat) := (true, [([], []), ([0], [0]), ([1], [1]), ([2, 1], [2]), ([3], [3]), ([4, 3, 3], [3, 4]), ([5, 3], [3, 5]), ([3, 6], [3, 6]), ([7, 5], [7]), ([8], [8]), ([8, 8], [8]), ([9, 10, 8], [8, 9, 10]), ([8, 11], [8, 11]), ([12, 10], [12]), ([13], [13]), ([13, 13], [13]), ([14, 15, 13], [13, 14, 15]), ([13, 16], [13, 16])])
def spec_RangeCmp.B3 : List Nat := [0, 1, 3, 7, 15, 31, 63, 127, 255, 511, 511, 2047, 4095, 8191, 16383, 16383, 65535, 131071]
theorem spec_RangeCmp.tab3 : rtab .any (opsOf Try.f44 3) = spec_RangeCmp.T3 := by kernel_rfl
theorem spec_RangeCmp.bits3 : waitsOk spec_RangeCmp.T3.2 spec_RangeCmp.B3 = true := by kernel_rfl
def spec_RangeCmp.T12 : Bool × List (List Nat × List Nat) := (true, [([], []), ([0], [0]), ([], []), ([2], [2]), ([], []), ([4], [4]), ([5], [5]), ([3, 6], [3, 6]), ([1, 7, 7], [1, 7]), ([8, 8, 0, 1, 2, 3, 4, 5, 6, 7, 8], [8])])
def spec_RangeCmp.B12 : List Nat := [0, 1, 0, 4, 0, 16, 48, 124, 255, 511]
theorem spec_RangeCmp.tab12 : rtab .any (opsOf Try.f44 12) = spec_RangeCmp.T12 := by kernel_rfl
theorem spec_RangeCmp.bits12 : waitsOk spec_RangeCmp.T12.2 spec_RangeCmp.B12 = true := by kernel_rfl
def spec_RangeCmp.T13 : Bool × List (List Nat × List Nat) := (true, [([], []), ([0], [0]), ([], []), ([2], [2]), ([3], [3]), ([1, 4], [1, 4]), ([], []), ([6], [6]), ([5, 7, 5], [5, 7]), ([8, 8, 0, 1, 2, 3, 4, 5, 6, 7, 8], [8])])
def spec_RangeCmp.B13 : List Nat := [0, 1, 0, 4, 12, 31, 0, 64, 255, 511]
theorem spec_RangeCmp.tab13 : rtab .any (opsOf Try.f44 13) = spec_RangeCmp.T13 := by kernel_rfl
theorem spec_RangeCmp.bits13 : waitsOk spec_RangeCmp.T13.2 spec_RangeCmp.B13 = true := by kernel_rfl
def spec_RangeCmp.T15 : Bool × List (List Nat × List Nat) := (true, [([], []), ([0], [0]), ([], []), ([2], [2]), ([], []), ([4], [4]), ([3, 5], [3, 5]), ([1, 6, 6], [1, 6]), ([7, 7, 0, 1, 2, 3, 4, 5, 6, 7], [7])])
def spec_RangeCmp.B15 : List Nat := [0, 1, 0, 4, 0, 16, 60, 127, 255]
theorem spec_RangeCmp.tab15 : rtab .any (opsOf Try.f44 15) = spec_RangeCmp.T15 := by kernel_rfl
theorem spec_RangeCmp.bits15 : waitsOk spec_RangeCmp.T15.2 spec_RangeCmp.B15 = true := by kernel_rfl
def spec_RangeCmp.T16 : Bool × List (List Nat × List Nat) := (true, [([], []), ([0], [0]), ([], []), ([2], [2]), ([1, 3], [1, 3]), ([], []), ([5], [5]), ([4, 6, 4], [4, 6]), ([7, 7, 0, 1, 2, 3, 4, 5, 6, 7], [7])])
def spec_RangeCmp.B16 : List Nat := [0, 1, 0, 4, 15, 0, 32, 127, 255]
theorem spec_RangeCmp.tab16 : rtab .any (opsOf Try.f44 16) = spec_RangeCmp.T16 := by kernel_rfl
theorem spec_RangeCmp.bits16 : waitsOk spec_RangeCmp.T16.2 spec_RangeCmp.B16 = true := by kernel_rfl
def spec_RangeCmp.T18 : Bool × List (List Nat × List Nat) := (true, [([], []), ([0], [0]), ([], []), ([], []), ([1, 2, 3, 1], [1, 2, 3]), ([4], [4]), ([5], [5]), ([5], [5]), ([6, 4, 0, 1, 2, 3, 4, 5, 6], [6]), ([7, 8, 0, 1, 2, 3, 4, 5, 6, 7, 8], [7])])
def spec_RangeCmp.B18 : List Nat := [0, 1, 0, 0, 15, 31, 63, 63, 127, 511]
theorem spec_RangeCmp.tab18 : rtab .any (opsOf Try.f44 18) = spec_RangeCmp.T18 := by kernel_rfl
theorem spec_RangeCmp.bits18 : waitsOk spec_RangeCmp.T18.2 spec_RangeCmp.B18 = true := by kernel_rfl
def spec_RangeCmp.T19 : Bool × List (List Nat × List Nat) := (true, [([], []), ([], []), ([0, 1], [0, 1]), ([2, 1], [2]), ([3], [3]), ([3, 3], [3]), ([4, 5, 3], [3, 4, 5]), ([3, 6], [3, 6])])
def spec_RangeCmp.B19 : List Nat := [0, 0, 3, 7, 15, 15, 63, 127]
theorem spec_RangeCmp.tab19 : rtab .any (opsOf Try.f44 19) = spec_RangeCmp.T19 := by kernel_rfl
theorem spec_RangeCmp.bits19 : waitsOk spec_RangeCmp.T19.2 spec_RangeCmp.B19 = true := by kernel_rfl
set_option maxHeartbeats 8000000 in
set_option maxRecDepth 100000 in
theorem spec_RangeCmp.calls (k : Nat) : ∀ (a0 : Int) (a1_0 : Int) (a1_1 : Int) (a2_0 : Int) (a2_1 : Int) (r1 : Int) (r2 : Int) (r3 : Int) (r4 : Int) (w : World) (h : spec_RangeCmp.f k a0 a1_0 a1_1 a2_0 a2_1 = some (r1, r2, r3, r4)),
  Calls Try.prog 44 #[.int .i64 a0, .agg #[.int .i64 a1_0, .int .i64 a1_1], .agg #[.int .i64 a2_0, .int .i64 a2_1]] w fun e w' => e = .returned (.tuple #[.agg #[.int .i64 r1, .int .i64 r2], .agg #[.int .i64 r3, .int .i64 r4]]) ∧ Below w.heap.size w w' := by
 induction k using Nat.strongRecOn with
 | _ k ih =>
 intro a0 a1_0 a1_1 a2_0 a2_1 r1 r2 r3 r4 w h; cases k with
 | zero => exact absurd h (by simp [spec_RangeCmp.f])
 | succ k =>
 simp only [spec_RangeCmp.f] at h; have hu24 := Try.underlying24; have HB := Aside0.mk (Below.refl w.heap.size w); have H := h; unfold spec_RangeCmp.f at H; clear h; replace H := sqbi H; obtain ⟨⟨t0, t1⟩, A4, H⟩ := H; (try dsimp only at H); replace H := sqbi H; obtain ⟨⟨t2, t3⟩, A5, H⟩ := H; (try dsimp only at H); have HC6 := Aside0.mk H; clear H; go_enter Try.func44, Try.ntmps44; go_upto_region 3 with (first | ((with_reducible refine gate_dst (N := 4) rfl ?_); refine sqx 4 #[.int .i64 a1_0, .int .i64 a1_1] 24 ?_; intro gb0 hg w7 hbox hb; have B0 := Aside0.mk hbox; have GW0 := sqg HB hg; replace HB := sqs HB hb; clear hb hbox hg) | ((with_reducible refine gate_dst (N := 5) rfl ?_); refine sqx 5 #[.int .i64 a2_0, .int .i64 a2_1] 24 ?_; intro gb1 hg w8 hbox hb; have B1 := Aside0.mk hbox; have GW1 := sqg HB hg; have N0_1 := sqn B0 hg; have N1_0 := sqm B0 hg; replace B0 := sqb B0 hb; replace HB := sqs HB hb; clear hb hbox hg) | ((with_reducible refine gate_dst (N := 6) rfl ?_); refine sqx 6 #[.int .i64 0, .int .i64 0] 24 ?_; intro gb2 hg w9 hbox hb; have B2 := Aside0.mk hbox; have GW2 := sqg HB hg; have N0_2 := sqn B0 hg; have N2_0 := sqm B0 hg; have N1_2 := sqn B1 hg; have N2_1 := sqm B1 hg; refine sqM2 B0 B1 hb ?_; clear B0 B1; intro B0 B1; replace HB := sqs HB hb; clear hb hbox hg) | ((with_reducible refine gate_dst (N := 7) rfl ?_); refine sqx 7 #[.int .i64 0, .int .i64 0] 24 ?_; intro gb3 hg w10 hbox hb; have B3 := Aside0.mk hbox; have GW3 := sqg HB hg; have N0_3 := sqn B0 hg; have N3_0 := sqm B0 hg; have N1_3 := sqn B1 hg; have N3_1 := sqm B1 hg; have N2_3 := sqn B2 hg; have N3_2 := sqm B2 hg; refine sqM3 B0 B1 B2 hb ?_; clear B0 B1 B2; intro B0 B1 B2; replace HB := sqs HB hb; clear hb hbox hg) | ((with_reducible refine gate_callee (f := 99) rfl ?_); refine sqL (some 10) Try.func99 #[] ?_; (with_reducible refine (spec_l8None.calls  t0 t1 _ A4.out).mono ?_); rintro e w11 ⟨rfl, hb⟩; refine ⟨_, rfl, ?_⟩; refine sqM4 B0 B1 B2 B3 hb ?_; clear B0 B1 B2 B3; intro B0 B1 B2 B3; replace HB := sqs HB hb; (try clear hb)) | ((with_reducible refine gate_dst (N := 8) rfl ?_); refine sqx 8 #[.int .i64 0, .int .i64 0] 24 ?_; intro gb4 hg w12 hbox hb; have B4 := Aside0.mk hbox; have GW4 := sqg HB hg; have N0_4 := sqn B0 hg; have N4_0 := sqm B0 hg; have N1_4 := sqn B1 hg; have N4_1 := sqm B1 hg; have N2_4 := sqn B2 hg; have N4_2 := sqm B2 hg; have N3_4 := sqn B3 hg; have N4_3 := sqm B3 hg; refine sqM4 B0 B1 B2 B3 hb ?_; clear B0 B1 B2 B3; intro B0 B1 B2 B3; replace HB := sqs HB hb; clear hb hbox hg; obtain ⟨_, _, _, _, _, _, _, _⟩ := sqN4 N4_0 N4_1 N4_2 N4_3; obtain ⟨_, _, _, _⟩ := sqc2 B4) | ((with_reducible refine gate_callee (f := 99) rfl ?_); refine sqL (some 11) Try.func99 #[] ?_; (with_reducible refine (spec_l8None.calls  t2 t3 _ A5.out).mono ?_); rintro e w18 ⟨rfl, hb⟩; refine ⟨_, rfl, ?_⟩; replace B0 := sqbb B0 hb; replace B1 := sqbb B1 hb; replace B2 := sqbb B2 hb; replace B3 := sqbb B3 hb; replace B4 := Aside0.mk (blk_below (g := gb4) (o := .cells #[.int .i64 t0, .int .i64 t1] 24 (0, 0)) (sqP B4) hb); replace HB := sqs HB hb; (try clear hb)) | ((with_reducible refine gate_dst (N := 9) rfl ?_); refine sqx 9 #[.int .i64 0, .int .i64 0] 24 ?_; intro gb5 hg w19 hbox hb; have B5 := Aside0.mk hbox; have GW5 := sqg HB hg; have N0_5 := sqn B0 hg; have N5_0 := sqm B0 hg; have N1_5 := sqn B1 hg; have N5_1 := sqm B1 hg; have N2_5 := sqn B2 hg; have N5_2 := sqm B2 hg; have N3_5 := sqn B3 hg; have N5_3 := sqm B3 hg; have N4_5 := sqn B4 hg; have N5_4 := sqm B4 hg; refine sqM5 B0 B1 B2 B3 B4 hb ?_; clear B0 B1 B2 B3 B4; intro B0 B1 B2 B3 B4; replace HB := sqs HB hb; clear hb hbox hg; obtain ⟨_, _, _, _, _, _, _, _⟩ := sqN4 N5_0 N5_1 N5_2 N5_3; obtain ⟨_, _⟩ := sqN1 N5_4; obtain ⟨_, _, _, _⟩ := sqc2 B5))
 (try simp only [Act.put, List.setIfInBounds_toArray, List.set_cons_zero, List.set_cons_succ])
 go_cut [29] (fun v29 wc => ∃ (kq : Nat) (x0 : Bool), v29 = .bool x0 ∧ Aside0 (spec_RangeCmp.j0 kq a0 x0 a1_0 a1_1 a2_0 a2_1 t0 t1 t2 t3 = some (r1, r2, r3, r4)) ∧ Aside0 (kq ≤ k) ∧ Aside0 (wc.heap[gb0]? = some (.cells #[.int .i64 a1_0, .int .i64 a1_1] 24 (0, 0))) ∧ Aside0 (wc.heap[gb1]? = some (.cells #[.int .i64 a2_0, .int .i64 a2_1] 24 (0, 0))) ∧ Aside0 (wc.heap[gb2]? = some (.cells #[.int .i64 0, .int .i64 0] 24 (0, 0))) ∧ Aside0 (wc.heap[gb3]? = some (.cells #[.int .i64 0, .int .i64 0] 24 (0, 0))) ∧ Aside0 (wc.heap[gb4]? = some (.cells #[.int .i64 t0, .int .i64 t1] 24 (0, 0))) ∧ Aside0 (wc.heap[gb5]? = some (.cells #[.int .i64 t2, .int .i64 t3] 24 (0, 0))) ∧ Aside0 (Below w.heap.size w wc))
 case first =>
  have H := HC6.out; clear HC6; replace H := sqbi H; obtain ⟨t4, A26, H⟩ := H; (try dsimp only at H); rcases sqI (t4 = true) with c27 | c27
  ·replace c27 := Bool.eq_false_iff.mpr c27; subst c27; rw [if_neg (show ¬ (false = true) by decide)] at H; have H' := Aside0.mk H; clear H
   try go_wp2
   obtain ⟨w48, hw_⟩ : ∃ w_, w_ = ((w19.setCell ⟨gb5, 0, none⟩ (.int .i64 t2)).setCell ⟨gb5, 1, none⟩ (.int .i64 t3)) := ⟨_, rfl⟩; replace B0 := sqTe hw_ B0; replace B1 := sqTe hw_ B1; replace B2 := sqTe hw_ B2; replace B3 := sqTe hw_ B3; replace B4 := sqTe hw_ B4
   replace B5 : Aside0 (w48.heap[gb5]? = some (.cells #[.int .i64 t2, .int .i64 t3] 24 (0, 0))) := by rw [hw_]; exact ⟨sqP B5⟩
   replace HB : Aside0 (Below w.heap.size w w48) := by rw [hw_]; exact sqh HB
   rw [← hw_]; clear hw_; replace B0 := sqdr B0; replace B1 := sqdr B1; replace B2 := sqdr B2; replace B3 := sqdr B3; replace B4 := sqdr B4; replace B5 := sqdr B5; replace HB := sqdB HB; refine sqst 18 (fun w' => w'.cell? ⟨gb0, 0, none⟩ = some (.int .i64 a1_0) ∧ w'.cell? ⟨gb0, 1, none⟩ = some (.int .i64 a1_1)) sqz (fun hHeld => ?_); refine with_tabW spec_RangeCmp.tab3 spec_RangeCmp.bits3 (fun HT_ HW_ => ?_); generalize w48.drew = w49 at B0 B1 B2 B3 B4 B5 HB hHeld ⊢; refine sqw HT_ HW_ 0 12 hHeld ?_; refine sqo HT_ 1 13 (fun K hK => ?_); refine sqG Try.func45 #[.agg #[.int .i64 a1_0, .int .i64 a1_1]] ?_; (with_reducible refine (spec_RangeOk.calls a1_0 a1_1 false _ A26.out).mono ?_); rintro e w50 ⟨rfl, hb⟩; refine ⟨_, rfl, ?_⟩; refine sqM6 B0 B1 B2 B3 B4 B5 hb ?_; clear B0 B1 B2 B3 B4 B5; intro B0 B1 B2 B3 B4 B5; replace HB := sqs HB hb; (try clear hb); refine hK.out _ _ sqz (fun hHeld => ?_); clear hK K; refine sqnm ?_; refine sqp HT_ 2 14 ?_; refine sqp HT_ 3 15 ?_; refine sqpu HT_ 4 16 ?_; refine sqpu HT_ 5 17 ?_; refine sqpu HT_ 6 18 ?_; refine sqp HT_ 7 19 ?_; refine sqp HT_ 8 20 ?_; refine sqpu HT_ 9 21 ?_; refine sqpu HT_ 10 22 ?_; refine sqpu HT_ 11 23 ?_; refine sqp HT_ 12 24 ?_; refine sqp HT_ 13 25 ?_; refine sqpu HT_ 14 26 ?_; refine sqpu HT_ 15 27 ?_; refine sqpu HT_ 16 28 ?_; refine sqp HT_ 17 29 ?_; refine done_ (done_of HT_.out (by kernel_rfl)) ?_
   try go_wp2
   go_meet
   case rel => exact ⟨_, (true), (by first | rfl | (simp; done) | (simp [*]; done)), H', ⟨by first | omega | exact Nat.le_refl _⟩, sqk B0, sqk B1, sqk B2, sqk B3, sqk B4, sqk B5, sqh HB⟩
  subst c27; rw [if_pos rfl] at H; replace H := sqbi H; obtain ⟨t5, A28, H⟩ := H; (try dsimp only at H); rcases sqI (t5 = true) with c29 | c29
  ·replace c29 := Bool.eq_false_iff.mpr c29; subst c29; rw [if_neg (show ¬ (false = true) by decide)] at H; have H' := Aside0.mk H; clear H
   try go_wp2
   obtain ⟨w44, hw_⟩ : ∃ w_, w_ = ((w19.setCell ⟨gb5, 0, none⟩ (.int .i64 t2)).setCell ⟨gb5, 1, none⟩ (.int .i64 t3)) := ⟨_, rfl⟩; replace B0 := sqTe hw_ B0; replace B1 := sqTe hw_ B1; replace B2 := sqTe hw_ B2; replace B3 := sqTe hw_ B3; replace B4 := sqTe hw_ B4
   replace B5 : Aside0 (w44.heap[gb5]? = some (.cells #[.int .i64 t2, .int .i64 t3] 24 (0, 0))) := by rw [hw_]; exact ⟨sqP B5⟩
   replace HB : Aside0 (Below w.heap.size w w44) := by rw [hw_]; exact sqh HB
   rw [← hw_]; clear hw_; replace B0 := sqdr B0; replace B1 := sqdr B1; replace B2 := sqdr B2; replace B3 := sqdr B3; replace B4 := sqdr B4; replace B5 := sqdr B5; replace HB := sqdB HB; refine sqst 18 (fun w' => w'.cell? ⟨gb0, 0, none⟩ = some (.int .i64 a1_0) ∧ w'.cell? ⟨gb0, 1, none⟩ = some (.int .i64 a1_1) ∧ w'.cell? ⟨gb1, 0, none⟩ = some (.int .i64 a2_0) ∧ w'.cell? ⟨gb1, 1, none⟩ = some (.int .i64 a2_1)) sqz (fun hHeld => ?_); refine with_tabW spec_RangeCmp.tab3 spec_RangeCmp.bits3 (fun HT_ HW_ => ?_); generalize w44.drew = w45 at B0 B1 B2 B3 B4 B5 HB hHeld ⊢; refine sqw HT_ HW_ 0 12 hHeld ?_; refine sqo HT_ 1 13 (fun K hK => ?_); refine sqG Try.func45 #[.agg #[.int .i64 a1_0, .int .i64 a1_1]] ?_; (with_reducible refine (spec_RangeOk.calls a1_0 a1_1 true _ A26.out).mono ?_); rintro e w46 ⟨rfl, hb⟩; refine ⟨_, rfl, ?_⟩; refine sqM6 B0 B1 B2 B3 B4 B5 hb ?_; clear B0 B1 B2 B3 B4 B5; intro B0 B1 B2 B3 B4 B5; replace HB := sqs HB hb; (try clear hb); refine hK.out _ _ sqz (fun hHeld => ?_); clear hK K; refine sqnm ?_; refine sqp HT_ 2 14 ?_; refine sqp HT_ 3 15 ?_; refine sqw HT_ HW_ 4 16 hHeld ?_; refine sqo HT_ 5 17 (fun K hK => ?_); refine sqG Try.func45 #[.agg #[.int .i64 a2_0, .int .i64 a2_1]] ?_; (with_reducible refine (spec_RangeOk.calls a2_0 a2_1 false _ A28.out).mono ?_); rintro e w47 ⟨rfl, hb⟩; refine ⟨_, rfl, ?_⟩; refine sqM6 B0 B1 B2 B3 B4 B5 hb ?_; clear B0 B1 B2 B3 B4 B5; intro B0 B1 B2 B3 B4 B5; replace HB := sqs HB hb; (try clear hb); refine hK.out _ _ sqz (fun hHeld => ?_); clear hK K; refine sqnm ?_; refine sqp HT_ 6 18 ?_; refine sqp HT_ 7 19 ?_; refine sqp HT_ 8 20 ?_; refine sqpu HT_ 9 21 ?_; refine sqpu HT_ 10 22 ?_; refine sqpu HT_ 11 23 ?_; refine sqp HT_ 12 24 ?_; refine sqp HT_ 13 25 ?_; refine sqpu HT_ 14 26 ?_; refine sqpu HT_ 15 27 ?_; refine sqpu HT_ 16 28 ?_; refine sqp HT_ 17 29 ?_; refine done_ (done_of HT_.out (by kernel_rfl)) ?_
   try go_wp2
   go_meet
   case rel => exact ⟨_, (true), (by first | rfl | (simp; done) | (simp [*]; done)), H', ⟨by first | omega | exact Nat.le_refl _⟩, sqk B0, sqk B1, sqk B2, sqk B3, sqk B4, sqk B5, sqh HB⟩
  subst c29; rw [if_pos rfl] at H; replace H := sqbi H; obtain ⟨⟨t6, t7⟩, A30, H⟩ := H; (try dsimp only at H); replace H := sqj H; rcases H with ⟨c31, H⟩ | ⟨c31, H⟩
  ·have c31b0 : (a1_0 == t6 && (a1_1 == t7)) = true := c31
   (try (have c31b1 : decide (a1_0 = t6 && (a1_1 == t7)) = true := by simpa using c31))
   (try (have c31b2 : (a1_0 == t6 && (a1_1 == t7)) = true := by simpa using c31))
   clear c31
   (first | rw [c31b0] | (simp only [i64_w, i32_w]; rw [c31b0]) | skip)
   have H' := Aside0.mk H; clear H
   try go_wp2
   obtain ⟨w32, hw_⟩ : ∃ w_, w_ = ((w19.setCell ⟨gb5, 0, none⟩ (.int .i64 t2)).setCell ⟨gb5, 1, none⟩ (.int .i64 t3)) := ⟨_, rfl⟩; replace B0 := sqTe hw_ B0; replace B1 := sqTe hw_ B1; replace B2 := sqTe hw_ B2; replace B3 := sqTe hw_ B3; replace B4 := sqTe hw_ B4
   replace B5 : Aside0 (w32.heap[gb5]? = some (.cells #[.int .i64 t2, .int .i64 t3] 24 (0, 0))) := by rw [hw_]; exact ⟨sqP B5⟩
   replace HB : Aside0 (Below w.heap.size w w32) := by rw [hw_]; exact sqh HB
   rw [← hw_]; clear hw_; replace B0 := sqdr B0; replace B1 := sqdr B1; replace B2 := sqdr B2; replace B3 := sqdr B3; replace B4 := sqdr B4; replace B5 := sqdr B5; replace HB := sqdB HB; refine sqst 18 (fun w' => w'.cell? ⟨gb0, 0, none⟩ = some (.int .i64 a1_0) ∧ w'.cell? ⟨gb0, 1, none⟩ = some (.int .i64 a1_1) ∧ w'.cell? ⟨gb1, 0, none⟩ = some (.int .i64 a2_0) ∧ w'.cell? ⟨gb1, 1, none⟩ = some (.int .i64 a2_1)) sqz (fun hHeld => ?_); refine with_tabW spec_RangeCmp.tab3 spec_RangeCmp.bits3 (fun HT_ HW_ => ?_); generalize w32.drew = w33 at B0 B1 B2 B3 B4 B5 HB hHeld ⊢; refine sqw HT_ HW_ 0 12 hHeld ?_; refine sqo HT_ 1 13 (fun K hK => ?_); refine sqG Try.func45 #[.agg #[.int .i64 a1_0, .int .i64 a1_1]] ?_; (with_reducible refine (spec_RangeOk.calls a1_0 a1_1 true _ A26.out).mono ?_); rintro e w34 ⟨rfl, hb⟩; refine ⟨_, rfl, ?_⟩; refine sqM6 B0 B1 B2 B3 B4 B5 hb ?_; clear B0 B1 B2 B3 B4 B5; intro B0 B1 B2 B3 B4 B5; replace HB := sqs HB hb; (try clear hb); refine hK.out _ _ sqz (fun hHeld => ?_); clear hK K; refine sqnm ?_; refine sqp HT_ 2 14 ?_; refine sqp HT_ 3 15 ?_; refine sqw HT_ HW_ 4 16 hHeld ?_; refine sqo HT_ 5 17 (fun K hK => ?_); refine sqG Try.func45 #[.agg #[.int .i64 a2_0, .int .i64 a2_1]] ?_; (with_reducible refine (spec_RangeOk.calls a2_0 a2_1 true _ A28.out).mono ?_); rintro e w35 ⟨rfl, hb⟩; refine ⟨_, rfl, ?_⟩; refine sqM6 B0 B1 B2 B3 B4 B5 hb ?_; clear B0 B1 B2 B3 B4 B5; intro B0 B1 B2 B3 B4 B5; replace HB := sqs HB hb; (try clear hb); refine hK.out _ _ sqz (fun hHeld => ?_); clear hK K; refine sqnm ?_; refine sqp HT_ 6 18 ?_; refine sqp HT_ 7 19 ?_; refine sqp HT_ 8 20 ?_; refine sqw HT_ HW_ 9 21 hHeld ?_; refine sqo HT_ 10 22 (fun K hK => ?_); refine sqG Try.func99 #[] ?_; (with_reducible refine (spec_l8None.calls  t6 t7 _ A30.out).mono ?_); rintro e w36 ⟨rfl, hb⟩; refine ⟨_, rfl, ?_⟩; refine sqM6 B0 B1 B2 B3 B4 B5 hb ?_; clear B0 B1 B2 B3 B4 B5; intro B0 B1 B2 B3 B4 B5; replace HB := sqs HB hb; (try clear hb); refine hK.out _ _ sqz (fun hHeld => ?_); clear hK K; refine sqnm ?_; refine sqp HT_ 11 23 ?_; refine sqp HT_ 12 24 ?_; refine sqp HT_ 13 25 ?_; refine sqpu HT_ 14 26 ?_; refine sqpu HT_ 15 27 ?_; refine sqpu HT_ 16 28 ?_; refine sqp HT_ 17 29 ?_; refine done_ (done_of HT_.out (by kernel_rfl)) ?_
   try go_wp2
   go_meet
   case rel => exact ⟨_, (true), (by first | rfl | (simp; done) | (simp [*]; done)), H', ⟨by first | omega | exact Nat.le_refl _⟩, sqk B0, sqk B1, sqk B2, sqk B3, sqk B4, sqk B5, sqh HB⟩
  have c31b0 : (a1_0 == t6 && (a1_1 == t7)) = false := by simpa using c31
  (try (have c31b1 : decide (a1_0 = t6 && (a1_1 == t7)) = false := by simpa using c31))
  (try (have c31b2 : (a1_0 == t6 && (a1_1 == t7)) = false := by simpa using c31))
  (try (have c31b3 : ¬ (a1_0 = t6 && (a1_1 == t7)) := by simpa using c31))
  clear c31
  (first | rw [c31b0] | (simp only [i64_w, i32_w]; rw [c31b0]) | skip)
  replace H := sqbi H; obtain ⟨⟨t8, t9⟩, A37, H⟩ := H; (try dsimp only at H); have H' := Aside0.mk H; clear H
  try go_wp2
  obtain ⟨w38, hw_⟩ : ∃ w_, w_ = ((w19.setCell ⟨gb5, 0, none⟩ (.int .i64 t2)).setCell ⟨gb5, 1, none⟩ (.int .i64 t3)) := ⟨_, rfl⟩; replace B0 := sqTe hw_ B0; replace B1 := sqTe hw_ B1; replace B2 := sqTe hw_ B2; replace B3 := sqTe hw_ B3; replace B4 := sqTe hw_ B4
  replace B5 : Aside0 (w38.heap[gb5]? = some (.cells #[.int .i64 t2, .int .i64 t3] 24 (0, 0))) := by rw [hw_]; exact ⟨sqP B5⟩
  replace HB : Aside0 (Below w.heap.size w w38) := by rw [hw_]; exact sqh HB
  rw [← hw_]; clear hw_; replace B0 := sqdr B0; replace B1 := sqdr B1; replace B2 := sqdr B2; replace B3 := sqdr B3; replace B4 := sqdr B4; replace B5 := sqdr B5; replace HB := sqdB HB; refine sqst 18 (fun w' => w'.cell? ⟨gb0, 0, none⟩ = some (.int .i64 a1_0) ∧ w'.cell? ⟨gb0, 1, none⟩ = some (.int .i64 a1_1) ∧ w'.cell? ⟨gb1, 0, none⟩ = some (.int .i64 a2_0) ∧ w'.cell? ⟨gb1, 1, none⟩ = some (.int .i64 a2_1)) sqz (fun hHeld => ?_); refine with_tabW spec_RangeCmp.tab3 spec_RangeCmp.bits3 (fun HT_ HW_ => ?_); generalize w38.drew = w39 at B0 B1 B2 B3 B4 B5 HB hHeld ⊢; refine sqw HT_ HW_ 0 12 hHeld ?_; refine sqo HT_ 1 13 (fun K hK => ?_); refine sqG Try.func45 #[.agg #[.int .i64 a1_0, .int .i64 a1_1]] ?_; (with_reducible refine (spec_RangeOk.calls a1_0 a1_1 true _ A26.out).mono ?_); rintro e w40 ⟨rfl, hb⟩; refine ⟨_, rfl, ?_⟩; refine sqM6 B0 B1 B2 B3 B4 B5 hb ?_; clear B0 B1 B2 B3 B4 B5; intro B0 B1 B2 B3 B4 B5; replace HB := sqs HB hb; (try clear hb); refine hK.out _ _ sqz (fun hHeld => ?_); clear hK K; refine sqnm ?_; refine sqp HT_ 2 14 ?_; refine sqp HT_ 3 15 ?_; refine sqw HT_ HW_ 4 16 hHeld ?_; refine sqo HT_ 5 17 (fun K hK => ?_); refine sqG Try.func45 #[.agg #[.int .i64 a2_0, .int .i64 a2_1]] ?_; (with_reducible refine (spec_RangeOk.calls a2_0 a2_1 true _ A28.out).mono ?_); rintro e w41 ⟨rfl, hb⟩; refine ⟨_, rfl, ?_⟩; refine sqM6 B0 B1 B2 B3 B4 B5 hb ?_; clear B0 B1 B2 B3 B4 B5; intro B0 B1 B2 B3 B4 B5; replace HB := sqs HB hb; (try clear hb); refine hK.out _ _ sqz (fun hHeld => ?_); clear hK K; refine sqnm ?_; refine sqp HT_ 6 18 ?_; refine sqp HT_ 7 19 ?_; refine sqp HT_ 8 20 ?_; refine sqw HT_ HW_ 9 21 hHeld ?_; refine sqo HT_ 10 22 (fun K hK => ?_); refine sqG Try.func99 #[] ?_; (with_reducible refine (spec_l8None.calls  t6 t7 _ A30.out).mono ?_); rintro e w42 ⟨rfl, hb⟩; refine ⟨_, rfl, ?_⟩; refine sqM6 B0 B1 B2 B3 B4 B5 hb ?_; clear B0 B1 B2 B3 B4 B5; intro B0 B1 B2 B3 B4 B5; replace HB := sqs HB hb; (try clear hb); refine hK.out _ _ sqz (fun hHeld => ?_); clear hK K; refine sqnm ?_; refine sqp HT_ 11 23 ?_; refine sqp HT_ 12 24 ?_; refine sqp HT_ 13 25 ?_; refine sqw HT_ HW_ 14 26 hHeld ?_; refine sqo HT_ 15 27 (fun K hK => ?_); refine sqG Try.func99 #[] ?_; (with_reducible refine (spec_l8None.calls  t8 t9 _ A37.out).mono ?_); rintro e w43 ⟨rfl, hb⟩; refine ⟨_, rfl, ?_⟩; refine sqM6 B0 B1 B2 B3 B4 B5 hb ?_; clear B0 B1 B2 B3 B4 B5; intro B0 B1 B2 B3 B4 B5; replace HB := sqs HB hb; (try clear hb); refine hK.out _ _ sqz (fun hHeld => ?_); clear hK K; refine sqnm ?_; refine sqp HT_ 16 28 ?_; refine sqp HT_ 17 29 ?_; refine done_ (done_of HT_.out (by kernel_rfl)) ?_
  try go_wp2
  go_meet
  case rel => exact ⟨_, ((a2_0 == t8 && (a2_1 == t9))), (by first | rfl | (simp; done) | (simp [*]; done)), H', ⟨by first | omega | exact Nat.le_refl _⟩, sqk B0, sqk B1, sqk B2, sqk B3, sqk B4, sqk B5, sqh HB⟩
 case rest =>
  clear HC6; obtain ⟨kq, x0, rfl, HA, HJ5, B0, B1, B2, B3, B4, B5, HB⟩ := hcut; cases kq with
  | zero => exact absurd HA.out (by simp [spec_RangeCmp.j0])
  | succ kj5 =>
   have H := HA.out; clear HA; simp only [spec_RangeCmp.j0] at H
   by_cases c51 : x0 = true
   ·subst c51; rw [if_pos rfl] at H; simp only [Option.some.injEq, Prod.mk.injEq] at H; obtain ⟨rfl, rfl, rfl, rfl⟩ := H
    try go_wp2
    replace B0 := sqdr B0; replace B1 := sqdr B1; replace B2 := sqdr B2; replace B3 := sqdr B3; replace B4 := sqdr B4; replace B5 := sqdr B5; replace HB := sqdB HB; refine sqst 4 (fun w' => w'.cell? ⟨gb4, 0, none⟩ = some (.int .i64 t0) ∧ w'.cell? ⟨gb4, 1, none⟩ = some (.int .i64 t1) ∧ w'.cell? ⟨gb5, 0, none⟩ = some (.int .i64 t2) ∧ w'.cell? ⟨gb5, 1, none⟩ = some (.int .i64 t3)) sqz (fun hHeld => ?_); generalize wc.drew = w52 at B0 B1 B2 B3 B4 B5 HB hHeld ⊢; refine take_ (i := 0) (N := some 30) (v := ?_) (a' := ?_) #[true, false, false, false] rfl rfl (by kernel_rfl) (fun _ _ _ h => h) (Or.inl ⟨by rfl, ?_⟩) hHeld ?_ ?_; rotate_left
    ·rintro w' ⟨s0, s1, s2, s3⟩
     go_simp
     with_reducible rfl
    rotate_left
    ·simp only [Act.put, List.setIfInBounds_toArray, List.set_cons_zero, List.set_cons_succ, i64_w, i32_w]
     rfl
    refine take_ (i := 1) (N := some 31) (v := ?_) (a' := ?_) #[true, true, false, false] rfl rfl (by kernel_rfl) (fun _ _ _ h => h) (Or.inl ⟨by rfl, ?_⟩) hHeld ?_ ?_; rotate_left
    ·rintro w' ⟨s0, s1, s2, s3⟩
     go_simp
     with_reducible rfl
    rotate_left
    ·simp only [Act.put, List.setIfInBounds_toArray, List.set_cons_zero, List.set_cons_succ, i64_w, i32_w]
     rfl
    refine one_ (i := 2) (N := none) #[true, true, true, false] rfl rfl (by kernel_rfl) (by decide) (fun K hK => ?_); obtain ⟨_, _, _, _⟩ := sqc2 B2; obtain ⟨_, _, _, _, _, _, _, _⟩ := sqN4 N0_2 N1_2 N3_2 N4_2; obtain ⟨_, _⟩ := sqN1 N5_2; refine sqsk ?_; refine hK.out _ _ sqzf (fun hHeld => ?_); clear hK K; refine one_ (i := 3) (N := none) #[true, true, true, true] rfl rfl (by kernel_rfl) (by decide) (fun K hK => ?_); obtain ⟨_, _, _, _⟩ := sqc2 B3; obtain ⟨_, _, _, _, _, _, _, _⟩ := sqN4 N0_3 N1_3 N2_3 N4_3; obtain ⟨_, _⟩ := sqN1 N5_3; refine sqsk ?_; refine hK.out _ _ sqzf (fun hHeld => ?_); clear hK K; refine done_ (by kernel_rfl) ?_
    try go_wp2
    refine bodyPost_ret (results_cc rfl _ _ gb2 gb3 24 24 #[.int .i64 t0, .int .i64 t1] #[.int .i64 t2, .int .i64 t3] (0, 0) (0, 0) _ _ rfl (sqP B2) Try.underlying24 rfl (by kernel_rfl) rfl (sqP B3) Try.underlying24 rfl (by kernel_rfl)) rfl ?_; exact sqe HB
   replace c51 := Bool.eq_false_iff.mpr c51; subst c51; rw [if_neg (show ¬ (false = true) by decide)] at H; have HC57 := Aside0.mk H; clear H
   go_upto_if 33 with (fail)
   go_cut [] (fun wc => ∃ (kq : Nat) (x1 : Int) (x2 : Int) (x3 : Int) (x4 : Int), Aside0 (spec_RangeCmp.j1 kq a0 a1_0 a1_1 a2_0 a2_1 x1 x2 x3 x4 = some (r1, r2, r3, r4)) ∧ Aside0 (kq ≤ kj5) ∧ Aside0 (wc.heap[gb0]? = some (.cells #[.int .i64 a1_0, .int .i64 a1_1] 24 (0, 0))) ∧ Aside0 (wc.heap[gb1]? = some (.cells #[.int .i64 a2_0, .int .i64 a2_1] 24 (0, 0))) ∧ Aside0 (wc.heap[gb2]? = some (.cells #[.int .i64 0, .int .i64 0] 24 (0, 0))) ∧ Aside0 (wc.heap[gb3]? = some (.cells #[.int .i64 0, .int .i64 0] 24 (0, 0))) ∧ Aside0 (wc.heap[gb4]? = some (.cells #[.int .i64 x1, .int .i64 x2] 24 (0, 0))) ∧ Aside0 (wc.heap[gb5]? = some (.cells #[.int .i64 x3, .int .i64 x4] 24 (0, 0))) ∧ Aside0 (Below w.heap.size w wc))
   case first =>
    have H := HC57.out; clear HC57; replace H := sqi H; rcases H with ⟨c58, H⟩ | ⟨c58, H⟩
    ·have c58b0 : (a0 == 1) = false := beq_eq_false_iff_ne.mpr c58; have c58b1 : (a0 != 1) = true := bne_iff_ne.mpr c58
     (first | rw [c58b0] | (simp only [i64_w, i32_w]; rw [c58b0]) | skip)
     have H' := Aside0.mk H; clear H
     go_wp2
     go_meet
     case rel => exact ⟨_, (t0), (t1), (t2), (t3), H', ⟨by have := HJ5.out; first | omega | exact Nat.le_refl _⟩, sqk B0, sqk B1, sqk B2, sqk B3, sqk B4, sqk B5, sqh HB⟩
    have c58b0 : (a0 == 1) = true := beq_iff_eq.mpr c58; have c58b1 : (a0 != 1) = false := bne_eq_false_iff_eq.mpr c58; clear c58
    (first | rw [c58b0] | (simp only [i64_w, i32_w]; rw [c58b0]) | skip)
    replace H := sqbi H; obtain ⟨⟨t10, t11⟩, A59, H⟩ := H; (try dsimp only at H); have H' := Aside0.mk H; clear H; obtain ⟨_, _, _, _, _, _, _, _⟩ := sqN4 N0_1 N0_2 N0_3 N0_4; obtain ⟨_, _⟩ := sqN1 N0_5; obtain ⟨_, _, _, _⟩ := sqc2 B0; obtain ⟨_, _, _, _, _, _, _, _⟩ := sqN4 N1_2 N1_3 N1_4 N1_5; obtain ⟨_, _, _, _⟩ := sqc2 B1; go_wp2_with (first | ((with_reducible refine gate_callee (f := 131) rfl ?_); refine sqL (some 36) Try.func131 #[.agg #[.int .i64 a1_0, .int .i64 a1_1], .agg #[.int .i64 a2_0, .int .i64 a2_1]] ?_; (with_reducible refine (spec_RangeMeet.calls kj5 a1_0 a1_1 a2_0 a2_1 t10 t11 _ A59.out).mono ?_); rintro e w71 ⟨rfl, hb⟩; refine ⟨_, rfl, ?_⟩; refine sqM6 B0 B1 B2 B3 B4 B5 hb ?_; clear B0 B1 B2 B3 B4 B5; intro B0 B1 B2 B3 B4 B5; replace HB := sqs HB hb; (try clear hb); obtain ⟨_, _, _, _, _, _⟩ := sqN3 N4_2 N4_3 N4_5; obtain ⟨_, _, _, _⟩ := sqc2 B4; obtain ⟨_, _, _, _⟩ := sqN2 N5_2 N5_3; obtain ⟨_, _, _, _⟩ := sqc2 B5)); go_meet
    case rel => exact ⟨_, (t10), (t11), (t10), (t11), H', ⟨by have := HJ5.out; first | omega | exact Nat.le_refl _⟩, ⟨sqT B0⟩, ⟨sqT B1⟩, ⟨sqT B2⟩, ⟨sqT B3⟩, ⟨sqP B4⟩, ⟨sqP B5⟩, sqh HB⟩
   case rest =>
    clear HC57; obtain ⟨kq, x1, x2, x3, x4, HA, HJ56, B0, B1, B2, B3, B4, B5, HB⟩ := hcut; cases kq with
    | zero => exact absurd HA.out (by simp [spec_RangeCmp.j1])
    | succ kj56 =>
     have H := HA.out; clear HA; simp only [spec_RangeCmp.j1] at H; have HC79 := Aside0.mk H; clear H
     go_upto_if 39 with (fail)
     go_cut [] (fun wc => ∃ (kq : Nat) (x5 : Int) (x6 : Int) (x7 : Int) (x8 : Int), Aside0 (spec_RangeCmp.j2 kq a0 a1_0 a1_1 a2_0 a2_1 x5 x6 x7 x8 = some (r1, r2, r3, r4)) ∧ Aside0 (kq ≤ kj56) ∧ Aside0 (wc.heap[gb0]? = some (.cells #[.int .i64 a1_0, .int .i64 a1_1] 24 (0, 0))) ∧ Aside0 (wc.heap[gb1]? = some (.cells #[.int .i64 a2_0, .int .i64 a2_1] 24 (0, 0))) ∧ Aside0 (wc.heap[gb2]? = some (.cells #[.int .i64 0, .int .i64 0] 24 (0, 0))) ∧ Aside0 (wc.heap[gb3]? = some (.cells #[.int .i64 0, .int .i64 0] 24 (0, 0))) ∧ Aside0 (wc.heap[gb4]? = some (.cells #[.int .i64 x5, .int .i64 x6] 24 (0, 0))) ∧ Aside0 (wc.heap[gb5]? = some (.cells #[.int .i64 x7, .int .i64 x8] 24 (0, 0))) ∧ Aside0 (Below w.heap.size w wc))
     case first =>
      have H := HC79.out; clear HC79; replace H := sqi H; rcases H with ⟨c80, H⟩ | ⟨c80, H⟩
      ·have c80b0 : (a0 == 2) = false := beq_eq_false_iff_ne.mpr c80; have c80b1 : (a0 != 2) = true := bne_iff_ne.mpr c80
       (first | rw [c80b0] | (simp only [i64_w, i32_w]; rw [c80b0]) | skip)
       have H' := Aside0.mk H; clear H
       go_wp2
       go_meet
       case rel => exact ⟨_, (x1), (x2), (x3), (x4), H', ⟨by have := HJ5.out; have := HJ56.out; first | omega | exact Nat.le_refl _⟩, sqk B0, sqk B1, sqk B2, sqk B3, sqk B4, sqk B5, sqh HB⟩
      have c80b0 : (a0 == 2) = true := beq_iff_eq.mpr c80; have c80b1 : (a0 != 2) = false := bne_eq_false_iff_eq.mpr c80; clear c80
      (first | rw [c80b0] | (simp only [i64_w, i32_w]; rw [c80b0]) | skip)
      replace H := sqbi H; obtain ⟨⟨t12, t13⟩, A81, H⟩ := H; (try dsimp only at H); replace H := sqbi H; obtain ⟨⟨t14, t15⟩, A82, H⟩ := H; (try dsimp only at H); have H' := Aside0.mk H; clear H; obtain ⟨_, _, _, _, _, _, _, _⟩ := sqN4 N0_1 N0_2 N0_3 N0_4; obtain ⟨_, _⟩ := sqN1 N0_5; obtain ⟨_, _, _, _⟩ := sqc2 B0; obtain ⟨_, _, _, _, _, _, _, _⟩ := sqN4 N1_2 N1_3 N1_4 N1_5; obtain ⟨_, _, _, _⟩ := sqc2 B1; go_wp2_with (first | ((with_reducible refine gate_callee (f := 132) rfl ?_); refine sqL (some 42) Try.func132 #[.agg #[.int .i64 a1_0, .int .i64 a1_1], .agg #[.int .i64 a2_0, .int .i64 a2_1]] ?_; (with_reducible refine (spec_l8Ne.calls a1_0 a1_1 a2_0 a2_1 t12 t13 _ A81.out).mono ?_); rintro e w94 ⟨rfl, hb⟩; refine ⟨_, rfl, ?_⟩; refine sqM6 B0 B1 B2 B3 B4 B5 hb ?_; clear B0 B1 B2 B3 B4 B5; intro B0 B1 B2 B3 B4 B5; replace HB := sqs HB hb; (try clear hb); obtain ⟨_, _, _, _, _, _⟩ := sqN3 N4_2 N4_3 N4_5; obtain ⟨_, _, _, _⟩ := sqc2 B4; obtain ⟨_, _, _, _⟩ := sqc2 B1; obtain ⟨_, _, _, _⟩ := sqc2 B0) | ((with_reducible refine gate_callee (f := 132) rfl ?_); refine sqL (some 45) Try.func132 #[.agg #[.int .i64 a2_0, .int .i64 a2_1], .agg #[.int .i64 a1_0, .int .i64 a1_1]] ?_; (with_reducible refine (spec_l8Ne.calls a2_0 a2_1 a1_0 a1_1 t14 t15 _ A82.out).mono ?_); rintro e w101 ⟨rfl, hb⟩; refine ⟨_, rfl, ?_⟩; replace B0 := sqbb B0 hb; replace B1 := sqbb B1 hb; replace B2 := sqbb B2 hb; replace B3 := sqbb B3 hb; replace B4 := Aside0.mk (blk_below (g := gb4) (o := .cells #[.int .i64 t12, .int .i64 t13] 24 (0, 0)) (sqP B4) hb); replace B5 := sqbb B5 hb; replace HB := sqs HB hb; (try clear hb); obtain ⟨_, _, _, _⟩ := sqN2 N5_2 N5_3; obtain ⟨_, _, _, _⟩ := sqc2 B5)); go_meet
      case rel => exact ⟨_, (t12), (t13), (t14), (t15), H', ⟨by have := HJ5.out; have := HJ56.out; first | omega | exact Nat.le_refl _⟩, ⟨sqT B0⟩, ⟨sqT B1⟩, ⟨sqT B2⟩, ⟨sqT B3⟩, ⟨sqT B4⟩, ⟨sqP B5⟩, sqh HB⟩
     case rest =>
      clear HC79; obtain ⟨kq, x5, x6, x7, x8, HA, HJ78, B0, B1, B2, B3, B4, B5, HB⟩ := hcut; cases kq with
      | zero => exact absurd HA.out (by simp [spec_RangeCmp.j2])
      | succ kj78 =>
       have H := HA.out; clear HA; simp only [spec_RangeCmp.j2] at H; have HC105 := Aside0.mk H; clear H
       go_upto_if 47 with (fail)
       go_cut [] (fun wc => ∃ (kq : Nat) (x9 : Int) (x10 : Int) (x11 : Int) (x12 : Int), Aside0 (spec_RangeCmp.j3 kq a0 a1_0 a1_1 a2_0 a2_1 x9 x10 x11 x12 = some (r1, r2, r3, r4)) ∧ Aside0 (kq ≤ kj78) ∧ Aside0 (wc.heap[gb0]? = some (.cells #[.int .i64 a1_0, .int .i64 a1_1] 24 (0, 0))) ∧ Aside0 (wc.heap[gb1]? = some (.cells #[.int .i64 a2_0, .int .i64 a2_1] 24 (0, 0))) ∧ Aside0 (wc.heap[gb2]? = some (.cells #[.int .i64 0, .int .i64 0] 24 (0, 0))) ∧ Aside0 (wc.heap[gb3]? = some (.cells #[.int .i64 0, .int .i64 0] 24 (0, 0))) ∧ Aside0 (wc.heap[gb4]? = some (.cells #[.int .i64 x9, .int .i64 x10] 24 (0, 0))) ∧ Aside0 (wc.heap[gb5]? = some (.cells #[.int .i64 x11, .int .i64 x12] 24 (0, 0))) ∧ Aside0 (Below w.heap.size w wc))
       case first =>
        have H := HC105.out; clear HC105; replace H := sqi H; rcases H with ⟨c106, H⟩ | ⟨c106, H⟩
        ·have c106b0 : (a0 == 3) = false := beq_eq_false_iff_ne.mpr c106; have c106b1 : (a0 != 3) = true := bne_iff_ne.mpr c106
         (first | rw [c106b0] | (simp only [i64_w, i32_w]; rw [c106b0]) | skip)
         have H' := Aside0.mk H; clear H
         go_wp2
         go_meet
         case rel => exact ⟨_, (x5), (x6), (x7), (x8), H', ⟨by have := HJ5.out; have := HJ56.out; have := HJ78.out; first | omega | exact Nat.le_refl _⟩, sqk B0, sqk B1, sqk B2, sqk B3, sqk B4, sqk B5, sqh HB⟩
        have c106b0 : (a0 == 3) = true := beq_iff_eq.mpr c106; have c106b1 : (a0 != 3) = false := bne_eq_false_iff_eq.mpr c106; clear c106
        (first | rw [c106b0] | (simp only [i64_w, i32_w]; rw [c106b0]) | skip)
        replace H := sqbi H; obtain ⟨t16, A107, H⟩ := H; (try dsimp only at H); replace H := sqbi H; obtain ⟨⟨t17, t18⟩, A108, H⟩ := H; (try dsimp only at H); replace H := sqbi H; obtain ⟨t19, A109, H⟩ := H; (try dsimp only at H); replace H := sqbi H; obtain ⟨⟨t20, t21⟩, A110, H⟩ := H; (try dsimp only at H); have H' := Aside0.mk H; clear H
        try go_wp2
        replace B0 := sqdr B0; replace B1 := sqdr B1; replace B2 := sqdr B2; replace B3 := sqdr B3; replace B4 := sqdr B4; replace B5 := sqdr B5; replace HB := sqdB HB; refine sqst 10 (fun w' => w'.cell? ⟨gb0, 0, none⟩ = some (.int .i64 a1_0) ∧ w'.cell? ⟨gb0, 1, none⟩ = some (.int .i64 a1_1) ∧ w'.cell? ⟨gb1, 0, none⟩ = some (.int .i64 a2_0) ∧ w'.cell? ⟨gb1, 1, none⟩ = some (.int .i64 a2_1)) sqz (fun hHeld => ?_); refine with_tabW spec_RangeCmp.tab12 spec_RangeCmp.bits12 (fun HT_ HW_ => ?_); generalize wc.drew = w111 at B0 B1 B2 B3 B4 B5 HB hHeld ⊢; refine sqp HT_ 0 48 ?_; refine sqp HT_ 2 50 ?_; refine sqp HT_ 4 52 ?_; refine sqw HT_ HW_ 1 49 hHeld ?_; refine sqw HT_ HW_ 3 51 hHeld ?_; refine sqw HT_ HW_ 5 53 hHeld ?_; refine sqp HT_ 6 54 ?_; refine sqo HT_ 7 55 (fun K hK => ?_); refine sqG Try.func134 #[.int .i64 a1_1, .int .i64 (wrap64 (a2_1 - 1))] ?_; (with_reducible refine (spec_l8Min.calls a1_1 (wrap64 (a2_1 - 1)) t16 _ A107.out).mono ?_); rintro e w' ⟨rfl, ⟨nd, rfl⟩⟩; refine ⟨_, rfl, ?_⟩; refine hK.out _ _ sqz (fun hHeld => ?_); clear hK K; refine sqnm ?_; refine sqo HT_ 8 56 (fun K hK => ?_); refine sqG Try.func133 #[.int .i64 a1_0, .int .i64 t16] ?_; (with_reducible refine (spec_l8Cut.calls a1_0 t16 t17 t18 _ A108.out).mono ?_); rintro e w112 ⟨rfl, hb⟩; refine ⟨_, rfl, ?_⟩; refine sqM6 B0 B1 B2 B3 B4 B5 hb ?_; clear B0 B1 B2 B3 B4 B5; intro B0 B1 B2 B3 B4 B5; replace HB := sqs HB hb; (try clear hb); refine hK.out _ _ sqz (fun hHeld => ?_); clear hK K; refine sqnm ?_; refine sqo0 HT_ 9 (fun K hK => ?_); obtain ⟨_, _, _, _⟩ := sqc2 B4; obtain ⟨_, _, _, _, _, _, _, _⟩ := sqN4 N0_4 N1_4 N2_4 N3_4; obtain ⟨_, _⟩ := sqN1 N5_4; refine sqsk ?_; refine hK.out _ _ sqzf (fun hHeld => ?_); clear hK K; refine done_ (done_of HT_.out (by kernel_rfl)) ?_
        try go_wp2
        obtain ⟨w115, hw_⟩ : ∃ w_, w_ = ((w112.setCell ⟨gb4, 0, none⟩ (.int .i64 t17)).setCell ⟨gb4, 1, none⟩ (.int .i64 t18)) := ⟨_, rfl⟩; replace B0 := sqTe hw_ B0; replace B1 := sqTe hw_ B1; replace B2 := sqTe hw_ B2; replace B3 := sqTe hw_ B3
        replace B4 : Aside0 (w115.heap[gb4]? = some (.cells #[.int .i64 t17, .int .i64 t18] 24 (0, 0))) := by rw [hw_]; exact ⟨sqP B4⟩
        replace B5 := sqTe hw_ B5
        replace HB : Aside0 (Below w.heap.size w w115) := by rw [hw_]; exact sqh HB
        rw [← hw_]; clear hw_; replace B0 := sqdr B0; replace B1 := sqdr B1; replace B2 := sqdr B2; replace B3 := sqdr B3; replace B4 := sqdr B4; replace B5 := sqdr B5; replace HB := sqdB HB; refine sqst 10 (fun w' => w'.cell? ⟨gb1, 0, none⟩ = some (.int .i64 a2_0) ∧ w'.cell? ⟨gb1, 1, none⟩ = some (.int .i64 a2_1) ∧ w'.cell? ⟨gb0, 0, none⟩ = some (.int .i64 a1_0) ∧ w'.cell? ⟨gb0, 1, none⟩ = some (.int .i64 a1_1)) sqz (fun hHeld => ?_); refine with_tabW spec_RangeCmp.tab13 spec_RangeCmp.bits13 (fun HT_ HW_ => ?_); generalize w115.drew = w116 at B0 B1 B2 B3 B4 B5 HB hHeld ⊢; refine sqp HT_ 0 57 ?_; refine sqp HT_ 2 59 ?_; refine sqp HT_ 6 63 ?_; refine sqw HT_ HW_ 1 58 hHeld ?_; refine sqw HT_ HW_ 3 60 hHeld ?_; refine sqp HT_ 4 61 ?_; refine sqw HT_ HW_ 7 64 hHeld ?_; refine sqo HT_ 5 62 (fun K hK => ?_); refine sqG Try.func122 #[.int .i64 a2_0, .int .i64 (wrap64 (a1_0 + 1))] ?_; (with_reducible refine (spec_l8Max.calls a2_0 (wrap64 (a1_0 + 1)) t19 _ A109.out).mono ?_); rintro e w' ⟨rfl, ⟨nd, rfl⟩⟩; refine ⟨_, rfl, ?_⟩; refine hK.out _ _ sqz (fun hHeld => ?_); clear hK K; refine sqnm ?_; refine sqo HT_ 8 65 (fun K hK => ?_); refine sqG Try.func133 #[.int .i64 t19, .int .i64 a2_1] ?_; (with_reducible refine (spec_l8Cut.calls t19 a2_1 t20 t21 _ A110.out).mono ?_); rintro e w117 ⟨rfl, hb⟩; refine ⟨_, rfl, ?_⟩; refine sqM6 B0 B1 B2 B3 B4 B5 hb ?_; clear B0 B1 B2 B3 B4 B5; intro B0 B1 B2 B3 B4 B5; replace HB := sqs HB hb; (try clear hb); refine hK.out _ _ sqz (fun hHeld => ?_); clear hK K; refine sqnm ?_; refine sqo0 HT_ 9 (fun K hK => ?_); obtain ⟨_, _, _, _⟩ := sqc2 B5; obtain ⟨_, _, _, _, _, _, _, _⟩ := sqN4 N0_5 N1_5 N2_5 N3_5; obtain ⟨_, _⟩ := sqN1 N4_5; refine sqsk ?_; refine hK.out _ _ sqzf (fun hHeld => ?_); clear hK K; refine done_ (done_of HT_.out (by kernel_rfl)) ?_
        try go_wp2
        go_meet
        case rel => exact ⟨_, (t17), (t18), (t20), (t21), H', ⟨by have := HJ5.out; have := HJ56.out; have := HJ78.out; first | omega | exact Nat.le_refl _⟩, ⟨sqT B0⟩, ⟨sqT B1⟩, ⟨sqT B2⟩, ⟨sqT B3⟩, ⟨sqT B4⟩, ⟨sqP B5⟩, sqh HB⟩
       case rest =>
        clear HC105; obtain ⟨kq, x9, x10, x11, x12, HA, HJ104, B0, B1, B2, B3, B4, B5, HB⟩ := hcut; cases kq with
        | zero => exact absurd HA.out (by simp [spec_RangeCmp.j3])
        | succ kj104 =>
         have H := HA.out; clear HA; simp only [spec_RangeCmp.j3] at H; have HC120 := Aside0.mk H; clear H
         go_upto_if 67 with (fail)
         go_cut [] (fun wc => ∃ (kq : Nat) (x13 : Int) (x14 : Int) (x15 : Int) (x16 : Int), Aside0 (spec_RangeCmp.j4 kq a0 a1_0 a1_1 a2_0 a2_1 x13 x14 x15 x16 = some (r1, r2, r3, r4)) ∧ Aside0 (kq ≤ kj104) ∧ Aside0 (wc.heap[gb0]? = some (.cells #[.int .i64 a1_0, .int .i64 a1_1] 24 (0, 0))) ∧ Aside0 (wc.heap[gb1]? = some (.cells #[.int .i64 a2_0, .int .i64 a2_1] 24 (0, 0))) ∧ Aside0 (wc.heap[gb2]? = some (.cells #[.int .i64 0, .int .i64 0] 24 (0, 0))) ∧ Aside0 (wc.heap[gb3]? = some (.cells #[.int .i64 0, .int .i64 0] 24 (0, 0))) ∧ Aside0 (wc.heap[gb4]? = some (.cells #[.int .i64 x13, .int .i64 x14] 24 (0, 0))) ∧ Aside0 (wc.heap[gb5]? = some (.cells #[.int .i64 x15, .int .i64 x16] 24 (0, 0))) ∧ Aside0 (Below w.heap.size w wc))
         case first =>
          have H := HC120.out; clear HC120; replace H := sqi H; rcases H with ⟨c121, H⟩ | ⟨c121, H⟩
          ·have c121b0 : (a0 == 4) = false := beq_eq_false_iff_ne.mpr c121; have c121b1 : (a0 != 4) = true := bne_iff_ne.mpr c121
           (first | rw [c121b0] | (simp only [i64_w, i32_w]; rw [c121b0]) | skip)
           have H' := Aside0.mk H; clear H
           go_wp2
           go_meet
           case rel => exact ⟨_, (x9), (x10), (x11), (x12), H', ⟨by have := HJ5.out; have := HJ56.out; have := HJ78.out; have := HJ104.out; first | omega | exact Nat.le_refl _⟩, sqk B0, sqk B1, sqk B2, sqk B3, sqk B4, sqk B5, sqh HB⟩
          have c121b0 : (a0 == 4) = true := beq_iff_eq.mpr c121; have c121b1 : (a0 != 4) = false := bne_eq_false_iff_eq.mpr c121; clear c121
          (first | rw [c121b0] | (simp only [i64_w, i32_w]; rw [c121b0]) | skip)
          replace H := sqbi H; obtain ⟨t22, A122, H⟩ := H; (try dsimp only at H); replace H := sqbi H; obtain ⟨⟨t23, t24⟩, A123, H⟩ := H; (try dsimp only at H); replace H := sqbi H; obtain ⟨t25, A124, H⟩ := H; (try dsimp only at H); replace H := sqbi H; obtain ⟨⟨t26, t27⟩, A125, H⟩ := H; (try dsimp only at H); have H' := Aside0.mk H; clear H
          try go_wp2
          replace B0 := sqdr B0; replace B1 := sqdr B1; replace B2 := sqdr B2; replace B3 := sqdr B3; replace B4 := sqdr B4; replace B5 := sqdr B5; replace HB := sqdB HB; refine sqst 9 (fun w' => w'.cell? ⟨gb0, 0, none⟩ = some (.int .i64 a1_0) ∧ w'.cell? ⟨gb0, 1, none⟩ = some (.int .i64 a1_1) ∧ w'.cell? ⟨gb1, 0, none⟩ = some (.int .i64 a2_0) ∧ w'.cell? ⟨gb1, 1, none⟩ = some (.int .i64 a2_1)) sqz (fun hHeld => ?_); refine with_tabW spec_RangeCmp.tab15 spec_RangeCmp.bits15 (fun HT_ HW_ => ?_); generalize wc.drew = w126 at B0 B1 B2 B3 B4 B5 HB hHeld ⊢; refine sqp HT_ 0 68 ?_; refine sqp HT_ 2 70 ?_; refine sqp HT_ 4 72 ?_; refine sqw HT_ HW_ 1 69 hHeld ?_; refine sqw HT_ HW_ 3 71 hHeld ?_; refine sqw HT_ HW_ 5 73 hHeld ?_; refine sqo HT_ 6 74 (fun K hK => ?_); refine sqG Try.func134 #[.int .i64 a1_1, .int .i64 a2_1] ?_; (with_reducible refine (spec_l8Min.calls a1_1 a2_1 t22 _ A122.out).mono ?_); rintro e w' ⟨rfl, ⟨nd, rfl⟩⟩; refine ⟨_, rfl, ?_⟩; refine hK.out _ _ sqz (fun hHeld => ?_); clear hK K; refine sqnm ?_; refine sqo HT_ 7 75 (fun K hK => ?_); refine sqG Try.func133 #[.int .i64 a1_0, .int .i64 t22] ?_; (with_reducible refine (spec_l8Cut.calls a1_0 t22 t23 t24 _ A123.out).mono ?_); rintro e w127 ⟨rfl, hb⟩; refine ⟨_, rfl, ?_⟩; refine sqM6 B0 B1 B2 B3 B4 B5 hb ?_; clear B0 B1 B2 B3 B4 B5; intro B0 B1 B2 B3 B4 B5; replace HB := sqs HB hb; (try clear hb); refine hK.out _ _ sqz (fun hHeld => ?_); clear hK K; refine sqnm ?_; refine sqo0 HT_ 8 (fun K hK => ?_); obtain ⟨_, _, _, _⟩ := sqc2 B4; obtain ⟨_, _, _, _, _, _, _, _⟩ := sqN4 N0_4 N1_4 N2_4 N3_4; obtain ⟨_, _⟩ := sqN1 N5_4; refine sqsk ?_; refine hK.out _ _ sqzf (fun hHeld => ?_); clear hK K; refine done_ (done_of HT_.out (by kernel_rfl)) ?_
          try go_wp2
          obtain ⟨w130, hw_⟩ : ∃ w_, w_ = ((w127.setCell ⟨gb4, 0, none⟩ (.int .i64 t23)).setCell ⟨gb4, 1, none⟩ (.int .i64 t24)) := ⟨_, rfl⟩; replace B0 := sqTe hw_ B0; replace B1 := sqTe hw_ B1; replace B2 := sqTe hw_ B2; replace B3 := sqTe hw_ B3
          replace B4 : Aside0 (w130.heap[gb4]? = some (.cells #[.int .i64 t23, .int .i64 t24] 24 (0, 0))) := by rw [hw_]; exact ⟨sqP B4⟩
          replace B5 := sqTe hw_ B5
          replace HB : Aside0 (Below w.heap.size w w130) := by rw [hw_]; exact sqh HB
          rw [← hw_]; clear hw_; replace B0 := sqdr B0; replace B1 := sqdr B1; replace B2 := sqdr B2; replace B3 := sqdr B3; replace B4 := sqdr B4; replace B5 := sqdr B5; replace HB := sqdB HB; refine sqst 9 (fun w' => w'.cell? ⟨gb1, 0, none⟩ = some (.int .i64 a2_0) ∧ w'.cell? ⟨gb1, 1, none⟩ = some (.int .i64 a2_1) ∧ w'.cell? ⟨gb0, 0, none⟩ = some (.int .i64 a1_0) ∧ w'.cell? ⟨gb0, 1, none⟩ = some (.int .i64 a1_1)) sqz (fun hHeld => ?_); refine with_tabW spec_RangeCmp.tab16 spec_RangeCmp.bits16 (fun HT_ HW_ => ?_); generalize w130.drew = w131 at B0 B1 B2 B3 B4 B5 HB hHeld ⊢; refine sqp HT_ 0 76 ?_; refine sqp HT_ 2 78 ?_; refine sqp HT_ 5 81 ?_; refine sqw HT_ HW_ 1 77 hHeld ?_; refine sqw HT_ HW_ 3 79 hHeld ?_; refine sqw HT_ HW_ 6 82 hHeld ?_; refine sqo HT_ 4 80 (fun K hK => ?_); refine sqG Try.func122 #[.int .i64 a2_0, .int .i64 a1_0] ?_; (with_reducible refine (spec_l8Max.calls a2_0 a1_0 t25 _ A124.out).mono ?_); rintro e w' ⟨rfl, ⟨nd, rfl⟩⟩; refine ⟨_, rfl, ?_⟩; refine hK.out _ _ sqz (fun hHeld => ?_); clear hK K; refine sqnm ?_; refine sqo HT_ 7 83 (fun K hK => ?_); refine sqG Try.func133 #[.int .i64 t25, .int .i64 a2_1] ?_; (with_reducible refine (spec_l8Cut.calls t25 a2_1 t26 t27 _ A125.out).mono ?_); rintro e w132 ⟨rfl, hb⟩; refine ⟨_, rfl, ?_⟩; refine sqM6 B0 B1 B2 B3 B4 B5 hb ?_; clear B0 B1 B2 B3 B4 B5; intro B0 B1 B2 B3 B4 B5; replace HB := sqs HB hb; (try clear hb); refine hK.out _ _ sqz (fun hHeld => ?_); clear hK K; refine sqnm ?_; refine sqo0 HT_ 8 (fun K hK => ?_); obtain ⟨_, _, _, _⟩ := sqc2 B5; obtain ⟨_, _, _, _, _, _, _, _⟩ := sqN4 N0_5 N1_5 N2_5 N3_5; obtain ⟨_, _⟩ := sqN1 N4_5; refine sqsk ?_; refine hK.out _ _ sqzf (fun hHeld => ?_); clear hK K; refine done_ (done_of HT_.out (by kernel_rfl)) ?_
          try go_wp2
          go_meet
          case rel => exact ⟨_, (t23), (t24), (t26), (t27), H', ⟨by have := HJ5.out; have := HJ56.out; have := HJ78.out; have := HJ104.out; first | omega | exact Nat.le_refl _⟩, ⟨sqT B0⟩, ⟨sqT B1⟩, ⟨sqT B2⟩, ⟨sqT B3⟩, ⟨sqT B4⟩, ⟨sqP B5⟩, sqh HB⟩
         case rest =>
          clear HC120; obtain ⟨kq, x13, x14, x15, x16, HA, HJ119, B0, B1, B2, B3, B4, B5, HB⟩ := hcut; cases kq with
          | zero => exact absurd HA.out (by simp [spec_RangeCmp.j4])
          | succ kj119 =>
           have H := HA.out; clear HA; simp only [spec_RangeCmp.j4] at H; have HC135 := Aside0.mk H; clear H; go_upto_region 17 with (fail); go_cut [89] (fun v89 wc => ∃ (kq : Nat) (x17 : Bool), v89 = .bool x17 ∧ Aside0 (spec_RangeCmp.j5 kq a0 x17 a1_0 a1_1 a2_0 a2_1 x13 x14 x15 x16 = some (r1, r2, r3, r4)) ∧ Aside0 (kq ≤ kj119) ∧ Aside0 (wc.heap[gb0]? = some (.cells #[.int .i64 a1_0, .int .i64 a1_1] 24 (0, 0))) ∧ Aside0 (wc.heap[gb1]? = some (.cells #[.int .i64 a2_0, .int .i64 a2_1] 24 (0, 0))) ∧ Aside0 (wc.heap[gb2]? = some (.cells #[.int .i64 0, .int .i64 0] 24 (0, 0))) ∧ Aside0 (wc.heap[gb3]? = some (.cells #[.int .i64 0, .int .i64 0] 24 (0, 0))) ∧ Aside0 (wc.heap[gb4]? = some (.cells #[.int .i64 x13, .int .i64 x14] 24 (0, 0))) ∧ Aside0 (wc.heap[gb5]? = some (.cells #[.int .i64 x15, .int .i64 x16] 24 (0, 0))) ∧ Aside0 (Below w.heap.size w wc))
           case first =>
            have H := HC135.out; clear HC135; replace H := sqi H; rcases H with ⟨c136, H⟩ | ⟨c136, H⟩
            ·have c136b0 : (a0 == 5) = false := beq_eq_false_iff_ne.mpr c136; have c136b1 : (a0 != 5) = true := bne_iff_ne.mpr c136
             (first | rw [c136b0] | (simp only [i64_w, i32_w]; rw [c136b0]) | skip)
             have H' := Aside0.mk H; clear H
             go_wp2
             go_meet
             case rel => exact ⟨_, ((a0 == 6)), (by first | rfl | (simp; done) | (simp [*]; done)), H', ⟨by have := HJ5.out; have := HJ56.out; have := HJ78.out; have := HJ104.out; have := HJ119.out; first | omega | exact Nat.le_refl _⟩, sqk B0, sqk B1, sqk B2, sqk B3, sqk B4, sqk B5, sqh HB⟩
            have c136b0 : (a0 == 5) = true := beq_iff_eq.mpr c136; have c136b1 : (a0 != 5) = false := bne_eq_false_iff_eq.mpr c136; clear c136
            (first | rw [c136b0] | (simp only [i64_w, i32_w]; rw [c136b0]) | skip)
            have H' := Aside0.mk H; clear H
            go_wp2
            go_meet
            case rel => exact ⟨_, (true), (by first | rfl | (simp; done) | (simp [*]; done)), H', ⟨by have := HJ5.out; have := HJ56.out; have := HJ78.out; have := HJ104.out; have := HJ119.out; first | omega | exact Nat.le_refl _⟩, sqk B0, sqk B1, sqk B2, sqk B3, sqk B4, sqk B5, sqh HB⟩
           case rest =>
            clear HC135; obtain ⟨kq, x17, rfl, HA, HJ134, B0, B1, B2, B3, B4, B5, HB⟩ := hcut; cases kq with
            | zero => exact absurd HA.out (by simp [spec_RangeCmp.j5])
            | succ kj134 =>
             have H := HA.out; clear HA; simp only [spec_RangeCmp.j5] at H; have HC137 := Aside0.mk H; clear H
             go_upto_if 89 with (fail)
             go_cut [] (fun wc => ∃ (kq : Nat) (x18 : Int) (x19 : Int) (x20 : Int) (x21 : Int), Aside0 (spec_RangeCmp.j6 kq x18 x19 x20 x21 = some (r1, r2, r3, r4)) ∧ Aside0 (kq ≤ kj134) ∧ Aside0 (wc.heap[gb0]? = some (.cells #[.int .i64 a1_0, .int .i64 a1_1] 24 (0, 0))) ∧ Aside0 (wc.heap[gb1]? = some (.cells #[.int .i64 a2_0, .int .i64 a2_1] 24 (0, 0))) ∧ Aside0 (wc.heap[gb2]? = some (.cells #[.int .i64 0, .int .i64 0] 24 (0, 0))) ∧ Aside0 (wc.heap[gb3]? = some (.cells #[.int .i64 0, .int .i64 0] 24 (0, 0))) ∧ Aside0 (wc.heap[gb4]? = some (.cells #[.int .i64 x18, .int .i64 x19] 24 (0, 0))) ∧ Aside0 (wc.heap[gb5]? = some (.cells #[.int .i64 x20, .int .i64 x21] 24 (0, 0))) ∧ Aside0 (Below w.heap.size w wc))
             case first =>
              have H := HC137.out; clear HC137; rcases sqI (x17 = true) with c138 | c138
              ·replace c138 := Bool.eq_false_iff.mpr c138; subst c138; rw [if_neg (show ¬ (false = true) by decide)] at H; have H' := Aside0.mk H; clear H
               go_wp2
               go_meet
               case rel => exact ⟨_, (x13), (x14), (x15), (x16), H', ⟨by have := HJ5.out; have := HJ56.out; have := HJ78.out; have := HJ104.out; have := HJ119.out; have := HJ134.out; first | omega | exact Nat.le_refl _⟩, sqk B0, sqk B1, sqk B2, sqk B3, sqk B4, sqk B5, sqh HB⟩
              subst c138; rw [if_pos rfl] at H; replace H := sqbi H; obtain ⟨t28, A139, H⟩ := H; (try dsimp only at H); replace H := sqbi H; obtain ⟨⟨t29, t30, t31, t32⟩, A140, H⟩ := H; (try dsimp only at H); have H' := Aside0.mk H; clear H
              try go_wp2
              replace B0 := sqdr B0; replace B1 := sqdr B1; replace B2 := sqdr B2; replace B3 := sqdr B3; replace B4 := sqdr B4; replace B5 := sqdr B5; replace HB := sqdB HB; refine sqst 10 (fun w' => w'.cell? ⟨gb1, 0, none⟩ = some (.int .i64 a2_0) ∧ w'.cell? ⟨gb1, 1, none⟩ = some (.int .i64 a2_1) ∧ w'.cell? ⟨gb0, 0, none⟩ = some (.int .i64 a1_0) ∧ w'.cell? ⟨gb0, 1, none⟩ = some (.int .i64 a1_1)) sqz (fun hHeld => ?_); refine with_tabW spec_RangeCmp.tab18 spec_RangeCmp.bits18 (fun HT_ HW_ => ?_); generalize wc.drew = w141 at B0 B1 B2 B3 B4 B5 HB hHeld ⊢; refine sqp HT_ 0 91 ?_; refine sqw HT_ HW_ 2 93 hHeld ?_; refine sqw HT_ HW_ 3 94 hHeld ?_; refine sqo HT_ 1 92 (fun K hK => ?_); refine sqG Try.func135 #[.int .i64 a0] ?_; (with_reducible refine (spec_CmpTurn.calls a0 t28 _ A139.out).mono ?_); rintro e w' ⟨rfl, ⟨nd, rfl⟩⟩; refine ⟨_, rfl, ?_⟩; refine hK.out _ _ sqz (fun hHeld => ?_); clear hK K; refine sqnm ?_; refine sqo HT_ 4 95 (fun K hK => ?_); refine sqG Try.func44 #[.int .i64 t28, .agg #[.int .i64 a2_0, .int .i64 a2_1], .agg #[.int .i64 a1_0, .int .i64 a1_1]] ?_; (with_reducible refine (ih kj134 (by have := HJ5.out; have := HJ56.out; have := HJ78.out; have := HJ104.out; have := HJ119.out; have := HJ134.out; omega) t28 a2_0 a2_1 a1_0 a1_1 t29 t30 t31 t32 _ A140.out).mono ?_); rintro e w142 ⟨rfl, hb⟩; refine ⟨_, rfl, ?_⟩; refine sqM6 B0 B1 B2 B3 B4 B5 hb ?_; clear B0 B1 B2 B3 B4 B5; intro B0 B1 B2 B3 B4 B5; replace HB := sqs HB hb; (try clear hb); refine hK.out _ _ sqz (fun hHeld => ?_); clear hK K; refine sqnm ?_; refine sqp HT_ 5 90 ?_; refine sqp HT_ 6 96 ?_; refine sqp HT_ 7 97 ?_; refine sqo0 HT_ 8 (fun K hK => ?_); obtain ⟨_, _, _, _⟩ := sqc2 B5; obtain ⟨_, _, _, _, _, _, _, _⟩ := sqN4 N0_5 N1_5 N2_5 N3_5; obtain ⟨_, _⟩ := sqN1 N4_5; refine sqsk ?_; refine hK.out _ _ sqzf (fun hHeld => ?_); clear hK K; refine sqo0 HT_ 9 (fun K hK => ?_); obtain ⟨_, _, _, _⟩ := sqc2 B4; obtain ⟨_, _, _, _, _, _, _, _⟩ := sqN4 N0_4 N1_4 N2_4 N3_4; obtain ⟨_, _⟩ := sqN1 N5_4; refine sqsk ?_; refine hK.out _ _ sqzf (fun hHeld => ?_); clear hK K; refine done_ (done_of HT_.out (by kernel_rfl)) ?_
              try go_wp2
              go_meet
              case rel => exact ⟨_, (t31), (t32), (t29), (t30), H', ⟨by have := HJ5.out; have := HJ56.out; have := HJ78.out; have := HJ104.out; have := HJ119.out; have := HJ134.out; first | omega | exact Nat.le_refl _⟩, ⟨sqT B0⟩, ⟨sqT B1⟩, ⟨sqT B2⟩, ⟨sqT B3⟩, ⟨sqP B4⟩, ⟨sqP B5⟩, sqh HB⟩
             case rest =>
              clear HC137; obtain ⟨kq, x18, x19, x20, x21, HA, HJ136, B0, B1, B2, B3, B4, B5, HB⟩ := hcut; cases kq with
              | zero => exact absurd HA.out (by simp [spec_RangeCmp.j6])
              | succ kj136 =>
               have H := HA.out; clear HA; simp only [spec_RangeCmp.j6] at H; have HC147 := Aside0.mk H; clear H; go_upto_region 19 with (fail); go_cut [105] (fun v105 wc => ∃ (kq : Nat) (x22 : Bool), v105 = .bool x22 ∧ Aside0 (spec_RangeCmp.j7 kq x22 x18 x19 x20 x21 = some (r1, r2, r3, r4)) ∧ Aside0 (kq ≤ kj136) ∧ Aside0 (wc.heap[gb0]? = some (.cells #[.int .i64 a1_0, .int .i64 a1_1] 24 (0, 0))) ∧ Aside0 (wc.heap[gb1]? = some (.cells #[.int .i64 a2_0, .int .i64 a2_1] 24 (0, 0))) ∧ Aside0 (wc.heap[gb2]? = some (.cells #[.int .i64 0, .int .i64 0] 24 (0, 0))) ∧ Aside0 (wc.heap[gb3]? = some (.cells #[.int .i64 0, .int .i64 0] 24 (0, 0))) ∧ Aside0 (wc.heap[gb4]? = some (.cells #[.int .i64 x18, .int .i64 x19] 24 (0, 0))) ∧ Aside0 (wc.heap[gb5]? = some (.cells #[.int .i64 x20, .int .i64 x21] 24 (0, 0))) ∧ Aside0 (Below w.heap.size w wc))
               case first =>
                have H := HC147.out; clear HC147; replace H := sqbi H; obtain ⟨⟨t33, t34⟩, A148, H⟩ := H; (try dsimp only at H); replace H := sqj H; rcases H with ⟨c149, H⟩ | ⟨c149, H⟩
                ·have c149b0 : (x18 == t33 && (x19 == t34)) = true := c149
                 (try (have c149b1 : decide (x18 = t33 && (x19 == t34)) = true := by simpa using c149))
                 (try (have c149b2 : (x18 == t33 && (x19 == t34)) = true := by simpa using c149))
                 clear c149
                 (first | rw [c149b0] | (simp only [i64_w, i32_w]; rw [c149b0]) | skip)
                 have H' := Aside0.mk H; clear H
                 try go_wp2
                 replace B0 := sqdr B0; replace B1 := sqdr B1; replace B2 := sqdr B2; replace B3 := sqdr B3; replace B4 := sqdr B4; replace B5 := sqdr B5; replace HB := sqdB HB; refine sqst 8 (fun w' => w'.cell? ⟨gb4, 0, none⟩ = some (.int .i64 x18) ∧ w'.cell? ⟨gb4, 1, none⟩ = some (.int .i64 x19)) sqz (fun hHeld => ?_); refine with_tabW spec_RangeCmp.tab19 spec_RangeCmp.bits19 (fun HT_ HW_ => ?_); generalize wc.drew = w150 at B0 B1 B2 B3 B4 B5 HB hHeld ⊢; refine sqw HT_ HW_ 0 98 hHeld ?_; refine sqo HT_ 1 99 (fun K hK => ?_); refine sqG Try.func99 #[] ?_; (with_reducible refine (spec_l8None.calls  t33 t34 _ A148.out).mono ?_); rintro e w151 ⟨rfl, hb⟩; refine ⟨_, rfl, ?_⟩; refine sqM6 B0 B1 B2 B3 B4 B5 hb ?_; clear B0 B1 B2 B3 B4 B5; intro B0 B1 B2 B3 B4 B5; replace HB := sqs HB hb; (try clear hb); refine hK.out _ _ sqz (fun hHeld => ?_); clear hK K; refine sqnm ?_; refine sqp HT_ 2 100 ?_; refine sqp HT_ 3 101 ?_; refine sqpu HT_ 4 102 ?_; refine sqpu HT_ 5 103 ?_; refine sqpu HT_ 6 104 ?_; refine sqp HT_ 7 105 ?_; refine done_ (done_of HT_.out (by kernel_rfl)) ?_
                 try go_wp2
                 go_meet
                 case rel => exact ⟨_, (true), (by first | rfl | (simp; done) | (simp [*]; done)), H', ⟨by have := HJ5.out; have := HJ56.out; have := HJ78.out; have := HJ104.out; have := HJ119.out; have := HJ134.out; have := HJ136.out; first | omega | exact Nat.le_refl _⟩, sqk B0, sqk B1, sqk B2, sqk B3, sqk B4, sqk B5, sqh HB⟩
                have c149b0 : (x18 == t33 && (x19 == t34)) = false := by simpa using c149
                (try (have c149b1 : decide (x18 = t33 && (x19 == t34)) = false := by simpa using c149))
                (try (have c149b2 : (x18 == t33 && (x19 == t34)) = false := by simpa using c149))
                (try (have c149b3 : ¬ (x18 = t33 && (x19 == t34)) := by simpa using c149))
                clear c149
                (first | rw [c149b0] | (simp only [i64_w, i32_w]; rw [c149b0]) | skip)
                replace H := sqbi H; obtain ⟨⟨t35, t36⟩, A152, H⟩ := H; (try dsimp only at H); have H' := Aside0.mk H; clear H
                try go_wp2
                replace B0 := sqdr B0; replace B1 := sqdr B1; replace B2 := sqdr B2; replace B3 := sqdr B3; replace B4 := sqdr B4; replace B5 := sqdr B5; replace HB := sqdB HB; refine sqst 8 (fun w' => w'.cell? ⟨gb4, 0, none⟩ = some (.int .i64 x18) ∧ w'.cell? ⟨gb4, 1, none⟩ = some (.int .i64 x19) ∧ w'.cell? ⟨gb5, 0, none⟩ = some (.int .i64 x20) ∧ w'.cell? ⟨gb5, 1, none⟩ = some (.int .i64 x21)) sqz (fun hHeld => ?_); refine with_tabW spec_RangeCmp.tab19 spec_RangeCmp.bits19 (fun HT_ HW_ => ?_); generalize wc.drew = w153 at B0 B1 B2 B3 B4 B5 HB hHeld ⊢; refine sqw HT_ HW_ 0 98 hHeld ?_; refine sqo HT_ 1 99 (fun K hK => ?_); refine sqG Try.func99 #[] ?_; (with_reducible refine (spec_l8None.calls  t33 t34 _ A148.out).mono ?_); rintro e w154 ⟨rfl, hb⟩; refine ⟨_, rfl, ?_⟩; refine sqM6 B0 B1 B2 B3 B4 B5 hb ?_; clear B0 B1 B2 B3 B4 B5; intro B0 B1 B2 B3 B4 B5; replace HB := sqs HB hb; (try clear hb); refine hK.out _ _ sqz (fun hHeld => ?_); clear hK K; refine sqnm ?_; refine sqp HT_ 2 100 ?_; refine sqp HT_ 3 101 ?_; refine sqw HT_ HW_ 4 102 hHeld ?_; refine sqo HT_ 5 103 (fun K hK => ?_); refine sqG Try.func99 #[] ?_; (with_reducible refine (spec_l8None.calls  t35 t36 _ A152.out).mono ?_); rintro e w155 ⟨rfl, hb⟩; refine ⟨_, rfl, ?_⟩; refine sqM6 B0 B1 B2 B3 B4 B5 hb ?_; clear B0 B1 B2 B3 B4 B5; intro B0 B1 B2 B3 B4 B5; replace HB := sqs HB hb; (try clear hb); refine hK.out _ _ sqz (fun hHeld => ?_); clear hK K; refine sqnm ?_; refine sqp HT_ 6 104 ?_; refine sqp HT_ 7 105 ?_; refine done_ (done_of HT_.out (by kernel_rfl)) ?_
                try go_wp2
                go_meet
                case rel => exact ⟨_, ((x20 == t35 && (x21 == t36))), (by first | rfl | (simp; done) | (simp [*]; done)), H', ⟨by have := HJ5.out; have := HJ56.out; have := HJ78.out; have := HJ104.out; have := HJ119.out; have := HJ134.out; have := HJ136.out; first | omega | exact Nat.le_refl _⟩, sqk B0, sqk B1, sqk B2, sqk B3, sqk B4, sqk B5, sqh HB⟩
               case rest =>
                clear HC147; obtain ⟨kq, x22, rfl, HA, HJ146, B0, B1, B2, B3, B4, B5, HB⟩ := hcut; cases kq with
                | zero => exact absurd HA.out (by simp [spec_RangeCmp.j7])
                | succ kj146 =>
                 have H := HA.out; clear HA; simp only [spec_RangeCmp.j7] at H
                 by_cases c156 : x22 = true
                 ·subst c156; rw [if_pos rfl] at H; replace H := sqbi H; obtain ⟨⟨t37, t38⟩, A157, H⟩ := H; (try dsimp only at H); replace H := sqbi H; obtain ⟨⟨t39, t40⟩, A158, H⟩ := H; (try dsimp only at H); simp only [Option.some.injEq, Prod.mk.injEq] at H; obtain ⟨rfl, rfl, rfl, rfl⟩ := H; go_wp2_with (first | ((with_reducible refine gate_callee (f := 99) rfl ?_); refine sqL (some 106) Try.func99 #[] ?_; (with_reducible refine (spec_l8None.calls  t37 t38 _ A157.out).mono ?_); rintro e w159 ⟨rfl, hb⟩; refine ⟨_, rfl, ?_⟩; refine sqM6 B0 B1 B2 B3 B4 B5 hb ?_; clear B0 B1 B2 B3 B4 B5; intro B0 B1 B2 B3 B4 B5; replace HB := sqs HB hb; (try clear hb)) | ((with_reducible refine gate_callee (f := 99) rfl ?_); refine sqL (some 107) Try.func99 #[] ?_; (with_reducible refine (spec_l8None.calls  t39 t40 _ A158.out).mono ?_); rintro e w160 ⟨rfl, hb⟩; refine ⟨_, rfl, ?_⟩; refine sqM6 B0 B1 B2 B3 B4 B5 hb ?_; clear B0 B1 B2 B3 B4 B5; intro B0 B1 B2 B3 B4 B5; replace HB := sqs HB hb; (try clear hb); obtain ⟨_, _, _, _, _, _, _, _⟩ := sqN4 N2_0 N2_1 N2_3 N2_4; obtain ⟨_, _⟩ := sqN1 N2_5; obtain ⟨_, _, _, _⟩ := sqc2 B2; obtain ⟨_, _, _, _, _, _, _, _⟩ := sqN4 N3_0 N3_1 N3_4 N3_5; obtain ⟨_, _, _, _⟩ := sqc2 B3)); refine bodyPost_ret (results_cc rfl _ _ gb2 gb3 24 24 #[.int .i64 t37, .int .i64 t38] #[.int .i64 t39, .int .i64 t40] (0, 0) (0, 0) _ _ rfl (sqP B2) Try.underlying24 rfl (by kernel_rfl) rfl (sqP B3) Try.underlying24 rfl (by kernel_rfl)) rfl ?_; exact sqe HB
                 replace c156 := Bool.eq_false_iff.mpr c156; subst c156; rw [if_neg (show ¬ (false = true) by decide)] at H; simp only [Option.some.injEq, Prod.mk.injEq] at H; obtain ⟨rfl, rfl, rfl, rfl⟩ := H
                 try go_wp2
                 replace B0 := sqdr B0; replace B1 := sqdr B1; replace B2 := sqdr B2; replace B3 := sqdr B3; replace B4 := sqdr B4; replace B5 := sqdr B5; replace HB := sqdB HB; refine sqst 4 (fun w' => w'.cell? ⟨gb4, 0, none⟩ = some (.int .i64 x18) ∧ w'.cell? ⟨gb4, 1, none⟩ = some (.int .i64 x19) ∧ w'.cell? ⟨gb5, 0, none⟩ = some (.int .i64 x20) ∧ w'.cell? ⟨gb5, 1, none⟩ = some (.int .i64 x21)) sqz (fun hHeld => ?_); generalize wc.drew = w172 at B0 B1 B2 B3 B4 B5 HB hHeld ⊢; refine take_ (i := 0) (N := some 108) (v := ?_) (a' := ?_) #[true, false, false, false] rfl rfl (by kernel_rfl) (fun _ _ _ h => h) (Or.inl ⟨by rfl, ?_⟩) hHeld ?_ ?_; rotate_left
                 ·rintro w' ⟨s0, s1, s2, s3⟩
                  go_simp
                  with_reducible rfl
                 rotate_left
                 ·simp only [Act.put, List.setIfInBounds_toArray, List.set_cons_zero, List.set_cons_succ, i64_w, i32_w]
                  rfl
                 refine take_ (i := 1) (N := some 109) (v := ?_) (a' := ?_) #[true, true, false, false] rfl rfl (by kernel_rfl) (fun _ _ _ h => h) (Or.inl ⟨by rfl, ?_⟩) hHeld ?_ ?_; rotate_left
                 ·rintro w' ⟨s0, s1, s2, s3⟩
                  go_simp
                  with_reducible rfl
                 rotate_left
                 ·simp only [Act.put, List.setIfInBounds_toArray, List.set_cons_zero, List.set_cons_succ, i64_w, i32_w]
                  rfl
                 refine one_ (i := 2) (N := none) #[true, true, true, false] rfl rfl (by kernel_rfl) (by decide) (fun K hK => ?_); obtain ⟨_, _, _, _⟩ := sqc2 B2; obtain ⟨_, _, _, _, _, _, _, _⟩ := sqN4 N0_2 N1_2 N3_2 N4_2; obtain ⟨_, _⟩ := sqN1 N5_2; refine sqsk ?_; refine hK.out _ _ sqzf (fun hHeld => ?_); clear hK K; refine one_ (i := 3) (N := none) #[true, true, true, true] rfl rfl (by kernel_rfl) (by decide) (fun K hK => ?_); obtain ⟨_, _, _, _⟩ := sqc2 B3; obtain ⟨_, _, _, _, _, _, _, _⟩ := sqN4 N0_3 N1_3 N2_3 N4_3; obtain ⟨_, _⟩ := sqN1 N5_3; refine sqsk ?_; refine hK.out _ _ sqzf (fun hHeld => ?_); clear hK K; refine done_ (by kernel_rfl) ?_
                 try go_wp2
                 refine bodyPost_ret (results_cc rfl _ _ gb2 gb3 24 24 #[.int .i64 x18, .int .i64 x19] #[.int .i64 x20, .int .i64 x21] (0, 0) (0, 0) _ _ rfl (sqP B2) Try.underlying24 rfl (by kernel_rfl) rfl (sqP B3) Try.underlying24 rfl (by kernel_rfl)) rfl ?_; exact sqe HB

/-! ### spec_RestHas: function 23 -/
set_option maxHeartbeats 8000000 in
set_option maxRecDepth 100000 in
theorem spec_RestHas.calls (k : Nat) (a0_0 : Int) (a0_1 : Int) (a1 : Int) (r : Bool) (w : World) (h : spec_RestHas.f k a0_0 a0_1 a1 = some r) :
  Calls Try.prog 23 #[.agg #[.int .i64 a0_0, .int .i64 a0_1], .int .i64 a1] w fun e w' => e = .returned (.bool r) ∧ Below w.heap.size w w' := by
 have hu26 := Try.underlying26; have HB := Aside0.mk (Below.refl w.heap.size w); have H := h; unfold spec_RestHas.f at H; clear h; have HC3 := Aside0.mk H; clear H; go_enter Try.func23, Try.ntmps23; go_upto_region 1 with (first | ((with_reducible refine gate_dst (N := 2) rfl ?_); refine sqx 2 #[.int .i64 a0_0, .int .i64 a0_1] 26 ?_; intro gb0 hg w4 hbox hb; have B0 := Aside0.mk hbox; have GW0 := sqg HB hg; replace HB := sqs HB hb; clear hb hbox hg))
 repeat (go_quiet (first | ((with_reducible refine gate_dst (N := 2) rfl ?_); refine sqx 2 #[.int .i64 a0_0, .int .i64 a0_1] 26 ?_; intro gb0 hg w4 hbox hb; have B0 := Aside0.mk hbox; have GW0 := sqg HB hg; replace HB := sqs HB hb; clear hb hbox hg)); go_upto_region 1 with (first | ((with_reducible refine gate_dst (N := 2) rfl ?_); refine sqx 2 #[.int .i64 a0_0, .int .i64 a0_1] 26 ?_; intro gb0 hg w4 hbox hb; have B0 := Aside0.mk hbox; have GW0 := sqg HB hg; replace HB := sqs HB hb; clear hb hbox hg)))
 (try simp only [Act.put, List.setIfInBounds_toArray, List.set_cons_zero, List.set_cons_succ])
 go_cut [12] (fun v12 wc => ∃ (kq : Nat) (x0 : Bool), v12 = .bool x0 ∧ Aside0 (spec_RestHas.j0 kq a1 x0 a0_0 a0_1 = some r) ∧ Aside0 (kq ≤ k) ∧ Aside0 (wc.heap[gb0]? = some (.cells #[.int .i64 a0_0, .int .i64 a0_1] 26 (0, 0))) ∧ Aside0 (Below w.heap.size w wc))
 case first =>
  have H := HC3.out; clear HC3; replace H := sqbi H; obtain ⟨t0, A5, H⟩ := H; (try dsimp only at H); rcases sqI (t0 = true) with c6 | c6
  ·replace c6 := Bool.eq_false_iff.mpr c6; subst c6; rw [if_neg (show ¬ (false = true) by decide)] at H; have H' := Aside0.mk H; clear H; obtain ⟨hcz10_0, hcz10_1, hfz10_0, hfz10_1⟩ := sqc2 B0; go_wp2_with (first | (go_at_call 66; (with_reducible refine (spec_RestOk.calls a0_0 a0_1 false _ A5.out).mono ?_); rintro e w11 ⟨rfl, hb⟩; replace B0 := sqb B0 hb; replace HB := sqs HB hb; (try clear hb)))
   repeat (go_quiet (first | (go_at_call 66; (with_reducible refine (spec_RestOk.calls a0_0 a0_1 false _ A5.out).mono ?_); rintro e w11 ⟨rfl, hb⟩; replace B0 := sqb B0 hb; replace HB := sqs HB hb; (try clear hb))); try go_wp2_with (first | (go_at_call 66; (with_reducible refine (spec_RestOk.calls a0_0 a0_1 false _ A5.out).mono ?_); rintro e w11 ⟨rfl, hb⟩; replace B0 := sqb B0 hb; replace HB := sqs HB hb; (try clear hb))))
   go_meet
   case rel => exact ⟨_, (true), (by first | rfl | (simp; done) | (simp [*]; done)), H', ⟨by first | omega | exact Nat.le_refl _⟩, sqk B0, sqh HB⟩
  subst c6; rw [if_pos rfl] at H; replace H := sqbi H; obtain ⟨t1, A7, H⟩ := H; (try dsimp only at H); have H' := Aside0.mk H; clear H; obtain ⟨hcz8_0, hcz8_1, hfz8_0, hfz8_1⟩ := sqc2 B0; go_wp2_with (first | (go_at_call 66; (with_reducible refine (spec_RestOk.calls a0_0 a0_1 true _ A5.out).mono ?_); rintro e w9 ⟨rfl, hb⟩; replace B0 := sqb B0 hb; replace HB := sqs HB hb; (try clear hb)) | (go_at_call 56; (with_reducible refine (spec_NumOk.calls a1 t1 _ A7.out).mono ?_); rintro e w' ⟨rfl, ⟨nd, rfl⟩⟩; (try first | exact ⟨rfl, _, World.drewN_drewN _ _ _⟩ | exact ⟨rfl, _, sqda⟩)))
  repeat (go_quiet (first | (go_at_call 66; (with_reducible refine (spec_RestOk.calls a0_0 a0_1 true _ A5.out).mono ?_); rintro e w9 ⟨rfl, hb⟩; replace B0 := sqb B0 hb; replace HB := sqs HB hb; (try clear hb)) | (go_at_call 56; (with_reducible refine (spec_NumOk.calls a1 t1 _ A7.out).mono ?_); rintro e w' ⟨rfl, ⟨nd, rfl⟩⟩; (try first | exact ⟨rfl, _, World.drewN_drewN _ _ _⟩ | exact ⟨rfl, _, sqda⟩))); try go_wp2_with (first | (go_at_call 66; (with_reducible refine (spec_RestOk.calls a0_0 a0_1 true _ A5.out).mono ?_); rintro e w9 ⟨rfl, hb⟩; replace B0 := sqb B0 hb; replace HB := sqs HB hb; (try clear hb)) | (go_at_call 56; (with_reducible refine (spec_NumOk.calls a1 t1 _ A7.out).mono ?_); rintro e w' ⟨rfl, ⟨nd, rfl⟩⟩; (try first | exact ⟨rfl, _, World.drewN_drewN _ _ _⟩ | exact ⟨rfl, _, sqda⟩))))
  go_meet
  case rel => exact ⟨_, (!t1), (by first | rfl | (simp; done) | (simp [*]; done)), H', ⟨by first | omega | exact Nat.le_refl _⟩, sqk B0, sqh HB⟩
 case rest =>
  clear HC3; obtain ⟨kq, x0, rfl, HA, HJ2, B0, HB⟩ := hcut; cases kq with
  | zero => exact absurd HA.out (by simp [spec_RestHas.j0])
  | succ kj2 =>
   have H := HA.out; clear HA; simp only [spec_RestHas.j0] at H
   by_cases c12 : x0 = true
   ·subst c12; rw [if_pos rfl] at H; obtain rfl := Option.some.inj H
    go_wp2
    repeat (go_quiet (fail); try go_wp2)
    go_ret
    exact sqe HB
   replace c12 := Bool.eq_false_iff.mpr c12; subst c12; rw [if_neg (show ¬ (false = true) by decide)] at H; replace H := sqj H; rcases H with ⟨c13, H⟩ | ⟨c13, H⟩
   ·have c13b0 : (a0_0 == 0) = true := beq_iff_eq.mpr c13; have c13b1 : (a0_0 != 0) = false := bne_eq_false_iff_eq.mpr c13; clear c13; obtain rfl := Option.some.inj H; obtain ⟨hcz14_0, hcz14_1, hfz14_0, hfz14_1⟩ := sqc2 B0
    go_wp2
    repeat (go_quiet (fail); try go_wp2)
    go_ret
    exact sqe HB
   have c13b0 : (a0_0 == 0) = false := beq_eq_false_iff_ne.mpr c13; have c13b1 : (a0_0 != 0) = true := bne_iff_ne.mpr c13; replace H := sqbi H; obtain ⟨t2, A15, H⟩ := H; (try dsimp only at H); obtain rfl := Option.some.inj H; obtain ⟨hcz16_0, hcz16_1, hfz16_0, hfz16_1⟩ := sqc2 B0; go_wp2_with (first | (go_at_call 102; (with_reducible refine (spec_l1Mod.calls a1 a0_0 t2 _ A15.out).mono ?_); rintro e w' ⟨rfl, ⟨nd, rfl⟩⟩; (try first | exact ⟨rfl, _, World.drewN_drewN _ _ _⟩ | exact ⟨rfl, _, sqda⟩)))
   repeat (go_quiet (first | (go_at_call 102; (with_reducible refine (spec_l1Mod.calls a1 a0_0 t2 _ A15.out).mono ?_); rintro e w' ⟨rfl, ⟨nd, rfl⟩⟩; (try first | exact ⟨rfl, _, World.drewN_drewN _ _ _⟩ | exact ⟨rfl, _, sqda⟩))); try go_wp2_with (first | (go_at_call 102; (with_reducible refine (spec_l1Mod.calls a1 a0_0 t2 _ A15.out).mono ?_); rintro e w' ⟨rfl, ⟨nd, rfl⟩⟩; (try first | exact ⟨rfl, _, World.drewN_drewN _ _ _⟩ | exact ⟨rfl, _, sqda⟩))))
   go_ret
   exact sqe HB

/-! ### spec_l9Gcd: function 156 -/
set_option maxHeartbeats 8000000 in
set_option maxRecDepth 100000 in
theorem spec_l9Gcd.calls (k : Nat) (a0 : Int) (a1 : Int) (r : Int) (w : World) (h : spec_l9Gcd.f k a0 a1 = some r) :
  Calls Try.prog 156 #[.int .i64 a0, .int .i64 a1] w fun e w' => e = .returned (.int .i64 r) ∧ Drawn0 w w' := by
 have H := h; unfold spec_l9Gcd.f at H; clear h; have HC3 := Aside0.mk H; clear H; go_enter Try.func156, Try.ntmps156
 go_upto_if 7 with (fail)
 go_cut [0] (fun v0 wc => ∃ (kq : Nat) (x0 : Int), v0 = .int .i64 x0 ∧ Aside0 (spec_l9Gcd.j0 kq x0 a1 = some r) ∧ Aside0 (kq ≤ k) ∧ Drawn0 w wc)
 case first =>
  have H := HC3.out; clear HC3; replace H := sqi H; rcases H with ⟨c4, H⟩ | ⟨c4, H⟩
  ·have c4b0 := decide_eq_false c4; clear c4
   (first | rw [c4b0] | (simp only [i64_w, i32_w]; rw [c4b0]) | skip)
   have H' := Aside0.mk H; clear H
   go_wp2
   go_meet
   case rel => exact ⟨_, (a0), (by first | rfl | (simp; done) | (simp [*]; done)), H', ⟨by first | omega | exact Nat.le_refl _⟩, by repeat (first | exact Drawn0.refl _ | apply Drawn0.step)⟩
  have c4b0 := decide_eq_true c4; clear c4
  (first | rw [c4b0] | (simp only [i64_w, i32_w]; rw [c4b0]) | skip)
  have H' := Aside0.mk H; clear H
  go_wp2
  go_meet
  case rel => exact ⟨_, (wrap64 (-a0)), (by first | rfl | (simp; done) | (simp [*]; done)), H', ⟨by first | omega | exact Nat.le_refl _⟩, by repeat (first | exact Drawn0.refl _ | apply Drawn0.step)⟩
 case rest =>
  clear HC3; obtain ⟨kq, x0, rfl, HA, HJ2, ⟨mc2, rfl⟩⟩ := hcut; cases kq with
  | zero => exact absurd HA.out (by simp [spec_l9Gcd.j0])
  | succ kj2 =>
   have H := HA.out; clear HA; simp only [spec_l9Gcd.j0] at H; have HC5 := Aside0.mk H; clear H
   go_upto_if 11 with (fail)
   go_cut [1] (fun v1 wc => ∃ (kq : Nat) (x1 : Int), v1 = .int .i64 x1 ∧ Aside0 (spec_l9Gcd.j1 kq x0 x1 = some r) ∧ Aside0 (kq ≤ kj2) ∧ Drawn0 w wc)
   case first =>
    have H := HC5.out; clear HC5; replace H := sqi H; rcases H with ⟨c6, H⟩ | ⟨c6, H⟩
    ·have c6b0 := decide_eq_false c6; clear c6
     (first | rw [c6b0] | (simp only [i64_w, i32_w]; rw [c6b0]) | skip)
     have H' := Aside0.mk H; clear H
     go_wp2
     go_meet
     case rel => exact ⟨_, (a1), (by first | rfl | (simp; done) | (simp [*]; done)), H', ⟨by have := HJ2.out; first | omega | exact Nat.le_refl _⟩, by repeat (first | exact Drawn0.refl _ | apply Drawn0.step)⟩
    have c6b0 := decide_eq_true c6; clear c6
    (first | rw [c6b0] | (simp only [i64_w, i32_w]; rw [c6b0]) | skip)
    have H' := Aside0.mk H; clear H
    go_wp2
    go_meet
    case rel => exact ⟨_, (wrap64 (-a1)), (by first | rfl | (simp; done) | (simp [*]; done)), H', ⟨by have := HJ2.out; first | omega | exact Nat.le_refl _⟩, by repeat (first | exact Drawn0.refl _ | apply Drawn0.step)⟩
   case rest =>
    clear HC5; obtain ⟨kq, x1, rfl, HA, HJ4, ⟨mc4, rfl⟩⟩ := hcut; cases kq with
    | zero => exact absurd HA.out (by simp [spec_l9Gcd.j1])
    | succ kj4 =>
     have H := HA.out; clear HA; simp only [spec_l9Gcd.j1] at H; have H' := Aside0.mk H; clear H
     go_wp2
     go_loopg [0, 1] kj4 (fun kq v0 v1 w' => ∃ (x2 : Int) (x3 : Int), v0 = .int .i64 x2 ∧ v1 = .int .i64 x3 ∧ Aside0 (spec_l9Gcd.l0 kq x2 x3 = some r) ∧ Aside0 (kq ≤ kj4) ∧ Drawn0 w w')
     case atStart => exact ⟨(x0), (x1), (by first | rfl | (simp; done) | (simp [*]; done)), (by first | rfl | (simp; done) | (simp [*]; done)), H', ⟨Nat.le_refl _⟩, by repeat (first | exact Drawn0.refl _ | apply Drawn0.step)⟩
     case round =>
      clear H'; obtain ⟨x2, x3, rfl, rfl, HA, HK3, ⟨m3, rfl⟩⟩ := hrel; cases gk with
      | zero => exact absurd HA.out (by simp [spec_l9Gcd.l0])
      | succ k3 =>
       have H := HA.out; clear HA; simp only [spec_l9Gcd.l0] at H; replace H := sqj H; rcases H with ⟨c7, H⟩ | ⟨c7, H⟩
       ·have c7b0 : (x3 == 0) = true := beq_iff_eq.mpr c7; have c7b1 : (x3 != 0) = false := bne_eq_false_iff_eq.mpr c7; clear c7; obtain rfl := Option.some.inj H
        go_wp2
        go_ret
        exact ⟨by first | rfl | (simp; done) | (simp [*]; done), by repeat (first | exact Drawn0.refl _ | apply Drawn0.step)⟩
       have c7b0 : (x3 == 0) = false := beq_eq_false_iff_ne.mpr c7; have c7b1 : (x3 != 0) = true := bne_iff_ne.mpr c7; have H' := Aside0.mk H; clear H
       go_wp2
       go_roundg k3
       case measure => have := HJ2.out; have := HJ4.out; have := HK3.out; omega
       case rel => exact ⟨(x3), (Int.tmod x2 x3), (by first | rfl | (simp; done) | (simp [*]; done)), (by first | rfl | (simp; done) | (simp [*]; done)), H', ⟨by have := HJ2.out; have := HJ4.out; have := HK3.out; omega⟩, by repeat (first | exact Drawn0.refl _ | apply Drawn0.step)⟩

end Go.Proofs.Ytkekcenlleebeaa.PFnValCmp
