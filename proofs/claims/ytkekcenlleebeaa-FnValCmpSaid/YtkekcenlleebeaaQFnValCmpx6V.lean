/- Functions of the program as plain Lean functions, and that calls of them come to what these tell. Conditions: those in each law. -/
import Derived.Test.YtkekcenlleebeaaSqV
import Derived.Test.YtkekcenlleebeaaDFnValCmpV
import Derived.Test.YtkekcenlleebeaaQFnValCmpx0V
namespace Go.Proofs.Ytkekcenlleebeaa.PFnValCmp
open Go.RowKit Go.Proofs.Ytkekcenlleebeaa.Sq Go.Proofs.YtkekcenlleebeaaW.PrintWords Go.Proofs.YtkekcenlleebeaaW.PrintLast Go.Proofs.YtkekcenlleebeaaW.PrintMore
attribute [local go_sem] max2_int min2_int max_two min_two max_three min_three max_four min_four   -- for this text's walks alone
set_option linter.unusedVariables false
set_option linter.unusedSimpArgs false

theorem eqA24 (d : Nat) (w : World) (x0 y0 : Int) (x1 y1 : Int) :
  (Op.equalIn (d + 2) 24 (.agg #[.int .i64 x0, .int .i64 x1]) (.agg #[.int .i64 y0, .int .i64 y1])).run Try.prog w = .ok (x0 == y0 && (x1 == y1)) w := by
 refine eqA_of Try.underlying24 (by kernel_rfl) ?_; refine eqf_cons (by rfl) (by go_simp; rfl) (by go_simp; rfl) (by go_simp) ?_; exact eqf_last (by rfl) (by go_simp; rfl) (by go_simp; rfl) (by go_simp)
theorem eqA26 (d : Nat) (w : World) (x0 y0 : Int) (x1 y1 : Int) :
  (Op.equalIn (d + 2) 26 (.agg #[.int .i64 x0, .int .i64 x1]) (.agg #[.int .i64 y0, .int .i64 y1])).run Try.prog w = .ok (x0 == y0 && (x1 == y1)) w := by
 refine eqA_of Try.underlying26 (by kernel_rfl) ?_; refine eqf_cons (by rfl) (by go_simp; rfl) (by go_simp; rfl) (by go_simp) ?_; exact eqf_last (by rfl) (by go_simp; rfl) (by go_simp; rfl) (by go_simp)
theorem eqA30 (d : Nat) (w : World) (x0 y0 : Int) (x1 y1 : Int) (x2 y2 : Int) (x3 y3 : Int) :
  (Op.equalIn (d + 2) 30 (.agg #[.int .i64 x0, .int .i64 x1, .int .i64 x2, .int .i64 x3]) (.agg #[.int .i64 y0, .int .i64 y1, .int .i64 y2, .int .i64 y3])).run Try.prog w = .ok (x0 == y0 && (x1 == y1 && (x2 == y2 && (x3 == y3)))) w := by
 refine eqA_of Try.underlying30 (by kernel_rfl) ?_; refine eqf_cons (by rfl) (by go_simp; rfl) (by go_simp; rfl) (by go_simp) ?_; refine eqf_cons (by rfl) (by go_simp; rfl) (by go_simp; rfl) (by go_simp) ?_; refine eqf_cons (by rfl) (by go_simp; rfl) (by go_simp; rfl) (by go_simp) ?_; exact eqf_last (by rfl) (by go_simp; rfl) (by go_simp; rfl) (by go_simp)
attribute [local go_sem high] eqA24
/-! ### impl_NumOk: function 117 -/
set_option maxHeartbeats 8000000 in
set_option maxRecDepth 100000 in
theorem impl_NumOk.calls (a0 : Int) (r : Bool) (w : World) (h : impl_NumOk.f a0 = some r) :
  Calls Try.prog 117 #[.int .i64 a0] w fun e w' => e = .returned (.bool r) ∧ Drawn0 w w' := by
 have H := h; unfold impl_NumOk.f at H; clear h; replace H := sqj H; rcases H with ⟨c2, H⟩ | ⟨c2, H⟩
 ·have c2b0 : decide ((-2147483648) ≤ a0) = true := decide_eq_true c2; clear c2; obtain rfl := Option.some.inj H; go_enter Try.func117, Try.ntmps117
  go_wp2
  go_ret
  exact ⟨by first | rfl | (simp; done) | (simp [*]; done), by repeat (first | exact Drawn0.refl _ | apply Drawn0.step)⟩
 have c2b0 : decide ((-2147483648) ≤ a0) = false := decide_eq_false c2; clear c2; obtain rfl := Option.some.inj H; go_enter Try.func117, Try.ntmps117
 go_wp2
 go_ret
 exact ⟨by first | rfl | (simp; done) | (simp [*]; done), by repeat (first | exact Drawn0.refl _ | apply Drawn0.step)⟩

/-! ### impl_rangeNone: function 126 -/
set_option maxHeartbeats 8000000 in
set_option maxRecDepth 100000 in
theorem impl_rangeNone.calls  (r1 : Int) (r2 : Int) (w : World) (h : impl_rangeNone.f  = some (r1, r2)) :
  Calls Try.prog 126 #[] w fun e w' => e = .returned (.agg #[.int .i64 r1, .int .i64 r2]) ∧ Below w.heap.size w w' := by
 have hu24 := Try.underlying24; have HB := Aside0.mk (Below.refl w.heap.size w); have H := h; unfold impl_rangeNone.f at H; clear h; simp only [Option.some.injEq, Prod.mk.injEq] at H; obtain ⟨rfl, rfl⟩ := H; go_enter Try.func126, Try.ntmps126; go_wp2_with (first | ((with_reducible refine gate_dst (N := 0) rfl ?_); refine sqx 0 #[.int .i64 0, .int .i64 0] 24 ?_; intro gb0 hg w1 hbox hb; have B0 := Aside0.mk hbox; have GW0 := sqg HB hg; replace HB := sqs HB hb; clear hb hbox hg; obtain ⟨_, _, _, _⟩ := sqc2 B0)); refine bodyPost_ret (results_cell_row rfl _ _ gb0 24 #[.int .i64 1, .int .i64 0] (0, 0) _ rfl (sqP B0) Try.underlying24 rfl (by kernel_rfl)) rfl ?_; exact sqe HB

/-! ### impl_RangeOk: function 76 -/
def impl_RangeOk.T1 : Bool × List (List Nat × List Nat) := (true, [([], []), ([], []), ([0, 1], [0, 1]), ([2, 1], [2]), ([3], [3]), ([4, 3], [3, 4]), ([5, 3, 3], [3, 5]), ([6, 6, 3], [3, 6]), ([7], [7]), ([8, 7], [7, 8]), ([9, 7, 7], [7, 9]), ([7, 10, 3], [3, 7, 10]), ([11, 10, 3], [3, 11]), ([12], [12]), ([13, 12], [12, 13]), ([12], [12]), ([15, 12], [12, 15]), ([14, 16, 12], [12, 14, 16]), ([12, 17, 3], [3, 12, 17]), ([3, 18], [3, 18]), ([19, 12, 0, 1, 2, 3, 4, 5, 6, 7, 8, 9, 10, 11, 12, 13, 14, 15, 16, 17, 18, 19], [19])])
def impl_RangeOk.B1 : List Nat := [0, 0, 3, 7, 15, 31, 63, 127, 255, 511, 1023, 2047, 4095, 8191, 16383, 8191, 40959, 131071, 262143, 524287, 1048575]
theorem impl_RangeOk.tab1 : rtab .any (opsOf Try.f76 1) = impl_RangeOk.T1 := by kernel_rfl
theorem impl_RangeOk.bits1 : waitsOk impl_RangeOk.T1.2 impl_RangeOk.B1 = true := by kernel_rfl
set_option maxHeartbeats 8000000 in
set_option maxRecDepth 100000 in
theorem impl_RangeOk.calls (a0_0 : Int) (a0_1 : Int) (r : Bool) (w : World) (h : impl_RangeOk.f a0_0 a0_1 = some r) :
  Calls Try.prog 76 #[.agg #[.int .i64 a0_0, .int .i64 a0_1]] w fun e w' => e = .returned (.bool r) ∧ Below w.heap.size w w' := by
 have hu24 := Try.underlying24; have HB := Aside0.mk (Below.refl w.heap.size w); have H := h; unfold impl_RangeOk.f at H; clear h; replace H := sqbi H; obtain ⟨⟨t0, t1⟩, A2, H⟩ := H; (try dsimp only at H); replace H := sqj H; rcases H with ⟨c3, H⟩ | ⟨c3, H⟩
 ·have c3b0 : (a0_0 == t0 && (a0_1 == t1)) = true := c3
  (try (have c3b1 : decide (a0_0 = t0 && (a0_1 == t1)) = true := by simpa using c3))
  (try (have c3b2 : (a0_0 == t0 && (a0_1 == t1)) = true := by simpa using c3))
  clear c3; obtain rfl := Option.some.inj H; go_enter Try.func76, Try.ntmps76
  try go_wp2_with (first | ((with_reducible refine gate_dst (N := 1) rfl ?_); refine sqx 1 #[.int .i64 a0_0, .int .i64 a0_1] 24 ?_; intro gb0 hg w4 hbox hb; have B0 := Aside0.mk hbox; have GW0 := sqg HB hg; replace HB := sqs HB hb; clear hb hbox hg))
  replace B0 := sqdr B0; replace HB := sqdB HB; refine sqst 21 (fun w' => w'.cell? ⟨gb0, 0, none⟩ = some (.int .i64 a0_0) ∧ w'.cell? ⟨gb0, 1, none⟩ = some (.int .i64 a0_1)) sqz (fun hHeld => ?_); refine with_tabW impl_RangeOk.tab1 impl_RangeOk.bits1 (fun HT_ HW_ => ?_); generalize w4.drew = w5 at B0 HB hHeld ⊢; refine sqw HT_ HW_ 0 3 hHeld ?_; refine sqo HT_ 1 4 (fun K hK => ?_); refine sqG Try.func126 #[] ?_; (with_reducible refine (impl_rangeNone.calls  t0 t1 _ A2.out).mono ?_); rintro e w6 ⟨rfl, hb⟩; refine ⟨_, rfl, ?_⟩; replace B0 := sqb B0 hb; replace HB := sqs HB hb; (try clear hb); refine hK.out _ _ sqz (fun hHeld => ?_); clear hK K; refine sqnm ?_; refine sqp HT_ 2 5 ?_; refine sqp HT_ 3 6 ?_; refine sqpu HT_ 4 7 ?_; refine sqpu HT_ 5 8 ?_; refine sqpu HT_ 6 9 ?_; refine sqpu HT_ 7 10 ?_; refine sqpu HT_ 8 11 ?_; refine sqpu HT_ 9 12 ?_; refine sqpu HT_ 10 13 ?_; refine sqpu HT_ 11 14 ?_; refine sqpu HT_ 12 15 ?_; refine sqpu HT_ 13 16 ?_; refine sqpu HT_ 14 17 ?_; refine sqpu HT_ 15 18 ?_; refine sqpu HT_ 16 19 ?_; refine sqpu HT_ 17 20 ?_; refine sqpu HT_ 18 21 ?_; refine sqp HT_ 19 22 ?_; refine sqp HT_ 20 2 ?_; refine done_ (done_of HT_.out (by kernel_rfl)) ?_
  try go_wp2
  go_ret
  exact sqe HB
 have c3b0 : (a0_0 == t0 && (a0_1 == t1)) = false := by simpa using c3
 (try (have c3b1 : decide (a0_0 = t0 && (a0_1 == t1)) = false := by simpa using c3))
 (try (have c3b2 : (a0_0 == t0 && (a0_1 == t1)) = false := by simpa using c3))
 (try (have c3b3 : ¬ (a0_0 = t0 && (a0_1 == t1)) := by simpa using c3))
 clear c3; replace H := sqbi H; obtain ⟨t2, A7, H⟩ := H; (try dsimp only at H); rcases sqI (t2 = true) with c8 | c8
 ·replace c8 := Bool.eq_false_iff.mpr c8; subst c8; rw [if_neg (show ¬ (false = true) by decide)] at H; obtain rfl := Option.some.inj H; go_enter Try.func76, Try.ntmps76
  try go_wp2_with (first | ((with_reducible refine gate_dst (N := 1) rfl ?_); refine sqx 1 #[.int .i64 a0_0, .int .i64 a0_1] 24 ?_; intro gb0 hg w17 hbox hb; have B0 := Aside0.mk hbox; have GW0 := sqg HB hg; replace HB := sqs HB hb; clear hb hbox hg))
  replace B0 := sqdr B0; replace HB := sqdB HB; refine sqst 21 (fun w' => w'.cell? ⟨gb0, 0, none⟩ = some (.int .i64 a0_0) ∧ w'.cell? ⟨gb0, 1, none⟩ = some (.int .i64 a0_1)) sqz (fun hHeld => ?_); refine with_tabW impl_RangeOk.tab1 impl_RangeOk.bits1 (fun HT_ HW_ => ?_); generalize w17.drew = w18 at B0 HB hHeld ⊢; refine sqw HT_ HW_ 0 3 hHeld ?_; refine sqo HT_ 1 4 (fun K hK => ?_); refine sqG Try.func126 #[] ?_; (with_reducible refine (impl_rangeNone.calls  t0 t1 _ A2.out).mono ?_); rintro e w19 ⟨rfl, hb⟩; refine ⟨_, rfl, ?_⟩; replace B0 := sqb B0 hb; replace HB := sqs HB hb; (try clear hb); refine hK.out _ _ sqz (fun hHeld => ?_); clear hK K; refine sqnm ?_; refine sqp HT_ 2 5 ?_; refine sqp HT_ 3 6 ?_; refine sqp HT_ 4 7 ?_; refine sqw HT_ HW_ 5 8 hHeld ?_; refine sqo HT_ 6 9 (fun K hK => ?_); refine sqG Try.func117 #[.int .i64 a0_0] ?_; (with_reducible refine (impl_NumOk.calls a0_0 false _ A7.out).mono ?_); rintro e w' ⟨rfl, ⟨nd, rfl⟩⟩; refine ⟨_, rfl, ?_⟩; refine hK.out _ _ sqz (fun hHeld => ?_); clear hK K; refine sqnm ?_; refine sqp HT_ 7 10 ?_; refine sqpu HT_ 8 11 ?_; refine sqpu HT_ 9 12 ?_; refine sqpu HT_ 10 13 ?_; refine sqp HT_ 11 14 ?_; refine sqp HT_ 12 15 ?_; refine sqpu HT_ 13 16 ?_; refine sqpu HT_ 14 17 ?_; refine sqpu HT_ 15 18 ?_; refine sqpu HT_ 16 19 ?_; refine sqpu HT_ 17 20 ?_; refine sqp HT_ 18 21 ?_; refine sqp HT_ 19 22 ?_; refine sqp HT_ 20 2 ?_; refine done_ (done_of HT_.out (by kernel_rfl)) ?_
  try go_wp2
  go_ret
  exact sqe HB
 subst c8; rw [if_pos rfl] at H; replace H := sqbi H; obtain ⟨t3, A9, H⟩ := H; (try dsimp only at H)
 by_cases c10 : t3 = true
 ·subst c10; rw [if_pos rfl] at H; obtain rfl := Option.some.inj H; go_enter Try.func76, Try.ntmps76
  try go_wp2_with (first | ((with_reducible refine gate_dst (N := 1) rfl ?_); refine sqx 1 #[.int .i64 a0_0, .int .i64 a0_1] 24 ?_; intro gb0 hg w11 hbox hb; have B0 := Aside0.mk hbox; have GW0 := sqg HB hg; replace HB := sqs HB hb; clear hb hbox hg))
  replace B0 := sqdr B0; replace HB := sqdB HB; refine sqst 21 (fun w' => w'.cell? ⟨gb0, 0, none⟩ = some (.int .i64 a0_0) ∧ w'.cell? ⟨gb0, 1, none⟩ = some (.int .i64 a0_1)) sqz (fun hHeld => ?_); refine with_tabW impl_RangeOk.tab1 impl_RangeOk.bits1 (fun HT_ HW_ => ?_); generalize w11.drew = w12 at B0 HB hHeld ⊢; refine sqw HT_ HW_ 0 3 hHeld ?_; refine sqo HT_ 1 4 (fun K hK => ?_); refine sqG Try.func126 #[] ?_; (with_reducible refine (impl_rangeNone.calls  t0 t1 _ A2.out).mono ?_); rintro e w13 ⟨rfl, hb⟩; refine ⟨_, rfl, ?_⟩; replace B0 := sqb B0 hb; replace HB := sqs HB hb; (try clear hb); refine hK.out _ _ sqz (fun hHeld => ?_); clear hK K; refine sqnm ?_; refine sqp HT_ 2 5 ?_; refine sqp HT_ 3 6 ?_; refine sqp HT_ 4 7 ?_; refine sqw HT_ HW_ 5 8 hHeld ?_; refine sqo HT_ 6 9 (fun K hK => ?_); refine sqG Try.func117 #[.int .i64 a0_0] ?_; (with_reducible refine (impl_NumOk.calls a0_0 true _ A7.out).mono ?_); rintro e w' ⟨rfl, ⟨nd, rfl⟩⟩; refine ⟨_, rfl, ?_⟩; refine hK.out _ _ sqz (fun hHeld => ?_); clear hK K; refine sqnm ?_; refine sqp HT_ 7 10 ?_; refine sqp HT_ 8 11 ?_; refine sqw HT_ HW_ 9 12 hHeld ?_; refine sqo HT_ 10 13 (fun K hK => ?_); refine sqG Try.func117 #[.int .i64 a0_1] ?_; (with_reducible refine (impl_NumOk.calls a0_1 true _ A9.out).mono ?_); rintro e w' ⟨rfl, ⟨nd, rfl⟩⟩; refine ⟨_, rfl, ?_⟩; refine hK.out _ _ sqz (fun hHeld => ?_); clear hK K; refine sqnm ?_; refine sqp HT_ 11 14 ?_; refine sqp HT_ 12 15 ?_; refine sqp HT_ 13 16 ?_; refine sqp HT_ 15 18 ?_; refine sqw HT_ HW_ 14 17 hHeld ?_; refine sqw HT_ HW_ 16 19 hHeld ?_; refine sqp HT_ 17 20 ?_; refine sqp HT_ 18 21 ?_; refine sqp HT_ 19 22 ?_; refine sqp HT_ 20 2 ?_; refine done_ (done_of HT_.out (by kernel_rfl)) ?_
  try go_wp2
  go_ret
  exact sqe HB
 replace c10 := Bool.eq_false_iff.mpr c10; subst c10; rw [if_neg (show ¬ (false = true) by decide)] at H; obtain rfl := Option.some.inj H; go_enter Try.func76, Try.ntmps76
 try go_wp2_with (first | ((with_reducible refine gate_dst (N := 1) rfl ?_); refine sqx 1 #[.int .i64 a0_0, .int .i64 a0_1] 24 ?_; intro gb0 hg w14 hbox hb; have B0 := Aside0.mk hbox; have GW0 := sqg HB hg; replace HB := sqs HB hb; clear hb hbox hg))
 replace B0 := sqdr B0; replace HB := sqdB HB; refine sqst 21 (fun w' => w'.cell? ⟨gb0, 0, none⟩ = some (.int .i64 a0_0) ∧ w'.cell? ⟨gb0, 1, none⟩ = some (.int .i64 a0_1)) sqz (fun hHeld => ?_); refine with_tabW impl_RangeOk.tab1 impl_RangeOk.bits1 (fun HT_ HW_ => ?_); generalize w14.drew = w15 at B0 HB hHeld ⊢; refine sqw HT_ HW_ 0 3 hHeld ?_; refine sqo HT_ 1 4 (fun K hK => ?_); refine sqG Try.func126 #[] ?_; (with_reducible refine (impl_rangeNone.calls  t0 t1 _ A2.out).mono ?_); rintro e w16 ⟨rfl, hb⟩; refine ⟨_, rfl, ?_⟩; replace B0 := sqb B0 hb; replace HB := sqs HB hb; (try clear hb); refine hK.out _ _ sqz (fun hHeld => ?_); clear hK K; refine sqnm ?_; refine sqp HT_ 2 5 ?_; refine sqp HT_ 3 6 ?_; refine sqp HT_ 4 7 ?_; refine sqw HT_ HW_ 5 8 hHeld ?_; refine sqo HT_ 6 9 (fun K hK => ?_); refine sqG Try.func117 #[.int .i64 a0_0] ?_; (with_reducible refine (impl_NumOk.calls a0_0 true _ A7.out).mono ?_); rintro e w' ⟨rfl, ⟨nd, rfl⟩⟩; refine ⟨_, rfl, ?_⟩; refine hK.out _ _ sqz (fun hHeld => ?_); clear hK K; refine sqnm ?_; refine sqp HT_ 7 10 ?_; refine sqp HT_ 8 11 ?_; refine sqw HT_ HW_ 9 12 hHeld ?_; refine sqo HT_ 10 13 (fun K hK => ?_); refine sqG Try.func117 #[.int .i64 a0_1] ?_; (with_reducible refine (impl_NumOk.calls a0_1 false _ A9.out).mono ?_); rintro e w' ⟨rfl, ⟨nd, rfl⟩⟩; refine ⟨_, rfl, ?_⟩; refine hK.out _ _ sqz (fun hHeld => ?_); clear hK K; refine sqnm ?_; refine sqp HT_ 11 14 ?_; refine sqp HT_ 12 15 ?_; refine sqpu HT_ 13 16 ?_; refine sqpu HT_ 14 17 ?_; refine sqpu HT_ 15 18 ?_; refine sqpu HT_ 16 19 ?_; refine sqpu HT_ 17 20 ?_; refine sqp HT_ 18 21 ?_; refine sqp HT_ 19 22 ?_; refine sqp HT_ 20 2 ?_; refine done_ (done_of HT_.out (by kernel_rfl)) ?_
 try go_wp2
 go_ret
 exact sqe HB

/-! ### impl_RangeHas: function 48 -/
set_option maxHeartbeats 8000000 in
set_option maxRecDepth 100000 in
theorem impl_RangeHas.calls (a0_0 : Int) (a0_1 : Int) (a1 : Int) (r : Bool) (w : World) (h : impl_RangeHas.f a0_0 a0_1 a1 = some r) :
  Calls Try.prog 48 #[.agg #[.int .i64 a0_0, .int .i64 a0_1], .int .i64 a1] w fun e w' => e = .returned (.bool r) ∧ Below w.heap.size w w' := by
 have hu24 := Try.underlying24; have HB := Aside0.mk (Below.refl w.heap.size w); have H := h; unfold impl_RangeHas.f at H; clear h; replace H := sqbi H; obtain ⟨t0, A3, H⟩ := H; (try dsimp only at H); rcases sqI (t0 = true) with c4 | c4
 ·replace c4 := Bool.eq_false_iff.mpr c4; subst c4; rw [if_neg (show ¬ (false = true) by decide)] at H; obtain rfl := Option.some.inj H; go_enter Try.func48, Try.ntmps48; go_wp2_with (first | ((with_reducible refine gate_dst (N := 2) rfl ?_); refine sqx 2 #[.int .i64 a0_0, .int .i64 a0_1] 24 ?_; intro gb0 hg w14 hbox hb; have B0 := Aside0.mk hbox; have GW0 := sqg HB hg; replace HB := sqs HB hb; clear hb hbox hg; obtain ⟨_, _, _, _⟩ := sqc2 B0) | ((with_reducible refine gate_callee (f := 76) rfl ?_); refine sqL (some 6) Try.func76 #[.agg #[.int .i64 a0_0, .int .i64 a0_1]] ?_; (with_reducible refine (impl_RangeOk.calls a0_0 a0_1 false _ A3.out).mono ?_); rintro e w16 ⟨rfl, hb⟩; refine ⟨_, rfl, ?_⟩; replace B0 := sqb B0 hb; replace HB := sqs HB hb; (try clear hb)))
  go_ret
  exact sqe HB
 subst c4; rw [if_pos rfl] at H; replace H := sqj H; rcases H with ⟨c5, H⟩ | ⟨c5, H⟩
 ·have c5b0 := decide_eq_true c5; clear c5; obtain rfl := Option.some.inj H; go_enter Try.func48, Try.ntmps48; go_wp2_with (first | ((with_reducible refine gate_dst (N := 2) rfl ?_); refine sqx 2 #[.int .i64 a0_0, .int .i64 a0_1] 24 ?_; intro gb0 hg w6 hbox hb; have B0 := Aside0.mk hbox; have GW0 := sqg HB hg; replace HB := sqs HB hb; clear hb hbox hg; obtain ⟨_, _, _, _⟩ := sqc2 B0) | ((with_reducible refine gate_callee (f := 76) rfl ?_); refine sqL (some 6) Try.func76 #[.agg #[.int .i64 a0_0, .int .i64 a0_1]] ?_; (with_reducible refine (impl_RangeOk.calls a0_0 a0_1 true _ A3.out).mono ?_); rintro e w8 ⟨rfl, hb⟩; refine ⟨_, rfl, ?_⟩; replace B0 := sqb B0 hb; replace HB := sqs HB hb; (try clear hb); obtain ⟨_, _, _, _⟩ := sqc2 B0))
  go_ret
  exact sqe HB
 have c5b0 := decide_eq_false c5; clear c5; obtain rfl := Option.some.inj H; go_enter Try.func48, Try.ntmps48; go_wp2_with (first | ((with_reducible refine gate_dst (N := 2) rfl ?_); refine sqx 2 #[.int .i64 a0_0, .int .i64 a0_1] 24 ?_; intro gb0 hg w10 hbox hb; have B0 := Aside0.mk hbox; have GW0 := sqg HB hg; replace HB := sqs HB hb; clear hb hbox hg; obtain ⟨_, _, _, _⟩ := sqc2 B0) | ((with_reducible refine gate_callee (f := 76) rfl ?_); refine sqL (some 6) Try.func76 #[.agg #[.int .i64 a0_0, .int .i64 a0_1]] ?_; (with_reducible refine (impl_RangeOk.calls a0_0 a0_1 true _ A3.out).mono ?_); rintro e w12 ⟨rfl, hb⟩; refine ⟨_, rfl, ?_⟩; replace B0 := sqb B0 hb; replace HB := sqs HB hb; (try clear hb); obtain ⟨_, _, _, _⟩ := sqc2 B0))
 go_ret
 exact sqe HB

attribute [local go_sem high] eqA30
/-! ### impl_RestOk: function 65 -/
set_option maxHeartbeats 8000000 in
set_option maxRecDepth 100000 in
theorem impl_RestOk.calls (a0_0 : Int) (a0_1 : Int) (r : Bool) (w : World) (h : impl_RestOk.f a0_0 a0_1 = some r) :
  Calls Try.prog 65 #[.agg #[.int .i64 a0_0, .int .i64 a0_1]] w fun e w' => e = .returned (.bool r) ∧ Below w.heap.size w w' := by
 have hu26 := Try.underlying26; have HB := Aside0.mk (Below.refl w.heap.size w); have H := h; unfold impl_RestOk.f at H; clear h; replace H := sqj H; rcases H with ⟨c2, H⟩ | ⟨c2, H⟩
 ·have c2b0 : (a0_0 == 0) = true := beq_iff_eq.mpr c2; have c2b1 : (a0_0 != 0) = false := bne_eq_false_iff_eq.mpr c2; clear c2; replace H := sqbi H; obtain ⟨t0, A3, H⟩ := H; (try dsimp only at H); obtain rfl := Option.some.inj H; go_enter Try.func65, Try.ntmps65; go_wp2_with (first | ((with_reducible refine gate_dst (N := 1) rfl ?_); refine sqx 1 #[.int .i64 a0_0, .int .i64 a0_1] 26 ?_; intro gb0 hg w4 hbox hb; have B0 := Aside0.mk hbox; have GW0 := sqg HB hg; replace HB := sqs HB hb; clear hb hbox hg; obtain ⟨_, _, _, _⟩ := sqc2 B0) | ((with_reducible refine gate_callee (f := 117) rfl ?_); refine sqL (some 8) Try.func117 #[.int .i64 a0_1] ?_; (with_reducible refine (impl_NumOk.calls a0_1 t0 _ A3.out).mono ?_); rintro e w' ⟨rfl, ⟨nd, rfl⟩⟩; refine ⟨_, rfl, ?_⟩))
  go_ret
  exact sqe HB
 have c2b0 : (a0_0 == 0) = false := beq_eq_false_iff_ne.mpr c2; have c2b1 : (a0_0 != 0) = true := bne_iff_ne.mpr c2; replace H := sqi H; rcases H with ⟨c6, H⟩ | ⟨c6, H⟩
 ·have c6b0 : decide (1 ≤ a0_0) = false := decide_eq_false c6; clear c6; obtain rfl := Option.some.inj H; go_enter Try.func65, Try.ntmps65; go_wp2_with (first | ((with_reducible refine gate_dst (N := 1) rfl ?_); refine sqx 1 #[.int .i64 a0_0, .int .i64 a0_1] 26 ?_; intro gb0 hg w15 hbox hb; have B0 := Aside0.mk hbox; have GW0 := sqg HB hg; replace HB := sqs HB hb; clear hb hbox hg; obtain ⟨_, _, _, _⟩ := sqc2 B0))
  go_ret
  exact sqe HB
 have c6b0 : decide (1 ≤ a0_0) = true := decide_eq_true c6; clear c6; replace H := sqi H; rcases H with ⟨c7, H⟩ | ⟨c7, H⟩
 ·have c7b0 := decide_eq_false c7; clear c7; obtain rfl := Option.some.inj H; go_enter Try.func65, Try.ntmps65; go_wp2_with (first | ((with_reducible refine gate_dst (N := 1) rfl ?_); refine sqx 1 #[.int .i64 a0_0, .int .i64 a0_1] 26 ?_; intro gb0 hg w13 hbox hb; have B0 := Aside0.mk hbox; have GW0 := sqg HB hg; replace HB := sqs HB hb; clear hb hbox hg; obtain ⟨_, _, _, _⟩ := sqc2 B0))
  go_ret
  exact sqe HB
 have c7b0 := decide_eq_true c7; clear c7; replace H := sqj H; rcases H with ⟨c8, H⟩ | ⟨c8, H⟩
 ·have c8b0 : decide (0 ≤ a0_1) = true := decide_eq_true c8; clear c8; obtain rfl := Option.some.inj H; go_enter Try.func65, Try.ntmps65; go_wp2_with (first | ((with_reducible refine gate_dst (N := 1) rfl ?_); refine sqx 1 #[.int .i64 a0_0, .int .i64 a0_1] 26 ?_; intro gb0 hg w9 hbox hb; have B0 := Aside0.mk hbox; have GW0 := sqg HB hg; replace HB := sqs HB hb; clear hb hbox hg; obtain ⟨_, _, _, _⟩ := sqc2 B0))
  go_ret
  exact sqe HB
 have c8b0 : decide (0 ≤ a0_1) = false := decide_eq_false c8; clear c8; obtain rfl := Option.some.inj H; go_enter Try.func65, Try.ntmps65; go_wp2_with (first | ((with_reducible refine gate_dst (N := 1) rfl ?_); refine sqx 1 #[.int .i64 a0_0, .int .i64 a0_1] 26 ?_; intro gb0 hg w11 hbox hb; have B0 := Aside0.mk hbox; have GW0 := sqg HB hg; replace HB := sqs HB hb; clear hb hbox hg; obtain ⟨_, _, _, _⟩ := sqc2 B0))
 go_ret
 exact sqe HB

/-! ### impl_Range_empty: function 95 -/
set_option maxHeartbeats 8000000 in
set_option maxRecDepth 100000 in
theorem impl_Range_empty.calls (a0_0 : Int) (a0_1 : Int) (r : Bool) (w : World) (h : impl_Range_empty.f a0_0 a0_1 = some r) :
  Calls Try.prog 95 #[.agg #[.int .i64 a0_0, .int .i64 a0_1]] w fun e w' => e = .returned (.bool r) ∧ Below w.heap.size w w' := by
 have hu24 := Try.underlying24; have HB := Aside0.mk (Below.refl w.heap.size w); have H := h; unfold impl_Range_empty.f at H; clear h; obtain rfl := Option.some.inj H; go_enter Try.func95, Try.ntmps95; go_wp2_with (first | ((with_reducible refine gate_dst (N := 1) rfl ?_); refine sqx 1 #[.int .i64 a0_0, .int .i64 a0_1] 24 ?_; intro gb0 hg w2 hbox hb; have B0 := Aside0.mk hbox; have GW0 := sqg HB hg; replace HB := sqs HB hb; clear hb hbox hg; obtain ⟨_, _, _, _⟩ := sqc2 B0))
 go_ret
 exact sqe HB

/-! ### impl_valNone: function 96 -/
set_option maxHeartbeats 8000000 in
set_option maxRecDepth 100000 in
theorem impl_valNone.calls  (r1 : Int) (r2 : Int) (r3 : Int) (r4 : Int) (w : World) (h : impl_valNone.f  = some (r1, r2, r3, r4)) :
  Calls Try.prog 96 #[] w fun e w' => e = .returned (.agg #[.int .i64 r1, .int .i64 r2, .int .i64 r3, .int .i64 r4]) ∧ Below w.heap.size w w' := by
 have hu30 := Try.underlying30; have HB := Aside0.mk (Below.refl w.heap.size w); have H := h; unfold impl_valNone.f at H; clear h; simp only [Option.some.injEq, Prod.mk.injEq] at H; obtain ⟨rfl, rfl, rfl, rfl⟩ := H; go_enter Try.func96, Try.ntmps96; go_wp2_with (first | ((with_reducible refine gate_dst (N := 0) rfl ?_); refine sqx 0 #[.int .i64 0, .int .i64 0, .int .i64 0, .int .i64 0] 30 ?_; intro gb0 hg w1 hbox hb; have B0 := Aside0.mk hbox; have GW0 := sqg HB hg; replace HB := sqs HB hb; clear hb hbox hg; obtain ⟨_, _, _, _, _, _, _, _⟩ := sqc4 B0)); refine bodyPost_ret (results_cell_row rfl _ _ gb0 30 #[.int .i64 1, .int .i64 0, .int .i64 0, .int .i64 0] (0, 0) _ rfl (sqP B0) Try.underlying30 rfl (by kernel_rfl)) rfl ?_; exact sqe HB

/-! ### impl_valOne: function 97 -/
set_option maxHeartbeats 8000000 in
set_option maxRecDepth 100000 in
theorem impl_valOne.calls (a0 : Int) (r1 : Int) (r2 : Int) (r3 : Int) (r4 : Int) (w : World) (h : impl_valOne.f a0 = some (r1, r2, r3, r4)) :
  Calls Try.prog 97 #[.int .i64 a0] w fun e w' => e = .returned (.agg #[.int .i64 r1, .int .i64 r2, .int .i64 r3, .int .i64 r4]) ∧ Below w.heap.size w w' := by
 have hu30 := Try.underlying30; have HB := Aside0.mk (Below.refl w.heap.size w); have H := h; unfold impl_valOne.f at H; clear h; simp only [Option.some.injEq, Prod.mk.injEq] at H; obtain ⟨rfl, rfl, rfl, rfl⟩ := H; go_enter Try.func97, Try.ntmps97; go_wp2_with (first | ((with_reducible refine gate_dst (N := 2) rfl ?_); refine sqx 2 #[.int .i64 0, .int .i64 0, .int .i64 0, .int .i64 0] 30 ?_; intro gb0 hg w2 hbox hb; have B0 := Aside0.mk hbox; have GW0 := sqg HB hg; replace HB := sqs HB hb; clear hb hbox hg; obtain ⟨_, _, _, _, _, _, _, _⟩ := sqc4 B0)); refine bodyPost_ret (results_cell_row rfl _ _ gb0 30 #[.int .i64 a0, .int .i64 a0, .int .i64 0, .int .i64 a0] (0, 0) _ rfl (sqP B0) Try.underlying30 rfl (by kernel_rfl)) rfl ?_; exact sqe HB

/-! ### impl_restMod: function 98 -/
set_option maxHeartbeats 8000000 in
set_option maxRecDepth 100000 in
theorem impl_restMod.calls (a0 : Int) (a1 : Int) (r : Int) (w : World) (h : impl_restMod.f a0 a1 = some r) :
  Calls Try.prog 98 #[.int .i64 a0, .int .i64 a1] w fun e w' => e = .returned (.int .i64 r) ∧ Drawn0 w w' := by
 have H := h; unfold impl_restMod.f at H; clear h; replace H := sqj H; rcases H with ⟨c3, H⟩ | ⟨c3, H⟩
 ·exact absurd H (by simp)
 have c3b0 : (a1 == 0) = false := beq_eq_false_iff_ne.mpr c3; have c3b1 : (a1 != 0) = true := bne_iff_ne.mpr c3; replace H := sqj H; rcases H with ⟨c4, H⟩ | ⟨c4, H⟩
 ·have c4b0 := decide_eq_true c4; clear c4; obtain rfl := Option.some.inj H; go_enter Try.func98, Try.ntmps98
  go_wp2
  go_ret
  exact ⟨by first | rfl | (simp; done) | (simp [*]; done), by repeat (first | exact Drawn0.refl _ | apply Drawn0.step)⟩
 have c4b0 := decide_eq_false c4; clear c4; obtain rfl := Option.some.inj H; go_enter Try.func98, Try.ntmps98
 go_wp2
 go_ret
 exact ⟨by first | rfl | (simp; done) | (simp [*]; done), by repeat (first | exact Drawn0.refl _ | apply Drawn0.step)⟩

/-! ### impl_ValMake: function 16 -/
set_option maxHeartbeats 8000000 in
set_option maxRecDepth 100000 in
theorem impl_ValMake.calls (k : Nat) (a0_0 : Int) (a0_1 : Int) (a1_0 : Int) (a1_1 : Int) (r1 : Int) (r2 : Int) (r3 : Int) (r4 : Int) (w : World) (h : impl_ValMake.f k a0_0 a0_1 a1_0 a1_1 = some (r1, r2, r3, r4)) :
  Calls Try.prog 16 #[.agg #[.int .i64 a0_0, .int .i64 a0_1], .agg #[.int .i64 a1_0, .int .i64 a1_1]] w fun e w' => e = .returned (.agg #[.int .i64 r1, .int .i64 r2, .int .i64 r3, .int .i64 r4]) ∧ Below w.heap.size w w' := by
 have hu24 := Try.underlying24; have hu26 := Try.underlying26; have hu30 := Try.underlying30; have HB := Aside0.mk (Below.refl w.heap.size w); have H := h; unfold impl_ValMake.f at H; clear h; have HC3 := Aside0.mk H; clear H; go_enter Try.func16, Try.ntmps16; go_upto_region 1 with (first | ((with_reducible refine gate_dst (N := 2) rfl ?_); refine sqx 2 #[.int .i64 a0_0, .int .i64 a0_1] 24 ?_; intro gb0 hg w4 hbox hb; have B0 := Aside0.mk hbox; have GW0 := sqg HB hg; replace HB := sqs HB hb; clear hb hbox hg) | ((with_reducible refine gate_dst (N := 3) rfl ?_); refine sqx 3 #[.int .i64 a1_0, .int .i64 a1_1] 26 ?_; intro gb1 hg w5 hbox hb; have B1 := Aside0.mk hbox; have GW1 := sqg HB hg; have N0_1 := sqn B0 hg; have N1_0 := sqm B0 hg; replace B0 := sqb B0 hb; replace HB := sqs HB hb; clear hb hbox hg) | ((with_reducible refine gate_dst (N := 4) rfl ?_); refine sqx 4 #[.int .i64 0, .int .i64 0, .int .i64 0, .int .i64 0] 30 ?_; intro gb2 hg w6 hbox hb; have B2 := Aside0.mk hbox; have GW2 := sqg HB hg; have N0_2 := sqn B0 hg; have N2_0 := sqm B0 hg; have N1_2 := sqn B1 hg; have N2_1 := sqm B1 hg; refine sqM2 B0 B1 hb ?_; clear B0 B1; intro B0 B1; replace HB := sqs HB hb; clear hb hbox hg))
 repeat (go_quiet (first | ((with_reducible refine gate_dst (N := 2) rfl ?_); refine sqx 2 #[.int .i64 a0_0, .int .i64 a0_1] 24 ?_; intro gb0 hg w4 hbox hb; have B0 := Aside0.mk hbox; have GW0 := sqg HB hg; replace HB := sqs HB hb; clear hb hbox hg) | ((with_reducible refine gate_dst (N := 3) rfl ?_); refine sqx 3 #[.int .i64 a1_0, .int .i64 a1_1] 26 ?_; intro gb1 hg w5 hbox hb; have B1 := Aside0.mk hbox; have GW1 := sqg HB hg; have N0_1 := sqn B0 hg; have N1_0 := sqm B0 hg; replace B0 := sqb B0 hb; replace HB := sqs HB hb; clear hb hbox hg) | ((with_reducible refine gate_dst (N := 4) rfl ?_); refine sqx 4 #[.int .i64 0, .int .i64 0, .int .i64 0, .int .i64 0] 30 ?_; intro gb2 hg w6 hbox hb; have B2 := Aside0.mk hbox; have GW2 := sqg HB hg; have N0_2 := sqn B0 hg; have N2_0 := sqm B0 hg; have N1_2 := sqn B1 hg; have N2_1 := sqm B1 hg; refine sqM2 B0 B1 hb ?_; clear B0 B1; intro B0 B1; replace HB := sqs HB hb; clear hb hbox hg)); go_upto_region 1 with (first | ((with_reducible refine gate_dst (N := 2) rfl ?_); refine sqx 2 #[.int .i64 a0_0, .int .i64 a0_1] 24 ?_; intro gb0 hg w4 hbox hb; have B0 := Aside0.mk hbox; have GW0 := sqg HB hg; replace HB := sqs HB hb; clear hb hbox hg) | ((with_reducible refine gate_dst (N := 3) rfl ?_); refine sqx 3 #[.int .i64 a1_0, .int .i64 a1_1] 26 ?_; intro gb1 hg w5 hbox hb; have B1 := Aside0.mk hbox; have GW1 := sqg HB hg; have N0_1 := sqn B0 hg; have N1_0 := sqm B0 hg; replace B0 := sqb B0 hb; replace HB := sqs HB hb; clear hb hbox hg) | ((with_reducible refine gate_dst (N := 4) rfl ?_); refine sqx 4 #[.int .i64 0, .int .i64 0, .int .i64 0, .int .i64 0] 30 ?_; intro gb2 hg w6 hbox hb; have B2 := Aside0.mk hbox; have GW2 := sqg HB hg; have N0_2 := sqn B0 hg; have N2_0 := sqm B0 hg; have N1_2 := sqn B1 hg; have N2_1 := sqm B1 hg; refine sqM2 B0 B1 hb ?_; clear B0 B1; intro B0 B1; replace HB := sqs HB hb; clear hb hbox hg)))
 (try simp only [Act.put, List.setIfInBounds_toArray, List.set_cons_zero, List.set_cons_succ])
 go_cut [18] (fun v18 wc => ∃ (kq : Nat) (x0 : Bool), v18 = .bool x0 ∧ Aside0 (impl_ValMake.j0 kq x0 a0_0 a0_1 a1_0 a1_1 = some (r1, r2, r3, r4)) ∧ Aside0 (kq ≤ k) ∧ Aside0 (wc.heap[gb0]? = some (.cells #[.int .i64 a0_0, .int .i64 a0_1] 24 (0, 0))) ∧ Aside0 (wc.heap[gb1]? = some (.cells #[.int .i64 a1_0, .int .i64 a1_1] 26 (0, 0))) ∧ Aside0 (wc.heap[gb2]? = some (.cells #[.int .i64 0, .int .i64 0, .int .i64 0, .int .i64 0] 30 (0, 0))) ∧ Aside0 (Below w.heap.size w wc))
 case first =>
  have H := HC3.out; clear HC3; replace H := sqbi H; obtain ⟨t0, A7, H⟩ := H; (try dsimp only at H); rcases sqI (t0 = true) with c8 | c8
  ·replace c8 := Bool.eq_false_iff.mpr c8; subst c8; rw [if_neg (show ¬ (false = true) by decide)] at H; have H' := Aside0.mk H; clear H; obtain ⟨hnb28, hnc28, hnb29, hnc29⟩ := sqN2 N0_1 N0_2; obtain ⟨hcz30_0, hcz30_1, hfz30_0, hfz30_1⟩ := sqc2 B0; go_wp2_with (first | (go_at_call 76; (with_reducible refine (impl_RangeOk.calls a0_0 a0_1 false _ A7.out).mono ?_); rintro e w31 ⟨rfl, hb⟩; refine sqM3 B0 B1 B2 hb ?_; clear B0 B1 B2; intro B0 B1 B2; replace HB := sqs HB hb; (try clear hb)))
   repeat (go_quiet (first | (go_at_call 76; (with_reducible refine (impl_RangeOk.calls a0_0 a0_1 false _ A7.out).mono ?_); rintro e w31 ⟨rfl, hb⟩; refine sqM3 B0 B1 B2 hb ?_; clear B0 B1 B2; intro B0 B1 B2; replace HB := sqs HB hb; (try clear hb))); try go_wp2_with (first | (go_at_call 76; (with_reducible refine (impl_RangeOk.calls a0_0 a0_1 false _ A7.out).mono ?_); rintro e w31 ⟨rfl, hb⟩; refine sqM3 B0 B1 B2 hb ?_; clear B0 B1 B2; intro B0 B1 B2; replace HB := sqs HB hb; (try clear hb))))
   go_meet
   case rel => exact ⟨_, (true), (by first | rfl | (simp; done) | (simp [*]; done)), H', ⟨by first | omega | exact Nat.le_refl _⟩, sqk B0, sqk B1, sqk B2, sqh HB⟩
  subst c8; rw [if_pos rfl] at H; replace H := sqbi H; obtain ⟨t1, A9, H⟩ := H; (try dsimp only at H); rcases sqI (t1 = true) with c10 | c10
  ·replace c10 := Bool.eq_false_iff.mpr c10; subst c10; rw [if_neg (show ¬ (false = true) by decide)] at H; have H' := Aside0.mk H; clear H; obtain ⟨hnb21, hnc21, hnb22, hnc22⟩ := sqN2 N0_1 N0_2; obtain ⟨hcz23_0, hcz23_1, hfz23_0, hfz23_1⟩ := sqc2 B0; go_wp2_with (first | (go_at_call 76; (with_reducible refine (impl_RangeOk.calls a0_0 a0_1 true _ A7.out).mono ?_); rintro e w24 ⟨rfl, hb⟩; refine sqM3 B0 B1 B2 hb ?_; clear B0 B1 B2; intro B0 B1 B2; replace HB := sqs HB hb; (try clear hb); obtain ⟨hnb25, hnc25⟩ := sqN1 N1_2; obtain ⟨hcz26_0, hcz26_1, hfz26_0, hfz26_1⟩ := sqc2 B1) | (go_at_call 65; (with_reducible refine (impl_RestOk.calls a1_0 a1_1 false _ A9.out).mono ?_); rintro e w27 ⟨rfl, hb⟩; refine sqM3 B0 B1 B2 hb ?_; clear B0 B1 B2; intro B0 B1 B2; replace HB := sqs HB hb; (try clear hb)))
   repeat (go_quiet (first | (go_at_call 76; (with_reducible refine (impl_RangeOk.calls a0_0 a0_1 true _ A7.out).mono ?_); rintro e w24 ⟨rfl, hb⟩; refine sqM3 B0 B1 B2 hb ?_; clear B0 B1 B2; intro B0 B1 B2; replace HB := sqs HB hb; (try clear hb); obtain ⟨hnb25, hnc25⟩ := sqN1 N1_2; obtain ⟨hcz26_0, hcz26_1, hfz26_0, hfz26_1⟩ := sqc2 B1) | (go_at_call 65; (with_reducible refine (impl_RestOk.calls a1_0 a1_1 false _ A9.out).mono ?_); rintro e w27 ⟨rfl, hb⟩; refine sqM3 B0 B1 B2 hb ?_; clear B0 B1 B2; intro B0 B1 B2; replace HB := sqs HB hb; (try clear hb))); try go_wp2_with (first | (go_at_call 76; (with_reducible refine (impl_RangeOk.calls a0_0 a0_1 true _ A7.out).mono ?_); rintro e w24 ⟨rfl, hb⟩; refine sqM3 B0 B1 B2 hb ?_; clear B0 B1 B2; intro B0 B1 B2; replace HB := sqs HB hb; (try clear hb); obtain ⟨hnb25, hnc25⟩ := sqN1 N1_2; obtain ⟨hcz26_0, hcz26_1, hfz26_0, hfz26_1⟩ := sqc2 B1) | (go_at_call 65; (with_reducible refine (impl_RestOk.calls a1_0 a1_1 false _ A9.out).mono ?_); rintro e w27 ⟨rfl, hb⟩; refine sqM3 B0 B1 B2 hb ?_; clear B0 B1 B2; intro B0 B1 B2; replace HB := sqs HB hb; (try clear hb))))
   go_meet
   case rel => exact ⟨_, (true), (by first | rfl | (simp; done) | (simp [*]; done)), H', ⟨by first | omega | exact Nat.le_refl _⟩, sqk B0, sqk B1, sqk B2, sqh HB⟩
  subst c10; rw [if_pos rfl] at H; replace H := sqbi H; obtain ⟨t2, A11, H⟩ := H; (try dsimp only at H); have H' := Aside0.mk H; clear H; obtain ⟨hnb12, hnc12, hnb13, hnc13⟩ := sqN2 N0_1 N0_2; obtain ⟨hcz14_0, hcz14_1, hfz14_0, hfz14_1⟩ := sqc2 B0; go_wp2_with (first | (go_at_call 76; (with_reducible refine (impl_RangeOk.calls a0_0 a0_1 true _ A7.out).mono ?_); rintro e w15 ⟨rfl, hb⟩; refine sqM3 B0 B1 B2 hb ?_; clear B0 B1 B2; intro B0 B1 B2; replace HB := sqs HB hb; (try clear hb); obtain ⟨hnb16, hnc16⟩ := sqN1 N1_2; obtain ⟨hcz17_0, hcz17_1, hfz17_0, hfz17_1⟩ := sqc2 B1) | (go_at_call 65; (with_reducible refine (impl_RestOk.calls a1_0 a1_1 true _ A9.out).mono ?_); rintro e w18 ⟨rfl, hb⟩; refine sqM3 B0 B1 B2 hb ?_; clear B0 B1 B2; intro B0 B1 B2; replace HB := sqs HB hb; (try clear hb); obtain ⟨hcz19_0, hcz19_1, hfz19_0, hfz19_1⟩ := sqc2 B0) | (go_at_call 95; (with_reducible refine (impl_Range_empty.calls a0_0 a0_1 t2 _ A11.out).mono ?_); rintro e w20 ⟨rfl, hb⟩; refine sqM3 B0 B1 B2 hb ?_; clear B0 B1 B2; intro B0 B1 B2; replace HB := sqs HB hb; (try clear hb)))
  repeat (go_quiet (first | (go_at_call 76; (with_reducible refine (impl_RangeOk.calls a0_0 a0_1 true _ A7.out).mono ?_); rintro e w15 ⟨rfl, hb⟩; refine sqM3 B0 B1 B2 hb ?_; clear B0 B1 B2; intro B0 B1 B2; replace HB := sqs HB hb; (try clear hb); obtain ⟨hnb16, hnc16⟩ := sqN1 N1_2; obtain ⟨hcz17_0, hcz17_1, hfz17_0, hfz17_1⟩ := sqc2 B1) | (go_at_call 65; (with_reducible refine (impl_RestOk.calls a1_0 a1_1 true _ A9.out).mono ?_); rintro e w18 ⟨rfl, hb⟩; refine sqM3 B0 B1 B2 hb ?_; clear B0 B1 B2; intro B0 B1 B2; replace HB := sqs HB hb; (try clear hb); obtain ⟨hcz19_0, hcz19_1, hfz19_0, hfz19_1⟩ := sqc2 B0) | (go_at_call 95; (with_reducible refine (impl_Range_empty.calls a0_0 a0_1 t2 _ A11.out).mono ?_); rintro e w20 ⟨rfl, hb⟩; refine sqM3 B0 B1 B2 hb ?_; clear B0 B1 B2; intro B0 B1 B2; replace HB := sqs HB hb; (try clear hb))); try go_wp2_with (first | (go_at_call 76; (with_reducible refine (impl_RangeOk.calls a0_0 a0_1 true _ A7.out).mono ?_); rintro e w15 ⟨rfl, hb⟩; refine sqM3 B0 B1 B2 hb ?_; clear B0 B1 B2; intro B0 B1 B2; replace HB := sqs HB hb; (try clear hb); obtain ⟨hnb16, hnc16⟩ := sqN1 N1_2; obtain ⟨hcz17_0, hcz17_1, hfz17_0, hfz17_1⟩ := sqc2 B1) | (go_at_call 65; (with_reducible refine (impl_RestOk.calls a1_0 a1_1 true _ A9.out).mono ?_); rintro e w18 ⟨rfl, hb⟩; refine sqM3 B0 B1 B2 hb ?_; clear B0 B1 B2; intro B0 B1 B2; replace HB := sqs HB hb; (try clear hb); obtain ⟨hcz19_0, hcz19_1, hfz19_0, hfz19_1⟩ := sqc2 B0) | (go_at_call 95; (with_reducible refine (impl_Range_empty.calls a0_0 a0_1 t2 _ A11.out).mono ?_); rintro e w20 ⟨rfl, hb⟩; refine sqM3 B0 B1 B2 hb ?_; clear B0 B1 B2; intro B0 B1 B2; replace HB := sqs HB hb; (try clear hb))))
  go_meet
  case rel => exact ⟨_, (t2), (by first | rfl | (simp; done) | (simp [*]; done)), H', ⟨by first | omega | exact Nat.le_refl _⟩, sqk B0, sqk B1, sqk B2, sqh HB⟩
 case rest =>
  clear HC3; obtain ⟨kq, x0, rfl, HA, HJ2, B0, B1, B2, HB⟩ := hcut; cases kq with
  | zero => exact absurd HA.out (by simp [impl_ValMake.j0])
  | succ kj2 =>
   have H := HA.out; clear HA; simp only [impl_ValMake.j0] at H
   by_cases c32 : x0 = true
   ·subst c32; rw [if_pos rfl] at H; replace H := sqbi H; obtain ⟨⟨t3, t4, t5, t6⟩, A33, H⟩ := H; (try dsimp only at H); simp only [Option.some.injEq, Prod.mk.injEq] at H; obtain ⟨rfl, rfl, rfl, rfl⟩ := H; go_wp2_with (first | (go_at_call 96; (with_reducible refine (impl_valNone.calls  t3 t4 t5 t6 _ A33.out).mono ?_); rintro e w34 ⟨rfl, hb⟩; refine sqM3 B0 B1 B2 hb ?_; clear B0 B1 B2; intro B0 B1 B2; replace HB := sqs HB hb; (try clear hb); obtain ⟨hnb35, hnc35, hnb36, hnc36⟩ := sqN2 N2_0 N2_1; obtain ⟨hcz37_0, hcz37_1, hcz37_2, hcz37_3, hfz37_0, hfz37_1, hfz37_2, hfz37_3⟩ := sqc4 B2))
    repeat (go_quiet (first | (go_at_call 96; (with_reducible refine (impl_valNone.calls  t3 t4 t5 t6 _ A33.out).mono ?_); rintro e w34 ⟨rfl, hb⟩; refine sqM3 B0 B1 B2 hb ?_; clear B0 B1 B2; intro B0 B1 B2; replace HB := sqs HB hb; (try clear hb); obtain ⟨hnb35, hnc35, hnb36, hnc36⟩ := sqN2 N2_0 N2_1; obtain ⟨hcz37_0, hcz37_1, hcz37_2, hcz37_3, hfz37_0, hfz37_1, hfz37_2, hfz37_3⟩ := sqc4 B2)); try go_wp2_with (first | (go_at_call 96; (with_reducible refine (impl_valNone.calls  t3 t4 t5 t6 _ A33.out).mono ?_); rintro e w34 ⟨rfl, hb⟩; refine sqM3 B0 B1 B2 hb ?_; clear B0 B1 B2; intro B0 B1 B2; replace HB := sqs HB hb; (try clear hb); obtain ⟨hnb35, hnc35, hnb36, hnc36⟩ := sqN2 N2_0 N2_1; obtain ⟨hcz37_0, hcz37_1, hcz37_2, hcz37_3, hfz37_0, hfz37_1, hfz37_2, hfz37_3⟩ := sqc4 B2)))
    refine bodyPost_ret (results_cell_row rfl _ _ gb2 30 #[.int .i64 t3, .int .i64 t4, .int .i64 t5, .int .i64 t6] (0, 0) _ rfl (sqP B2) Try.underlying30 rfl (by kernel_rfl)) rfl ?_; exact sqe HB
   replace c32 := Bool.eq_false_iff.mpr c32; subst c32; rw [if_neg (show ¬ (false = true) by decide)] at H; replace H := sqj H; rcases H with ⟨c38, H⟩ | ⟨c38, H⟩
   ·have c38b0 : (a1_0 == 0) = true := beq_iff_eq.mpr c38; have c38b1 : (a1_0 != 0) = false := bne_eq_false_iff_eq.mpr c38; clear c38; replace H := sqbi H; obtain ⟨t7, A39, H⟩ := H; (try dsimp only at H); rcases sqI (t7 = true) with c40 | c40
    ·replace c40 := Bool.eq_false_iff.mpr c40; subst c40; rw [if_neg (show ¬ (false = true) by decide)] at H; replace H := sqbi H; obtain ⟨⟨t8, t9, t10, t11⟩, A51, H⟩ := H; (try dsimp only at H); simp only [Option.some.injEq, Prod.mk.injEq] at H; obtain ⟨rfl, rfl, rfl, rfl⟩ := H; obtain ⟨hnb52, hnc52, hnb53, hnc53⟩ := sqN2 N1_0 N1_2; obtain ⟨hcz54_0, hcz54_1, hfz54_0, hfz54_1⟩ := sqc2 B1; obtain ⟨hnb55, hnc55⟩ := sqN1 N0_2; obtain ⟨hcz56_0, hcz56_1, hfz56_0, hfz56_1⟩ := sqc2 B0; go_wp2_with (first | (go_at_call 48; (with_reducible refine (impl_RangeHas.calls a0_0 a0_1 a1_1 false _ A39.out).mono ?_); rintro e w57 ⟨rfl, hb⟩; refine sqM3 B0 B1 B2 hb ?_; clear B0 B1 B2; intro B0 B1 B2; replace HB := sqs HB hb; (try clear hb)) | (go_at_call 96; (with_reducible refine (impl_valNone.calls  t8 t9 t10 t11 _ A51.out).mono ?_); rintro e w58 ⟨rfl, hb⟩; refine sqM3 B0 B1 B2 hb ?_; clear B0 B1 B2; intro B0 B1 B2; replace HB := sqs HB hb; (try clear hb); obtain ⟨hcz59_0, hcz59_1, hcz59_2, hcz59_3, hfz59_0, hfz59_1, hfz59_2, hfz59_3⟩ := sqc4 B2))
     repeat (go_quiet (first | (go_at_call 48; (with_reducible refine (impl_RangeHas.calls a0_0 a0_1 a1_1 false _ A39.out).mono ?_); rintro e w57 ⟨rfl, hb⟩; refine sqM3 B0 B1 B2 hb ?_; clear B0 B1 B2; intro B0 B1 B2; replace HB := sqs HB hb; (try clear hb)) | (go_at_call 96; (with_reducible refine (impl_valNone.calls  t8 t9 t10 t11 _ A51.out).mono ?_); rintro e w58 ⟨rfl, hb⟩; refine sqM3 B0 B1 B2 hb ?_; clear B0 B1 B2; intro B0 B1 B2; replace HB := sqs HB hb; (try clear hb); obtain ⟨hcz59_0, hcz59_1, hcz59_2, hcz59_3, hfz59_0, hfz59_1, hfz59_2, hfz59_3⟩ := sqc4 B2)); try go_wp2_with (first | (go_at_call 48; (with_reducible refine (impl_RangeHas.calls a0_0 a0_1 a1_1 false _ A39.out).mono ?_); rintro e w57 ⟨rfl, hb⟩; refine sqM3 B0 B1 B2 hb ?_; clear B0 B1 B2; intro B0 B1 B2; replace HB := sqs HB hb; (try clear hb)) | (go_at_call 96; (with_reducible refine (impl_valNone.calls  t8 t9 t10 t11 _ A51.out).mono ?_); rintro e w58 ⟨rfl, hb⟩; refine sqM3 B0 B1 B2 hb ?_; clear B0 B1 B2; intro B0 B1 B2; replace HB := sqs HB hb; (try clear hb); obtain ⟨hcz59_0, hcz59_1, hcz59_2, hcz59_3, hfz59_0, hfz59_1, hfz59_2, hfz59_3⟩ := sqc4 B2)))
     refine bodyPost_ret (results_cell_row rfl _ _ gb2 30 #[.int .i64 t8, .int .i64 t9, .int .i64 t10, .int .i64 t11] (0, 0) _ rfl (sqP B2) Try.underlying30 rfl (by kernel_rfl)) rfl ?_; exact sqe HB
    subst c40; rw [if_pos rfl] at H; replace H := sqbi H; obtain ⟨⟨t12, t13, t14, t15⟩, A41, H⟩ := H; (try dsimp only at H); simp only [Option.some.injEq, Prod.mk.injEq] at H; obtain ⟨rfl, rfl, rfl, rfl⟩ := H; obtain ⟨hnb42, hnc42, hnb43, hnc43⟩ := sqN2 N1_0 N1_2; obtain ⟨hcz44_0, hcz44_1, hfz44_0, hfz44_1⟩ := sqc2 B1; obtain ⟨hnb45, hnc45⟩ := sqN1 N0_2; obtain ⟨hcz46_0, hcz46_1, hfz46_0, hfz46_1⟩ := sqc2 B0; go_wp2_with (first | (go_at_call 48; (with_reducible refine (impl_RangeHas.calls a0_0 a0_1 a1_1 true _ A39.out).mono ?_); rintro e w47 ⟨rfl, hb⟩; refine sqM3 B0 B1 B2 hb ?_; clear B0 B1 B2; intro B0 B1 B2; replace HB := sqs HB hb; (try clear hb); obtain ⟨hcz48_0, hcz48_1, hfz48_0, hfz48_1⟩ := sqc2 B1) | (go_at_call 97; (with_reducible refine (impl_valOne.calls a1_1 t12 t13 t14 t15 _ A41.out).mono ?_); rintro e w49 ⟨rfl, hb⟩; refine sqM3 B0 B1 B2 hb ?_; clear B0 B1 B2; intro B0 B1 B2; replace HB := sqs HB hb; (try clear hb); obtain ⟨hcz50_0, hcz50_1, hcz50_2, hcz50_3, hfz50_0, hfz50_1, hfz50_2, hfz50_3⟩ := sqc4 B2))
    repeat (go_quiet (first | (go_at_call 48; (with_reducible refine (impl_RangeHas.calls a0_0 a0_1 a1_1 true _ A39.out).mono ?_); rintro e w47 ⟨rfl, hb⟩; refine sqM3 B0 B1 B2 hb ?_; clear B0 B1 B2; intro B0 B1 B2; replace HB := sqs HB hb; (try clear hb); obtain ⟨hcz48_0, hcz48_1, hfz48_0, hfz48_1⟩ := sqc2 B1) | (go_at_call 97; (with_reducible refine (impl_valOne.calls a1_1 t12 t13 t14 t15 _ A41.out).mono ?_); rintro e w49 ⟨rfl, hb⟩; refine sqM3 B0 B1 B2 hb ?_; clear B0 B1 B2; intro B0 B1 B2; replace HB := sqs HB hb; (try clear hb); obtain ⟨hcz50_0, hcz50_1, hcz50_2, hcz50_3, hfz50_0, hfz50_1, hfz50_2, hfz50_3⟩ := sqc4 B2)); try go_wp2_with (first | (go_at_call 48; (with_reducible refine (impl_RangeHas.calls a0_0 a0_1 a1_1 true _ A39.out).mono ?_); rintro e w47 ⟨rfl, hb⟩; refine sqM3 B0 B1 B2 hb ?_; clear B0 B1 B2; intro B0 B1 B2; replace HB := sqs HB hb; (try clear hb); obtain ⟨hcz48_0, hcz48_1, hfz48_0, hfz48_1⟩ := sqc2 B1) | (go_at_call 97; (with_reducible refine (impl_valOne.calls a1_1 t12 t13 t14 t15 _ A41.out).mono ?_); rintro e w49 ⟨rfl, hb⟩; refine sqM3 B0 B1 B2 hb ?_; clear B0 B1 B2; intro B0 B1 B2; replace HB := sqs HB hb; (try clear hb); obtain ⟨hcz50_0, hcz50_1, hcz50_2, hcz50_3, hfz50_0, hfz50_1, hfz50_2, hfz50_3⟩ := sqc4 B2)))
    refine bodyPost_ret (results_cell_row rfl _ _ gb2 30 #[.int .i64 t12, .int .i64 t13, .int .i64 t14, .int .i64 t15] (0, 0) _ rfl (sqP B2) Try.underlying30 rfl (by kernel_rfl)) rfl ?_; exact sqe HB
   have c38b0 : (a1_0 == 0) = false := beq_eq_false_iff_ne.mpr c38; have c38b1 : (a1_0 != 0) = true := bne_iff_ne.mpr c38; replace H := sqbi H; obtain ⟨t16, A60, H⟩ := H; (try dsimp only at H); replace H := sqbi H; obtain ⟨t17, A61, H⟩ := H; (try dsimp only at H); replace H := sqj H; rcases H with ⟨c62, H⟩ | ⟨c62, H⟩
   ·have c62b0 : decide ((wrap64 (a0_1 - t17)) < (wrap64 (a0_0 + t16))) = true := decide_eq_true c62; clear c62; replace H := sqbi H; obtain ⟨⟨t18, t19, t20, t21⟩, A63, H⟩ := H; (try dsimp only at H); simp only [Option.some.injEq, Prod.mk.injEq] at H; obtain ⟨rfl, rfl, rfl, rfl⟩ := H; obtain ⟨hnb64, hnc64, hnb65, hnc65⟩ := sqN2 N1_0 N1_2; obtain ⟨hcz66_0, hcz66_1, hfz66_0, hfz66_1⟩ := sqc2 B1; obtain ⟨hnb67, hnc67⟩ := sqN1 N0_2; obtain ⟨hcz68_0, hcz68_1, hfz68_0, hfz68_1⟩ := sqc2 B0; go_wp2_with (first | (go_at_call 98; (with_reducible refine (impl_restMod.calls (wrap64 (a1_1 - a0_0)) a1_0 t16 _ A60.out).mono ?_); rintro e w' ⟨rfl, ⟨nd, rfl⟩⟩; (try first | exact ⟨rfl, _, World.drewN_drewN _ _ _⟩ | exact ⟨rfl, _, sqda⟩)) | (go_at_call 98; (with_reducible refine (impl_restMod.calls (wrap64 (a0_1 - a1_1)) a1_0 t17 _ A61.out).mono ?_); rintro e w' ⟨rfl, ⟨nd, rfl⟩⟩; (try first | exact ⟨rfl, _, World.drewN_drewN _ _ _⟩ | exact ⟨rfl, _, sqda⟩)) | (go_at_call 96; (with_reducible refine (impl_valNone.calls  t18 t19 t20 t21 _ A63.out).mono ?_); rintro e w69 ⟨rfl, hb⟩; refine sqM3 B0 B1 B2 hb ?_; clear B0 B1 B2; intro B0 B1 B2; replace HB := sqs HB hb; (try clear hb); obtain ⟨hcz70_0, hcz70_1, hcz70_2, hcz70_3, hfz70_0, hfz70_1, hfz70_2, hfz70_3⟩ := sqc4 B2))
    repeat (go_quiet (first | (go_at_call 98; (with_reducible refine (impl_restMod.calls (wrap64 (a1_1 - a0_0)) a1_0 t16 _ A60.out).mono ?_); rintro e w' ⟨rfl, ⟨nd, rfl⟩⟩; (try first | exact ⟨rfl, _, World.drewN_drewN _ _ _⟩ | exact ⟨rfl, _, sqda⟩)) | (go_at_call 98; (with_reducible refine (impl_restMod.calls (wrap64 (a0_1 - a1_1)) a1_0 t17 _ A61.out).mono ?_); rintro e w' ⟨rfl, ⟨nd, rfl⟩⟩; (try first | exact ⟨rfl, _, World.drewN_drewN _ _ _⟩ | exact ⟨rfl, _, sqda⟩)) | (go_at_call 96; (with_reducible refine (impl_valNone.calls  t18 t19 t20 t21 _ A63.out).mono ?_); rintro e w69 ⟨rfl, hb⟩; refine sqM3 B0 B1 B2 hb ?_; clear B0 B1 B2; intro B0 B1 B2; replace HB := sqs HB hb; (try clear hb); obtain ⟨hcz70_0, hcz70_1, hcz70_2, hcz70_3, hfz70_0, hfz70_1, hfz70_2, hfz70_3⟩ := sqc4 B2)); try go_wp2_with (first | (go_at_call 98; (with_reducible refine (impl_restMod.calls (wrap64 (a1_1 - a0_0)) a1_0 t16 _ A60.out).mono ?_); rintro e w' ⟨rfl, ⟨nd, rfl⟩⟩; (try first | exact ⟨rfl, _, World.drewN_drewN _ _ _⟩ | exact ⟨rfl, _, sqda⟩)) | (go_at_call 98; (with_reducible refine (impl_restMod.calls (wrap64 (a0_1 - a1_1)) a1_0 t17 _ A61.out).mono ?_); rintro e w' ⟨rfl, ⟨nd, rfl⟩⟩; (try first | exact ⟨rfl, _, World.drewN_drewN _ _ _⟩ | exact ⟨rfl, _, sqda⟩)) | (go_at_call 96; (with_reducible refine (impl_valNone.calls  t18 t19 t20 t21 _ A63.out).mono ?_); rintro e w69 ⟨rfl, hb⟩; refine sqM3 B0 B1 B2 hb ?_; clear B0 B1 B2; intro B0 B1 B2; replace HB := sqs HB hb; (try clear hb); obtain ⟨hcz70_0, hcz70_1, hcz70_2, hcz70_3, hfz70_0, hfz70_1, hfz70_2, hfz70_3⟩ := sqc4 B2)))
    refine bodyPost_ret (results_cell_row rfl _ _ gb2 30 #[.int .i64 t18, .int .i64 t19, .int .i64 t20, .int .i64 t21] (0, 0) _ rfl (sqP B2) Try.underlying30 rfl (by kernel_rfl)) rfl ?_; exact sqe HB
   have c62b0 : decide ((wrap64 (a0_1 - t17)) < (wrap64 (a0_0 + t16))) = false := decide_eq_false c62; clear c62; replace H := sqi H; rcases H with ⟨c71, H⟩ | ⟨c71, H⟩
   ·have c71b0 : ((wrap64 (a0_0 + t16)) == (wrap64 (a0_1 - t17))) = false := beq_eq_false_iff_ne.mpr c71; have c71b1 : ((wrap64 (a0_0 + t16)) != (wrap64 (a0_1 - t17))) = true := bne_iff_ne.mpr c71; simp only [Option.some.injEq, Prod.mk.injEq] at H; obtain ⟨rfl, rfl, rfl, rfl⟩ := H; obtain ⟨hnb80, hnc80, hnb81, hnc81⟩ := sqN2 N1_0 N1_2; obtain ⟨hcz82_0, hcz82_1, hfz82_0, hfz82_1⟩ := sqc2 B1; obtain ⟨hnb83, hnc83⟩ := sqN1 N0_2; obtain ⟨hcz84_0, hcz84_1, hfz84_0, hfz84_1⟩ := sqc2 B0; obtain ⟨hcz85_0, hcz85_1, hcz85_2, hcz85_3, hfz85_0, hfz85_1, hfz85_2, hfz85_3⟩ := sqc4 B2; go_wp2_with (first | (go_at_call 98; (with_reducible refine (impl_restMod.calls (wrap64 (a1_1 - a0_0)) a1_0 t16 _ A60.out).mono ?_); rintro e w' ⟨rfl, ⟨nd, rfl⟩⟩; (try first | exact ⟨rfl, _, World.drewN_drewN _ _ _⟩ | exact ⟨rfl, _, sqda⟩)) | (go_at_call 98; (with_reducible refine (impl_restMod.calls (wrap64 (a0_1 - a1_1)) a1_0 t17 _ A61.out).mono ?_); rintro e w' ⟨rfl, ⟨nd, rfl⟩⟩; (try first | exact ⟨rfl, _, World.drewN_drewN _ _ _⟩ | exact ⟨rfl, _, sqda⟩); (try (obtain ⟨hcz85_0, hcz85_1, hcz85_2, hcz85_3, hfz85_0, hfz85_1, hfz85_2, hfz85_3⟩ := sqc4 B2))))
    repeat (go_quiet (first | (go_at_call 98; (with_reducible refine (impl_restMod.calls (wrap64 (a1_1 - a0_0)) a1_0 t16 _ A60.out).mono ?_); rintro e w' ⟨rfl, ⟨nd, rfl⟩⟩; (try first | exact ⟨rfl, _, World.drewN_drewN _ _ _⟩ | exact ⟨rfl, _, sqda⟩)) | (go_at_call 98; (with_reducible refine (impl_restMod.calls (wrap64 (a0_1 - a1_1)) a1_0 t17 _ A61.out).mono ?_); rintro e w' ⟨rfl, ⟨nd, rfl⟩⟩; (try first | exact ⟨rfl, _, World.drewN_drewN _ _ _⟩ | exact ⟨rfl, _, sqda⟩); (try (obtain ⟨hcz85_0, hcz85_1, hcz85_2, hcz85_3, hfz85_0, hfz85_1, hfz85_2, hfz85_3⟩ := sqc4 B2)))); try go_wp2_with (first | (go_at_call 98; (with_reducible refine (impl_restMod.calls (wrap64 (a1_1 - a0_0)) a1_0 t16 _ A60.out).mono ?_); rintro e w' ⟨rfl, ⟨nd, rfl⟩⟩; (try first | exact ⟨rfl, _, World.drewN_drewN _ _ _⟩ | exact ⟨rfl, _, sqda⟩)) | (go_at_call 98; (with_reducible refine (impl_restMod.calls (wrap64 (a0_1 - a1_1)) a1_0 t17 _ A61.out).mono ?_); rintro e w' ⟨rfl, ⟨nd, rfl⟩⟩; (try first | exact ⟨rfl, _, World.drewN_drewN _ _ _⟩ | exact ⟨rfl, _, sqda⟩); (try (obtain ⟨hcz85_0, hcz85_1, hcz85_2, hcz85_3, hfz85_0, hfz85_1, hfz85_2, hfz85_3⟩ := sqc4 B2)))))
    refine bodyPost_ret (results_cell_row rfl _ _ gb2 30 #[.int .i64 (wrap64 (a0_0 + t16)), .int .i64 (wrap64 (a0_1 - t17)), .int .i64 a1_0, .int .i64 a1_1] (0, 0) _ rfl (sqP B2) Try.underlying30 rfl (by kernel_rfl)) rfl ?_; exact sqe HB
   have c71b0 : ((wrap64 (a0_0 + t16)) == (wrap64 (a0_1 - t17))) = true := beq_iff_eq.mpr c71; have c71b1 : ((wrap64 (a0_0 + t16)) != (wrap64 (a0_1 - t17))) = false := bne_eq_false_iff_eq.mpr c71; clear c71; replace H := sqbi H; obtain ⟨⟨t22, t23, t24, t25⟩, A72, H⟩ := H; (try dsimp only at H); simp only [Option.some.injEq, Prod.mk.injEq] at H; obtain ⟨rfl, rfl, rfl, rfl⟩ := H; obtain ⟨hnb73, hnc73, hnb74, hnc74⟩ := sqN2 N1_0 N1_2; obtain ⟨hcz75_0, hcz75_1, hfz75_0, hfz75_1⟩ := sqc2 B1; obtain ⟨hnb76, hnc76⟩ := sqN1 N0_2; obtain ⟨hcz77_0, hcz77_1, hfz77_0, hfz77_1⟩ := sqc2 B0; go_wp2_with (first | (go_at_call 98; (with_reducible refine (impl_restMod.calls (wrap64 (a1_1 - a0_0)) a1_0 t16 _ A60.out).mono ?_); rintro e w' ⟨rfl, ⟨nd, rfl⟩⟩; (try first | exact ⟨rfl, _, World.drewN_drewN _ _ _⟩ | exact ⟨rfl, _, sqda⟩)) | (go_at_call 98; (with_reducible refine (impl_restMod.calls (wrap64 (a0_1 - a1_1)) a1_0 t17 _ A61.out).mono ?_); rintro e w' ⟨rfl, ⟨nd, rfl⟩⟩; (try first | exact ⟨rfl, _, World.drewN_drewN _ _ _⟩ | exact ⟨rfl, _, sqda⟩)) | (go_at_call 97; (with_reducible refine (impl_valOne.calls (wrap64 (a0_0 + t16)) t22 t23 t24 t25 _ A72.out).mono ?_); rintro e w78 ⟨rfl, hb⟩; refine sqM3 B0 B1 B2 hb ?_; clear B0 B1 B2; intro B0 B1 B2; replace HB := sqs HB hb; (try clear hb); obtain ⟨hcz79_0, hcz79_1, hcz79_2, hcz79_3, hfz79_0, hfz79_1, hfz79_2, hfz79_3⟩ := sqc4 B2))
   repeat (go_quiet (first | (go_at_call 98; (with_reducible refine (impl_restMod.calls (wrap64 (a1_1 - a0_0)) a1_0 t16 _ A60.out).mono ?_); rintro e w' ⟨rfl, ⟨nd, rfl⟩⟩; (try first | exact ⟨rfl, _, World.drewN_drewN _ _ _⟩ | exact ⟨rfl, _, sqda⟩)) | (go_at_call 98; (with_reducible refine (impl_restMod.calls (wrap64 (a0_1 - a1_1)) a1_0 t17 _ A61.out).mono ?_); rintro e w' ⟨rfl, ⟨nd, rfl⟩⟩; (try first | exact ⟨rfl, _, World.drewN_drewN _ _ _⟩ | exact ⟨rfl, _, sqda⟩)) | (go_at_call 97; (with_reducible refine (impl_valOne.calls (wrap64 (a0_0 + t16)) t22 t23 t24 t25 _ A72.out).mono ?_); rintro e w78 ⟨rfl, hb⟩; refine sqM3 B0 B1 B2 hb ?_; clear B0 B1 B2; intro B0 B1 B2; replace HB := sqs HB hb; (try clear hb); obtain ⟨hcz79_0, hcz79_1, hcz79_2, hcz79_3, hfz79_0, hfz79_1, hfz79_2, hfz79_3⟩ := sqc4 B2)); try go_wp2_with (first | (go_at_call 98; (with_reducible refine (impl_restMod.calls (wrap64 (a1_1 - a0_0)) a1_0 t16 _ A60.out).mono ?_); rintro e w' ⟨rfl, ⟨nd, rfl⟩⟩; (try first | exact ⟨rfl, _, World.drewN_drewN _ _ _⟩ | exact ⟨rfl, _, sqda⟩)) | (go_at_call 98; (with_reducible refine (impl_restMod.calls (wrap64 (a0_1 - a1_1)) a1_0 t17 _ A61.out).mono ?_); rintro e w' ⟨rfl, ⟨nd, rfl⟩⟩; (try first | exact ⟨rfl, _, World.drewN_drewN _ _ _⟩ | exact ⟨rfl, _, sqda⟩)) | (go_at_call 97; (with_reducible refine (impl_valOne.calls (wrap64 (a0_0 + t16)) t22 t23 t24 t25 _ A72.out).mono ?_); rintro e w78 ⟨rfl, hb⟩; refine sqM3 B0 B1 B2 hb ?_; clear B0 B1 B2; intro B0 B1 B2; replace HB := sqs HB hb; (try clear hb); obtain ⟨hcz79_0, hcz79_1, hcz79_2, hcz79_3, hfz79_0, hfz79_1, hfz79_2, hfz79_3⟩ := sqc4 B2)))
   refine bodyPost_ret (results_cell_row rfl _ _ gb2 30 #[.int .i64 t22, .int .i64 t23, .int .i64 t24, .int .i64 t25] (0, 0) _ rfl (sqP B2) Try.underlying30 rfl (by kernel_rfl)) rfl ?_; exact sqe HB

/-! ### impl_Val_span: function 103 -/
set_option maxHeartbeats 8000000 in
set_option maxRecDepth 100000 in
theorem impl_Val_span.calls (a0_0 : Int) (a0_1 : Int) (a0_2 : Int) (a0_3 : Int) (r1 : Int) (r2 : Int) (w : World) (h : impl_Val_span.f a0_0 a0_1 a0_2 a0_3 = some (r1, r2)) :
  Calls Try.prog 103 #[.agg #[.int .i64 a0_0, .int .i64 a0_1, .int .i64 a0_2, .int .i64 a0_3]] w fun e w' => e = .returned (.agg #[.int .i64 r1, .int .i64 r2]) ∧ Below w.heap.size w w' := by
 have hu30 := Try.underlying30; have hu24 := Try.underlying24; have HB := Aside0.mk (Below.refl w.heap.size w); have H := h; unfold impl_Val_span.f at H; clear h; simp only [Option.some.injEq, Prod.mk.injEq] at H; obtain ⟨rfl, rfl⟩ := H; go_enter Try.func103, Try.ntmps103; go_wp2_with (first | ((with_reducible refine gate_dst (N := 1) rfl ?_); refine sqx 1 #[.int .i64 a0_0, .int .i64 a0_1, .int .i64 a0_2, .int .i64 a0_3] 30 ?_; intro gb0 hg w2 hbox hb; have B0 := Aside0.mk hbox; have GW0 := sqg HB hg; replace HB := sqs HB hb; clear hb hbox hg) | ((with_reducible refine gate_dst (N := 2) rfl ?_); refine sqx 2 #[.int .i64 0, .int .i64 0] 24 ?_; intro gb1 hg w3 hbox hb; have B1 := Aside0.mk hbox; have GW1 := sqg HB hg; have N0_1 := sqn B0 hg; have N1_0 := sqm B0 hg; replace B0 := sqb B0 hb; replace HB := sqs HB hb; clear hb hbox hg; obtain ⟨_, _⟩ := sqN1 N0_1; obtain ⟨_, _, _, _, _, _, _, _⟩ := sqc4 B0; obtain ⟨_, _, _, _⟩ := sqc2 B1)); refine bodyPost_ret (results_cell_row rfl _ _ gb1 24 #[.int .i64 a0_0, .int .i64 a0_1] (0, 0) _ rfl (sqP B1) Try.underlying24 rfl (by kernel_rfl)) rfl ?_; exact sqe HB

/-! ### impl_Val_rest: function 104 -/
set_option maxHeartbeats 8000000 in
set_option maxRecDepth 100000 in
theorem impl_Val_rest.calls (a0_0 : Int) (a0_1 : Int) (a0_2 : Int) (a0_3 : Int) (r1 : Int) (r2 : Int) (w : World) (h : impl_Val_rest.f a0_0 a0_1 a0_2 a0_3 = some (r1, r2)) :
  Calls Try.prog 104 #[.agg #[.int .i64 a0_0, .int .i64 a0_1, .int .i64 a0_2, .int .i64 a0_3]] w fun e w' => e = .returned (.agg #[.int .i64 r1, .int .i64 r2]) ∧ Below w.heap.size w w' := by
 have hu30 := Try.underlying30; have hu26 := Try.underlying26; have HB := Aside0.mk (Below.refl w.heap.size w); have H := h; unfold impl_Val_rest.f at H; clear h; simp only [Option.some.injEq, Prod.mk.injEq] at H; obtain ⟨rfl, rfl⟩ := H; go_enter Try.func104, Try.ntmps104; go_wp2_with (first | ((with_reducible refine gate_dst (N := 1) rfl ?_); refine sqx 1 #[.int .i64 a0_0, .int .i64 a0_1, .int .i64 a0_2, .int .i64 a0_3] 30 ?_; intro gb0 hg w2 hbox hb; have B0 := Aside0.mk hbox; have GW0 := sqg HB hg; replace HB := sqs HB hb; clear hb hbox hg) | ((with_reducible refine gate_dst (N := 2) rfl ?_); refine sqx 2 #[.int .i64 0, .int .i64 0] 26 ?_; intro gb1 hg w3 hbox hb; have B1 := Aside0.mk hbox; have GW1 := sqg HB hg; have N0_1 := sqn B0 hg; have N1_0 := sqm B0 hg; replace B0 := sqb B0 hb; replace HB := sqs HB hb; clear hb hbox hg; obtain ⟨_, _⟩ := sqN1 N0_1; obtain ⟨_, _, _, _, _, _, _, _⟩ := sqc4 B0; obtain ⟨_, _, _, _⟩ := sqc2 B1)); refine bodyPost_ret (results_cell_row rfl _ _ gb1 26 #[.int .i64 a0_2, .int .i64 a0_3] (0, 0) _ rfl (sqP B1) Try.underlying26 rfl (by kernel_rfl)) rfl ?_; exact sqe HB

/-! ### impl_ValOk: function 18 -/
def impl_ValOk.T1 : Bool × List (List Nat × List Nat) := (true, [([], []), ([], []), ([1], [1]), ([], []), ([3, 2], [3]), ([2, 4, 4], [2, 4]), ([0, 5], [0, 5]), ([6, 5, 0, 1, 2, 3, 4, 5, 6], [6])])
def impl_ValOk.B1 : List Nat := [0, 0, 2, 0, 14, 30, 63, 127]
theorem impl_ValOk.tab1 : rtab .any (opsOf Try.f18 1) = impl_ValOk.T1 := by kernel_rfl
theorem impl_ValOk.bits1 : waitsOk impl_ValOk.T1.2 impl_ValOk.B1 = true := by kernel_rfl
set_option maxHeartbeats 8000000 in
set_option maxRecDepth 100000 in
theorem impl_ValOk.calls (k : Nat) (a0_0 : Int) (a0_1 : Int) (a0_2 : Int) (a0_3 : Int) (r : Bool) (w : World) (h : impl_ValOk.f k a0_0 a0_1 a0_2 a0_3 = some r) :
  Calls Try.prog 18 #[.agg #[.int .i64 a0_0, .int .i64 a0_1, .int .i64 a0_2, .int .i64 a0_3]] w fun e w' => e = .returned (.bool r) ∧ Below w.heap.size w w' := by
 have hu30 := Try.underlying30; have HB := Aside0.mk (Below.refl w.heap.size w); have H := h; unfold impl_ValOk.f at H; clear h; replace H := sqbi H; obtain ⟨⟨t0, t1⟩, A2, H⟩ := H; (try dsimp only at H); replace H := sqbi H; obtain ⟨⟨t2, t3⟩, A3, H⟩ := H; (try dsimp only at H); replace H := sqbi H; obtain ⟨⟨t4, t5, t6, t7⟩, A4, H⟩ := H; (try dsimp only at H); obtain rfl := Option.some.inj H; go_enter Try.func18, Try.ntmps18
 try go_wp2_with (first | ((with_reducible refine gate_dst (N := 1) rfl ?_); refine sqx 1 #[.int .i64 a0_0, .int .i64 a0_1, .int .i64 a0_2, .int .i64 a0_3] 30 ?_; intro gb0 hg w5 hbox hb; have B0 := Aside0.mk hbox; have GW0 := sqg HB hg; replace HB := sqs HB hb; clear hb hbox hg))
 replace B0 := sqdr B0; replace HB := sqdB HB; refine sqst 8 (fun w' => w'.cell? ⟨gb0, 0, none⟩ = some (.int .i64 a0_0) ∧ w'.cell? ⟨gb0, 1, none⟩ = some (.int .i64 a0_1) ∧ w'.cell? ⟨gb0, 2, none⟩ = some (.int .i64 a0_2) ∧ w'.cell? ⟨gb0, 3, none⟩ = some (.int .i64 a0_3)) sqz (fun hHeld => ?_); refine with_tabW impl_ValOk.tab1 impl_ValOk.bits1 (fun HT_ HW_ => ?_); generalize w5.drew = w6 at B0 HB hHeld ⊢; refine sqw HT_ HW_ 0 3 hHeld ?_; refine sqw HT_ HW_ 1 4 hHeld ?_; refine sqw HT_ HW_ 3 6 hHeld ?_; refine sqo HT_ 2 5 (fun K hK => ?_); refine sqG Try.func103 #[.agg #[.int .i64 a0_0, .int .i64 a0_1, .int .i64 a0_2, .int .i64 a0_3]] ?_; (with_reducible refine (impl_Val_span.calls a0_0 a0_1 a0_2 a0_3 t0 t1 _ A2.out).mono ?_); rintro e w7 ⟨rfl, hb⟩; refine ⟨_, rfl, ?_⟩; replace B0 := sqb B0 hb; replace HB := sqs HB hb; (try clear hb); refine hK.out _ _ sqz (fun hHeld => ?_); clear hK K; refine sqnm ?_; refine sqo HT_ 4 7 (fun K hK => ?_); refine sqG Try.func104 #[.agg #[.int .i64 a0_0, .int .i64 a0_1, .int .i64 a0_2, .int .i64 a0_3]] ?_; (with_reducible refine (impl_Val_rest.calls a0_0 a0_1 a0_2 a0_3 t2 t3 _ A3.out).mono ?_); rintro e w8 ⟨rfl, hb⟩; refine ⟨_, rfl, ?_⟩; replace B0 := sqb B0 hb; replace HB := sqs HB hb; (try clear hb); refine hK.out _ _ sqz (fun hHeld => ?_); clear hK K; refine sqnm ?_; refine sqo HT_ 5 8 (fun K hK => ?_); refine sqG Try.func16 #[.agg #[.int .i64 t0, .int .i64 t1], .agg #[.int .i64 t2, .int .i64 t3]] ?_; (with_reducible refine (impl_ValMake.calls k t0 t1 t2 t3 t4 t5 t6 t7 _ A4.out).mono ?_); rintro e w9 ⟨rfl, hb⟩; refine ⟨_, rfl, ?_⟩; replace B0 := sqb B0 hb; replace HB := sqs HB hb; (try clear hb); refine hK.out _ _ sqz (fun hHeld => ?_); clear hK K; refine sqnm ?_; refine sqp HT_ 6 9 ?_; refine sqp HT_ 7 2 ?_; refine done_ (done_of HT_.out (by kernel_rfl)) ?_
 try go_wp2
 go_ret
 exact sqe HB

/-! ### impl_RestHas: function 68 -/
set_option maxHeartbeats 8000000 in
set_option maxRecDepth 100000 in
theorem impl_RestHas.calls (k : Nat) (a0_0 : Int) (a0_1 : Int) (a1 : Int) (r : Bool) (w : World) (h : impl_RestHas.f k a0_0 a0_1 a1 = some r) :
  Calls Try.prog 68 #[.agg #[.int .i64 a0_0, .int .i64 a0_1], .int .i64 a1] w fun e w' => e = .returned (.bool r) ∧ Below w.heap.size w w' := by
 have hu26 := Try.underlying26; have HB := Aside0.mk (Below.refl w.heap.size w); have H := h; unfold impl_RestHas.f at H; clear h; have HC3 := Aside0.mk H; clear H; go_enter Try.func68, Try.ntmps68; go_upto_region 1 with (first | ((with_reducible refine gate_dst (N := 2) rfl ?_); refine sqx 2 #[.int .i64 a0_0, .int .i64 a0_1] 26 ?_; intro gb0 hg w4 hbox hb; have B0 := Aside0.mk hbox; have GW0 := sqg HB hg; replace HB := sqs HB hb; clear hb hbox hg))
 repeat (go_quiet (first | ((with_reducible refine gate_dst (N := 2) rfl ?_); refine sqx 2 #[.int .i64 a0_0, .int .i64 a0_1] 26 ?_; intro gb0 hg w4 hbox hb; have B0 := Aside0.mk hbox; have GW0 := sqg HB hg; replace HB := sqs HB hb; clear hb hbox hg)); go_upto_region 1 with (first | ((with_reducible refine gate_dst (N := 2) rfl ?_); refine sqx 2 #[.int .i64 a0_0, .int .i64 a0_1] 26 ?_; intro gb0 hg w4 hbox hb; have B0 := Aside0.mk hbox; have GW0 := sqg HB hg; replace HB := sqs HB hb; clear hb hbox hg)))
 (try simp only [Act.put, List.setIfInBounds_toArray, List.set_cons_zero, List.set_cons_succ])
 go_cut [12] (fun v12 wc => ∃ (kq : Nat) (x0 : Bool), v12 = .bool x0 ∧ Aside0 (impl_RestHas.j0 kq a1 x0 a0_0 a0_1 = some r) ∧ Aside0 (kq ≤ k) ∧ Aside0 (wc.heap[gb0]? = some (.cells #[.int .i64 a0_0, .int .i64 a0_1] 26 (0, 0))) ∧ Aside0 (Below w.heap.size w wc))
 case first =>
  have H := HC3.out; clear HC3; replace H := sqbi H; obtain ⟨t0, A5, H⟩ := H; (try dsimp only at H); rcases sqI (t0 = true) with c6 | c6
  ·replace c6 := Bool.eq_false_iff.mpr c6; subst c6; rw [if_neg (show ¬ (false = true) by decide)] at H; have H' := Aside0.mk H; clear H; obtain ⟨hcz10_0, hcz10_1, hfz10_0, hfz10_1⟩ := sqc2 B0; go_wp2_with (first | (go_at_call 65; (with_reducible refine (impl_RestOk.calls a0_0 a0_1 false _ A5.out).mono ?_); rintro e w11 ⟨rfl, hb⟩; replace B0 := sqb B0 hb; replace HB := sqs HB hb; (try clear hb)))
   repeat (go_quiet (first | (go_at_call 65; (with_reducible refine (impl_RestOk.calls a0_0 a0_1 false _ A5.out).mono ?_); rintro e w11 ⟨rfl, hb⟩; replace B0 := sqb B0 hb; replace HB := sqs HB hb; (try clear hb))); try go_wp2_with (first | (go_at_call 65; (with_reducible refine (impl_RestOk.calls a0_0 a0_1 false _ A5.out).mono ?_); rintro e w11 ⟨rfl, hb⟩; replace B0 := sqb B0 hb; replace HB := sqs HB hb; (try clear hb))))
   go_meet
   case rel => exact ⟨_, (true), (by first | rfl | (simp; done) | (simp [*]; done)), H', ⟨by first | omega | exact Nat.le_refl _⟩, sqk B0, sqh HB⟩
  subst c6; rw [if_pos rfl] at H; replace H := sqbi H; obtain ⟨t1, A7, H⟩ := H; (try dsimp only at H); have H' := Aside0.mk H; clear H; obtain ⟨hcz8_0, hcz8_1, hfz8_0, hfz8_1⟩ := sqc2 B0; go_wp2_with (first | (go_at_call 65; (with_reducible refine (impl_RestOk.calls a0_0 a0_1 true _ A5.out).mono ?_); rintro e w9 ⟨rfl, hb⟩; replace B0 := sqb B0 hb; replace HB := sqs HB hb; (try clear hb)) | (go_at_call 117; (with_reducible refine (impl_NumOk.calls a1 t1 _ A7.out).mono ?_); rintro e w' ⟨rfl, ⟨nd, rfl⟩⟩; (try first | exact ⟨rfl, _, World.drewN_drewN _ _ _⟩ | exact ⟨rfl, _, sqda⟩)))
  repeat (go_quiet (first | (go_at_call 65; (with_reducible refine (impl_RestOk.calls a0_0 a0_1 true _ A5.out).mono ?_); rintro e w9 ⟨rfl, hb⟩; replace B0 := sqb B0 hb; replace HB := sqs HB hb; (try clear hb)) | (go_at_call 117; (with_reducible refine (impl_NumOk.calls a1 t1 _ A7.out).mono ?_); rintro e w' ⟨rfl, ⟨nd, rfl⟩⟩; (try first | exact ⟨rfl, _, World.drewN_drewN _ _ _⟩ | exact ⟨rfl, _, sqda⟩))); try go_wp2_with (first | (go_at_call 65; (with_reducible refine (impl_RestOk.calls a0_0 a0_1 true _ A5.out).mono ?_); rintro e w9 ⟨rfl, hb⟩; replace B0 := sqb B0 hb; replace HB := sqs HB hb; (try clear hb)) | (go_at_call 117; (with_reducible refine (impl_NumOk.calls a1 t1 _ A7.out).mono ?_); rintro e w' ⟨rfl, ⟨nd, rfl⟩⟩; (try first | exact ⟨rfl, _, World.drewN_drewN _ _ _⟩ | exact ⟨rfl, _, sqda⟩))))
  go_meet
  case rel => exact ⟨_, (!t1), (by first | rfl | (simp; done) | (simp [*]; done)), H', ⟨by first | omega | exact Nat.le_refl _⟩, sqk B0, sqh HB⟩
 case rest =>
  clear HC3; obtain ⟨kq, x0, rfl, HA, HJ2, B0, HB⟩ := hcut; cases kq with
  | zero => exact absurd HA.out (by simp [impl_RestHas.j0])
  | succ kj2 =>
   have H := HA.out; clear HA; simp only [impl_RestHas.j0] at H
   by_cases c12 : x0 = true
   ·subst c12; rw [if_pos rfl] at H; obtain rfl := Option.some.inj H
    go_wp2
    repeat (go_quiet (fail); try go_wp2)
    go_ret
    exact sqe HB
   replace c12 := Bool.eq_false_iff.mpr c12; subst c12; rw [if_neg (show ¬ (false = true) by decide)] at H; replace H := sqj H; rcases H with ⟨c13, H⟩ | ⟨c13, H⟩
   ·have c13b0 : (a0_0 == 0) = true := beq_iff_eq.mpr c13; have c13b1 : (a0_0 != 0) = false := bne_eq_false_iff_eq.mpr c13; clear c13; obtain rfl := Option.some.inj H; obtain ⟨hcz14_0, hcz14_1, hfz14_0, hfz14_1⟩ := sqc2 B0
    go_wp2
    repeat (go_quiet (fail); try go_wp2)
    go_ret
    exact sqe HB
   have c13b0 : (a0_0 == 0) = false := beq_eq_false_iff_ne.mpr c13; have c13b1 : (a0_0 != 0) = true := bne_iff_ne.mpr c13; replace H := sqbi H; obtain ⟨t2, A15, H⟩ := H; (try dsimp only at H); obtain rfl := Option.some.inj H; obtain ⟨hcz16_0, hcz16_1, hfz16_0, hfz16_1⟩ := sqc2 B0; go_wp2_with (first | (go_at_call 98; (with_reducible refine (impl_restMod.calls a1 a0_0 t2 _ A15.out).mono ?_); rintro e w' ⟨rfl, ⟨nd, rfl⟩⟩; (try first | exact ⟨rfl, _, World.drewN_drewN _ _ _⟩ | exact ⟨rfl, _, sqda⟩)))
   repeat (go_quiet (first | (go_at_call 98; (with_reducible refine (impl_restMod.calls a1 a0_0 t2 _ A15.out).mono ?_); rintro e w' ⟨rfl, ⟨nd, rfl⟩⟩; (try first | exact ⟨rfl, _, World.drewN_drewN _ _ _⟩ | exact ⟨rfl, _, sqda⟩))); try go_wp2_with (first | (go_at_call 98; (with_reducible refine (impl_restMod.calls a1 a0_0 t2 _ A15.out).mono ?_); rintro e w' ⟨rfl, ⟨nd, rfl⟩⟩; (try first | exact ⟨rfl, _, World.drewN_drewN _ _ _⟩ | exact ⟨rfl, _, sqda⟩))))
   go_ret
   exact sqe HB

/-! ### impl_ValHas: function 19 -/
set_option maxHeartbeats 8000000 in
set_option maxRecDepth 100000 in
theorem impl_ValHas.calls (k : Nat) (a0_0 : Int) (a0_1 : Int) (a0_2 : Int) (a0_3 : Int) (a1 : Int) (r : Bool) (w : World) (h : impl_ValHas.f k a0_0 a0_1 a0_2 a0_3 a1 = some r) :
  Calls Try.prog 19 #[.agg #[.int .i64 a0_0, .int .i64 a0_1, .int .i64 a0_2, .int .i64 a0_3], .int .i64 a1] w fun e w' => e = .returned (.bool r) ∧ Below w.heap.size w w' := by
 have hu30 := Try.underlying30; have HB := Aside0.mk (Below.refl w.heap.size w); have H := h; unfold impl_ValHas.f at H; clear h; replace H := sqbi H; obtain ⟨t0, A3, H⟩ := H; (try dsimp only at H); rcases sqI (t0 = true) with c4 | c4
 ·replace c4 := Bool.eq_false_iff.mpr c4; subst c4; rw [if_neg (show ¬ (false = true) by decide)] at H; obtain rfl := Option.some.inj H; go_enter Try.func19, Try.ntmps19; go_wp2_with (first | ((with_reducible refine gate_dst (N := 2) rfl ?_); refine sqx 2 #[.int .i64 a0_0, .int .i64 a0_1, .int .i64 a0_2, .int .i64 a0_3] 30 ?_; intro gb0 hg w25 hbox hb; have B0 := Aside0.mk hbox; have GW0 := sqg HB hg; replace HB := sqs HB hb; clear hb hbox hg; obtain ⟨_, _, _, _, _, _, _, _⟩ := sqc4 B0) | ((with_reducible refine gate_callee (f := 18) rfl ?_); refine sqL (some 6) Try.func18 #[.agg #[.int .i64 a0_0, .int .i64 a0_1, .int .i64 a0_2, .int .i64 a0_3]] ?_; (with_reducible refine (impl_ValOk.calls k a0_0 a0_1 a0_2 a0_3 false _ A3.out).mono ?_); rintro e w27 ⟨rfl, hb⟩; refine ⟨_, rfl, ?_⟩; replace B0 := sqb B0 hb; replace HB := sqs HB hb; (try clear hb)))
  go_ret
  exact sqe HB
 subst c4; rw [if_pos rfl] at H; replace H := sqbi H; obtain ⟨⟨t1, t2⟩, A5, H⟩ := H; (try dsimp only at H); replace H := sqbi H; obtain ⟨t3, A6, H⟩ := H; (try dsimp only at H); rcases sqI (t3 = true) with c7 | c7
 ·replace c7 := Bool.eq_false_iff.mpr c7; subst c7; rw [if_neg (show ¬ (false = true) by decide)] at H; obtain rfl := Option.some.inj H; go_enter Try.func19, Try.ntmps19; go_wp2_with (first | ((with_reducible refine gate_dst (N := 2) rfl ?_); refine sqx 2 #[.int .i64 a0_0, .int .i64 a0_1, .int .i64 a0_2, .int .i64 a0_3] 30 ?_; intro gb0 hg w19 hbox hb; have B0 := Aside0.mk hbox; have GW0 := sqg HB hg; replace HB := sqs HB hb; clear hb hbox hg; obtain ⟨_, _, _, _, _, _, _, _⟩ := sqc4 B0) | ((with_reducible refine gate_callee (f := 18) rfl ?_); refine sqL (some 6) Try.func18 #[.agg #[.int .i64 a0_0, .int .i64 a0_1, .int .i64 a0_2, .int .i64 a0_3]] ?_; (with_reducible refine (impl_ValOk.calls k a0_0 a0_1 a0_2 a0_3 true _ A3.out).mono ?_); rintro e w21 ⟨rfl, hb⟩; refine ⟨_, rfl, ?_⟩; replace B0 := sqb B0 hb; replace HB := sqs HB hb; (try clear hb); obtain ⟨_, _, _, _, _, _, _, _⟩ := sqc4 B0) | (go_at_call 103; (with_reducible refine (impl_Val_span.calls a0_0 a0_1 a0_2 a0_3 t1 t2 _ A5.out).mono ?_); rintro e w23 ⟨rfl, hb⟩; replace B0 := sqb B0 hb; replace HB := sqs HB hb; (try clear hb)) | (go_at_call 48; (with_reducible refine (impl_RangeHas.calls t1 t2 a1 false _ A6.out).mono ?_); rintro e w24 ⟨rfl, hb⟩; replace B0 := sqb B0 hb; replace HB := sqs HB hb; (try clear hb)))
  go_ret
  exact sqe HB
 subst c7; rw [if_pos rfl] at H; replace H := sqbi H; obtain ⟨⟨t4, t5⟩, A8, H⟩ := H; (try dsimp only at H); replace H := sqbi H; obtain ⟨t6, A9, H⟩ := H; (try dsimp only at H); obtain rfl := Option.some.inj H; go_enter Try.func19, Try.ntmps19; go_wp2_with (first | ((with_reducible refine gate_dst (N := 2) rfl ?_); refine sqx 2 #[.int .i64 a0_0, .int .i64 a0_1, .int .i64 a0_2, .int .i64 a0_3] 30 ?_; intro gb0 hg w10 hbox hb; have B0 := Aside0.mk hbox; have GW0 := sqg HB hg; replace HB := sqs HB hb; clear hb hbox hg; obtain ⟨_, _, _, _, _, _, _, _⟩ := sqc4 B0) | ((with_reducible refine gate_callee (f := 18) rfl ?_); refine sqL (some 6) Try.func18 #[.agg #[.int .i64 a0_0, .int .i64 a0_1, .int .i64 a0_2, .int .i64 a0_3]] ?_; (with_reducible refine (impl_ValOk.calls k a0_0 a0_1 a0_2 a0_3 true _ A3.out).mono ?_); rintro e w12 ⟨rfl, hb⟩; refine ⟨_, rfl, ?_⟩; replace B0 := sqb B0 hb; replace HB := sqs HB hb; (try clear hb); obtain ⟨_, _, _, _, _, _, _, _⟩ := sqc4 B0) | (go_at_call 103; (with_reducible refine (impl_Val_span.calls a0_0 a0_1 a0_2 a0_3 t1 t2 _ A5.out).mono ?_); rintro e w14 ⟨rfl, hb⟩; replace B0 := sqb B0 hb; replace HB := sqs HB hb; (try clear hb)) | (go_at_call 48; (with_reducible refine (impl_RangeHas.calls t1 t2 a1 true _ A6.out).mono ?_); rintro e w15 ⟨rfl, hb⟩; replace B0 := sqb B0 hb; replace HB := sqs HB hb; (try clear hb); obtain ⟨_, _, _, _, _, _, _, _⟩ := sqc4 B0) | (go_at_call 104; (with_reducible refine (impl_Val_rest.calls a0_0 a0_1 a0_2 a0_3 t4 t5 _ A8.out).mono ?_); rintro e w17 ⟨rfl, hb⟩; replace B0 := sqb B0 hb; replace HB := sqs HB hb; (try clear hb)) | (go_at_call 68; (with_reducible refine (impl_RestHas.calls k t4 t5 a1 t6 _ A9.out).mono ?_); rintro e w18 ⟨rfl, hb⟩; replace B0 := sqb B0 hb; replace HB := sqs HB hb; (try clear hb)))
 go_ret
 exact sqe HB

/-- A state of type 161 at block g of W; what its slices lead to came in by w0. -/
def IsS161 (w0 W : World) (g : Nat) (f0 : List Int) (f1 : Int) : Prop := ∃ A0 c0, W.heap[g]? = some (.cells #[.slice A0 f0.length c0, .int .i64 f1] 161 (0, 0)) ∧ w0.heap.size ≤ g ∧ Kd.C (Kd.int .u8) w0 A0 f0.length f0
theorem IsS161.grown {w0 W : World} {g : Nat} {f0 : List Int} {f1 : Int} {W1 : World} {row : Option Nat} (h : IsS161 w0 W g f0 f1) (hw : W.grownBy W1 row) (hne : some g ≠ row) : IsS161 w0 W1 g f0 f1 := by
 obtain ⟨A0, c0, hb, hg, hr0⟩ := h; exact ⟨A0, c0, blk_grown hb hw hne, hg, hr0⟩
theorem IsS161.own_neN {w0 W : World} {g : Nat} {f0 : List Int} {f1 : Int} {α : Type} {d : Kd α} {e : Nat} {base : Nat} {ok : Nat → Prop} {v : Value} {xs : List α} (h : IsS161 w0 W g f0 f1) (ho : Kd.N d e W base ok v xs) (ht : e ≠ 161) : some g ≠ v.ownBlock := by
 obtain ⟨A0, c0, hb, hg, hr0⟩ := h; exact Kd.N_ne ho hb ht
theorem IsS161.fresh {w0 W : World} {g : Nat} {f0 : List Int} {f1 : Int} (h : IsS161 w0 W g f0 f1) : ∀ k, W.heap.size ≤ k → k ≠ g := by
 obtain ⟨A0, c0, hb, hg, hr0⟩ := h; exact Kd.freshB hb
theorem IsS161.kept {w0 W : World} {g : Nat} {f0 : List Int} {f1 : Int} {W1 : World} {S : Nat → Prop} (h : IsS161 w0 W g f0 f1) (hk : Kept W W1 S) (hne : ¬ S g) : IsS161 w0 W1 g f0 f1 := by
 obtain ⟨A0, c0, hb, hg, hr0⟩ := h; exact ⟨A0, c0, blk_kept hb hk hne, hg, hr0⟩
theorem IsS161.below {w0 W : World} {g : Nat} {f0 : List Int} {f1 : Int} {W1 : World} (h : IsS161 w0 W g f0 f1) (hw : Below W.heap.size W W1) : IsS161 w0 W1 g f0 f1 := h.grown (grown_of_below hw none) (by simp)
theorem IsS161.alloc {w0 W : World} {g : Nat} {f0 : List Int} {f1 : Int} (h : IsS161 w0 W g f0 f1) (o : Obj) : IsS161 w0 (W.alloc o) g f0 f1 := h.below (below_alloc (Below.refl _ _) o)
theorem IsS161.drewN {w0 W : World} {g : Nat} {f0 : List Int} {f1 : Int} (h : IsS161 w0 W g f0 f1) (m : Nat) : IsS161 w0 (W.drewN m) g f0 f1 := h
theorem IsS161.drew {w0 W : World} {g : Nat} {f0 : List Int} {f1 : Int} (h : IsS161 w0 W g f0 f1) : IsS161 w0 W.drew g f0 f1 := h
theorem IsS161.at_ {w0 W : World} {g : Nat} {f0 : List Int} {f1 : Int} {w' : World} {m : Nat} (hq : W.drewN m = w') (h : IsS161 w0 W g f0 f1) : IsS161 w0 w' g f0 f1 := by subst hq; exact IsS161.drewN h m
theorem IsS161.apart {w0 W : World} {g : Nat} {f0 : List Int} {f1 : Int} {α : Type} {d : Kd α} {e : Nat} {base : Nat} {ok : Nat → Prop} {v : Value} {xs : List α} (h : IsS161 w0 W g f0 f1) (ho : d.R e W base ok v xs) (ht : ∀ q, q ∈ e :: d.E → q ≠ 161) : d.R e W base (fun k => ok k ∧ k ≠ g) v xs := by
 obtain ⟨A0, c0, hb, hg, hr0⟩ := h; exact Kd.R_types ho hb ht
theorem IsS161.own_ne {w0 W : World} {g : Nat} {f0 : List Int} {f1 : Int} {α : Type} {d : Kd α} {e : Nat} {base : Nat} {ok : Nat → Prop} {v : Value} {xs : List α} (h : IsS161 w0 W g f0 f1) (ho : d.R e W base ok v xs) (ht : e ≠ 161) : some g ≠ v.ownBlock := by
 obtain ⟨A0, c0, hb, hg, hr0⟩ := h; exact Kd.R_ne ho hb ht
theorem IsS161.apartQ {w0 W : World} {g : Nat} {f0 : List Int} {f1 : Int} {α : Type} {d : Kd α} {e : Nat} {base : Nat} {ok : Nat → Prop} {v : Value} {xs : List α} (h : IsS161 w0 W g f0 f1) (ho : d.Q e W base ok v xs) (ht : ∀ q, q ∈ e :: d.E → q ≠ 161) : d.Q e W base (fun k => ok k ∧ k ≠ g) v xs := by
 obtain ⟨A0, c0, hb, hg, hr0⟩ := h; exact Kd.Q_types ho hb ht
theorem IsS161.own_neQ {w0 W : World} {g : Nat} {f0 : List Int} {f1 : Int} {α : Type} {d : Kd α} {e : Nat} {base : Nat} {ok : Nat → Prop} {v : Value} {xs : List α} (h : IsS161 w0 W g f0 f1) (ho : d.Q e W base ok v xs) (ht : e ≠ 161) : some g ≠ v.ownBlock := by
 obtain ⟨A0, c0, hb, hg, hr0⟩ := h; exact Kd.Q_ne ho hb ht
theorem IsS161.apartS {w0 W : World} {g : Nat} {f0 : List Int} {f1 : Int} {α : Type} {d : Kd α} {e : Nat} {base : Nat} {ok : Nat → Prop} {v : Value} {xs : List α} (h : IsS161 w0 W g f0 f1) (ho : d.S e W base ok v xs) (ht : ∀ q, q ∈ e :: d.E → q ≠ 161) : d.S e W base (fun k => ok k ∧ k ≠ g) v xs := by
 obtain ⟨A0, c0, hb, hg, hr0⟩ := h; exact Kd.S_types ho hb ht
theorem IsS161.own_neS {w0 W : World} {g : Nat} {f0 : List Int} {f1 : Int} {α : Type} {d : Kd α} {e : Nat} {base : Nat} {ok : Nat → Prop} {v : Value} {xs : List α} (h : IsS161 w0 W g f0 f1) (ho : d.S e W base ok v xs) (ht : e ≠ 161) : some g ≠ v.ownBlock := by
 obtain ⟨A0, c0, hb, hg, hr0⟩ := h; exact Kd.S_ne ho hb ht
theorem IsS161.lt {w0 W : World} {g : Nat} {f0 : List Int} {f1 : Int} (h : IsS161 w0 W g f0 f1) : g < W.heap.size := by
 obtain ⟨A0, c0, hb, hg, hr0⟩ := h; exact blk_lt hb
theorem IsS161.ge {w0 W : World} {g : Nat} {f0 : List Int} {f1 : Int} (h : IsS161 w0 W g f0 f1) : w0.heap.size ≤ g := by
 obtain ⟨A0, c0, hb, hg, hr0⟩ := h; exact hg
theorem IsS161.ne_blk {w0 W : World} {g : Nat} {f0 : List Int} {f1 : Int} {a : Nat} {cs : Array Value} {t : TypeId} {fr : Nat × Nat} (h : IsS161 w0 W g f0 f1) (hb2 : W.heap[a]? = some (.cells cs t fr)) (ht : t ≠ 161) : g ≠ a := by
 obtain ⟨A0, c0, hb, hg, hr0⟩ := h; rintro rfl; rw [hb] at hb2; injection hb2 with hb2; injection hb2 with _ ht2; exact ht ht2.symm
theorem IsS161.far {w0 W : World} {g : Nat} {f0 : List Int} {f1 : Int} {p : Addr} (h : IsS161 w0 W g f0 f1) (hne : g ≠ p.block) (u : Value) : IsS161 w0 (W.setCell p u) g f0 f1 := by
 obtain ⟨A0, c0, hb, hg, hr0⟩ := h; exact ⟨A0, c0, blk_far hb hne u, hg, hr0⟩
theorem cellS161_0 {W : World} {g : Nat} {A0 : Option Addr} {c0 : Nat} {f0 : List Int} {f1 : Int} (h : W.heap[g]? = some (.cells #[.slice A0 f0.length c0, .int .i64 f1] 161 (0, 0))) : W.cell? ⟨g, 0, none⟩ = some (.slice A0 f0.length c0) := (blk_cell h 0).trans rfl
theorem cellS161_1 {W : World} {g : Nat} {A0 : Option Addr} {c0 : Nat} {f0 : List Int} {f1 : Int} (h : W.heap[g]? = some (.cells #[.slice A0 f0.length c0, .int .i64 f1] 161 (0, 0))) : W.cell? ⟨g, 1, none⟩ = some (.int .i64 f1) := (blk_cell h 1).trans rfl
theorem IsS161.set_1 {w0 W : World} {g : Nat} {f0 : List Int} {f1 : Int} (h : IsS161 w0 W g f0 f1) (x : Int) : IsS161 w0 (W.setCell ⟨g, 1, none⟩ (.int .i64 x)) g f0 x := by
 obtain ⟨A0, c0, hb, hg, hr0⟩ := h; exact ⟨A0, c0, by simpa using blk_set hb 1 (.int .i64 x), hg, hr0⟩
theorem IsS161.new (w0 W : World) (A0 : Option Addr) (c0 : Nat) (f0 : List Int) (f1 : Int) (hB : Below w0.heap.size w0 W) (hr0 : Kd.C (Kd.int .u8) w0 A0 f0.length f0) : IsS161 w0 (W.alloc (.cells #[.slice A0 f0.length c0, .int .i64 f1] 161)) W.heap.size f0 f1 := ⟨A0, c0, by simpa using heap_alloc_new W _, hB.size, hr0⟩
theorem IsS161.mv {p q : Prop} (H : Aside0 p) (s : p → q := by
  intro h_; repeat (first | (with_reducible first | exact h_ | apply IsS161.alloc | apply IsS161.drewN | apply IsS161.drew | apply IsS161.set_1 | refine IsS161.far ?_ (Aside0.out (by assumption)) _) | exact h_)) : q := s H.out

/-! ### spec_l1Open: function 92 -/
set_option maxHeartbeats 8000000 in
set_option maxRecDepth 100000 in
theorem spec_l1Open.calls (A0 : Option Addr) (c0 : Nat) (l0 : List Int) (r1 : List Int) (r2 : Int) (w0 w : World) (hB : Below w0.heap.size w0 w) (hr0 : Kd.C (Kd.int .u8) w0 A0 l0.length l0) (hc0 : l0.length ≤ c0) (h : spec_l1Open.f l0 = some (r1, r2)) :
  Calls Try.prog 92 #[.slice A0 l0.length c0] w fun e w' => ∃ g_ : Nat, e = .returned (.pointer (some ⟨g_, 0, none⟩)) ∧ IsS161 w0 w' g_ r1 r2 ∧ Below w0.heap.size w0 w' ∧ Below w.heap.size w w' := by
 have hu161 := Try.underlying161; have HR0 := Aside0.mk hr0; have HC0 := Aside0.mk hc0; clear hr0 hc0; have HBW := Aside0.mk (Below.refl w.heap.size w); have HW0 := Aside0.mk hB.size; have HB := Aside0.mk hB; clear hB; have H := h; unfold spec_l1Open.f at H; clear h; replace H := sqi H; rcases H with ⟨c2, H⟩ | ⟨c2, H⟩
 ·have c2b0 : decide (2000 < (l0.length : Int)) = false := decide_eq_false c2; have c2b1 : decide (2000 < l0.length) = false := decide_eq_false (by omega); clear c2; simp only [Option.some.injEq, Prod.mk.injEq] at H; obtain ⟨rfl, rfl⟩ := H; go_enter Try.func92, Try.ntmps92; go_wp2_with (first | ((with_reducible refine gate_dst (N := 10) rfl ?_); refine sqx 10 #[.slice A0 l0.length c0, .int .i64 0] 161 ?_; intro gb0 hg w6 hbox hb; have n0_ := Aside0.mk (below_step HBW.out hb); have n1_ := sqs HB hb; have n2_ := Aside0.mk (hbox); have n3_ := Aside0.mk ((by rw [hg]; exact (below_size (sqB HBW)) : w.heap.size ≤ gb0)); have n4_ := Aside0.mk ((Nat.le_trans HW0.out (by rw [hg]; exact (below_size (sqB HBW)) : w.heap.size ≤ gb0) : w0.heap.size ≤ gb0)); clear HBW; clear HB; have HBW := n0_; have HB := n1_; have B0 := n2_; have GW0 := n3_; have GE0 := n4_; clear n0_ n1_ n2_ n3_ n4_; clear hb hbox hg))
  go_ret
  exact ⟨_, rfl, (show IsS161 w0 _ gb0 l0 0 from ⟨_, _, by refine sqt ?_; exact B0.out, GE0.out, HR0.out⟩), by repeat (first | (with_reducible first | exact HB.out | apply below_alloc | apply pw_below_drewN | apply below_drew1 | refine below_set ?_ GE0.out) | exact HB.out), by repeat (first | (with_reducible first | exact HBW.out | apply below_alloc | apply pw_below_drewN | apply below_drew1 | refine below_set ?_ GW0.out) | exact HBW.out)⟩
 have c2b0 : decide (2000 < (l0.length : Int)) = true := decide_eq_true c2; have c2b1 : decide (2000 < l0.length) = true := decide_eq_true (by omega); clear c2; replace H := sqi H; rcases H with ⟨c3, H⟩ | ⟨c3, H⟩
 ·exact absurd H (by simp)
 have c3b0 := eq_true c3; have c3b1 := decide_eq_true c3; clear c3; simp only [Option.some.injEq, Prod.mk.injEq] at H; obtain ⟨rfl, rfl⟩ := H; obtain ⟨i04, hi04, _, hsz4, _⟩ := info_parts info5; obtain ⟨hcut4, hA4, hC4⟩ := print_take_of (P := Try.prog) (Value.int .u8) 0 22 5 .i64 Try.underlying22 hi04 hsz4 A0 c0 l0 2000 (by omega) sqd HC0.out; have HR168 := Aside0.mk (Kd.C_of_reads (h1 := fun _ => rfl) (hA4 _ (Kd.reads_of_C HR0.out))); have HC168 := Aside0.mk hC4; clear hA4 hC4 hi04 hsz4; go_enter Try.func92, Try.ntmps92; go_wp2_with (first | ((with_reducible refine gate_dst (N := 10) rfl ?_); refine sqx 10 #[.slice A0 (l0.take 2000).length c0, .int .i64 0] 161 ?_; intro gb1 hg w5 hbox hb; have n0_ := Aside0.mk (below_step HBW.out hb); have n1_ := sqs HB hb; have n2_ := Aside0.mk (hbox); have n3_ := Aside0.mk ((by rw [hg]; exact (below_size (sqB HBW)) : w.heap.size ≤ gb1)); have n4_ := Aside0.mk ((Nat.le_trans HW0.out (by rw [hg]; exact (below_size (sqB HBW)) : w.heap.size ≤ gb1) : w0.heap.size ≤ gb1)); clear HBW; clear HB; have HBW := n0_; have HB := n1_; have B1 := n2_; have GW1 := n3_; have GE1 := n4_; clear n0_ n1_ n2_ n3_ n4_; clear hb hbox hg))
 go_ret
 exact ⟨_, rfl, (show IsS161 w0 _ gb1 (l0.take 2000) 0 from ⟨_, _, by refine sqt ?_; exact B1.out, GE1.out, HR168.out⟩), by repeat (first | (with_reducible first | exact HB.out | apply below_alloc | apply pw_below_drewN | apply below_drew1 | refine below_set ?_ GE1.out) | exact HB.out), by repeat (first | (with_reducible first | exact HBW.out | apply below_alloc | apply pw_below_drewN | apply below_drew1 | refine below_set ?_ GW1.out) | exact HBW.out)⟩

/-! ### spec_l1Rd_pick: function 109 -/
set_option maxHeartbeats 8000000 in
set_option maxRecDepth 100000 in
theorem spec_l1Rd_pick.calls (k : Nat) (g : Nat) (s0_0 : List Int) (s0_1 : Int) (a1 : Int) (r1 : Int) (r2 : Int) (w0 w : World) (hI : IsS161 w0 w g s0_0 s0_1) (hB : Below w0.heap.size w0 w) (h : spec_l1Rd_pick.f k s0_0 s0_1 a1 = some (r1, r2)) :
  Calls Try.prog 109 #[.pointer (some ⟨g, 0, none⟩), .int .i64 a1] w fun e w' => e = .returned (.int .i64 r1) ∧ IsS161 w0 w' g s0_0 r2 ∧ Below w0.heap.size w0 w' ∧ KeepBut w w' g none := by
 have HI0 := Aside0.mk hI; have HK := Aside0.mk (KeepBut.refl w g none); have HL := Aside0.mk hB.size; clear hI; have HW0 := Aside0.mk hB.size; have HB := Aside0.mk hB; clear hB; have H := h; unfold spec_l1Rd_pick.f at H; clear h; have HC3 := Aside0.mk H; clear H; obtain ⟨ASz4_0, cSz4_0, HGz4, hgz4, HSz4_0⟩ := HI0.out; have hcz4_0 := cellS161_0 HGz4; have hcz4_1 := cellS161_1 HGz4; have hfz4_1 := blk_frozen HGz4 1; clear HGz4 hgz4; go_enter Try.func109, Try.ntmps109; go_upto_region 2 with (fail)
 repeat (go_quiet (fail); go_upto_region 2 with (fail))
 go_cut [24] (fun v24 wc => ∃ (kq : Nat) (x0 : Bool), v24 = .bool x0 ∧ Aside0 (spec_l1Rd_pick.j0 kq a1 x0 s0_0 (wrap64 (s0_1 + 1)) = some (r1, r2)) ∧ Aside0 (kq ≤ k) ∧ Aside0 (IsS161 w0 wc g s0_0 (wrap64 (s0_1 + 1))) ∧ Aside0 (KeepBut w wc g none) ∧ Aside0 (Below w0.heap.size w0 wc))
 case first =>
  have H := HC3.out; clear HC3; replace H := sqj H; rcases H with ⟨c5, H⟩ | ⟨c5, H⟩
  ·have c5b0 := decide_eq_true c5; clear c5
   (first | rw [c5b0] | (simp only [i64_w, i32_w]; rw [c5b0]) | skip)
   have H' := Aside0.mk H; clear H
   go_wp2
   repeat (go_quiet (fail); try go_wp2)
   go_meet
   case rel => exact ⟨_, (true), (by first | rfl | (simp; done) | (simp [*]; done)), H', ⟨by first | omega | exact Nat.le_refl _⟩, ⟨IsS161.mv HI0⟩, ⟨sqK HK⟩, ⟨sqB2 HB (IsS161.ge HI0.out)⟩⟩
  have c5b0 := decide_eq_false c5; clear c5
  (first | rw [c5b0] | (simp only [i64_w, i32_w]; rw [c5b0]) | skip)
  have H' := Aside0.mk H; clear H; obtain ⟨ASz6_0, cSz6_0, HGz6, hgz6, HSz6_0⟩ := HI0.out; have hcz6_0 := cellS161_0 HGz6; have hcz6_1 := cellS161_1 HGz6; have hfz6_1 := blk_frozen HGz6 1; clear HGz6 hgz6
  go_wp2
  repeat (go_quiet (fail); try go_wp2)
  go_meet
  case rel => exact ⟨_, (((s0_0.length : Int) == 0)), (by first | rfl | (simp; done) | (simp [*]; done)), H', ⟨by first | omega | exact Nat.le_refl _⟩, ⟨IsS161.mv HI0⟩, ⟨sqK HK⟩, ⟨sqB2 HB (IsS161.ge HI0.out)⟩⟩
 case rest =>
  clear HC3; obtain ⟨kq, x0, rfl, HA, HJ2, HI0, HK, HB⟩ := hcut; cases kq with
  | zero => exact absurd HA.out (by simp [spec_l1Rd_pick.j0])
  | succ kj2 =>
   have H := HA.out; clear HA; simp only [spec_l1Rd_pick.j0] at H
   by_cases c7 : x0 = true
   ·subst c7; rw [if_pos rfl] at H; simp only [Option.some.injEq, Prod.mk.injEq] at H; obtain ⟨rfl, rfl⟩ := H
    go_wp2
    repeat (go_quiet (fail); try go_wp2)
    go_ret
    exact ⟨by first | rfl | (simp [errW_none, errW_some] <;> rfl) | (simp [*, errW_none, errW_some] <;> rfl), by repeat (first | (with_reducible first | exact HI0.out | apply IsS161.alloc | apply IsS161.drewN | apply IsS161.drew | apply IsS161.set_1) | exact HI0.out), by repeat (first | (with_reducible first | exact HB.out | apply below_alloc | apply pw_below_drewN | apply below_drew1 | refine below_set ?_ (IsS161.ge HI0.out)) | exact HB.out), sqK HK⟩
   replace c7 := Bool.eq_false_iff.mpr c7; subst c7; rw [if_neg (show ¬ (false = true) by decide)] at H; replace H := sqj H; rcases H with ⟨c8, H⟩ | ⟨c8, H⟩
   ·have c8b0 := decide_eq_true c8; clear c8; obtain ⟨ji9, hji9⟩ : ∃ j_ : Int, (wrap64 ((wrap64 (s0_1 + 1)) - 1)) = j_ := ⟨_, rfl⟩
    replace H : (if 0 ≤ (ji9) then (if a1 = 0 then (none) else (some (Int.tmod (wrap64 (rd s0_0 (ji9))) a1, (wrap64 (s0_1 + 1))))) else (none)) = some (r1, r2) := by first | (rw [hji9] at H; exact H) | (simp only [hji9] at H ⊢; exact H)
    (try rw [hji9] at c8b0)
    have hji9w : (IntKind.i64.wrap ((wrap64 (s0_1 + 1)) - 1)) = ji9 := (i64_w _).trans hji9; replace H := sqi H; rcases H with ⟨c10, H⟩ | ⟨c10, H⟩
    ·exact absurd H (by simp)
    have c10b0 := decide_eq_true c10; clear c10; replace H := sqj H; rcases H with ⟨c11, H⟩ | ⟨c11, H⟩
    ·exact absurd H (by simp)
    have c11b0 : (a1 == 0) = false := beq_eq_false_iff_ne.mpr c11; have c11b1 : (a1 != 0) = true := bne_iff_ne.mpr c11; simp only [Option.some.injEq, Prod.mk.injEq] at H; obtain ⟨rfl, rfl⟩ := H; obtain ⟨ASz12_0, cSz12_0, HGz12, hgz12, HSz12_0⟩ := HI0.out; have hcz12_0 := cellS161_0 HGz12; have hcz12_1 := cellS161_1 HGz12; have hfz12_1 := blk_frozen HGz12 1; clear HGz12 hgz12; have p171 : 0 ≤ ((ji9) : Int) := sqd; have q171 : (ji9) < (s0_0.length : Int) := sqd; obtain ⟨ad171, e171, hx171_0⟩ := Kd.at_int HSz12_0 (ji9) p171 q171; cases e171; replace hx171_0 := pw_cell_below HB.out hx171_0; replace p171 := eq_true p171; replace q171 := eq_true q171
    go_wp2
    repeat (go_quiet (fail); try go_wp2)
    go_ret
    exact ⟨by first | rfl | (simp [errW_none, errW_some] <;> rfl) | (simp only [← hji9]; first | rfl | (simp [errW_none, errW_some] <;> rfl)) | (simp [*, errW_none, errW_some] <;> rfl), by repeat (first | (with_reducible first | exact HI0.out | apply IsS161.alloc | apply IsS161.drewN | apply IsS161.drew | apply IsS161.set_1) | exact HI0.out), by repeat (first | (with_reducible first | exact HB.out | apply below_alloc | apply pw_below_drewN | apply below_drew1 | refine below_set ?_ (IsS161.ge HI0.out)) | exact HB.out), sqK HK⟩
   have c8b0 := decide_eq_false c8; clear c8; replace H := sqj H; rcases H with ⟨c13, H⟩ | ⟨c13, H⟩
   ·exact absurd H (by simp)
   have c13b0 : ((s0_0.length : Int) == 0) = false := beq_eq_false_iff_ne.mpr c13; have c13b1 : ((s0_0.length : Int) != 0) = true := bne_iff_ne.mpr c13
   have c13b2 : ¬ (s0_0 = []) := fun h_ => c13 (by rw [h_]; rfl)
   obtain ⟨ji14, hji14⟩ : ∃ j_ : Int, (Int.tmod (wrap64 ((wrap64 (s0_1 + 1)) - 1)) (s0_0.length : Int)) = j_ := ⟨_, rfl⟩
   replace H : (if 0 ≤ (ji14) then (if (ji14) < (s0_0.length : Int) then (if 0 ≤ (Int.tmod (wrap64 ((wrap64 ((wrap64 ((wrap64 (s0_1 + 1)) - 1)) * 7)) + 3)) (s0_0.length : Int)) then (if (Int.tmod (wrap64 ((wrap64 ((wrap64 ((wrap64 (s0_1 + 1)) - 1)) * 7)) + 3)) (s0_0.length : Int)) < (s0_0.length : Int) then (if a1 = 0 then (none) else (some (Int.tmod (Go.bits .xor .i64 (wrap64 ((wrap64 ((wrap64 ((wrap64 ((wrap64 (rd s0_0 (ji14))) * 131)) + (wrap64 ((wrap64 (rd s0_0 (Int.tmod (wrap64 ((wrap64 ((wrap64 ((wrap64 (s0_1 + 1)) - 1)) * 7)) + 3)) (s0_0.length : Int)))) * 1117)))) + (wrap64 ((wrap64 ((wrap64 (s0_1 + 1)) - 1)) * 29)))) + (wrap64 ((wrap64 (Int.tdiv (wrap64 ((wrap64 (s0_1 + 1)) - 1)) (s0_0.length : Int))) * 53)))) (wrap64 (Int.tdiv (wrap64 ((wrap64 ((wrap64 ((wrap64 ((wrap64 (rd s0_0 (ji14))) * 131)) + (wrap64 ((wrap64 (rd s0_0 (Int.tmod (wrap64 ((wrap64 ((wrap64 ((wrap64 (s0_1 + 1)) - 1)) * 7)) + 3)) (s0_0.length : Int)))) * 1117)))) + (wrap64 ((wrap64 ((wrap64 (s0_1 + 1)) - 1)) * 29)))) + (wrap64 ((wrap64 (Int.tdiv (wrap64 ((wrap64 (s0_1 + 1)) - 1)) (s0_0.length : Int))) * 53)))) 64))) a1, (wrap64 (s0_1 + 1))))) else (none)) else (none)) else (none)) else (none)) = some (r1, r2) := by first | (rw [hji14] at H; exact H) | (simp only [hji14] at H ⊢; exact H)
   replace H := sqi H; rcases H with ⟨c15, H⟩ | ⟨c15, H⟩
   ·exact absurd H (by simp)
   have c15b0 := decide_eq_true c15; clear c15; replace H := sqi H; rcases H with ⟨c16, H⟩ | ⟨c16, H⟩
   ·exact absurd H (by simp)
   have c16b0 := decide_eq_true c16; clear c16; obtain ⟨ji17, hji17⟩ : ∃ j_ : Int, (Int.tmod (wrap64 ((wrap64 ((wrap64 ((wrap64 (s0_1 + 1)) - 1)) * 7)) + 3)) (s0_0.length : Int)) = j_ := ⟨_, rfl⟩
   replace H : (if 0 ≤ (ji17) then (if (ji17) < (s0_0.length : Int) then (if a1 = 0 then (none) else (some (Int.tmod (Go.bits .xor .i64 (wrap64 ((wrap64 ((wrap64 ((wrap64 ((wrap64 (rd s0_0 (ji14))) * 131)) + (wrap64 ((wrap64 (rd s0_0 (ji17))) * 1117)))) + (wrap64 ((wrap64 ((wrap64 (s0_1 + 1)) - 1)) * 29)))) + (wrap64 ((wrap64 (Int.tdiv (wrap64 ((wrap64 (s0_1 + 1)) - 1)) (s0_0.length : Int))) * 53)))) (wrap64 (Int.tdiv (wrap64 ((wrap64 ((wrap64 ((wrap64 ((wrap64 (rd s0_0 (ji14))) * 131)) + (wrap64 ((wrap64 (rd s0_0 (ji17))) * 1117)))) + (wrap64 ((wrap64 ((wrap64 (s0_1 + 1)) - 1)) * 29)))) + (wrap64 ((wrap64 (Int.tdiv (wrap64 ((wrap64 (s0_1 + 1)) - 1)) (s0_0.length : Int))) * 53)))) 64))) a1, (wrap64 (s0_1 + 1))))) else (none)) else (none)) = some (r1, r2) := by first | (rw [hji17] at H; exact H) | (simp only [hji17] at H ⊢; exact H)
   replace H := sqi H; rcases H with ⟨c18, H⟩ | ⟨c18, H⟩
   ·exact absurd H (by simp)
   have c18b0 := decide_eq_true c18; clear c18; replace H := sqi H; rcases H with ⟨c19, H⟩ | ⟨c19, H⟩
   ·exact absurd H (by simp)
   have c19b0 := decide_eq_true c19; clear c19; replace H := sqj H; rcases H with ⟨c20, H⟩ | ⟨c20, H⟩
   ·exact absurd H (by simp)
   have c20b0 : (a1 == 0) = false := beq_eq_false_iff_ne.mpr c20; have c20b1 : (a1 != 0) = true := bne_iff_ne.mpr c20; simp only [Option.some.injEq, Prod.mk.injEq] at H; obtain ⟨rfl, rfl⟩ := H; obtain ⟨ASz21_0, cSz21_0, HGz21, hgz21, HSz21_0⟩ := HI0.out; have hcz21_0 := cellS161_0 HGz21; have hcz21_1 := cellS161_1 HGz21; have hfz21_1 := blk_frozen HGz21 1; clear HGz21 hgz21; have p172 : 0 ≤ ((ji14) : Int) := sqd; have q172 : (ji14) < (s0_0.length : Int) := sqd; obtain ⟨ad172, e172, hx172_0⟩ := Kd.at_int HSz21_0 (ji14) p172 q172; cases e172; replace hx172_0 := pw_cell_below HB.out hx172_0; replace p172 := eq_true p172; replace q172 := eq_true q172; have p173 : 0 ≤ ((ji17) : Int) := sqd; have q173 : (ji17) < (s0_0.length : Int) := sqd; obtain ⟨ad173, e173, hx173_0⟩ := Kd.at_int HSz21_0 (ji17) p173 q173; obtain rfl : ad172 = ad173 := (by injection e173); replace hx173_0 := pw_cell_below HB.out hx173_0; replace p173 := eq_true p173; replace q173 := eq_true q173
   go_wp2
   repeat (go_quiet (fail); try go_wp2)
   go_ret
   exact ⟨by first | rfl | (simp [errW_none, errW_some] <;> rfl) | (simp only [← hji14, ← hji17]; first | rfl | (simp [errW_none, errW_some] <;> rfl)) | (simp [*, errW_none, errW_some] <;> rfl), by repeat (first | (with_reducible first | exact HI0.out | apply IsS161.alloc | apply IsS161.drewN | apply IsS161.drew | apply IsS161.set_1) | exact HI0.out), by repeat (first | (with_reducible first | exact HB.out | apply below_alloc | apply pw_below_drewN | apply below_drew1 | refine below_set ?_ (IsS161.ge HI0.out)) | exact HB.out), sqK HK⟩

/-! ### spec_l1In: function 105 -/
set_option maxHeartbeats 8000000 in
set_option maxRecDepth 100000 in
theorem spec_l1In.calls (a0 : Int) (a1 : Int) (a2 : Int) (r : Bool) (w : World) (h : spec_l1In.f a0 a1 a2 = some r) :
  Calls Try.prog 105 #[.int .i64 a0, .int .i64 a1, .int .i64 a2] w fun e w' => e = .returned (.bool r) ∧ Drawn0 w w' := by
 have H := h; unfold spec_l1In.f at H; clear h; replace H := sqj H; rcases H with ⟨c4, H⟩ | ⟨c4, H⟩
 ·have c4b0 : decide (a1 ≤ a0) = true := decide_eq_true c4; clear c4; obtain rfl := Option.some.inj H; go_enter Try.func105, Try.ntmps105
  go_wp2
  go_ret
  exact ⟨by first | rfl | (simp; done) | (simp [*]; done), by repeat (first | exact Drawn0.refl _ | apply Drawn0.step)⟩
 have c4b0 : decide (a1 ≤ a0) = false := decide_eq_false c4; clear c4; obtain rfl := Option.some.inj H; go_enter Try.func105, Try.ntmps105
 go_wp2
 go_ret
 exact ⟨by first | rfl | (simp; done) | (simp [*]; done), by repeat (first | exact Drawn0.refl _ | apply Drawn0.step)⟩

/-! ### spec_NumOk: function 56 -/
set_option maxHeartbeats 8000000 in
set_option maxRecDepth 100000 in
theorem spec_NumOk.calls (a0 : Int) (r : Bool) (w : World) (h : spec_NumOk.f a0 = some r) :
  Calls Try.prog 56 #[.int .i64 a0] w fun e w' => e = .returned (.bool r) ∧ Drawn0 w w' := by
 have H := h; unfold spec_NumOk.f at H; clear h; replace H := sqbi H; obtain ⟨t0, A2, H⟩ := H; (try dsimp only at H); obtain rfl := Option.some.inj H; go_enter Try.func56, Try.ntmps56; go_wp2_with (first | ((with_reducible refine gate_callee (f := 105) rfl ?_); refine sqL (some 4) Try.func105 #[.int .i64 a0, .int .i64 (-2147483648), .int .i64 2147483647] ?_; (with_reducible refine (spec_l1In.calls a0 (-2147483648) 2147483647 t0 _ A2.out).mono ?_); rintro e w' ⟨rfl, ⟨nd, rfl⟩⟩; refine ⟨_, rfl, ?_⟩))
 go_ret
 exact ⟨by first | rfl | (simp; done) | (simp [*]; done), by repeat (first | exact Drawn0.refl _ | apply Drawn0.step)⟩

/-! ### spec_l8None: function 99 -/
set_option maxHeartbeats 8000000 in
set_option maxRecDepth 100000 in
theorem spec_l8None.calls  (r1 : Int) (r2 : Int) (w : World) (h : spec_l8None.f  = some (r1, r2)) :
  Calls Try.prog 99 #[] w fun e w' => e = .returned (.agg #[.int .i64 r1, .int .i64 r2]) ∧ Below w.heap.size w w' := by
 have hu24 := Try.underlying24; have HB := Aside0.mk (Below.refl w.heap.size w); have H := h; unfold spec_l8None.f at H; clear h; simp only [Option.some.injEq, Prod.mk.injEq] at H; obtain ⟨rfl, rfl⟩ := H; go_enter Try.func99, Try.ntmps99; go_wp2_with (first | ((with_reducible refine gate_dst (N := 0) rfl ?_); refine sqx 0 #[.int .i64 0, .int .i64 0] 24 ?_; intro gb0 hg w1 hbox hb; have B0 := Aside0.mk hbox; have GW0 := sqg HB hg; replace HB := sqs HB hb; clear hb hbox hg; obtain ⟨_, _, _, _⟩ := sqc2 B0)); refine bodyPost_ret (results_cell_row rfl _ _ gb0 24 #[.int .i64 1, .int .i64 0] (0, 0) _ rfl (sqP B0) Try.underlying24 rfl (by kernel_rfl)) rfl ?_; exact sqe HB

end Go.Proofs.Ytkekcenlleebeaa.PFnValCmp
