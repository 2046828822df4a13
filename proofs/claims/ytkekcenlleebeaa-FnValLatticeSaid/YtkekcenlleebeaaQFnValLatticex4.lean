/- Functions of the program as plain Lean functions, and that calls of them come to what these tell. Conditions: those in each law. -/
import Derived.Test.YtkekcenlleebeaaSq
import Derived.Test.YtkekcenlleebeaaDFnValLattice
import Derived.Test.YtkekcenlleebeaaQFnValLatticex0
import Derived.Test.YtkekcenlleebeaaQFnValLatticex1
namespace Go.Proofs.Ytkekcenlleebeaa.PFnValLattice
open Go.RowKit Go.Proofs.Ytkekcenlleebeaa.Sq Go.Proofs.YtkekcenlleebeaaW.PrintWords Go.Proofs.YtkekcenlleebeaaW.PrintLast Go.Proofs.YtkekcenlleebeaaW.PrintMore
attribute [local go_sem] max2_int min2_int max_two min_two max_three min_three max_four min_four   -- for this text's walks alone
set_option linter.unusedVariables false
set_option linter.unusedSimpArgs false

attribute [local go_sem high] eqA24
/-! ### impl_NumOk: function 117 -/
set_option maxHeartbeats 8000000 in
set_option maxRecDepth 100000 in
theorem impl_NumOk.calls (a0 : Int) (r : Bool) (w : World) (h : impl_NumOk.f a0 = some r) :
  Calls Try.prog 117 #[.int .i64 a0] w fun e w' => e = .returned (.bool r) ∧ Drawn0 w w' := by
 have H := h
 unfold impl_NumOk.f at H
 clear h
 replace H := sqj H
 rcases H with ⟨c2, H⟩ | ⟨c2, H⟩
 ·have c2b0 : decide ((-2147483648) ≤ a0) = true := decide_eq_true c2
  clear c2
  obtain rfl := Option.some.inj H
  go_enter Try.func117, Try.ntmps117
  go_wp2
  go_ret
  exact ⟨by first | rfl | (simp; done) | (simp [*]; done), by repeat (first | exact Drawn0.refl _ | apply Drawn0.step)⟩
 have c2b0 : decide ((-2147483648) ≤ a0) = false := decide_eq_false c2
 clear c2
 obtain rfl := Option.some.inj H
 go_enter Try.func117, Try.ntmps117
 go_wp2
 go_ret
 exact ⟨by first | rfl | (simp; done) | (simp [*]; done), by repeat (first | exact Drawn0.refl _ | apply Drawn0.step)⟩

/-! ### impl_rangeNone: function 126 -/
set_option maxHeartbeats 8000000 in
set_option maxRecDepth 100000 in
theorem impl_rangeNone.calls  (r1 : Int) (r2 : Int) (w : World) (h : impl_rangeNone.f  = some (r1, r2)) :
  Calls Try.prog 126 #[] w fun e w' => e = .returned (.agg #[.int .i64 r1, .int .i64 r2]) ∧ Below w.heap.size w w' := by
 have hu24 := Try.underlying24
 have HB := Aside0.mk (Below.refl w.heap.size w)
 have H := h
 unfold impl_rangeNone.f at H
 clear h
 simp only [Option.some.injEq, Prod.mk.injEq] at H
 obtain ⟨rfl, rfl⟩ := H
 go_enter Try.func126, Try.ntmps126
 go_wp2_with (first | ((with_reducible refine gate_dst (N := 0) rfl ?_); refine sqx 0 #[.int .i64 0, .int .i64 0] 24 ?_; intro gb101 hg w1 hbox hb; have BK101 := Aside0.mk hbox; have GW101 := sqg HB hg; replace HB := sqs HB hb; clear hb hbox hg; obtain ⟨_, _, _, _⟩ := sqc2 BK101))
 refine bodyPost_ret (results_cell_row rfl _ _ gb101 24 #[.int .i64 1, .int .i64 0] (0, 0) _ rfl (sqP BK101) Try.underlying24 rfl (by kernel_rfl)) rfl ?_
 exact sqe HB

/-! ### impl_RangeOk: function 76 -/
def impl_RangeOk.T1 : Bool × List (List Nat × List Nat) := (true, [([], []), ([], []), ([0, 1], [0, 1]), ([2, 1], [2]), ([3], [3]), ([4, 3], [3, 4]), ([5, 3, 3], [3, 5]), ([6, 6, 3], [3, 6]), ([7], [7]), ([8, 7], [7, 8]), ([9, 7, 7], [7, 9]), ([7, 10, 3], [3, 7, 10]), ([11, 10, 3], [3, 11]), ([12], [12]), ([13, 12], [12, 13]), ([12], [12]), ([15, 12], [12, 15]), ([14, 16, 12], [12, 14, 16]), ([12, 17, 3], [3, 12, 17]), ([3, 18], [3, 18]), ([19, 12, 0, 1, 2, 3, 4, 5, 6, 7, 8, 9, 10, 11, 12, 13, 14, 15, 16, 17, 18, 19], [19])])
def impl_RangeOk.B1 : List Nat := [0, 0, 3, 7, 15, 31, 63, 127, 255, 511, 1023, 2047, 4095, 8191, 16383, 8191, 40959, 131071, 262143, 524287, 1048575]
theorem impl_RangeOk.tab1 : rtab .any (opsOf Try.f76 1) = impl_RangeOk.T1 := by kernel_rfl
theorem impl_RangeOk.bits1 : waitsOk impl_RangeOk.T1.2 impl_RangeOk.B1 = true := by kernel_rfl
set_option maxHeartbeats 8000000 in
set_option maxRecDepth 100000 in
theorem impl_RangeOk.calls (a0_0 : Int) (a0_1 : Int) (r : Bool) (w : World) (h : impl_RangeOk.f a0_0 a0_1 = some r) :
  Calls Try.prog 76 #[.agg #[.int .i64 a0_0, .int .i64 a0_1]] w fun e w' => e = .returned (.bool r) ∧ Below w.heap.size w w' := by
 have hu24 := Try.underlying24
 have HB := Aside0.mk (Below.refl w.heap.size w)
 have H := h
 unfold impl_RangeOk.f at H
 clear h
 replace H := sqbi H
 obtain ⟨⟨t103, t104⟩, A2, H⟩ := H
 try dsimp only at H
 replace H := sqj H
 rcases H with ⟨c3, H⟩ | ⟨c3, H⟩
 ·have c3b0 : (a0_0 == t103 && (a0_1 == t104)) = true := c3
  (try (have c3b1 : decide (a0_0 = t103 && (a0_1 == t104)) = true := by simpa using c3))
  (try (have c3b2 : (a0_0 == t103 && (a0_1 == t104)) = true := by simpa using c3))
  clear c3
  obtain rfl := Option.some.inj H
  go_enter Try.func76, Try.ntmps76
  try go_wp2_with (first | ((with_reducible refine gate_dst (N := 1) rfl ?_); refine sqx 1 #[.int .i64 a0_0, .int .i64 a0_1] 24 ?_; intro gb102 hg w4 hbox hb; have BK102 := Aside0.mk hbox; have GW102 := sqg HB hg; replace HB := sqs HB hb; clear hb hbox hg))
  replace BK102 := sqdr BK102
  replace HB := sqdB HB
  refine sqst 21 (fun w' => w'.cell? ⟨gb102, 0, none⟩ = some (.int .i64 a0_0) ∧ w'.cell? ⟨gb102, 1, none⟩ = some (.int .i64 a0_1)) sqz (fun hHeld => ?_); refine with_tabW impl_RangeOk.tab1 impl_RangeOk.bits1 (fun HT_ HW_ => ?_)
  generalize w4.drew = w5 at BK102 HB hHeld ⊢
  refine sqw HT_ HW_ 0 3 hHeld ?_
  refine sqo HT_ 1 4 (fun K hK => ?_)
  refine sqG Try.func126 #[] ?_
  with_reducible refine (impl_rangeNone.calls  t103 t104 _ A2.out).mono ?_
  rintro e w6 ⟨rfl, hb⟩
  refine ⟨_, rfl, ?_⟩
  replace BK102 := sqb BK102 hb
  replace HB := sqs HB hb
  (try clear hb)
  refine hK.out _ _ sqz (fun hHeld => ?_)
  clear hK K
  refine sqnm ?_
  refine sqp HT_ 2 5 ?_
  refine sqp HT_ 3 6 ?_
  refine sqpu HT_ 4 7 ?_
  refine sqpu HT_ 5 8 ?_
  refine sqpu HT_ 6 9 ?_
  refine sqpu HT_ 7 10 ?_
  refine sqpu HT_ 8 11 ?_
  refine sqpu HT_ 9 12 ?_
  refine sqpu HT_ 10 13 ?_
  refine sqpu HT_ 11 14 ?_
  refine sqpu HT_ 12 15 ?_
  refine sqpu HT_ 13 16 ?_
  refine sqpu HT_ 14 17 ?_
  refine sqpu HT_ 15 18 ?_
  refine sqpu HT_ 16 19 ?_
  refine sqpu HT_ 17 20 ?_
  refine sqpu HT_ 18 21 ?_
  refine sqp HT_ 19 22 ?_
  refine sqp HT_ 20 2 ?_
  refine done_ (done_of HT_.out (by kernel_rfl)) ?_
  try go_wp2
  go_ret
  exact sqe HB
 have c3b0 : (a0_0 == t103 && (a0_1 == t104)) = false := by simpa using c3
 (try (have c3b1 : decide (a0_0 = t103 && (a0_1 == t104)) = false := by simpa using c3))
 (try (have c3b2 : (a0_0 == t103 && (a0_1 == t104)) = false := by simpa using c3))
 (try (have c3b3 : ¬ (a0_0 = t103 && (a0_1 == t104)) := by simpa using c3))
 clear c3
 replace H := sqbi H
 obtain ⟨t105, A7, H⟩ := H
 try dsimp only at H
 rcases sqI (t105 = true) with c8 | c8
 ·replace c8 := Bool.eq_false_iff.mpr c8
  subst c8
  have H1 : (some false) = some r := by rw [if_neg (show ¬ (false = true) by decide)] at H; exact H
  clear H
  have H := H1
  clear H1
  obtain rfl := Option.some.inj H
  go_enter Try.func76, Try.ntmps76
  try go_wp2_with (first | ((with_reducible refine gate_dst (N := 1) rfl ?_); refine sqx 1 #[.int .i64 a0_0, .int .i64 a0_1] 24 ?_; intro gb102 hg w17 hbox hb; have BK102 := Aside0.mk hbox; have GW102 := sqg HB hg; replace HB := sqs HB hb; clear hb hbox hg))
  replace BK102 := sqdr BK102
  replace HB := sqdB HB
  refine sqst 21 (fun w' => w'.cell? ⟨gb102, 0, none⟩ = some (.int .i64 a0_0) ∧ w'.cell? ⟨gb102, 1, none⟩ = some (.int .i64 a0_1)) sqz (fun hHeld => ?_); refine with_tabW impl_RangeOk.tab1 impl_RangeOk.bits1 (fun HT_ HW_ => ?_)
  generalize w17.drew = w18 at BK102 HB hHeld ⊢
  refine sqw HT_ HW_ 0 3 hHeld ?_
  refine sqo HT_ 1 4 (fun K hK => ?_)
  refine sqG Try.func126 #[] ?_
  with_reducible refine (impl_rangeNone.calls  t103 t104 _ A2.out).mono ?_
  rintro e w19 ⟨rfl, hb⟩
  refine ⟨_, rfl, ?_⟩
  replace BK102 := sqb BK102 hb
  replace HB := sqs HB hb
  (try clear hb)
  refine hK.out _ _ sqz (fun hHeld => ?_)
  clear hK K
  refine sqnm ?_
  refine sqp HT_ 2 5 ?_
  refine sqp HT_ 3 6 ?_
  refine sqp HT_ 4 7 ?_
  refine sqw HT_ HW_ 5 8 hHeld ?_
  refine sqo HT_ 6 9 (fun K hK => ?_)
  refine sqG Try.func117 #[.int .i64 a0_0] ?_
  with_reducible refine (impl_NumOk.calls a0_0 false _ A7.out).mono ?_
  rintro e w' ⟨rfl, ⟨nd, rfl⟩⟩
  refine ⟨_, rfl, ?_⟩
  refine hK.out _ _ sqz (fun hHeld => ?_)
  clear hK K
  refine sqnm ?_
  refine sqp HT_ 7 10 ?_
  refine sqpu HT_ 8 11 ?_
  refine sqpu HT_ 9 12 ?_
  refine sqpu HT_ 10 13 ?_
  refine sqp HT_ 11 14 ?_
  refine sqp HT_ 12 15 ?_
  refine sqpu HT_ 13 16 ?_
  refine sqpu HT_ 14 17 ?_
  refine sqpu HT_ 15 18 ?_
  refine sqpu HT_ 16 19 ?_
  refine sqpu HT_ 17 20 ?_
  refine sqp HT_ 18 21 ?_
  refine sqp HT_ 19 22 ?_
  refine sqp HT_ 20 2 ?_
  refine done_ (done_of HT_.out (by kernel_rfl)) ?_
  try go_wp2
  go_ret
  exact sqe HB
 subst c8
 have H1 : ((impl_NumOk.f a0_1).bind fun t106 => (if t106 = true then (some (decide (a0_0 ≤ a0_1))) else (some false))) = some r := by rw [if_pos rfl] at H; exact H
 clear H
 have H := H1
 clear H1
 replace H := sqbi H
 obtain ⟨t106, A9, H⟩ := H
 try dsimp only at H
 by_cases c10 : t106 = true
 ·subst c10
  have H1 : (some (decide (a0_0 ≤ a0_1))) = some r := by rw [if_pos rfl] at H; exact H
  clear H
  have H := H1
  clear H1
  obtain rfl := Option.some.inj H
  go_enter Try.func76, Try.ntmps76
  try go_wp2_with (first | ((with_reducible refine gate_dst (N := 1) rfl ?_); refine sqx 1 #[.int .i64 a0_0, .int .i64 a0_1] 24 ?_; intro gb102 hg w11 hbox hb; have BK102 := Aside0.mk hbox; have GW102 := sqg HB hg; replace HB := sqs HB hb; clear hb hbox hg))
  replace BK102 := sqdr BK102
  replace HB := sqdB HB
  refine sqst 21 (fun w' => w'.cell? ⟨gb102, 0, none⟩ = some (.int .i64 a0_0) ∧ w'.cell? ⟨gb102, 1, none⟩ = some (.int .i64 a0_1)) sqz (fun hHeld => ?_); refine with_tabW impl_RangeOk.tab1 impl_RangeOk.bits1 (fun HT_ HW_ => ?_)
  generalize w11.drew = w12 at BK102 HB hHeld ⊢
  refine sqw HT_ HW_ 0 3 hHeld ?_
  refine sqo HT_ 1 4 (fun K hK => ?_)
  refine sqG Try.func126 #[] ?_
  with_reducible refine (impl_rangeNone.calls  t103 t104 _ A2.out).mono ?_
  rintro e w13 ⟨rfl, hb⟩
  refine ⟨_, rfl, ?_⟩
  replace BK102 := sqb BK102 hb
  replace HB := sqs HB hb
  (try clear hb)
  refine hK.out _ _ sqz (fun hHeld => ?_)
  clear hK K
  refine sqnm ?_
  refine sqp HT_ 2 5 ?_
  refine sqp HT_ 3 6 ?_
  refine sqp HT_ 4 7 ?_
  refine sqw HT_ HW_ 5 8 hHeld ?_
  refine sqo HT_ 6 9 (fun K hK => ?_)
  refine sqG Try.func117 #[.int .i64 a0_0] ?_
  with_reducible refine (impl_NumOk.calls a0_0 true _ A7.out).mono ?_
  rintro e w' ⟨rfl, ⟨nd, rfl⟩⟩
  refine ⟨_, rfl, ?_⟩
  refine hK.out _ _ sqz (fun hHeld => ?_)
  clear hK K
  refine sqnm ?_
  refine sqp HT_ 7 10 ?_
  refine sqp HT_ 8 11 ?_
  refine sqw HT_ HW_ 9 12 hHeld ?_
  refine sqo HT_ 10 13 (fun K hK => ?_)
  refine sqG Try.func117 #[.int .i64 a0_1] ?_
  with_reducible refine (impl_NumOk.calls a0_1 true _ A9.out).mono ?_
  rintro e w' ⟨rfl, ⟨nd, rfl⟩⟩
  refine ⟨_, rfl, ?_⟩
  refine hK.out _ _ sqz (fun hHeld => ?_)
  clear hK K
  refine sqnm ?_
  refine sqp HT_ 11 14 ?_
  refine sqp HT_ 12 15 ?_
  refine sqp HT_ 13 16 ?_
  refine sqp HT_ 15 18 ?_
  refine sqw HT_ HW_ 14 17 hHeld ?_
  refine sqw HT_ HW_ 16 19 hHeld ?_
  refine sqp HT_ 17 20 ?_
  refine sqp HT_ 18 21 ?_
  refine sqp HT_ 19 22 ?_
  refine sqp HT_ 20 2 ?_
  refine done_ (done_of HT_.out (by kernel_rfl)) ?_
  try go_wp2
  go_ret
  exact sqe HB
 replace c10 := Bool.eq_false_iff.mpr c10
 subst c10
 have H1 : (some false) = some r := by rw [if_neg (show ¬ (false = true) by decide)] at H; exact H
 clear H
 have H := H1
 clear H1
 obtain rfl := Option.some.inj H
 go_enter Try.func76, Try.ntmps76
 try go_wp2_with (first | ((with_reducible refine gate_dst (N := 1) rfl ?_); refine sqx 1 #[.int .i64 a0_0, .int .i64 a0_1] 24 ?_; intro gb102 hg w14 hbox hb; have BK102 := Aside0.mk hbox; have GW102 := sqg HB hg; replace HB := sqs HB hb; clear hb hbox hg))
 replace BK102 := sqdr BK102
 replace HB := sqdB HB
 refine sqst 21 (fun w' => w'.cell? ⟨gb102, 0, none⟩ = some (.int .i64 a0_0) ∧ w'.cell? ⟨gb102, 1, none⟩ = some (.int .i64 a0_1)) sqz (fun hHeld => ?_); refine with_tabW impl_RangeOk.tab1 impl_RangeOk.bits1 (fun HT_ HW_ => ?_)
 generalize w14.drew = w15 at BK102 HB hHeld ⊢
 refine sqw HT_ HW_ 0 3 hHeld ?_
 refine sqo HT_ 1 4 (fun K hK => ?_)
 refine sqG Try.func126 #[] ?_
 with_reducible refine (impl_rangeNone.calls  t103 t104 _ A2.out).mono ?_
 rintro e w16 ⟨rfl, hb⟩
 refine ⟨_, rfl, ?_⟩
 replace BK102 := sqb BK102 hb
 replace HB := sqs HB hb
 (try clear hb)
 refine hK.out _ _ sqz (fun hHeld => ?_)
 clear hK K
 refine sqnm ?_
 refine sqp HT_ 2 5 ?_
 refine sqp HT_ 3 6 ?_
 refine sqp HT_ 4 7 ?_
 refine sqw HT_ HW_ 5 8 hHeld ?_
 refine sqo HT_ 6 9 (fun K hK => ?_)
 refine sqG Try.func117 #[.int .i64 a0_0] ?_
 with_reducible refine (impl_NumOk.calls a0_0 true _ A7.out).mono ?_
 rintro e w' ⟨rfl, ⟨nd, rfl⟩⟩
 refine ⟨_, rfl, ?_⟩
 refine hK.out _ _ sqz (fun hHeld => ?_)
 clear hK K
 refine sqnm ?_
 refine sqp HT_ 7 10 ?_
 refine sqp HT_ 8 11 ?_
 refine sqw HT_ HW_ 9 12 hHeld ?_
 refine sqo HT_ 10 13 (fun K hK => ?_)
 refine sqG Try.func117 #[.int .i64 a0_1] ?_
 with_reducible refine (impl_NumOk.calls a0_1 false _ A9.out).mono ?_
 rintro e w' ⟨rfl, ⟨nd, rfl⟩⟩
 refine ⟨_, rfl, ?_⟩
 refine hK.out _ _ sqz (fun hHeld => ?_)
 clear hK K
 refine sqnm ?_
 refine sqp HT_ 11 14 ?_
 refine sqp HT_ 12 15 ?_
 refine sqpu HT_ 13 16 ?_
 refine sqpu HT_ 14 17 ?_
 refine sqpu HT_ 15 18 ?_
 refine sqpu HT_ 16 19 ?_
 refine sqpu HT_ 17 20 ?_
 refine sqp HT_ 18 21 ?_
 refine sqp HT_ 19 22 ?_
 refine sqp HT_ 20 2 ?_
 refine done_ (done_of HT_.out (by kernel_rfl)) ?_
 try go_wp2
 go_ret
 exact sqe HB

/-! ### impl_RangeHas: function 48 -/
set_option maxHeartbeats 8000000 in
set_option maxRecDepth 100000 in
theorem impl_RangeHas.calls (a0_0 : Int) (a0_1 : Int) (a1 : Int) (r : Bool) (w : World) (h : impl_RangeHas.f a0_0 a0_1 a1 = some r) :
  Calls Try.prog 48 #[.agg #[.int .i64 a0_0, .int .i64 a0_1], .int .i64 a1] w fun e w' => e = .returned (.bool r) ∧ Below w.heap.size w w' := by
 have hu24 := Try.underlying24
 have HB := Aside0.mk (Below.refl w.heap.size w)
 have H := h
 unfold impl_RangeHas.f at H
 clear h
 replace H := sqbi H
 obtain ⟨t108, A3, H⟩ := H
 try dsimp only at H
 rcases sqI (t108 = true) with c4 | c4
 ·replace c4 := Bool.eq_false_iff.mpr c4
  subst c4
  have H1 : (some false) = some r := by rw [if_neg (show ¬ (false = true) by decide)] at H; exact H
  clear H
  have H := H1
  clear H1
  obtain rfl := Option.some.inj H
  go_enter Try.func48, Try.ntmps48
  go_wp2_with (first | ((with_reducible refine gate_dst (N := 2) rfl ?_); refine sqx 2 #[.int .i64 a0_0, .int .i64 a0_1] 24 ?_; intro gb107 hg w14 hbox hb; have BK107 := Aside0.mk hbox; have GW107 := sqg HB hg; replace HB := sqs HB hb; clear hb hbox hg; obtain ⟨_, _, _, _⟩ := sqc2 BK107) | ((with_reducible refine gate_callee (f := 76) rfl ?_); refine sqL (some 6) Try.func76 #[.agg #[.int .i64 a0_0, .int .i64 a0_1]] ?_; (with_reducible refine (impl_RangeOk.calls a0_0 a0_1 false _ A3.out).mono ?_); rintro e w16 ⟨rfl, hb⟩; refine ⟨_, rfl, ?_⟩; replace BK107 := sqb BK107 hb; replace HB := sqs HB hb; (try clear hb)))
  go_ret
  exact sqe HB
 subst c4
 have H1 : (if a0_0 ≤ a1 then (some (decide (a1 ≤ a0_1))) else (some false)) = some r := by rw [if_pos rfl] at H; exact H
 clear H
 have H := H1
 clear H1
 replace H := sqj H
 rcases H with ⟨c5, H⟩ | ⟨c5, H⟩
 ·have c5b0 := decide_eq_true c5
  clear c5
  obtain rfl := Option.some.inj H
  go_enter Try.func48, Try.ntmps48
  go_wp2_with (first | ((with_reducible refine gate_dst (N := 2) rfl ?_); refine sqx 2 #[.int .i64 a0_0, .int .i64 a0_1] 24 ?_; intro gb107 hg w6 hbox hb; have BK107 := Aside0.mk hbox; have GW107 := sqg HB hg; replace HB := sqs HB hb; clear hb hbox hg; obtain ⟨_, _, _, _⟩ := sqc2 BK107) | ((with_reducible refine gate_callee (f := 76) rfl ?_); refine sqL (some 6) Try.func76 #[.agg #[.int .i64 a0_0, .int .i64 a0_1]] ?_; (with_reducible refine (impl_RangeOk.calls a0_0 a0_1 true _ A3.out).mono ?_); rintro e w8 ⟨rfl, hb⟩; refine ⟨_, rfl, ?_⟩; replace BK107 := sqb BK107 hb; replace HB := sqs HB hb; (try clear hb); obtain ⟨_, _, _, _⟩ := sqc2 BK107))
  go_ret
  exact sqe HB
 have c5b0 := decide_eq_false c5
 clear c5
 obtain rfl := Option.some.inj H
 go_enter Try.func48, Try.ntmps48
 go_wp2_with (first | ((with_reducible refine gate_dst (N := 2) rfl ?_); refine sqx 2 #[.int .i64 a0_0, .int .i64 a0_1] 24 ?_; intro gb107 hg w10 hbox hb; have BK107 := Aside0.mk hbox; have GW107 := sqg HB hg; replace HB := sqs HB hb; clear hb hbox hg; obtain ⟨_, _, _, _⟩ := sqc2 BK107) | ((with_reducible refine gate_callee (f := 76) rfl ?_); refine sqL (some 6) Try.func76 #[.agg #[.int .i64 a0_0, .int .i64 a0_1]] ?_; (with_reducible refine (impl_RangeOk.calls a0_0 a0_1 true _ A3.out).mono ?_); rintro e w12 ⟨rfl, hb⟩; refine ⟨_, rfl, ?_⟩; replace BK107 := sqb BK107 hb; replace HB := sqs HB hb; (try clear hb); obtain ⟨_, _, _, _⟩ := sqc2 BK107))
 go_ret
 exact sqe HB

end Go.Proofs.Ytkekcenlleebeaa.PFnValLattice
