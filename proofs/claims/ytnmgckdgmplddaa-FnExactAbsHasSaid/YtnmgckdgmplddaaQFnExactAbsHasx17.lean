/- Functions of the program as plain Lean functions, and that calls of them come to what these tell. Conditions: those in each law. -/
import Derived.Test.YtnmgckdgmplddaaSq
import Derived.Test.YtnmgckdgmplddaaDFnExactAbsHas
import Derived.Test.YtnmgckdgmplddaaQFnExactAbsHasx0
import Derived.Test.YtnmgckdgmplddaaQFnExactAbsHasx2
import Derived.Test.YtnmgckdgmplddaaQFnExactAbsHasx16
namespace Go.Proofs.Ytnmgckdgmplddaa.PFnExactAbsHas
open Go.RowKit Go.Proofs.Ytnmgckdgmplddaa.Sq Go.Proofs.YtnmgckdgmplddaaW.PrintWords Go.Proofs.YtnmgckdgmplddaaW.PrintLast Go.Proofs.YtnmgckdgmplddaaW.PrintMore
attribute [local go_sem] max2_int min2_int max_two min_two max_three min_three max_four min_four   -- for this text's walks alone
set_option linter.unusedVariables false
set_option linter.unusedSimpArgs false

attribute [local go_sem high] eqA92
/-! ### impl_RangeOk: function 75 -/
def impl_RangeOk.T1 : Bool × List (List Nat × List Nat) := (true, [([], []), ([], []), ([0, 1], [0, 1]), ([2, 1], [2]), ([3], [3]), ([4, 3], [3, 4]), ([5, 3, 3], [3, 5]), ([6, 6, 3], [3, 6]), ([7], [7]), ([8, 7], [7, 8]), ([9, 7, 7], [7, 9]), ([7, 10, 3], [3, 7, 10]), ([11, 10, 3], [3, 11]), ([12], [12]), ([13, 12], [12, 13]), ([12], [12]), ([15, 12], [12, 15]), ([14, 16, 12], [12, 14, 16]), ([12, 17, 3], [3, 12, 17]), ([3, 18], [3, 18]), ([19, 12, 0, 1, 2, 3, 4, 5, 6, 7, 8, 9, 10, 11, 12, 13, 14, 15, 16, 17, 18, 19], [19])])
def impl_RangeOk.B1 : List Nat := [0, 0, 3, 7, 15, 31, 63, 127, 255, 511, 1023, 2047, 4095, 8191, 16383, 8191, 40959, 131071, 262143, 524287, 1048575]
theorem impl_RangeOk.tab1 : rtab .any (opsOf Try.f75 1) = impl_RangeOk.T1 := by kernel_rfl
theorem impl_RangeOk.bits1 : waitsOk impl_RangeOk.T1.2 impl_RangeOk.B1 = true := by kernel_rfl
set_option maxHeartbeats 8000000 in
set_option maxRecDepth 100000 in
theorem impl_RangeOk.calls (a0_0 : Int) (a0_1 : Int) (r : Bool) (w : World) (h : impl_RangeOk.f a0_0 a0_1 = some r) :
  Calls Try.prog 75 #[.agg #[.int .i64 a0_0, .int .i64 a0_1]] w fun e w' => e = .returned (.bool r) ∧ Below w.heap.size w w' := by
 have hu92 := Try.underlying92
 have HB := Aside0.mk (Below.refl w.heap.size w)
 have H := h
 unfold impl_RangeOk.f at H
 clear h
 replace H := Option.bind_eq_some_iff.mp H
 obtain ⟨⟨t354, t355⟩, A20, H⟩ := H
 try dsimp only at H
 have A2 := Aside0.mk A20
 clear A20
 replace H := sqj H
 rcases H with ⟨c3, H⟩ | ⟨c3, H⟩
 ·have c3b0 : (a0_0 == t354 && (a0_1 == t355)) = true := c3
  (try (have c3b1 : decide (a0_0 = t354 && (a0_1 == t355)) = true := by simpa using c3))
  (try (have c3b2 : (a0_0 == t354 && (a0_1 == t355)) = true := by simpa using c3))
  clear c3
  obtain rfl := Option.some.inj H
  go_enter Try.func75, Try.ntmps75
  try go_wp2_with (first | ((with_reducible refine gate_dst (N := 1) rfl ?_); refine sqx 1 #[.int .i64 a0_0, .int .i64 a0_1] 92 ?_; intro gb353 hg w4 hbox hb; have BK353 := Aside0.mk hbox; have GW353 := sqg HB hg; have GE353 := sqg HB hg; replace HB := sqs HB hb; clear hb hbox hg))
  replace BK353 := Aside0.mk (blk_drew BK353.out)
  replace HB := Aside0.mk (below_drew1 HB.out)
  refine start_ (n := 21) (S := fun w' => w'.cell? ⟨gb353, 0, none⟩ = some (.int .i64 a0_0) ∧ w'.cell? ⟨gb353, 1, none⟩ = some (.int .i64 a0_1)) (ds := []) #[false, false, false, false, false, false, false, false, false, false, false, false, false, false, false, false, false, false, false, false, false] (by kernel_rfl) rfl rfl sqz (fun hHeld => ?_); refine with_tabW impl_RangeOk.tab1 impl_RangeOk.bits1 (fun HT_ HW_ => ?_)
  generalize w4.drew = w5 at BK353 HB hHeld ⊢
  refine sqw HT_ HW_ 0 3 hHeld ?_
  refine sqo HT_ 1 4 (fun K hK => ?_)
  refine sqG Try.func82 #[] ?_
  with_reducible refine (impl_rangeNone.calls  t354 t355 _ A2.out).mono ?_
  rintro e w6 ⟨rfl, hb⟩
  refine ⟨_, rfl, ?_⟩
  replace BK353 := sqb BK353 hb
  replace HB := sqs HB hb
  (try clear hb)
  refine hK.out _ _ sqz (fun hHeld => ?_)
  clear hK K
  refine sqnm ?_
  refine sqp HT_ 2 5 ?_
  refine sqp HT_ 3 6 ?_
  refine sqpu HT_ 4 7 ?_
  refine sqpu HT_ 5 8 ?_
  refine sqpu HT_ 6 9 ?_
  refine sqpu HT_ 7 10 ?_
  refine sqpu HT_ 8 11 ?_
  refine sqpu HT_ 9 12 ?_
  refine sqpu HT_ 10 13 ?_
  refine sqpu HT_ 11 14 ?_
  refine sqpu HT_ 12 15 ?_
  refine sqpu HT_ 13 16 ?_
  refine sqpu HT_ 14 17 ?_
  refine sqpu HT_ 15 18 ?_
  refine sqpu HT_ 16 19 ?_
  refine sqpu HT_ 17 20 ?_
  refine sqpu HT_ 18 21 ?_
  refine sqp HT_ 19 22 ?_
  refine sqp HT_ 20 2 ?_
  refine done_ (done_of HT_.out (by kernel_rfl)) ?_
  try go_wp2
  go_ret
  exact sqe HB
 have c3b0 : (a0_0 == t354 && (a0_1 == t355)) = false := by simpa using c3
 (try (have c3b1 : decide (a0_0 = t354 && (a0_1 == t355)) = false := by simpa using c3))
 (try (have c3b2 : (a0_0 == t354 && (a0_1 == t355)) = false := by simpa using c3))
 (try (have c3b3 : ¬ (a0_0 = t354 && (a0_1 == t355)) := by simpa using c3))
 clear c3
 replace H := Option.bind_eq_some_iff.mp H
 obtain ⟨t356, A70, H⟩ := H
 try dsimp only at H
 have A7 := Aside0.mk A70
 clear A70
 rcases sqI (t356 = true) with c8 | c8
 ·replace c8 := Bool.eq_false_iff.mpr c8
  subst c8
  have H1 : (some false) = some r := by rw [if_neg (show ¬ (false = true) by decide)] at H; exact H
  clear H
  have H := H1
  clear H1
  obtain rfl := Option.some.inj H
  go_enter Try.func75, Try.ntmps75
  try go_wp2_with (first | ((with_reducible refine gate_dst (N := 1) rfl ?_); refine sqx 1 #[.int .i64 a0_0, .int .i64 a0_1] 92 ?_; intro gb353 hg w17 hbox hb; have BK353 := Aside0.mk hbox; have GW353 := sqg HB hg; have GE353 := sqg HB hg; replace HB := sqs HB hb; clear hb hbox hg))
  replace BK353 := Aside0.mk (blk_drew BK353.out)
  replace HB := Aside0.mk (below_drew1 HB.out)
  refine start_ (n := 21) (S := fun w' => w'.cell? ⟨gb353, 0, none⟩ = some (.int .i64 a0_0) ∧ w'.cell? ⟨gb353, 1, none⟩ = some (.int .i64 a0_1)) (ds := []) #[false, false, false, false, false, false, false, false, false, false, false, false, false, false, false, false, false, false, false, false, false] (by kernel_rfl) rfl rfl sqz (fun hHeld => ?_); refine with_tabW impl_RangeOk.tab1 impl_RangeOk.bits1 (fun HT_ HW_ => ?_)
  generalize w17.drew = w18 at BK353 HB hHeld ⊢
  refine sqw HT_ HW_ 0 3 hHeld ?_
  refine sqo HT_ 1 4 (fun K hK => ?_)
  refine sqG Try.func82 #[] ?_
  with_reducible refine (impl_rangeNone.calls  t354 t355 _ A2.out).mono ?_
  rintro e w19 ⟨rfl, hb⟩
  refine ⟨_, rfl, ?_⟩
  replace BK353 := sqb BK353 hb
  replace HB := sqs HB hb
  (try clear hb)
  refine hK.out _ _ sqz (fun hHeld => ?_)
  clear hK K
  refine sqnm ?_
  refine sqp HT_ 2 5 ?_
  refine sqp HT_ 3 6 ?_
  refine sqp HT_ 4 7 ?_
  refine sqw HT_ HW_ 5 8 hHeld ?_
  refine sqo HT_ 6 9 (fun K hK => ?_)
  refine sqG Try.func64 #[.int .i64 a0_0] ?_
  with_reducible refine (impl_NumOk.calls a0_0 false _ A7.out).mono ?_
  rintro e w' ⟨rfl, ⟨nd, rfl⟩⟩
  refine ⟨_, rfl, ?_⟩
  refine hK.out _ _ sqz (fun hHeld => ?_)
  clear hK K
  refine sqnm ?_
  refine sqp HT_ 7 10 ?_
  refine sqpu HT_ 8 11 ?_
  refine sqpu HT_ 9 12 ?_
  refine sqpu HT_ 10 13 ?_
  refine sqp HT_ 11 14 ?_
  refine sqp HT_ 12 15 ?_
  refine sqpu HT_ 13 16 ?_
  refine sqpu HT_ 14 17 ?_
  refine sqpu HT_ 15 18 ?_
  refine sqpu HT_ 16 19 ?_
  refine sqpu HT_ 17 20 ?_
  refine sqp HT_ 18 21 ?_
  refine sqp HT_ 19 22 ?_
  refine sqp HT_ 20 2 ?_
  refine done_ (done_of HT_.out (by kernel_rfl)) ?_
  try go_wp2
  go_ret
  exact sqe HB
 subst c8
 have H1 : ((impl_NumOk.f a0_1).bind fun t357 => (if t357 = true then (some (decide (a0_0 ≤ a0_1))) else (some false))) = some r := by rw [if_pos rfl] at H; exact H
 clear H
 have H := H1
 clear H1
 replace H := Option.bind_eq_some_iff.mp H
 obtain ⟨t357, A90, H⟩ := H
 try dsimp only at H
 have A9 := Aside0.mk A90
 clear A90
 by_cases c10 : t357 = true
 ·subst c10
  have H1 : (some (decide (a0_0 ≤ a0_1))) = some r := by rw [if_pos rfl] at H; exact H
  clear H
  have H := H1
  clear H1
  obtain rfl := Option.some.inj H
  go_enter Try.func75, Try.ntmps75
  try go_wp2_with (first | ((with_reducible refine gate_dst (N := 1) rfl ?_); refine sqx 1 #[.int .i64 a0_0, .int .i64 a0_1] 92 ?_; intro gb353 hg w11 hbox hb; have BK353 := Aside0.mk hbox; have GW353 := sqg HB hg; have GE353 := sqg HB hg; replace HB := sqs HB hb; clear hb hbox hg))
  replace BK353 := Aside0.mk (blk_drew BK353.out)
  replace HB := Aside0.mk (below_drew1 HB.out)
  refine start_ (n := 21) (S := fun w' => w'.cell? ⟨gb353, 0, none⟩ = some (.int .i64 a0_0) ∧ w'.cell? ⟨gb353, 1, none⟩ = some (.int .i64 a0_1)) (ds := []) #[false, false, false, false, false, false, false, false, false, false, false, false, false, false, false, false, false, false, false, false, false] (by kernel_rfl) rfl rfl sqz (fun hHeld => ?_); refine with_tabW impl_RangeOk.tab1 impl_RangeOk.bits1 (fun HT_ HW_ => ?_)
  generalize w11.drew = w12 at BK353 HB hHeld ⊢
  refine sqw HT_ HW_ 0 3 hHeld ?_
  refine sqo HT_ 1 4 (fun K hK => ?_)
  refine sqG Try.func82 #[] ?_
  with_reducible refine (impl_rangeNone.calls  t354 t355 _ A2.out).mono ?_
  rintro e w13 ⟨rfl, hb⟩
  refine ⟨_, rfl, ?_⟩
  replace BK353 := sqb BK353 hb
  replace HB := sqs HB hb
  (try clear hb)
  refine hK.out _ _ sqz (fun hHeld => ?_)
  clear hK K
  refine sqnm ?_
  refine sqp HT_ 2 5 ?_
  refine sqp HT_ 3 6 ?_
  refine sqp HT_ 4 7 ?_
  refine sqw HT_ HW_ 5 8 hHeld ?_
  refine sqo HT_ 6 9 (fun K hK => ?_)
  refine sqG Try.func64 #[.int .i64 a0_0] ?_
  with_reducible refine (impl_NumOk.calls a0_0 true _ A7.out).mono ?_
  rintro e w' ⟨rfl, ⟨nd, rfl⟩⟩
  refine ⟨_, rfl, ?_⟩
  refine hK.out _ _ sqz (fun hHeld => ?_)
  clear hK K
  refine sqnm ?_
  refine sqp HT_ 7 10 ?_
  refine sqp HT_ 8 11 ?_
  refine sqw HT_ HW_ 9 12 hHeld ?_
  refine sqo HT_ 10 13 (fun K hK => ?_)
  refine sqG Try.func64 #[.int .i64 a0_1] ?_
  with_reducible refine (impl_NumOk.calls a0_1 true _ A9.out).mono ?_
  rintro e w' ⟨rfl, ⟨nd, rfl⟩⟩
  refine ⟨_, rfl, ?_⟩
  refine hK.out _ _ sqz (fun hHeld => ?_)
  clear hK K
  refine sqnm ?_
  refine sqp HT_ 11 14 ?_
  refine sqp HT_ 12 15 ?_
  refine sqp HT_ 13 16 ?_
  refine sqp HT_ 15 18 ?_
  refine sqw HT_ HW_ 14 17 hHeld ?_
  refine sqw HT_ HW_ 16 19 hHeld ?_
  refine sqp HT_ 17 20 ?_
  refine sqp HT_ 18 21 ?_
  refine sqp HT_ 19 22 ?_
  refine sqp HT_ 20 2 ?_
  refine done_ (done_of HT_.out (by kernel_rfl)) ?_
  try go_wp2
  go_ret
  exact sqe HB
 replace c10 := Bool.eq_false_iff.mpr c10
 subst c10
 have H1 : (some false) = some r := by rw [if_neg (show ¬ (false = true) by decide)] at H; exact H
 clear H
 have H := H1
 clear H1
 obtain rfl := Option.some.inj H
 go_enter Try.func75, Try.ntmps75
 try go_wp2_with (first | ((with_reducible refine gate_dst (N := 1) rfl ?_); refine sqx 1 #[.int .i64 a0_0, .int .i64 a0_1] 92 ?_; intro gb353 hg w14 hbox hb; have BK353 := Aside0.mk hbox; have GW353 := sqg HB hg; have GE353 := sqg HB hg; replace HB := sqs HB hb; clear hb hbox hg))
 replace BK353 := Aside0.mk (blk_drew BK353.out)
 replace HB := Aside0.mk (below_drew1 HB.out)
 refine start_ (n := 21) (S := fun w' => w'.cell? ⟨gb353, 0, none⟩ = some (.int .i64 a0_0) ∧ w'.cell? ⟨gb353, 1, none⟩ = some (.int .i64 a0_1)) (ds := []) #[false, false, false, false, false, false, false, false, false, false, false, false, false, false, false, false, false, false, false, false, false] (by kernel_rfl) rfl rfl sqz (fun hHeld => ?_); refine with_tabW impl_RangeOk.tab1 impl_RangeOk.bits1 (fun HT_ HW_ => ?_)
 generalize w14.drew = w15 at BK353 HB hHeld ⊢
 refine sqw HT_ HW_ 0 3 hHeld ?_
 refine sqo HT_ 1 4 (fun K hK => ?_)
 refine sqG Try.func82 #[] ?_
 with_reducible refine (impl_rangeNone.calls  t354 t355 _ A2.out).mono ?_
 rintro e w16 ⟨rfl, hb⟩
 refine ⟨_, rfl, ?_⟩
 replace BK353 := sqb BK353 hb
 replace HB := sqs HB hb
 (try clear hb)
 refine hK.out _ _ sqz (fun hHeld => ?_)
 clear hK K
 refine sqnm ?_
 refine sqp HT_ 2 5 ?_
 refine sqp HT_ 3 6 ?_
 refine sqp HT_ 4 7 ?_
 refine sqw HT_ HW_ 5 8 hHeld ?_
 refine sqo HT_ 6 9 (fun K hK => ?_)
 refine sqG Try.func64 #[.int .i64 a0_0] ?_
 with_reducible refine (impl_NumOk.calls a0_0 true _ A7.out).mono ?_
 rintro e w' ⟨rfl, ⟨nd, rfl⟩⟩
 refine ⟨_, rfl, ?_⟩
 refine hK.out _ _ sqz (fun hHeld => ?_)
 clear hK K
 refine sqnm ?_
 refine sqp HT_ 7 10 ?_
 refine sqp HT_ 8 11 ?_
 refine sqw HT_ HW_ 9 12 hHeld ?_
 refine sqo HT_ 10 13 (fun K hK => ?_)
 refine sqG Try.func64 #[.int .i64 a0_1] ?_
 with_reducible refine (impl_NumOk.calls a0_1 false _ A9.out).mono ?_
 rintro e w' ⟨rfl, ⟨nd, rfl⟩⟩
 refine ⟨_, rfl, ?_⟩
 refine hK.out _ _ sqz (fun hHeld => ?_)
 clear hK K
 refine sqnm ?_
 refine sqp HT_ 11 14 ?_
 refine sqp HT_ 12 15 ?_
 refine sqpu HT_ 13 16 ?_
 refine sqpu HT_ 14 17 ?_
 refine sqpu HT_ 15 18 ?_
 refine sqpu HT_ 16 19 ?_
 refine sqpu HT_ 17 20 ?_
 refine sqp HT_ 18 21 ?_
 refine sqp HT_ 19 22 ?_
 refine sqp HT_ 20 2 ?_
 refine done_ (done_of HT_.out (by kernel_rfl)) ?_
 try go_wp2
 go_ret
 exact sqe HB

/-! ### impl_RangeHas: function 60 -/
set_option maxHeartbeats 8000000 in
set_option maxRecDepth 100000 in
theorem impl_RangeHas.calls (a0_0 : Int) (a0_1 : Int) (a1 : Int) (r : Bool) (w : World) (h : impl_RangeHas.f a0_0 a0_1 a1 = some r) :
  Calls Try.prog 60 #[.agg #[.int .i64 a0_0, .int .i64 a0_1], .int .i64 a1] w fun e w' => e = .returned (.bool r) ∧ Below w.heap.size w w' := by
 have hu92 := Try.underlying92
 have HB := Aside0.mk (Below.refl w.heap.size w)
 have H := h
 unfold impl_RangeHas.f at H
 clear h
 replace H := Option.bind_eq_some_iff.mp H
 obtain ⟨t359, A30, H⟩ := H
 try dsimp only at H
 have A3 := Aside0.mk A30
 clear A30
 rcases sqI (t359 = true) with c4 | c4
 ·replace c4 := Bool.eq_false_iff.mpr c4
  subst c4
  have H1 : (some false) = some r := by rw [if_neg (show ¬ (false = true) by decide)] at H; exact H
  clear H
  have H := H1
  clear H1
  obtain rfl := Option.some.inj H
  go_enter Try.func60, Try.ntmps60
  go_wp2_with (first | ((with_reducible refine gate_dst (N := 2) rfl ?_); refine sqx 2 #[.int .i64 a0_0, .int .i64 a0_1] 92 ?_; intro gb358 hg w14 hbox hb; have BK358 := Aside0.mk hbox; have GW358 := sqg HB hg; have GE358 := sqg HB hg; replace HB := sqs HB hb; clear hb hbox hg; obtain ⟨hcz15_0, hcz15_1, hfz15_0, hfz15_1⟩ := sqc2 BK358) | ((with_reducible refine gate_callee (f := 75) rfl ?_); refine sqL (some 6) Try.func75 #[.agg #[.int .i64 a0_0, .int .i64 a0_1]] ?_; (with_reducible refine (impl_RangeOk.calls a0_0 a0_1 false _ A3.out).mono ?_); rintro e w16 ⟨rfl, hb⟩; refine ⟨_, rfl, ?_⟩; replace BK358 := sqb BK358 hb; replace HB := sqs HB hb; (try clear hb)))
  go_ret
  exact sqe HB
 subst c4
 have H1 : (if a0_0 ≤ a1 then (some (decide (a1 ≤ a0_1))) else (some false)) = some r := by rw [if_pos rfl] at H; exact H
 clear H
 have H := H1
 clear H1
 replace H := sqj H
 rcases H with ⟨c5, H⟩ | ⟨c5, H⟩
 ·have c5b0 := decide_eq_true c5
  clear c5
  obtain rfl := Option.some.inj H
  go_enter Try.func60, Try.ntmps60
  go_wp2_with (first | ((with_reducible refine gate_dst (N := 2) rfl ?_); refine sqx 2 #[.int .i64 a0_0, .int .i64 a0_1] 92 ?_; intro gb358 hg w6 hbox hb; have BK358 := Aside0.mk hbox; have GW358 := sqg HB hg; have GE358 := sqg HB hg; replace HB := sqs HB hb; clear hb hbox hg; obtain ⟨hcz7_0, hcz7_1, hfz7_0, hfz7_1⟩ := sqc2 BK358) | ((with_reducible refine gate_callee (f := 75) rfl ?_); refine sqL (some 6) Try.func75 #[.agg #[.int .i64 a0_0, .int .i64 a0_1]] ?_; (with_reducible refine (impl_RangeOk.calls a0_0 a0_1 true _ A3.out).mono ?_); rintro e w8 ⟨rfl, hb⟩; refine ⟨_, rfl, ?_⟩; replace BK358 := sqb BK358 hb; replace HB := sqs HB hb; (try clear hb); obtain ⟨hcz9_0, hcz9_1, hfz9_0, hfz9_1⟩ := sqc2 BK358))
  go_ret
  exact sqe HB
 have c5b0 := decide_eq_false c5
 clear c5
 obtain rfl := Option.some.inj H
 go_enter Try.func60, Try.ntmps60
 go_wp2_with (first | ((with_reducible refine gate_dst (N := 2) rfl ?_); refine sqx 2 #[.int .i64 a0_0, .int .i64 a0_1] 92 ?_; intro gb358 hg w10 hbox hb; have BK358 := Aside0.mk hbox; have GW358 := sqg HB hg; have GE358 := sqg HB hg; replace HB := sqs HB hb; clear hb hbox hg; obtain ⟨hcz11_0, hcz11_1, hfz11_0, hfz11_1⟩ := sqc2 BK358) | ((with_reducible refine gate_callee (f := 75) rfl ?_); refine sqL (some 6) Try.func75 #[.agg #[.int .i64 a0_0, .int .i64 a0_1]] ?_; (with_reducible refine (impl_RangeOk.calls a0_0 a0_1 true _ A3.out).mono ?_); rintro e w12 ⟨rfl, hb⟩; refine ⟨_, rfl, ?_⟩; replace BK358 := sqb BK358 hb; replace HB := sqs HB hb; (try clear hb); obtain ⟨hcz13_0, hcz13_1, hfz13_0, hfz13_1⟩ := sqc2 BK358))
 go_ret
 exact sqe HB

/-! ### impl_RestOk: function 76 -/
set_option maxHeartbeats 8000000 in
set_option maxRecDepth 100000 in
theorem impl_RestOk.calls (a0_0 : Int) (a0_1 : Int) (r : Bool) (w : World) (h : impl_RestOk.f a0_0 a0_1 = some r) :
  Calls Try.prog 76 #[.agg #[.int .i64 a0_0, .int .i64 a0_1]] w fun e w' => e = .returned (.bool r) ∧ Below w.heap.size w w' := by
 have hu96 := Try.underlying96
 have HB := Aside0.mk (Below.refl w.heap.size w)
 have H := h
 unfold impl_RestOk.f at H
 clear h
 replace H := sqj H
 rcases H with ⟨c2, H⟩ | ⟨c2, H⟩
 ·have c2b0 : (a0_0 == 0) = true := beq_iff_eq.mpr c2
  have c2b1 : (a0_0 != 0) = false := bne_eq_false_iff_eq.mpr c2
  clear c2
  replace H := Option.bind_eq_some_iff.mp H
  obtain ⟨t361, A30, H⟩ := H
  try dsimp only at H
  have A3 := Aside0.mk A30
  clear A30
  obtain rfl := Option.some.inj H
  go_enter Try.func76, Try.ntmps76
  go_wp2_with (first | ((with_reducible refine gate_dst (N := 1) rfl ?_); refine sqx 1 #[.int .i64 a0_0, .int .i64 a0_1] 96 ?_; intro gb360 hg w4 hbox hb; have BK360 := Aside0.mk hbox; have GW360 := sqg HB hg; have GE360 := sqg HB hg; replace HB := sqs HB hb; clear hb hbox hg; obtain ⟨hcz5_0, hcz5_1, hfz5_0, hfz5_1⟩ := sqc2 BK360) | ((with_reducible refine gate_callee (f := 64) rfl ?_); refine sqL (some 8) Try.func64 #[.int .i64 a0_1] ?_; (with_reducible refine (impl_NumOk.calls a0_1 t361 _ A3.out).mono ?_); rintro e w' ⟨rfl, ⟨nd, rfl⟩⟩; refine ⟨_, rfl, ?_⟩))
  go_ret
  exact sqe HB
 have c2b0 : (a0_0 == 0) = false := beq_eq_false_iff_ne.mpr c2
 have c2b1 : (a0_0 != 0) = true := bne_iff_ne.mpr c2
 replace H := sqi H
 rcases H with ⟨c6, H⟩ | ⟨c6, H⟩
 ·have c6b0 : decide (1 ≤ a0_0) = false := decide_eq_false c6
  clear c6
  obtain rfl := Option.some.inj H
  go_enter Try.func76, Try.ntmps76
  go_wp2_with (first | ((with_reducible refine gate_dst (N := 1) rfl ?_); refine sqx 1 #[.int .i64 a0_0, .int .i64 a0_1] 96 ?_; intro gb360 hg w15 hbox hb; have BK360 := Aside0.mk hbox; have GW360 := sqg HB hg; have GE360 := sqg HB hg; replace HB := sqs HB hb; clear hb hbox hg; obtain ⟨hcz16_0, hcz16_1, hfz16_0, hfz16_1⟩ := sqc2 BK360))
  go_ret
  exact sqe HB
 have c6b0 : decide (1 ≤ a0_0) = true := decide_eq_true c6
 clear c6
 replace H := sqi H
 rcases H with ⟨c7, H⟩ | ⟨c7, H⟩
 ·have c7b0 := decide_eq_false c7
  clear c7
  obtain rfl := Option.some.inj H
  go_enter Try.func76, Try.ntmps76
  go_wp2_with (first | ((with_reducible refine gate_dst (N := 1) rfl ?_); refine sqx 1 #[.int .i64 a0_0, .int .i64 a0_1] 96 ?_; intro gb360 hg w13 hbox hb; have BK360 := Aside0.mk hbox; have GW360 := sqg HB hg; have GE360 := sqg HB hg; replace HB := sqs HB hb; clear hb hbox hg; obtain ⟨hcz14_0, hcz14_1, hfz14_0, hfz14_1⟩ := sqc2 BK360))
  go_ret
  exact sqe HB
 have c7b0 := decide_eq_true c7
 clear c7
 replace H := sqj H
 rcases H with ⟨c8, H⟩ | ⟨c8, H⟩
 ·have c8b0 : decide (0 ≤ a0_1) = true := decide_eq_true c8
  clear c8
  obtain rfl := Option.some.inj H
  go_enter Try.func76, Try.ntmps76
  go_wp2_with (first | ((with_reducible refine gate_dst (N := 1) rfl ?_); refine sqx 1 #[.int .i64 a0_0, .int .i64 a0_1] 96 ?_; intro gb360 hg w9 hbox hb; have BK360 := Aside0.mk hbox; have GW360 := sqg HB hg; have GE360 := sqg HB hg; replace HB := sqs HB hb; clear hb hbox hg; obtain ⟨hcz10_0, hcz10_1, hfz10_0, hfz10_1⟩ := sqc2 BK360))
  go_ret
  exact sqe HB
 have c8b0 : decide (0 ≤ a0_1) = false := decide_eq_false c8
 clear c8
 obtain rfl := Option.some.inj H
 go_enter Try.func76, Try.ntmps76
 go_wp2_with (first | ((with_reducible refine gate_dst (N := 1) rfl ?_); refine sqx 1 #[.int .i64 a0_0, .int .i64 a0_1] 96 ?_; intro gb360 hg w11 hbox hb; have BK360 := Aside0.mk hbox; have GW360 := sqg HB hg; have GE360 := sqg HB hg; replace HB := sqs HB hb; clear hb hbox hg; obtain ⟨hcz12_0, hcz12_1, hfz12_0, hfz12_1⟩ := sqc2 BK360))
 go_ret
 exact sqe HB

end Go.Proofs.Ytnmgckdgmplddaa.PFnExactAbsHas
