/- Functions of the program as plain Lean functions, and that calls of them come to what these tell. Conditions: those in each law. -/
import Derived.Test.YtnmgckdgmplddaaSq
import Derived.Test.YtnmgckdgmplddaaDFnExactAbsHas
import Derived.Test.YtnmgckdgmplddaaQFnExactAbsHasx0
import Derived.Test.YtnmgckdgmplddaaQFnExactAbsHasx2
import Derived.Test.YtnmgckdgmplddaaQFnExactAbsHasx3
namespace Go.Proofs.Ytnmgckdgmplddaa.PFnExactAbsHas
open Go.RowKit Go.Proofs.Ytnmgckdgmplddaa.Sq Go.Proofs.YtnmgckdgmplddaaW.PrintWords Go.Proofs.YtnmgckdgmplddaaW.PrintLast Go.Proofs.YtnmgckdgmplddaaW.PrintMore
attribute [local go_sem] max2_int min2_int max_two min_two max_three min_three max_four min_four   -- for this text's walks alone
set_option linter.unusedVariables false
set_option linter.unusedSimpArgs false

attribute [local go_sem high] eqA92
/-! ### spec_RangeOk: function 69 -/
def spec_RangeOk.T1 : Bool × List (List Nat × List Nat) := (true, [([], []), ([], []), ([0, 1], [0, 1]), ([2, 1], [2]), ([3], [3]), ([4, 3], [3, 4]), ([5, 3, 3], [3, 5]), ([6, 6, 3], [3, 6]), ([7], [7]), ([8, 7], [7, 8]), ([9, 7, 7], [7, 9]), ([7, 10, 3], [3, 7, 10]), ([11, 10, 3], [3, 11]), ([12], [12]), ([13, 12], [12, 13]), ([12], [12]), ([15, 12], [12, 15]), ([14, 16, 12], [12, 14, 16]), ([12, 17, 3], [3, 12, 17]), ([3, 18], [3, 18]), ([19, 12, 0, 1, 2, 3, 4, 5, 6, 7, 8, 9, 10, 11, 12, 13, 14, 15, 16, 17, 18, 19], [19])])
def spec_RangeOk.B1 : List Nat := [0, 0, 3, 7, 15, 31, 63, 127, 255, 511, 1023, 2047, 4095, 8191, 16383, 8191, 40959, 131071, 262143, 524287, 1048575]
theorem spec_RangeOk.tab1 : rtab .any (opsOf Try.f69 1) = spec_RangeOk.T1 := by kernel_rfl
theorem spec_RangeOk.bits1 : waitsOk spec_RangeOk.T1.2 spec_RangeOk.B1 = true := by kernel_rfl
set_option maxHeartbeats 8000000 in
set_option maxRecDepth 100000 in
theorem spec_RangeOk.calls (a0_0 : Int) (a0_1 : Int) (r : Bool) (w : World) (h : spec_RangeOk.f a0_0 a0_1 = some r) :
  Calls Try.prog 69 #[.agg #[.int .i64 a0_0, .int .i64 a0_1]] w fun e w' => e = .returned (.bool r) ∧ Below w.heap.size w w' := by
 have hu92 := Try.underlying92
 have HB := Aside0.mk (Below.refl w.heap.size w)
 have H := h
 unfold spec_RangeOk.f at H
 clear h
 replace H := Option.bind_eq_some_iff.mp H
 obtain ⟨⟨t124, t125⟩, A20, H⟩ := H
 try dsimp only at H
 have A2 := Aside0.mk A20
 clear A20
 replace H := sqj H
 rcases H with ⟨c3, H⟩ | ⟨c3, H⟩
 ·have c3b0 : (a0_0 == t124 && (a0_1 == t125)) = true := c3
  (try (have c3b1 : decide (a0_0 = t124 && (a0_1 == t125)) = true := by simpa using c3))
  (try (have c3b2 : (a0_0 == t124 && (a0_1 == t125)) = true := by simpa using c3))
  clear c3
  obtain rfl := Option.some.inj H
  go_enter Try.func69, Try.ntmps69
  try go_wp2_with (first | ((with_reducible refine gate_dst (N := 1) rfl ?_); refine sqx 1 #[.int .i64 a0_0, .int .i64 a0_1] 92 ?_; intro gb123 hg w4 hbox hb; have BK123 := Aside0.mk hbox; have GW123 := sqg HB hg; have GE123 := sqg HB hg; replace HB := sqs HB hb; clear hb hbox hg))
  replace BK123 := Aside0.mk (blk_drew BK123.out)
  replace HB := Aside0.mk (below_drew1 HB.out)
  refine start_ (n := 21) (S := fun w' => w'.cell? ⟨gb123, 0, none⟩ = some (.int .i64 a0_0) ∧ w'.cell? ⟨gb123, 1, none⟩ = some (.int .i64 a0_1)) (ds := []) #[false, false, false, false, false, false, false, false, false, false, false, false, false, false, false, false, false, false, false, false, false] (by kernel_rfl) rfl rfl sqz (fun hHeld => ?_); refine with_tabW spec_RangeOk.tab1 spec_RangeOk.bits1 (fun HT_ HW_ => ?_)
  generalize w4.drew = w5 at BK123 HB hHeld ⊢
  refine sqw HT_ HW_ 0 3 hHeld ?_
  refine sqo HT_ 1 4 (fun K hK => ?_)
  refine sqG Try.func78 #[] ?_
  with_reducible refine (spec_l8None.calls  t124 t125 _ A2.out).mono ?_
  rintro e w6 ⟨rfl, hb⟩
  refine ⟨_, rfl, ?_⟩
  replace BK123 := sqb BK123 hb
  replace HB := sqs HB hb
  (try clear hb)
  refine hK.out _ _ sqz (fun hHeld => ?_)
  clear hK K
  refine sqnm ?_
  refine sqp HT_ 2 5 ?_
  refine sqp HT_ 3 6 ?_
  refine sqpu HT_ 4 7 ?_
  refine sqpu HT_ 5 8 ?_
  refine sqpu HT_ 6 9 ?_
  refine sqpu HT_ 7 10 ?_
  refine sqpu HT_ 8 11 ?_
  refine sqpu HT_ 9 12 ?_
  refine sqpu HT_ 10 13 ?_
  refine sqpu HT_ 11 14 ?_
  refine sqpu HT_ 12 15 ?_
  refine sqpu HT_ 13 16 ?_
  refine sqpu HT_ 14 17 ?_
  refine sqpu HT_ 15 18 ?_
  refine sqpu HT_ 16 19 ?_
  refine sqpu HT_ 17 20 ?_
  refine sqpu HT_ 18 21 ?_
  refine sqp HT_ 19 22 ?_
  refine sqp HT_ 20 2 ?_
  refine done_ (done_of HT_.out (by kernel_rfl)) ?_
  try go_wp2
  go_ret
  exact sqe HB
 have c3b0 : (a0_0 == t124 && (a0_1 == t125)) = false := by simpa using c3
 (try (have c3b1 : decide (a0_0 = t124 && (a0_1 == t125)) = false := by simpa using c3))
 (try (have c3b2 : (a0_0 == t124 && (a0_1 == t125)) = false := by simpa using c3))
 (try (have c3b3 : ¬ (a0_0 = t124 && (a0_1 == t125)) := by simpa using c3))
 clear c3
 replace H := Option.bind_eq_some_iff.mp H
 obtain ⟨t126, A70, H⟩ := H
 try dsimp only at H
 have A7 := Aside0.mk A70
 clear A70
 rcases sqI (t126 = true) with c8 | c8
 ·replace c8 := Bool.eq_false_iff.mpr c8
  subst c8
  have H1 : (some false) = some r := by rw [if_neg (show ¬ (false = true) by decide)] at H; exact H
  clear H
  have H := H1
  clear H1
  obtain rfl := Option.some.inj H
  go_enter Try.func69, Try.ntmps69
  try go_wp2_with (first | ((with_reducible refine gate_dst (N := 1) rfl ?_); refine sqx 1 #[.int .i64 a0_0, .int .i64 a0_1] 92 ?_; intro gb123 hg w17 hbox hb; have BK123 := Aside0.mk hbox; have GW123 := sqg HB hg; have GE123 := sqg HB hg; replace HB := sqs HB hb; clear hb hbox hg))
  replace BK123 := Aside0.mk (blk_drew BK123.out)
  replace HB := Aside0.mk (below_drew1 HB.out)
  refine start_ (n := 21) (S := fun w' => w'.cell? ⟨gb123, 0, none⟩ = some (.int .i64 a0_0) ∧ w'.cell? ⟨gb123, 1, none⟩ = some (.int .i64 a0_1)) (ds := []) #[false, false, false, false, false, false, false, false, false, false, false, false, false, false, false, false, false, false, false, false, false] (by kernel_rfl) rfl rfl sqz (fun hHeld => ?_); refine with_tabW spec_RangeOk.tab1 spec_RangeOk.bits1 (fun HT_ HW_ => ?_)
  generalize w17.drew = w18 at BK123 HB hHeld ⊢
  refine sqw HT_ HW_ 0 3 hHeld ?_
  refine sqo HT_ 1 4 (fun K hK => ?_)
  refine sqG Try.func78 #[] ?_
  with_reducible refine (spec_l8None.calls  t124 t125 _ A2.out).mono ?_
  rintro e w19 ⟨rfl, hb⟩
  refine ⟨_, rfl, ?_⟩
  replace BK123 := sqb BK123 hb
  replace HB := sqs HB hb
  (try clear hb)
  refine hK.out _ _ sqz (fun hHeld => ?_)
  clear hK K
  refine sqnm ?_
  refine sqp HT_ 2 5 ?_
  refine sqp HT_ 3 6 ?_
  refine sqp HT_ 4 7 ?_
  refine sqw HT_ HW_ 5 8 hHeld ?_
  refine sqo HT_ 6 9 (fun K hK => ?_)
  refine sqG Try.func51 #[.int .i64 a0_0] ?_
  with_reducible refine (spec_NumOk.calls a0_0 false _ A7.out).mono ?_
  rintro e w' ⟨rfl, ⟨nd, rfl⟩⟩
  refine ⟨_, rfl, ?_⟩
  refine hK.out _ _ sqz (fun hHeld => ?_)
  clear hK K
  refine sqnm ?_
  refine sqp HT_ 7 10 ?_
  refine sqpu HT_ 8 11 ?_
  refine sqpu HT_ 9 12 ?_
  refine sqpu HT_ 10 13 ?_
  refine sqp HT_ 11 14 ?_
  refine sqp HT_ 12 15 ?_
  refine sqpu HT_ 13 16 ?_
  refine sqpu HT_ 14 17 ?_
  refine sqpu HT_ 15 18 ?_
  refine sqpu HT_ 16 19 ?_
  refine sqpu HT_ 17 20 ?_
  refine sqp HT_ 18 21 ?_
  refine sqp HT_ 19 22 ?_
  refine sqp HT_ 20 2 ?_
  refine done_ (done_of HT_.out (by kernel_rfl)) ?_
  try go_wp2
  go_ret
  exact sqe HB
 subst c8
 have H1 : ((spec_NumOk.f a0_1).bind fun t127 => (if t127 = true then (some (decide (a0_0 ≤ a0_1))) else (some false))) = some r := by rw [if_pos rfl] at H; exact H
 clear H
 have H := H1
 clear H1
 replace H := Option.bind_eq_some_iff.mp H
 obtain ⟨t127, A90, H⟩ := H
 try dsimp only at H
 have A9 := Aside0.mk A90
 clear A90
 by_cases c10 : t127 = true
 ·subst c10
  have H1 : (some (decide (a0_0 ≤ a0_1))) = some r := by rw [if_pos rfl] at H; exact H
  clear H
  have H := H1
  clear H1
  obtain rfl := Option.some.inj H
  go_enter Try.func69, Try.ntmps69
  try go_wp2_with (first | ((with_reducible refine gate_dst (N := 1) rfl ?_); refine sqx 1 #[.int .i64 a0_0, .int .i64 a0_1] 92 ?_; intro gb123 hg w11 hbox hb; have BK123 := Aside0.mk hbox; have GW123 := sqg HB hg; have GE123 := sqg HB hg; replace HB := sqs HB hb; clear hb hbox hg))
  replace BK123 := Aside0.mk (blk_drew BK123.out)
  replace HB := Aside0.mk (below_drew1 HB.out)
  refine start_ (n := 21) (S := fun w' => w'.cell? ⟨gb123, 0, none⟩ = some (.int .i64 a0_0) ∧ w'.cell? ⟨gb123, 1, none⟩ = some (.int .i64 a0_1)) (ds := []) #[false, false, false, false, false, false, false, false, false, false, false, false, false, false, false, false, false, false, false, false, false] (by kernel_rfl) rfl rfl sqz (fun hHeld => ?_); refine with_tabW spec_RangeOk.tab1 spec_RangeOk.bits1 (fun HT_ HW_ => ?_)
  generalize w11.drew = w12 at BK123 HB hHeld ⊢
  refine sqw HT_ HW_ 0 3 hHeld ?_
  refine sqo HT_ 1 4 (fun K hK => ?_)
  refine sqG Try.func78 #[] ?_
  with_reducible refine (spec_l8None.calls  t124 t125 _ A2.out).mono ?_
  rintro e w13 ⟨rfl, hb⟩
  refine ⟨_, rfl, ?_⟩
  replace BK123 := sqb BK123 hb
  replace HB := sqs HB hb
  (try clear hb)
  refine hK.out _ _ sqz (fun hHeld => ?_)
  clear hK K
  refine sqnm ?_
  refine sqp HT_ 2 5 ?_
  refine sqp HT_ 3 6 ?_
  refine sqp HT_ 4 7 ?_
  refine sqw HT_ HW_ 5 8 hHeld ?_
  refine sqo HT_ 6 9 (fun K hK => ?_)
  refine sqG Try.func51 #[.int .i64 a0_0] ?_
  with_reducible refine (spec_NumOk.calls a0_0 true _ A7.out).mono ?_
  rintro e w' ⟨rfl, ⟨nd, rfl⟩⟩
  refine ⟨_, rfl, ?_⟩
  refine hK.out _ _ sqz (fun hHeld => ?_)
  clear hK K
  refine sqnm ?_
  refine sqp HT_ 7 10 ?_
  refine sqp HT_ 8 11 ?_
  refine sqw HT_ HW_ 9 12 hHeld ?_
  refine sqo HT_ 10 13 (fun K hK => ?_)
  refine sqG Try.func51 #[.int .i64 a0_1] ?_
  with_reducible refine (spec_NumOk.calls a0_1 true _ A9.out).mono ?_
  rintro e w' ⟨rfl, ⟨nd, rfl⟩⟩
  refine ⟨_, rfl, ?_⟩
  refine hK.out _ _ sqz (fun hHeld => ?_)
  clear hK K
  refine sqnm ?_
  refine sqp HT_ 11 14 ?_
  refine sqp HT_ 12 15 ?_
  refine sqp HT_ 13 16 ?_
  refine sqp HT_ 15 18 ?_
  refine sqw HT_ HW_ 14 17 hHeld ?_
  refine sqw HT_ HW_ 16 19 hHeld ?_
  refine sqp HT_ 17 20 ?_
  refine sqp HT_ 18 21 ?_
  refine sqp HT_ 19 22 ?_
  refine sqp HT_ 20 2 ?_
  refine done_ (done_of HT_.out (by kernel_rfl)) ?_
  try go_wp2
  go_ret
  exact sqe HB
 replace c10 := Bool.eq_false_iff.mpr c10
 subst c10
 have H1 : (some false) = some r := by rw [if_neg (show ¬ (false = true) by decide)] at H; exact H
 clear H
 have H := H1
 clear H1
 obtain rfl := Option.some.inj H
 go_enter Try.func69, Try.ntmps69
 try go_wp2_with (first | ((with_reducible refine gate_dst (N := 1) rfl ?_); refine sqx 1 #[.int .i64 a0_0, .int .i64 a0_1] 92 ?_; intro gb123 hg w14 hbox hb; have BK123 := Aside0.mk hbox; have GW123 := sqg HB hg; have GE123 := sqg HB hg; replace HB := sqs HB hb; clear hb hbox hg))
 replace BK123 := Aside0.mk (blk_drew BK123.out)
 replace HB := Aside0.mk (below_drew1 HB.out)
 refine start_ (n := 21) (S := fun w' => w'.cell? ⟨gb123, 0, none⟩ = some (.int .i64 a0_0) ∧ w'.cell? ⟨gb123, 1, none⟩ = some (.int .i64 a0_1)) (ds := []) #[false, false, false, false, false, false, false, false, false, false, false, false, false, false, false, false, false, false, false, false, false] (by kernel_rfl) rfl rfl sqz (fun hHeld => ?_); refine with_tabW spec_RangeOk.tab1 spec_RangeOk.bits1 (fun HT_ HW_ => ?_)
 generalize w14.drew = w15 at BK123 HB hHeld ⊢
 refine sqw HT_ HW_ 0 3 hHeld ?_
 refine sqo HT_ 1 4 (fun K hK => ?_)
 refine sqG Try.func78 #[] ?_
 with_reducible refine (spec_l8None.calls  t124 t125 _ A2.out).mono ?_
 rintro e w16 ⟨rfl, hb⟩
 refine ⟨_, rfl, ?_⟩
 replace BK123 := sqb BK123 hb
 replace HB := sqs HB hb
 (try clear hb)
 refine hK.out _ _ sqz (fun hHeld => ?_)
 clear hK K
 refine sqnm ?_
 refine sqp HT_ 2 5 ?_
 refine sqp HT_ 3 6 ?_
 refine sqp HT_ 4 7 ?_
 refine sqw HT_ HW_ 5 8 hHeld ?_
 refine sqo HT_ 6 9 (fun K hK => ?_)
 refine sqG Try.func51 #[.int .i64 a0_0] ?_
 with_reducible refine (spec_NumOk.calls a0_0 true _ A7.out).mono ?_
 rintro e w' ⟨rfl, ⟨nd, rfl⟩⟩
 refine ⟨_, rfl, ?_⟩
 refine hK.out _ _ sqz (fun hHeld => ?_)
 clear hK K
 refine sqnm ?_
 refine sqp HT_ 7 10 ?_
 refine sqp HT_ 8 11 ?_
 refine sqw HT_ HW_ 9 12 hHeld ?_
 refine sqo HT_ 10 13 (fun K hK => ?_)
 refine sqG Try.func51 #[.int .i64 a0_1] ?_
 with_reducible refine (spec_NumOk.calls a0_1 false _ A9.out).mono ?_
 rintro e w' ⟨rfl, ⟨nd, rfl⟩⟩
 refine ⟨_, rfl, ?_⟩
 refine hK.out _ _ sqz (fun hHeld => ?_)
 clear hK K
 refine sqnm ?_
 refine sqp HT_ 11 14 ?_
 refine sqp HT_ 12 15 ?_
 refine sqpu HT_ 13 16 ?_
 refine sqpu HT_ 14 17 ?_
 refine sqpu HT_ 15 18 ?_
 refine sqpu HT_ 16 19 ?_
 refine sqpu HT_ 17 20 ?_
 refine sqp HT_ 18 21 ?_
 refine sqp HT_ 19 22 ?_
 refine sqp HT_ 20 2 ?_
 refine done_ (done_of HT_.out (by kernel_rfl)) ?_
 try go_wp2
 go_ret
 exact sqe HB

/-! ### spec_RestOk: function 70 -/
set_option maxHeartbeats 8000000 in
set_option maxRecDepth 100000 in
theorem spec_RestOk.calls (a0_0 : Int) (a0_1 : Int) (r : Bool) (w : World) (h : spec_RestOk.f a0_0 a0_1 = some r) :
  Calls Try.prog 70 #[.agg #[.int .i64 a0_0, .int .i64 a0_1]] w fun e w' => e = .returned (.bool r) ∧ Below w.heap.size w w' := by
 have hu96 := Try.underlying96
 have HB := Aside0.mk (Below.refl w.heap.size w)
 have H := h
 unfold spec_RestOk.f at H
 clear h
 replace H := sqj H
 rcases H with ⟨c2, H⟩ | ⟨c2, H⟩
 ·have c2b0 : (a0_0 == 0) = true := beq_iff_eq.mpr c2
  have c2b1 : (a0_0 != 0) = false := bne_eq_false_iff_eq.mpr c2
  clear c2
  replace H := Option.bind_eq_some_iff.mp H
  obtain ⟨t129, A30, H⟩ := H
  try dsimp only at H
  have A3 := Aside0.mk A30
  clear A30
  obtain rfl := Option.some.inj H
  go_enter Try.func70, Try.ntmps70
  go_wp2_with (first | ((with_reducible refine gate_dst (N := 1) rfl ?_); refine sqx 1 #[.int .i64 a0_0, .int .i64 a0_1] 96 ?_; intro gb128 hg w4 hbox hb; have BK128 := Aside0.mk hbox; have GW128 := sqg HB hg; have GE128 := sqg HB hg; replace HB := sqs HB hb; clear hb hbox hg; obtain ⟨hcz5_0, hcz5_1, hfz5_0, hfz5_1⟩ := sqc2 BK128) | ((with_reducible refine gate_callee (f := 51) rfl ?_); refine sqL (some 8) Try.func51 #[.int .i64 a0_1] ?_; (with_reducible refine (spec_NumOk.calls a0_1 t129 _ A3.out).mono ?_); rintro e w' ⟨rfl, ⟨nd, rfl⟩⟩; refine ⟨_, rfl, ?_⟩))
  go_ret
  exact sqe HB
 have c2b0 : (a0_0 == 0) = false := beq_eq_false_iff_ne.mpr c2
 have c2b1 : (a0_0 != 0) = true := bne_iff_ne.mpr c2
 replace H := Option.bind_eq_some_iff.mp H
 obtain ⟨t130, A60, H⟩ := H
 try dsimp only at H
 have A6 := Aside0.mk A60
 clear A60
 rcases sqI (t130 = true) with c7 | c7
 ·replace c7 := Bool.eq_false_iff.mpr c7
  subst c7
  have H1 : (some false) = some r := by rw [if_neg (show ¬ (false = true) by decide)] at H; exact H
  clear H
  have H := H1
  clear H1
  obtain rfl := Option.some.inj H
  go_enter Try.func70, Try.ntmps70
  go_wp2_with (first | ((with_reducible refine gate_dst (N := 1) rfl ?_); refine sqx 1 #[.int .i64 a0_0, .int .i64 a0_1] 96 ?_; intro gb128 hg w11 hbox hb; have BK128 := Aside0.mk hbox; have GW128 := sqg HB hg; have GE128 := sqg HB hg; replace HB := sqs HB hb; clear hb hbox hg; obtain ⟨hcz12_0, hcz12_1, hfz12_0, hfz12_1⟩ := sqc2 BK128) | ((with_reducible refine gate_callee (f := 68) rfl ?_); refine sqL (some 11) Try.func68 #[.int .i64 a0_0, .int .i64 1, .int .i64 65536] ?_; (with_reducible refine (spec_l1In.calls a0_0 1 65536 false _ A6.out).mono ?_); rintro e w' ⟨rfl, ⟨nd, rfl⟩⟩; refine ⟨_, rfl, ?_⟩))
  go_ret
  exact sqe HB
 subst c7
 have H1 : ((spec_l1In.f a0_1 0 (wrap64 (a0_0 - 1))).bind fun t131 => (some t131)) = some r := by rw [if_pos rfl] at H; exact H
 clear H
 have H := H1
 clear H1
 replace H := Option.bind_eq_some_iff.mp H
 obtain ⟨t131, A80, H⟩ := H
 try dsimp only at H
 have A8 := Aside0.mk A80
 clear A80
 obtain rfl := Option.some.inj H
 go_enter Try.func70, Try.ntmps70
 go_wp2_with (first | ((with_reducible refine gate_dst (N := 1) rfl ?_); refine sqx 1 #[.int .i64 a0_0, .int .i64 a0_1] 96 ?_; intro gb128 hg w9 hbox hb; have BK128 := Aside0.mk hbox; have GW128 := sqg HB hg; have GE128 := sqg HB hg; replace HB := sqs HB hb; clear hb hbox hg; obtain ⟨hcz10_0, hcz10_1, hfz10_0, hfz10_1⟩ := sqc2 BK128) | ((with_reducible refine gate_callee (f := 68) rfl ?_); refine sqL (some 11) Try.func68 #[.int .i64 a0_0, .int .i64 1, .int .i64 65536] ?_; (with_reducible refine (spec_l1In.calls a0_0 1 65536 true _ A6.out).mono ?_); rintro e w' ⟨rfl, ⟨nd, rfl⟩⟩; refine ⟨_, rfl, ?_⟩) | (go_at_call 68; (with_reducible refine (spec_l1In.calls a0_1 0 (wrap64 (a0_0 - 1)) t131 _ A8.out).mono ?_); rintro e w' ⟨rfl, ⟨nd, rfl⟩⟩))
 go_ret
 exact sqe HB

/-! ### spec_RangeHas: function 46 -/
set_option maxHeartbeats 8000000 in
set_option maxRecDepth 100000 in
theorem spec_RangeHas.calls (a0_0 : Int) (a0_1 : Int) (a1 : Int) (r : Bool) (w : World) (h : spec_RangeHas.f a0_0 a0_1 a1 = some r) :
  Calls Try.prog 46 #[.agg #[.int .i64 a0_0, .int .i64 a0_1], .int .i64 a1] w fun e w' => e = .returned (.bool r) ∧ Below w.heap.size w w' := by
 have hu92 := Try.underlying92
 have HB := Aside0.mk (Below.refl w.heap.size w)
 have H := h
 unfold spec_RangeHas.f at H
 clear h
 replace H := Option.bind_eq_some_iff.mp H
 obtain ⟨t133, A30, H⟩ := H
 try dsimp only at H
 have A3 := Aside0.mk A30
 clear A30
 rcases sqI (t133 = true) with c4 | c4
 ·replace c4 := Bool.eq_false_iff.mpr c4
  subst c4
  have H1 : (some false) = some r := by rw [if_neg (show ¬ (false = true) by decide)] at H; exact H
  clear H
  have H := H1
  clear H1
  obtain rfl := Option.some.inj H
  go_enter Try.func46, Try.ntmps46
  go_wp2_with (first | ((with_reducible refine gate_dst (N := 2) rfl ?_); refine sqx 2 #[.int .i64 a0_0, .int .i64 a0_1] 92 ?_; intro gb132 hg w10 hbox hb; have BK132 := Aside0.mk hbox; have GW132 := sqg HB hg; have GE132 := sqg HB hg; replace HB := sqs HB hb; clear hb hbox hg; obtain ⟨hcz11_0, hcz11_1, hfz11_0, hfz11_1⟩ := sqc2 BK132) | ((with_reducible refine gate_callee (f := 69) rfl ?_); refine sqL (some 6) Try.func69 #[.agg #[.int .i64 a0_0, .int .i64 a0_1]] ?_; (with_reducible refine (spec_RangeOk.calls a0_0 a0_1 false _ A3.out).mono ?_); rintro e w12 ⟨rfl, hb⟩; refine ⟨_, rfl, ?_⟩; replace BK132 := sqb BK132 hb; replace HB := sqs HB hb; (try clear hb)))
  go_ret
  exact sqe HB
 subst c4
 have H1 : ((spec_l1In.f a1 a0_0 a0_1).bind fun t134 => (some t134)) = some r := by rw [if_pos rfl] at H; exact H
 clear H
 have H := H1
 clear H1
 replace H := Option.bind_eq_some_iff.mp H
 obtain ⟨t134, A50, H⟩ := H
 try dsimp only at H
 have A5 := Aside0.mk A50
 clear A50
 obtain rfl := Option.some.inj H
 go_enter Try.func46, Try.ntmps46
 go_wp2_with (first | ((with_reducible refine gate_dst (N := 2) rfl ?_); refine sqx 2 #[.int .i64 a0_0, .int .i64 a0_1] 92 ?_; intro gb132 hg w6 hbox hb; have BK132 := Aside0.mk hbox; have GW132 := sqg HB hg; have GE132 := sqg HB hg; replace HB := sqs HB hb; clear hb hbox hg; obtain ⟨hcz7_0, hcz7_1, hfz7_0, hfz7_1⟩ := sqc2 BK132) | ((with_reducible refine gate_callee (f := 69) rfl ?_); refine sqL (some 6) Try.func69 #[.agg #[.int .i64 a0_0, .int .i64 a0_1]] ?_; (with_reducible refine (spec_RangeOk.calls a0_0 a0_1 true _ A3.out).mono ?_); rintro e w8 ⟨rfl, hb⟩; refine ⟨_, rfl, ?_⟩; replace BK132 := sqb BK132 hb; replace HB := sqs HB hb; (try clear hb); obtain ⟨hcz9_0, hcz9_1, hfz9_0, hfz9_1⟩ := sqc2 BK132) | (go_at_call 68; (with_reducible refine (spec_l1In.calls a1 a0_0 a0_1 t134 _ A5.out).mono ?_); rintro e w' ⟨rfl, ⟨nd, rfl⟩⟩))
 go_ret
 exact sqe HB

end Go.Proofs.Ytnmgckdgmplddaa.PFnExactAbsHas
