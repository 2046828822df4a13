/- Functions of the program as plain Lean functions, and that calls of them come to what these tell. Conditions: those in each law. -/
import Derived.Test.YtkekcenlleebeaaSq
import Derived.Test.YtkekcenlleebeaaDFnValLattice
import Derived.Test.YtkekcenlleebeaaQFnValLatticex0
import Derived.Test.YtkekcenlleebeaaQFnValLatticex1
import Derived.Test.YtkekcenlleebeaaQFnValLatticex6
namespace Go.Proofs.Ytkekcenlleebeaa.PFnValLattice
open Go.RowKit Go.Proofs.Ytkekcenlleebeaa.Sq Go.Proofs.YtkekcenlleebeaaW.PrintWords Go.Proofs.YtkekcenlleebeaaW.PrintLast Go.Proofs.YtkekcenlleebeaaW.PrintMore
attribute [local go_sem] max2_int min2_int max_two min_two max_three min_three max_four min_four   -- for this text's walks alone
set_option linter.unusedVariables false
set_option linter.unusedSimpArgs false

attribute [local go_sem high] eqA24
/-! ### spec_RangeOk: function 45 -/
def spec_RangeOk.T1 : Bool × List (List Nat × List Nat) := (true, [([], []), ([], []), ([0, 1], [0, 1]), ([2, 1], [2]), ([3], [3]), ([4, 3], [3, 4]), ([5, 3, 3], [3, 5]), ([6, 6, 3], [3, 6]), ([7], [7]), ([8, 7], [7, 8]), ([9, 7, 7], [7, 9]), ([7, 10, 3], [3, 7, 10]), ([11, 10, 3], [3, 11]), ([12], [12]), ([13, 12], [12, 13]), ([12], [12]), ([15, 12], [12, 15]), ([14, 16, 12], [12, 14, 16]), ([12, 17, 3], [3, 12, 17]), ([3, 18], [3, 18]), ([19, 12, 0, 1, 2, 3, 4, 5, 6, 7, 8, 9, 10, 11, 12, 13, 14, 15, 16, 17, 18, 19], [19])])
def spec_RangeOk.B1 : List Nat := [0, 0, 3, 7, 15, 31, 63, 127, 255, 511, 1023, 2047, 4095, 8191, 16383, 8191, 40959, 131071, 262143, 524287, 1048575]
theorem spec_RangeOk.tab1 : rtab .any (opsOf Try.f45 1) = spec_RangeOk.T1 := by kernel_rfl
theorem spec_RangeOk.bits1 : waitsOk spec_RangeOk.T1.2 spec_RangeOk.B1 = true := by kernel_rfl
set_option maxHeartbeats 8000000 in
set_option maxRecDepth 100000 in
theorem spec_RangeOk.calls (a0_0 : Int) (a0_1 : Int) (r : Bool) (w : World) (h : spec_RangeOk.f a0_0 a0_1 = some r) :
  Calls Try.prog 45 #[.agg #[.int .i64 a0_0, .int .i64 a0_1]] w fun e w' => e = .returned (.bool r) ∧ Below w.heap.size w w' := by
 have hu24 := Try.underlying24
 have HB := Aside0.mk (Below.refl w.heap.size w)
 have H := h
 unfold spec_RangeOk.f at H
 clear h
 replace H := sqbi H
 obtain ⟨⟨t171, t172⟩, A2, H⟩ := H
 try dsimp only at H
 replace H := sqj H
 rcases H with ⟨c3, H⟩ | ⟨c3, H⟩
 ·have c3b0 : (a0_0 == t171 && (a0_1 == t172)) = true := c3
  (try (have c3b1 : decide (a0_0 = t171 && (a0_1 == t172)) = true := by simpa using c3))
  (try (have c3b2 : (a0_0 == t171 && (a0_1 == t172)) = true := by simpa using c3))
  clear c3
  obtain rfl := Option.some.inj H
  go_enter Try.func45, Try.ntmps45
  try go_wp2_with (first | ((with_reducible refine gate_dst (N := 1) rfl ?_); refine sqx 1 #[.int .i64 a0_0, .int .i64 a0_1] 24 ?_; intro gb170 hg w4 hbox hb; have BK170 := Aside0.mk hbox; have GW170 := sqg HB hg; replace HB := sqs HB hb; clear hb hbox hg))
  replace BK170 := sqdr BK170
  replace HB := sqdB HB
  refine sqst 21 (fun w' => w'.cell? ⟨gb170, 0, none⟩ = some (.int .i64 a0_0) ∧ w'.cell? ⟨gb170, 1, none⟩ = some (.int .i64 a0_1)) sqz (fun hHeld => ?_); refine with_tabW spec_RangeOk.tab1 spec_RangeOk.bits1 (fun HT_ HW_ => ?_)
  generalize w4.drew = w5 at BK170 HB hHeld ⊢
  refine sqw HT_ HW_ 0 3 hHeld ?_
  refine sqo HT_ 1 4 (fun K hK => ?_)
  refine sqG Try.func99 #[] ?_
  with_reducible refine (spec_l8None.calls  t171 t172 _ A2.out).mono ?_
  rintro e w6 ⟨rfl, hb⟩
  refine ⟨_, rfl, ?_⟩
  replace BK170 := sqb BK170 hb
  replace HB := sqs HB hb
  (try clear hb)
  refine hK.out _ _ sqz (fun hHeld => ?_)
  clear hK K
  refine sqnm ?_
  refine sqp HT_ 2 5 ?_
  refine sqp HT_ 3 6 ?_
  refine sqpu HT_ 4 7 ?_
  refine sqpu HT_ 5 8 ?_
  refine sqpu HT_ 6 9 ?_
  refine sqpu HT_ 7 10 ?_
  refine sqpu HT_ 8 11 ?_
  refine sqpu HT_ 9 12 ?_
  refine sqpu HT_ 10 13 ?_
  refine sqpu HT_ 11 14 ?_
  refine sqpu HT_ 12 15 ?_
  refine sqpu HT_ 13 16 ?_
  refine sqpu HT_ 14 17 ?_
  refine sqpu HT_ 15 18 ?_
  refine sqpu HT_ 16 19 ?_
  refine sqpu HT_ 17 20 ?_
  refine sqpu HT_ 18 21 ?_
  refine sqp HT_ 19 22 ?_
  refine sqp HT_ 20 2 ?_
  refine done_ (done_of HT_.out (by kernel_rfl)) ?_
  try go_wp2
  go_ret
  exact sqe HB
 have c3b0 : (a0_0 == t171 && (a0_1 == t172)) = false := by simpa using c3
 (try (have c3b1 : decide (a0_0 = t171 && (a0_1 == t172)) = false := by simpa using c3))
 (try (have c3b2 : (a0_0 == t171 && (a0_1 == t172)) = false := by simpa using c3))
 (try (have c3b3 : ¬ (a0_0 = t171 && (a0_1 == t172)) := by simpa using c3))
 clear c3
 replace H := sqbi H
 obtain ⟨t173, A7, H⟩ := H
 try dsimp only at H
 rcases sqI (t173 = true) with c8 | c8
 ·replace c8 := Bool.eq_false_iff.mpr c8
  subst c8
  have H1 : (some false) = some r := by rw [if_neg (show ¬ (false = true) by decide)] at H; exact H
  clear H
  have H := H1
  clear H1
  obtain rfl := Option.some.inj H
  go_enter Try.func45, Try.ntmps45
  try go_wp2_with (first | ((with_reducible refine gate_dst (N := 1) rfl ?_); refine sqx 1 #[.int .i64 a0_0, .int .i64 a0_1] 24 ?_; intro gb170 hg w17 hbox hb; have BK170 := Aside0.mk hbox; have GW170 := sqg HB hg; replace HB := sqs HB hb; clear hb hbox hg))
  replace BK170 := sqdr BK170
  replace HB := sqdB HB
  refine sqst 21 (fun w' => w'.cell? ⟨gb170, 0, none⟩ = some (.int .i64 a0_0) ∧ w'.cell? ⟨gb170, 1, none⟩ = some (.int .i64 a0_1)) sqz (fun hHeld => ?_); refine with_tabW spec_RangeOk.tab1 spec_RangeOk.bits1 (fun HT_ HW_ => ?_)
  generalize w17.drew = w18 at BK170 HB hHeld ⊢
  refine sqw HT_ HW_ 0 3 hHeld ?_
  refine sqo HT_ 1 4 (fun K hK => ?_)
  refine sqG Try.func99 #[] ?_
  with_reducible refine (spec_l8None.calls  t171 t172 _ A2.out).mono ?_
  rintro e w19 ⟨rfl, hb⟩
  refine ⟨_, rfl, ?_⟩
  replace BK170 := sqb BK170 hb
  replace HB := sqs HB hb
  (try clear hb)
  refine hK.out _ _ sqz (fun hHeld => ?_)
  clear hK K
  refine sqnm ?_
  refine sqp HT_ 2 5 ?_
  refine sqp HT_ 3 6 ?_
  refine sqp HT_ 4 7 ?_
  refine sqw HT_ HW_ 5 8 hHeld ?_
  refine sqo HT_ 6 9 (fun K hK => ?_)
  refine sqG Try.func56 #[.int .i64 a0_0] ?_
  with_reducible refine (spec_NumOk.calls a0_0 false _ A7.out).mono ?_
  rintro e w' ⟨rfl, ⟨nd, rfl⟩⟩
  refine ⟨_, rfl, ?_⟩
  refine hK.out _ _ sqz (fun hHeld => ?_)
  clear hK K
  refine sqnm ?_
  refine sqp HT_ 7 10 ?_
  refine sqpu HT_ 8 11 ?_
  refine sqpu HT_ 9 12 ?_
  refine sqpu HT_ 10 13 ?_
  refine sqp HT_ 11 14 ?_
  refine sqp HT_ 12 15 ?_
  refine sqpu HT_ 13 16 ?_
  refine sqpu HT_ 14 17 ?_
  refine sqpu HT_ 15 18 ?_
  refine sqpu HT_ 16 19 ?_
  refine sqpu HT_ 17 20 ?_
  refine sqp HT_ 18 21 ?_
  refine sqp HT_ 19 22 ?_
  refine sqp HT_ 20 2 ?_
  refine done_ (done_of HT_.out (by kernel_rfl)) ?_
  try go_wp2
  go_ret
  exact sqe HB
 subst c8
 have H1 : ((spec_NumOk.f a0_1).bind fun t174 => (if t174 = true then (some (decide (a0_0 ≤ a0_1))) else (some false))) = some r := by rw [if_pos rfl] at H; exact H
 clear H
 have H := H1
 clear H1
 replace H := sqbi H
 obtain ⟨t174, A9, H⟩ := H
 try dsimp only at H
 by_cases c10 : t174 = true
 ·subst c10
  have H1 : (some (decide (a0_0 ≤ a0_1))) = some r := by rw [if_pos rfl] at H; exact H
  clear H
  have H := H1
  clear H1
  obtain rfl := Option.some.inj H
  go_enter Try.func45, Try.ntmps45
  try go_wp2_with (first | ((with_reducible refine gate_dst (N := 1) rfl ?_); refine sqx 1 #[.int .i64 a0_0, .int .i64 a0_1] 24 ?_; intro gb170 hg w11 hbox hb; have BK170 := Aside0.mk hbox; have GW170 := sqg HB hg; replace HB := sqs HB hb; clear hb hbox hg))
  replace BK170 := sqdr BK170
  replace HB := sqdB HB
  refine sqst 21 (fun w' => w'.cell? ⟨gb170, 0, none⟩ = some (.int .i64 a0_0) ∧ w'.cell? ⟨gb170, 1, none⟩ = some (.int .i64 a0_1)) sqz (fun hHeld => ?_); refine with_tabW spec_RangeOk.tab1 spec_RangeOk.bits1 (fun HT_ HW_ => ?_)
  generalize w11.drew = w12 at BK170 HB hHeld ⊢
  refine sqw HT_ HW_ 0 3 hHeld ?_
  refine sqo HT_ 1 4 (fun K hK => ?_)
  refine sqG Try.func99 #[] ?_
  with_reducible refine (spec_l8None.calls  t171 t172 _ A2.out).mono ?_
  rintro e w13 ⟨rfl, hb⟩
  refine ⟨_, rfl, ?_⟩
  replace BK170 := sqb BK170 hb
  replace HB := sqs HB hb
  (try clear hb)
  refine hK.out _ _ sqz (fun hHeld => ?_)
  clear hK K
  refine sqnm ?_
  refine sqp HT_ 2 5 ?_
  refine sqp HT_ 3 6 ?_
  refine sqp HT_ 4 7 ?_
  refine sqw HT_ HW_ 5 8 hHeld ?_
  refine sqo HT_ 6 9 (fun K hK => ?_)
  refine sqG Try.func56 #[.int .i64 a0_0] ?_
  with_reducible refine (spec_NumOk.calls a0_0 true _ A7.out).mono ?_
  rintro e w' ⟨rfl, ⟨nd, rfl⟩⟩
  refine ⟨_, rfl, ?_⟩
  refine hK.out _ _ sqz (fun hHeld => ?_)
  clear hK K
  refine sqnm ?_
  refine sqp HT_ 7 10 ?_
  refine sqp HT_ 8 11 ?_
  refine sqw HT_ HW_ 9 12 hHeld ?_
  refine sqo HT_ 10 13 (fun K hK => ?_)
  refine sqG Try.func56 #[.int .i64 a0_1] ?_
  with_reducible refine (spec_NumOk.calls a0_1 true _ A9.out).mono ?_
  rintro e w' ⟨rfl, ⟨nd, rfl⟩⟩
  refine ⟨_, rfl, ?_⟩
  refine hK.out _ _ sqz (fun hHeld => ?_)
  clear hK K
  refine sqnm ?_
  refine sqp HT_ 11 14 ?_
  refine sqp HT_ 12 15 ?_
  refine sqp HT_ 13 16 ?_
  refine sqp HT_ 15 18 ?_
  refine sqw HT_ HW_ 14 17 hHeld ?_
  refine sqw HT_ HW_ 16 19 hHeld ?_
  refine sqp HT_ 17 20 ?_
  refine sqp HT_ 18 21 ?_
  refine sqp HT_ 19 22 ?_
  refine sqp HT_ 20 2 ?_
  refine done_ (done_of HT_.out (by kernel_rfl)) ?_
  try go_wp2
  go_ret
  exact sqe HB
 replace c10 := Bool.eq_false_iff.mpr c10
 subst c10
 have H1 : (some false) = some r := by rw [if_neg (show ¬ (false = true) by decide)] at H; exact H
 clear H
 have H := H1
 clear H1
 obtain rfl := Option.some.inj H
 go_enter Try.func45, Try.ntmps45
 try go_wp2_with (first | ((with_reducible refine gate_dst (N := 1) rfl ?_); refine sqx 1 #[.int .i64 a0_0, .int .i64 a0_1] 24 ?_; intro gb170 hg w14 hbox hb; have BK170 := Aside0.mk hbox; have GW170 := sqg HB hg; replace HB := sqs HB hb; clear hb hbox hg))
 replace BK170 := sqdr BK170
 replace HB := sqdB HB
 refine sqst 21 (fun w' => w'.cell? ⟨gb170, 0, none⟩ = some (.int .i64 a0_0) ∧ w'.cell? ⟨gb170, 1, none⟩ = some (.int .i64 a0_1)) sqz (fun hHeld => ?_); refine with_tabW spec_RangeOk.tab1 spec_RangeOk.bits1 (fun HT_ HW_ => ?_)
 generalize w14.drew = w15 at BK170 HB hHeld ⊢
 refine sqw HT_ HW_ 0 3 hHeld ?_
 refine sqo HT_ 1 4 (fun K hK => ?_)
 refine sqG Try.func99 #[] ?_
 with_reducible refine (spec_l8None.calls  t171 t172 _ A2.out).mono ?_
 rintro e w16 ⟨rfl, hb⟩
 refine ⟨_, rfl, ?_⟩
 replace BK170 := sqb BK170 hb
 replace HB := sqs HB hb
 (try clear hb)
 refine hK.out _ _ sqz (fun hHeld => ?_)
 clear hK K
 refine sqnm ?_
 refine sqp HT_ 2 5 ?_
 refine sqp HT_ 3 6 ?_
 refine sqp HT_ 4 7 ?_
 refine sqw HT_ HW_ 5 8 hHeld ?_
 refine sqo HT_ 6 9 (fun K hK => ?_)
 refine sqG Try.func56 #[.int .i64 a0_0] ?_
 with_reducible refine (spec_NumOk.calls a0_0 true _ A7.out).mono ?_
 rintro e w' ⟨rfl, ⟨nd, rfl⟩⟩
 refine ⟨_, rfl, ?_⟩
 refine hK.out _ _ sqz (fun hHeld => ?_)
 clear hK K
 refine sqnm ?_
 refine sqp HT_ 7 10 ?_
 refine sqp HT_ 8 11 ?_
 refine sqw HT_ HW_ 9 12 hHeld ?_
 refine sqo HT_ 10 13 (fun K hK => ?_)
 refine sqG Try.func56 #[.int .i64 a0_1] ?_
 with_reducible refine (spec_NumOk.calls a0_1 false _ A9.out).mono ?_
 rintro e w' ⟨rfl, ⟨nd, rfl⟩⟩
 refine ⟨_, rfl, ?_⟩
 refine hK.out _ _ sqz (fun hHeld => ?_)
 clear hK K
 refine sqnm ?_
 refine sqp HT_ 11 14 ?_
 refine sqp HT_ 12 15 ?_
 refine sqpu HT_ 13 16 ?_
 refine sqpu HT_ 14 17 ?_
 refine sqpu HT_ 15 18 ?_
 refine sqpu HT_ 16 19 ?_
 refine sqpu HT_ 17 20 ?_
 refine sqp HT_ 18 21 ?_
 refine sqp HT_ 19 22 ?_
 refine sqp HT_ 20 2 ?_
 refine done_ (done_of HT_.out (by kernel_rfl)) ?_
 try go_wp2
 go_ret
 exact sqe HB

/-! ### spec_RangeHas: function 22 -/
set_option maxHeartbeats 8000000 in
set_option maxRecDepth 100000 in
theorem spec_RangeHas.calls (a0_0 : Int) (a0_1 : Int) (a1 : Int) (r : Bool) (w : World) (h : spec_RangeHas.f a0_0 a0_1 a1 = some r) :
  Calls Try.prog 22 #[.agg #[.int .i64 a0_0, .int .i64 a0_1], .int .i64 a1] w fun e w' => e = .returned (.bool r) ∧ Below w.heap.size w w' := by
 have hu24 := Try.underlying24
 have HB := Aside0.mk (Below.refl w.heap.size w)
 have H := h
 unfold spec_RangeHas.f at H
 clear h
 replace H := sqbi H
 obtain ⟨t176, A3, H⟩ := H
 try dsimp only at H
 rcases sqI (t176 = true) with c4 | c4
 ·replace c4 := Bool.eq_false_iff.mpr c4
  subst c4
  have H1 : (some false) = some r := by rw [if_neg (show ¬ (false = true) by decide)] at H; exact H
  clear H
  have H := H1
  clear H1
  obtain rfl := Option.some.inj H
  go_enter Try.func22, Try.ntmps22
  go_wp2_with (first | ((with_reducible refine gate_dst (N := 2) rfl ?_); refine sqx 2 #[.int .i64 a0_0, .int .i64 a0_1] 24 ?_; intro gb175 hg w10 hbox hb; have BK175 := Aside0.mk hbox; have GW175 := sqg HB hg; replace HB := sqs HB hb; clear hb hbox hg; obtain ⟨_, _, _, _⟩ := sqc2 BK175) | ((with_reducible refine gate_callee (f := 45) rfl ?_); refine sqL (some 6) Try.func45 #[.agg #[.int .i64 a0_0, .int .i64 a0_1]] ?_; (with_reducible refine (spec_RangeOk.calls a0_0 a0_1 false _ A3.out).mono ?_); rintro e w12 ⟨rfl, hb⟩; refine ⟨_, rfl, ?_⟩; replace BK175 := sqb BK175 hb; replace HB := sqs HB hb; (try clear hb)))
  go_ret
  exact sqe HB
 subst c4
 have H1 : ((spec_l1In.f a1 a0_0 a0_1).bind fun t177 => (some t177)) = some r := by rw [if_pos rfl] at H; exact H
 clear H
 have H := H1
 clear H1
 replace H := sqbi H
 obtain ⟨t177, A5, H⟩ := H
 try dsimp only at H
 obtain rfl := Option.some.inj H
 go_enter Try.func22, Try.ntmps22
 go_wp2_with (first | ((with_reducible refine gate_dst (N := 2) rfl ?_); refine sqx 2 #[.int .i64 a0_0, .int .i64 a0_1] 24 ?_; intro gb175 hg w6 hbox hb; have BK175 := Aside0.mk hbox; have GW175 := sqg HB hg; replace HB := sqs HB hb; clear hb hbox hg; obtain ⟨_, _, _, _⟩ := sqc2 BK175) | ((with_reducible refine gate_callee (f := 45) rfl ?_); refine sqL (some 6) Try.func45 #[.agg #[.int .i64 a0_0, .int .i64 a0_1]] ?_; (with_reducible refine (spec_RangeOk.calls a0_0 a0_1 true _ A3.out).mono ?_); rintro e w8 ⟨rfl, hb⟩; refine ⟨_, rfl, ?_⟩; replace BK175 := sqb BK175 hb; replace HB := sqs HB hb; (try clear hb); obtain ⟨_, _, _, _⟩ := sqc2 BK175) | (go_at_call 105; (with_reducible refine (spec_l1In.calls a1 a0_0 a0_1 t177 _ A5.out).mono ?_); rintro e w' ⟨rfl, ⟨nd, rfl⟩⟩))
 go_ret
 exact sqe HB

/-! ### spec_RestOk: function 66 -/
set_option maxHeartbeats 8000000 in
set_option maxRecDepth 100000 in
theorem spec_RestOk.calls (a0_0 : Int) (a0_1 : Int) (r : Bool) (w : World) (h : spec_RestOk.f a0_0 a0_1 = some r) :
  Calls Try.prog 66 #[.agg #[.int .i64 a0_0, .int .i64 a0_1]] w fun e w' => e = .returned (.bool r) ∧ Below w.heap.size w w' := by
 have hu26 := Try.underlying26
 have HB := Aside0.mk (Below.refl w.heap.size w)
 have H := h
 unfold spec_RestOk.f at H
 clear h
 replace H := sqj H
 rcases H with ⟨c2, H⟩ | ⟨c2, H⟩
 ·have c2b0 : (a0_0 == 0) = true := beq_iff_eq.mpr c2
  have c2b1 : (a0_0 != 0) = false := bne_eq_false_iff_eq.mpr c2
  clear c2
  replace H := sqbi H
  obtain ⟨t179, A3, H⟩ := H
  try dsimp only at H
  obtain rfl := Option.some.inj H
  go_enter Try.func66, Try.ntmps66
  go_wp2_with (first | ((with_reducible refine gate_dst (N := 1) rfl ?_); refine sqx 1 #[.int .i64 a0_0, .int .i64 a0_1] 26 ?_; intro gb178 hg w4 hbox hb; have BK178 := Aside0.mk hbox; have GW178 := sqg HB hg; replace HB := sqs HB hb; clear hb hbox hg; obtain ⟨_, _, _, _⟩ := sqc2 BK178) | ((with_reducible refine gate_callee (f := 56) rfl ?_); refine sqL (some 8) Try.func56 #[.int .i64 a0_1] ?_; (with_reducible refine (spec_NumOk.calls a0_1 t179 _ A3.out).mono ?_); rintro e w' ⟨rfl, ⟨nd, rfl⟩⟩; refine ⟨_, rfl, ?_⟩))
  go_ret
  exact sqe HB
 have c2b0 : (a0_0 == 0) = false := beq_eq_false_iff_ne.mpr c2
 have c2b1 : (a0_0 != 0) = true := bne_iff_ne.mpr c2
 replace H := sqbi H
 obtain ⟨t180, A6, H⟩ := H
 try dsimp only at H
 rcases sqI (t180 = true) with c7 | c7
 ·replace c7 := Bool.eq_false_iff.mpr c7
  subst c7
  have H1 : (some false) = some r := by rw [if_neg (show ¬ (false = true) by decide)] at H; exact H
  clear H
  have H := H1
  clear H1
  obtain rfl := Option.some.inj H
  go_enter Try.func66, Try.ntmps66
  go_wp2_with (first | ((with_reducible refine gate_dst (N := 1) rfl ?_); refine sqx 1 #[.int .i64 a0_0, .int .i64 a0_1] 26 ?_; intro gb178 hg w11 hbox hb; have BK178 := Aside0.mk hbox; have GW178 := sqg HB hg; replace HB := sqs HB hb; clear hb hbox hg; obtain ⟨_, _, _, _⟩ := sqc2 BK178) | ((with_reducible refine gate_callee (f := 105) rfl ?_); refine sqL (some 11) Try.func105 #[.int .i64 a0_0, .int .i64 1, .int .i64 65536] ?_; (with_reducible refine (spec_l1In.calls a0_0 1 65536 false _ A6.out).mono ?_); rintro e w' ⟨rfl, ⟨nd, rfl⟩⟩; refine ⟨_, rfl, ?_⟩))
  go_ret
  exact sqe HB
 subst c7
 have H1 : ((spec_l1In.f a0_1 0 (wrap64 (a0_0 - 1))).bind fun t181 => (some t181)) = some r := by rw [if_pos rfl] at H; exact H
 clear H
 have H := H1
 clear H1
 replace H := sqbi H
 obtain ⟨t181, A8, H⟩ := H
 try dsimp only at H
 obtain rfl := Option.some.inj H
 go_enter Try.func66, Try.ntmps66
 go_wp2_with (first | ((with_reducible refine gate_dst (N := 1) rfl ?_); refine sqx 1 #[.int .i64 a0_0, .int .i64 a0_1] 26 ?_; intro gb178 hg w9 hbox hb; have BK178 := Aside0.mk hbox; have GW178 := sqg HB hg; replace HB := sqs HB hb; clear hb hbox hg; obtain ⟨_, _, _, _⟩ := sqc2 BK178) | ((with_reducible refine gate_callee (f := 105) rfl ?_); refine sqL (some 11) Try.func105 #[.int .i64 a0_0, .int .i64 1, .int .i64 65536] ?_; (with_reducible refine (spec_l1In.calls a0_0 1 65536 true _ A6.out).mono ?_); rintro e w' ⟨rfl, ⟨nd, rfl⟩⟩; refine ⟨_, rfl, ?_⟩) | (go_at_call 105; (with_reducible refine (spec_l1In.calls a0_1 0 (wrap64 (a0_0 - 1)) t181 _ A8.out).mono ?_); rintro e w' ⟨rfl, ⟨nd, rfl⟩⟩))
 go_ret
 exact sqe HB

/-! ### spec_l10None: function 100 -/
set_option maxHeartbeats 8000000 in
set_option maxRecDepth 100000 in
theorem spec_l10None.calls  (r1 : Int) (r2 : Int) (r3 : Int) (r4 : Int) (w : World) (h : spec_l10None.f  = some (r1, r2, r3, r4)) :
  Calls Try.prog 100 #[] w fun e w' => e = .returned (.agg #[.int .i64 r1, .int .i64 r2, .int .i64 r3, .int .i64 r4]) ∧ Below w.heap.size w w' := by
 have hu30 := Try.underlying30
 have HB := Aside0.mk (Below.refl w.heap.size w)
 have H := h
 unfold spec_l10None.f at H
 clear h
 simp only [Option.some.injEq, Prod.mk.injEq] at H
 obtain ⟨rfl, rfl, rfl, rfl⟩ := H
 go_enter Try.func100, Try.ntmps100
 go_wp2_with (first | ((with_reducible refine gate_dst (N := 0) rfl ?_); refine sqx 0 #[.int .i64 0, .int .i64 0, .int .i64 0, .int .i64 0] 30 ?_; intro gb182 hg w1 hbox hb; have BK182 := Aside0.mk hbox; have GW182 := sqg HB hg; replace HB := sqs HB hb; clear hb hbox hg; obtain ⟨_, _, _, _, _, _, _, _⟩ := sqc4 BK182))
 refine bodyPost_ret (results_cell_row rfl _ _ gb182 30 #[.int .i64 1, .int .i64 0, .int .i64 0, .int .i64 0] (0, 0) _ rfl (sqP BK182) Try.underlying30 rfl (by kernel_rfl)) rfl ?_
 exact sqe HB

end Go.Proofs.Ytkekcenlleebeaa.PFnValLattice
