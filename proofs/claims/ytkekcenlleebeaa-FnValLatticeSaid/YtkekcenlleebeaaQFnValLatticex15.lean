/- Functions of the program as plain Lean functions, and that calls of them come to what these tell. Conditions: those in each law. -/
import Derived.Test.YtkekcenlleebeaaSq
import Derived.Test.YtkekcenlleebeaaDFnValLattice
import Derived.Test.YtkekcenlleebeaaQFnValLatticex0
import Derived.Test.YtkekcenlleebeaaQFnValLatticex3
import Derived.Test.YtkekcenlleebeaaQFnValLatticex7
import Derived.Test.YtkekcenlleebeaaQFnValLatticex10
import Derived.Test.YtkekcenlleebeaaQFnValLatticex11
import Derived.Test.YtkekcenlleebeaaQFnValLatticex14
namespace Go.Proofs.Ytkekcenlleebeaa.PFnValLattice
open Go.RowKit Go.Proofs.Ytkekcenlleebeaa.Sq Go.Proofs.YtkekcenlleebeaaW.PrintWords Go.Proofs.YtkekcenlleebeaaW.PrintLast Go.Proofs.YtkekcenlleebeaaW.PrintMore
attribute [local go_sem] max2_int min2_int max_two min_two max_three min_three max_four min_four   -- for this text's walks alone
set_option linter.unusedVariables false
set_option linter.unusedSimpArgs false

attribute [local go_sem high] eqA30
/-! ### spec_ValHas: function 83 -/
def spec_ValHas.T1 : Bool × List (List Nat × List Nat) := (true, [([], []), ([0], [0]), ([1, 1], [1]), ([2], [2]), ([2, 2], [2]), ([3, 4, 2], [2, 3, 4]), ([2, 5], [2, 5]), ([6, 4], [6]), ([7], [7]), ([8, 7, 7], [7, 8]), ([7], [7]), ([9, 10, 9, 7], [7, 9, 10]), ([7, 11], [7, 11]), ([12, 11], [12]), ([13], [13]), ([14, 13, 13], [13, 14]), ([13], [13]), ([15, 16, 15, 13], [13, 15, 16]), ([13, 17], [13, 17]), ([18, 17, 0, 1, 2, 3, 4, 5, 6, 7, 8, 9, 10, 11, 12, 13, 14, 15, 16, 17, 18], [18])])
def spec_ValHas.B1 : List Nat := [0, 1, 3, 7, 7, 31, 63, 127, 255, 511, 255, 2047, 4095, 8191, 16383, 32767, 16383, 131071, 262143, 524287]
theorem spec_ValHas.tab1 : rtab .any (opsOf Try.f83 1) = spec_ValHas.T1 := by kernel_rfl
theorem spec_ValHas.bits1 : waitsOk spec_ValHas.T1.2 spec_ValHas.B1 = true := by kernel_rfl
set_option maxHeartbeats 8000000 in
set_option maxRecDepth 100000 in
theorem spec_ValHas.calls (k : Nat) (a0_0 : Int) (a0_1 : Int) (a0_2 : Int) (a0_3 : Int) (a1 : Int) (r : Bool) (w : World) (h : spec_ValHas.f k a0_0 a0_1 a0_2 a0_3 a1 = some r) :
  Calls Try.prog 83 #[.agg #[.int .i64 a0_0, .int .i64 a0_1, .int .i64 a0_2, .int .i64 a0_3], .int .i64 a1] w fun e w' => e = .returned (.bool r) ∧ Below w.heap.size w w' := by
 have hu30 := Try.underlying30
 have HB := Aside0.mk (Below.refl w.heap.size w)
 have H := h
 unfold spec_ValHas.f at H
 clear h
 replace H := sqbi H
 obtain ⟨t285, A3, H⟩ := H
 try dsimp only at H
 rcases sqI (t285 = true) with c4 | c4
 ·replace c4 := Bool.eq_false_iff.mpr c4
  subst c4
  have H1 : (some false) = some r := by rw [if_neg (show ¬ (false = true) by decide)] at H; exact H
  clear H
  have H := H1
  clear H1
  obtain rfl := Option.some.inj H
  go_enter Try.func83, Try.ntmps83
  try go_wp2_with (first | ((with_reducible refine gate_dst (N := 2) rfl ?_); refine sqx 2 #[.int .i64 a0_0, .int .i64 a0_1, .int .i64 a0_2, .int .i64 a0_3] 30 ?_; intro gb284 hg w30 hbox hb; have BK284 := Aside0.mk hbox; have GW284 := sqg HB hg; replace HB := sqs HB hb; clear hb hbox hg))
  replace BK284 := sqdr BK284
  replace HB := sqdB HB
  refine sqst 20 (fun w' => w'.cell? ⟨gb284, 0, none⟩ = some (.int .i64 a0_0) ∧ w'.cell? ⟨gb284, 1, none⟩ = some (.int .i64 a0_1) ∧ w'.cell? ⟨gb284, 2, none⟩ = some (.int .i64 a0_2) ∧ w'.cell? ⟨gb284, 3, none⟩ = some (.int .i64 a0_3)) sqz (fun hHeld => ?_); refine with_tabW spec_ValHas.tab1 spec_ValHas.bits1 (fun HT_ HW_ => ?_)
  generalize w30.drew = w31 at BK284 HB hHeld ⊢
  refine sqw HT_ HW_ 0 5 hHeld ?_
  refine sqo HT_ 1 6 (fun K hK => ?_)
  refine sqG Try.func80 #[.agg #[.int .i64 a0_0, .int .i64 a0_1, .int .i64 a0_2, .int .i64 a0_3]] ?_
  with_reducible refine (spec_ValOk.calls k a0_0 a0_1 a0_2 a0_3 false _ A3.out).mono ?_
  rintro e w32 ⟨rfl, hb⟩
  refine ⟨_, rfl, ?_⟩
  replace BK284 := sqb BK284 hb
  replace HB := sqs HB hb
  (try clear hb)
  refine hK.out _ _ sqz (fun hHeld => ?_)
  clear hK K
  refine sqnm ?_
  refine sqp HT_ 2 7 ?_
  refine sqpu HT_ 3 8 ?_
  refine sqpu HT_ 4 9 ?_
  refine sqpu HT_ 5 10 ?_
  refine sqp HT_ 6 11 ?_
  refine sqp HT_ 7 12 ?_
  refine sqpu HT_ 8 13 ?_
  refine sqpu HT_ 9 14 ?_
  refine sqpu HT_ 10 15 ?_
  refine sqpu HT_ 11 16 ?_
  refine sqp HT_ 12 17 ?_
  refine sqp HT_ 13 18 ?_
  refine sqpu HT_ 14 19 ?_
  refine sqpu HT_ 15 20 ?_
  refine sqpu HT_ 16 21 ?_
  refine sqpu HT_ 17 22 ?_
  refine sqp HT_ 18 23 ?_
  refine sqp HT_ 19 4 ?_
  refine done_ (done_of HT_.out (by kernel_rfl)) ?_
  try go_wp2
  go_ret
  exact sqe HB
 subst c4
 have H1 : ((spec_l10None.f).bind fun bt286 => (if (!(a0_0 == bt286.1) || (!(a0_1 == bt286.2.1) || (!(a0_2 == bt286.2.2.1) || (!(a0_3 == bt286.2.2.2))))) = true then ((spec_l10Range.f a0_0 a0_1 a0_2 a0_3).bind fun bt290 => ((spec_RangeHas.f bt290.1 bt290.2 a1).bind fun t292 => (if t292 = true then ((spec_l10Rest.f a0_0 a0_1 a0_2 a0_3).bind fun bt293 => ((spec_RestHas.f k bt293.1 bt293.2 a1).bind fun t295 => (some t295))) else (some false)))) else (some false))) = some r := by rw [if_pos rfl] at H; exact H
 clear H
 have H := H1
 clear H1
 replace H := sqbi H
 obtain ⟨⟨t286, t287, t288, t289⟩, A5, H⟩ := H
 try dsimp only at H
 replace H := sqi H
 rcases H with ⟨c6, H⟩ | ⟨c6, H⟩
 ·have c6b0 : (!(a0_0 == t286) || (!(a0_1 == t287) || (!(a0_2 == t288) || (!(a0_3 == t289))))) = false := by simpa using c6
  clear c6
  obtain rfl := Option.some.inj H
  go_enter Try.func83, Try.ntmps83
  try go_wp2_with (first | ((with_reducible refine gate_dst (N := 2) rfl ?_); refine sqx 2 #[.int .i64 a0_0, .int .i64 a0_1, .int .i64 a0_2, .int .i64 a0_3] 30 ?_; intro gb284 hg w26 hbox hb; have BK284 := Aside0.mk hbox; have GW284 := sqg HB hg; replace HB := sqs HB hb; clear hb hbox hg))
  replace BK284 := sqdr BK284
  replace HB := sqdB HB
  refine sqst 20 (fun w' => w'.cell? ⟨gb284, 0, none⟩ = some (.int .i64 a0_0) ∧ w'.cell? ⟨gb284, 1, none⟩ = some (.int .i64 a0_1) ∧ w'.cell? ⟨gb284, 2, none⟩ = some (.int .i64 a0_2) ∧ w'.cell? ⟨gb284, 3, none⟩ = some (.int .i64 a0_3)) sqz (fun hHeld => ?_); refine with_tabW spec_ValHas.tab1 spec_ValHas.bits1 (fun HT_ HW_ => ?_)
  generalize w26.drew = w27 at BK284 HB hHeld ⊢
  refine sqw HT_ HW_ 0 5 hHeld ?_
  refine sqo HT_ 1 6 (fun K hK => ?_)
  refine sqG Try.func80 #[.agg #[.int .i64 a0_0, .int .i64 a0_1, .int .i64 a0_2, .int .i64 a0_3]] ?_
  with_reducible refine (spec_ValOk.calls k a0_0 a0_1 a0_2 a0_3 true _ A3.out).mono ?_
  rintro e w28 ⟨rfl, hb⟩
  refine ⟨_, rfl, ?_⟩
  replace BK284 := sqb BK284 hb
  replace HB := sqs HB hb
  (try clear hb)
  refine hK.out _ _ sqz (fun hHeld => ?_)
  clear hK K
  refine sqnm ?_
  refine sqp HT_ 2 7 ?_
  refine sqw HT_ HW_ 3 8 hHeld ?_
  refine sqo HT_ 4 9 (fun K hK => ?_)
  refine sqG Try.func100 #[] ?_
  with_reducible refine (spec_l10None.calls  t286 t287 t288 t289 _ A5.out).mono ?_
  rintro e w29 ⟨rfl, hb⟩
  refine ⟨_, rfl, ?_⟩
  replace BK284 := sqb BK284 hb
  replace HB := sqs HB hb
  (try clear hb)
  refine hK.out _ _ sqz (fun hHeld => ?_)
  clear hK K
  refine sqnm ?_
  refine sqp HT_ 5 10 ?_
  refine sqp HT_ 6 11 ?_
  refine sqp HT_ 7 12 ?_
  refine sqpu HT_ 8 13 ?_
  refine sqpu HT_ 9 14 ?_
  refine sqpu HT_ 10 15 ?_
  refine sqpu HT_ 11 16 ?_
  refine sqp HT_ 12 17 ?_
  refine sqp HT_ 13 18 ?_
  refine sqpu HT_ 14 19 ?_
  refine sqpu HT_ 15 20 ?_
  refine sqpu HT_ 16 21 ?_
  refine sqpu HT_ 17 22 ?_
  refine sqp HT_ 18 23 ?_
  refine sqp HT_ 19 4 ?_
  refine done_ (done_of HT_.out (by kernel_rfl)) ?_
  try go_wp2
  go_ret
  exact sqe HB
 have c6b0 : (!(a0_0 == t286) || (!(a0_1 == t287) || (!(a0_2 == t288) || (!(a0_3 == t289))))) = true := c6
 clear c6
 replace H := sqbi H
 obtain ⟨⟨t290, t291⟩, A7, H⟩ := H
 try dsimp only at H
 replace H := sqbi H
 obtain ⟨t292, A8, H⟩ := H
 try dsimp only at H
 rcases sqI (t292 = true) with c9 | c9
 ·replace c9 := Bool.eq_false_iff.mpr c9
  subst c9
  have H1 : (some false) = some r := by rw [if_neg (show ¬ (false = true) by decide)] at H; exact H
  clear H
  have H := H1
  clear H1
  obtain rfl := Option.some.inj H
  go_enter Try.func83, Try.ntmps83
  try go_wp2_with (first | ((with_reducible refine gate_dst (N := 2) rfl ?_); refine sqx 2 #[.int .i64 a0_0, .int .i64 a0_1, .int .i64 a0_2, .int .i64 a0_3] 30 ?_; intro gb284 hg w20 hbox hb; have BK284 := Aside0.mk hbox; have GW284 := sqg HB hg; replace HB := sqs HB hb; clear hb hbox hg))
  replace BK284 := sqdr BK284
  replace HB := sqdB HB
  refine sqst 20 (fun w' => w'.cell? ⟨gb284, 0, none⟩ = some (.int .i64 a0_0) ∧ w'.cell? ⟨gb284, 1, none⟩ = some (.int .i64 a0_1) ∧ w'.cell? ⟨gb284, 2, none⟩ = some (.int .i64 a0_2) ∧ w'.cell? ⟨gb284, 3, none⟩ = some (.int .i64 a0_3)) sqz (fun hHeld => ?_); refine with_tabW spec_ValHas.tab1 spec_ValHas.bits1 (fun HT_ HW_ => ?_)
  generalize w20.drew = w21 at BK284 HB hHeld ⊢
  refine sqw HT_ HW_ 0 5 hHeld ?_
  refine sqo HT_ 1 6 (fun K hK => ?_)
  refine sqG Try.func80 #[.agg #[.int .i64 a0_0, .int .i64 a0_1, .int .i64 a0_2, .int .i64 a0_3]] ?_
  with_reducible refine (spec_ValOk.calls k a0_0 a0_1 a0_2 a0_3 true _ A3.out).mono ?_
  rintro e w22 ⟨rfl, hb⟩
  refine ⟨_, rfl, ?_⟩
  replace BK284 := sqb BK284 hb
  replace HB := sqs HB hb
  (try clear hb)
  refine hK.out _ _ sqz (fun hHeld => ?_)
  clear hK K
  refine sqnm ?_
  refine sqp HT_ 2 7 ?_
  refine sqw HT_ HW_ 3 8 hHeld ?_
  refine sqo HT_ 4 9 (fun K hK => ?_)
  refine sqG Try.func100 #[] ?_
  with_reducible refine (spec_l10None.calls  t286 t287 t288 t289 _ A5.out).mono ?_
  rintro e w23 ⟨rfl, hb⟩
  refine ⟨_, rfl, ?_⟩
  replace BK284 := sqb BK284 hb
  replace HB := sqs HB hb
  (try clear hb)
  refine hK.out _ _ sqz (fun hHeld => ?_)
  clear hK K
  refine sqnm ?_
  refine sqp HT_ 5 10 ?_
  refine sqp HT_ 6 11 ?_
  refine sqp HT_ 7 12 ?_
  refine sqp HT_ 10 15 ?_
  refine sqw HT_ HW_ 8 13 hHeld ?_
  refine sqo HT_ 9 14 (fun K hK => ?_)
  refine sqG Try.func180 #[.agg #[.int .i64 a0_0, .int .i64 a0_1, .int .i64 a0_2, .int .i64 a0_3]] ?_
  with_reducible refine (spec_l10Range.calls a0_0 a0_1 a0_2 a0_3 t290 t291 _ A7.out).mono ?_
  rintro e w24 ⟨rfl, hb⟩
  refine ⟨_, rfl, ?_⟩
  replace BK284 := sqb BK284 hb
  replace HB := sqs HB hb
  (try clear hb)
  refine hK.out _ _ sqz (fun hHeld => ?_)
  clear hK K
  refine sqnm ?_
  refine sqo HT_ 11 16 (fun K hK => ?_)
  refine sqG Try.func22 #[.agg #[.int .i64 t290, .int .i64 t291], .int .i64 a1] ?_
  with_reducible refine (spec_RangeHas.calls t290 t291 a1 false _ A8.out).mono ?_
  rintro e w25 ⟨rfl, hb⟩
  refine ⟨_, rfl, ?_⟩
  replace BK284 := sqb BK284 hb
  replace HB := sqs HB hb
  (try clear hb)
  refine hK.out _ _ sqz (fun hHeld => ?_)
  clear hK K
  refine sqnm ?_
  refine sqp HT_ 12 17 ?_
  refine sqp HT_ 13 18 ?_
  refine sqpu HT_ 14 19 ?_
  refine sqpu HT_ 15 20 ?_
  refine sqpu HT_ 16 21 ?_
  refine sqpu HT_ 17 22 ?_
  refine sqp HT_ 18 23 ?_
  refine sqp HT_ 19 4 ?_
  refine done_ (done_of HT_.out (by kernel_rfl)) ?_
  try go_wp2
  go_ret
  exact sqe HB
 subst c9
 have H1 : ((spec_l10Rest.f a0_0 a0_1 a0_2 a0_3).bind fun bt293 => ((spec_RestHas.f k bt293.1 bt293.2 a1).bind fun t295 => (some t295))) = some r := by rw [if_pos rfl] at H; exact H
 clear H
 have H := H1
 clear H1
 replace H := sqbi H
 obtain ⟨⟨t293, t294⟩, A10, H⟩ := H
 try dsimp only at H
 replace H := sqbi H
 obtain ⟨t295, A11, H⟩ := H
 try dsimp only at H
 obtain rfl := Option.some.inj H
 go_enter Try.func83, Try.ntmps83
 try go_wp2_with (first | ((with_reducible refine gate_dst (N := 2) rfl ?_); refine sqx 2 #[.int .i64 a0_0, .int .i64 a0_1, .int .i64 a0_2, .int .i64 a0_3] 30 ?_; intro gb284 hg w12 hbox hb; have BK284 := Aside0.mk hbox; have GW284 := sqg HB hg; replace HB := sqs HB hb; clear hb hbox hg))
 replace BK284 := sqdr BK284
 replace HB := sqdB HB
 refine sqst 20 (fun w' => w'.cell? ⟨gb284, 0, none⟩ = some (.int .i64 a0_0) ∧ w'.cell? ⟨gb284, 1, none⟩ = some (.int .i64 a0_1) ∧ w'.cell? ⟨gb284, 2, none⟩ = some (.int .i64 a0_2) ∧ w'.cell? ⟨gb284, 3, none⟩ = some (.int .i64 a0_3)) sqz (fun hHeld => ?_); refine with_tabW spec_ValHas.tab1 spec_ValHas.bits1 (fun HT_ HW_ => ?_)
 generalize w12.drew = w13 at BK284 HB hHeld ⊢
 refine sqw HT_ HW_ 0 5 hHeld ?_
 refine sqo HT_ 1 6 (fun K hK => ?_)
 refine sqG Try.func80 #[.agg #[.int .i64 a0_0, .int .i64 a0_1, .int .i64 a0_2, .int .i64 a0_3]] ?_
 with_reducible refine (spec_ValOk.calls k a0_0 a0_1 a0_2 a0_3 true _ A3.out).mono ?_
 rintro e w14 ⟨rfl, hb⟩
 refine ⟨_, rfl, ?_⟩
 replace BK284 := sqb BK284 hb
 replace HB := sqs HB hb
 (try clear hb)
 refine hK.out _ _ sqz (fun hHeld => ?_)
 clear hK K
 refine sqnm ?_
 refine sqp HT_ 2 7 ?_
 refine sqw HT_ HW_ 3 8 hHeld ?_
 refine sqo HT_ 4 9 (fun K hK => ?_)
 refine sqG Try.func100 #[] ?_
 with_reducible refine (spec_l10None.calls  t286 t287 t288 t289 _ A5.out).mono ?_
 rintro e w15 ⟨rfl, hb⟩
 refine ⟨_, rfl, ?_⟩
 replace BK284 := sqb BK284 hb
 replace HB := sqs HB hb
 (try clear hb)
 refine hK.out _ _ sqz (fun hHeld => ?_)
 clear hK K
 refine sqnm ?_
 refine sqp HT_ 5 10 ?_
 refine sqp HT_ 6 11 ?_
 refine sqp HT_ 7 12 ?_
 refine sqp HT_ 10 15 ?_
 refine sqw HT_ HW_ 8 13 hHeld ?_
 refine sqo HT_ 9 14 (fun K hK => ?_)
 refine sqG Try.func180 #[.agg #[.int .i64 a0_0, .int .i64 a0_1, .int .i64 a0_2, .int .i64 a0_3]] ?_
 with_reducible refine (spec_l10Range.calls a0_0 a0_1 a0_2 a0_3 t290 t291 _ A7.out).mono ?_
 rintro e w16 ⟨rfl, hb⟩
 refine ⟨_, rfl, ?_⟩
 replace BK284 := sqb BK284 hb
 replace HB := sqs HB hb
 (try clear hb)
 refine hK.out _ _ sqz (fun hHeld => ?_)
 clear hK K
 refine sqnm ?_
 refine sqo HT_ 11 16 (fun K hK => ?_)
 refine sqG Try.func22 #[.agg #[.int .i64 t290, .int .i64 t291], .int .i64 a1] ?_
 with_reducible refine (spec_RangeHas.calls t290 t291 a1 true _ A8.out).mono ?_
 rintro e w17 ⟨rfl, hb⟩
 refine ⟨_, rfl, ?_⟩
 replace BK284 := sqb BK284 hb
 replace HB := sqs HB hb
 (try clear hb)
 refine hK.out _ _ sqz (fun hHeld => ?_)
 clear hK K
 refine sqnm ?_
 refine sqp HT_ 12 17 ?_
 refine sqp HT_ 13 18 ?_
 refine sqp HT_ 16 21 ?_
 refine sqw HT_ HW_ 14 19 hHeld ?_
 refine sqo HT_ 15 20 (fun K hK => ?_)
 refine sqG Try.func181 #[.agg #[.int .i64 a0_0, .int .i64 a0_1, .int .i64 a0_2, .int .i64 a0_3]] ?_
 with_reducible refine (spec_l10Rest.calls a0_0 a0_1 a0_2 a0_3 t293 t294 _ A10.out).mono ?_
 rintro e w18 ⟨rfl, hb⟩
 refine ⟨_, rfl, ?_⟩
 replace BK284 := sqb BK284 hb
 replace HB := sqs HB hb
 (try clear hb)
 refine hK.out _ _ sqz (fun hHeld => ?_)
 clear hK K
 refine sqnm ?_
 refine sqo HT_ 17 22 (fun K hK => ?_)
 refine sqG Try.func23 #[.agg #[.int .i64 t293, .int .i64 t294], .int .i64 a1] ?_
 with_reducible refine (spec_RestHas.calls k t293 t294 a1 t295 _ A11.out).mono ?_
 rintro e w19 ⟨rfl, hb⟩
 refine ⟨_, rfl, ?_⟩
 replace BK284 := sqb BK284 hb
 replace HB := sqs HB hb
 (try clear hb)
 refine hK.out _ _ sqz (fun hHeld => ?_)
 clear hK K
 refine sqnm ?_
 refine sqp HT_ 18 23 ?_
 refine sqp HT_ 19 4 ?_
 refine done_ (done_of HT_.out (by kernel_rfl)) ?_
 try go_wp2
 go_ret
 exact sqe HB

end Go.Proofs.Ytkekcenlleebeaa.PFnValLattice
