/- Functions of the program as plain Lean functions, and that calls of them come to what these tell. Conditions: those in each law. -/
import Derived.Test.YtkekcenlleebeaaSq
import Derived.Test.YtkekcenlleebeaaDFnValLattice
import Derived.Test.YtkekcenlleebeaaQFnValLatticex0
import Derived.Test.YtkekcenlleebeaaQFnValLatticex3
import Derived.Test.YtkekcenlleebeaaQFnValLatticex7
import Derived.Test.YtkekcenlleebeaaQFnValLatticex9
import Derived.Test.YtkekcenlleebeaaQFnValLatticex10
namespace Go.Proofs.Ytkekcenlleebeaa.PFnValLattice
open Go.RowKit Go.Proofs.Ytkekcenlleebeaa.Sq Go.Proofs.YtkekcenlleebeaaW.PrintWords Go.Proofs.YtkekcenlleebeaaW.PrintLast Go.Proofs.YtkekcenlleebeaaW.PrintMore
attribute [local go_sem] max2_int min2_int max_two min_two max_three min_three max_four min_four   -- for this text's walks alone
set_option linter.unusedVariables false
set_option linter.unusedSimpArgs false

attribute [local go_sem high] eqA30
/-! ### spec_ValOk: function 80 -/
def spec_ValOk.T1 : Bool × List (List Nat × List Nat) := (true, [([], []), ([], []), ([0, 1], [0, 1]), ([2, 1], [2]), ([3], [3]), ([4, 3, 3], [3, 4]), ([5, 5, 3], [3, 5]), ([6, 6, 3], [3, 6]), ([7], [7]), ([8, 7, 7], [7, 8]), ([9, 9, 7], [7, 9]), ([7, 10, 3], [3, 7, 10]), ([11, 10, 3], [3, 11]), ([12], [12]), ([12], [12]), ([14, 12, 12], [12, 14]), ([12], [12]), ([16, 15, 12], [12, 16]), ([15, 17, 17, 12], [12, 15, 17]), ([13, 18, 12], [12, 13, 18]), ([12, 19, 3], [3, 12, 19]), ([3, 20], [3, 20]), ([21, 18, 0, 1, 2, 3, 4, 5, 6, 7, 8, 9, 10, 11, 12, 13, 14, 15, 16, 17, 18, 19, 20, 21], [21])])
def spec_ValOk.B1 : List Nat := [0, 0, 3, 7, 15, 31, 63, 127, 255, 511, 1023, 2047, 4095, 8191, 8191, 24575, 8191, 122879, 253951, 524287, 1048575, 2097151, 4194303]
theorem spec_ValOk.tab1 : rtab .any (opsOf Try.f80 1) = spec_ValOk.T1 := by kernel_rfl
theorem spec_ValOk.bits1 : waitsOk spec_ValOk.T1.2 spec_ValOk.B1 = true := by kernel_rfl
set_option maxHeartbeats 8000000 in
set_option maxRecDepth 100000 in
theorem spec_ValOk.calls (k : Nat) (a0_0 : Int) (a0_1 : Int) (a0_2 : Int) (a0_3 : Int) (r : Bool) (w : World) (h : spec_ValOk.f k a0_0 a0_1 a0_2 a0_3 = some r) :
  Calls Try.prog 80 #[.agg #[.int .i64 a0_0, .int .i64 a0_1, .int .i64 a0_2, .int .i64 a0_3]] w fun e w' => e = .returned (.bool r) ∧ Below w.heap.size w w' := by
 have hu30 := Try.underlying30
 have HB := Aside0.mk (Below.refl w.heap.size w)
 have H := h
 unfold spec_ValOk.f at H
 clear h
 replace H := sqbi H
 obtain ⟨⟨t219, t220, t221, t222⟩, A2, H⟩ := H
 try dsimp only at H
 replace H := sqj H
 rcases H with ⟨c3, H⟩ | ⟨c3, H⟩
 ·have c3b0 : (a0_0 == t219 && (a0_1 == t220 && (a0_2 == t221 && (a0_3 == t222)))) = true := c3
  (try (have c3b1 : decide (a0_0 = t219 && (a0_1 == t220 && (a0_2 == t221 && (a0_3 == t222)))) = true := by simpa using c3))
  (try (have c3b2 : (a0_0 == t219 && (a0_1 == t220 && (a0_2 == t221 && (a0_3 == t222)))) = true := by simpa using c3))
  clear c3
  obtain rfl := Option.some.inj H
  go_enter Try.func80, Try.ntmps80
  try go_wp2_with (first | ((with_reducible refine gate_dst (N := 1) rfl ?_); refine sqx 1 #[.int .i64 a0_0, .int .i64 a0_1, .int .i64 a0_2, .int .i64 a0_3] 30 ?_; intro gb218 hg w4 hbox hb; have BK218 := Aside0.mk hbox; have GW218 := sqg HB hg; replace HB := sqs HB hb; clear hb hbox hg))
  replace BK218 := sqdr BK218
  replace HB := sqdB HB
  refine sqst 23 (fun w' => w'.cell? ⟨gb218, 0, none⟩ = some (.int .i64 a0_0) ∧ w'.cell? ⟨gb218, 1, none⟩ = some (.int .i64 a0_1) ∧ w'.cell? ⟨gb218, 2, none⟩ = some (.int .i64 a0_2) ∧ w'.cell? ⟨gb218, 3, none⟩ = some (.int .i64 a0_3)) sqz (fun hHeld => ?_); refine with_tabW spec_ValOk.tab1 spec_ValOk.bits1 (fun HT_ HW_ => ?_)
  generalize w4.drew = w5 at BK218 HB hHeld ⊢
  refine sqw HT_ HW_ 0 3 hHeld ?_
  refine sqo HT_ 1 4 (fun K hK => ?_)
  refine sqG Try.func100 #[] ?_
  with_reducible refine (spec_l10None.calls  t219 t220 t221 t222 _ A2.out).mono ?_
  rintro e w6 ⟨rfl, hb⟩
  refine ⟨_, rfl, ?_⟩
  replace BK218 := sqb BK218 hb
  replace HB := sqs HB hb
  (try clear hb)
  refine hK.out _ _ sqz (fun hHeld => ?_)
  clear hK K
  refine sqnm ?_
  refine sqp HT_ 2 5 ?_
  refine sqp HT_ 3 6 ?_
  refine sqpu HT_ 4 7 ?_
  refine sqpu HT_ 5 8 ?_
  refine sqpu HT_ 6 9 ?_
  refine sqpu HT_ 7 10 ?_
  refine sqpu HT_ 8 11 ?_
  refine sqpu HT_ 9 12 ?_
  refine sqpu HT_ 10 13 ?_
  refine sqpu HT_ 11 14 ?_
  refine sqpu HT_ 12 15 ?_
  refine sqpu HT_ 13 16 ?_
  refine sqpu HT_ 14 17 ?_
  refine sqpu HT_ 15 18 ?_
  refine sqpu HT_ 16 19 ?_
  refine sqpu HT_ 17 20 ?_
  refine sqpu HT_ 18 21 ?_
  refine sqpu HT_ 19 22 ?_
  refine sqpu HT_ 20 23 ?_
  refine sqp HT_ 21 24 ?_
  refine sqp HT_ 22 2 ?_
  refine done_ (done_of HT_.out (by kernel_rfl)) ?_
  try go_wp2
  go_ret
  exact sqe HB
 have c3b0 : (a0_0 == t219 && (a0_1 == t220 && (a0_2 == t221 && (a0_3 == t222)))) = false := by simpa using c3
 (try (have c3b1 : decide (a0_0 = t219 && (a0_1 == t220 && (a0_2 == t221 && (a0_3 == t222)))) = false := by simpa using c3))
 (try (have c3b2 : (a0_0 == t219 && (a0_1 == t220 && (a0_2 == t221 && (a0_3 == t222)))) = false := by simpa using c3))
 (try (have c3b3 : ¬ (a0_0 = t219 && (a0_1 == t220 && (a0_2 == t221 && (a0_3 == t222)))) := by simpa using c3))
 clear c3
 replace H := sqbi H
 obtain ⟨⟨t223, t224⟩, A7, H⟩ := H
 try dsimp only at H
 replace H := sqbi H
 obtain ⟨t225, A8, H⟩ := H
 try dsimp only at H
 rcases sqI (t225 = true) with c9 | c9
 ·replace c9 := Bool.eq_false_iff.mpr c9
  subst c9
  have H1 : (some false) = some r := by rw [if_neg (show ¬ (false = true) by decide)] at H; exact H
  clear H
  have H := H1
  clear H1
  obtain rfl := Option.some.inj H
  go_enter Try.func80, Try.ntmps80
  try go_wp2_with (first | ((with_reducible refine gate_dst (N := 1) rfl ?_); refine sqx 1 #[.int .i64 a0_0, .int .i64 a0_1, .int .i64 a0_2, .int .i64 a0_3] 30 ?_; intro gb218 hg w33 hbox hb; have BK218 := Aside0.mk hbox; have GW218 := sqg HB hg; replace HB := sqs HB hb; clear hb hbox hg))
  replace BK218 := sqdr BK218
  replace HB := sqdB HB
  refine sqst 23 (fun w' => w'.cell? ⟨gb218, 0, none⟩ = some (.int .i64 a0_0) ∧ w'.cell? ⟨gb218, 1, none⟩ = some (.int .i64 a0_1) ∧ w'.cell? ⟨gb218, 2, none⟩ = some (.int .i64 a0_2) ∧ w'.cell? ⟨gb218, 3, none⟩ = some (.int .i64 a0_3)) sqz (fun hHeld => ?_); refine with_tabW spec_ValOk.tab1 spec_ValOk.bits1 (fun HT_ HW_ => ?_)
  generalize w33.drew = w34 at BK218 HB hHeld ⊢
  refine sqw HT_ HW_ 0 3 hHeld ?_
  refine sqo HT_ 1 4 (fun K hK => ?_)
  refine sqG Try.func100 #[] ?_
  with_reducible refine (spec_l10None.calls  t219 t220 t221 t222 _ A2.out).mono ?_
  rintro e w35 ⟨rfl, hb⟩
  refine ⟨_, rfl, ?_⟩
  replace BK218 := sqb BK218 hb
  replace HB := sqs HB hb
  (try clear hb)
  refine hK.out _ _ sqz (fun hHeld => ?_)
  clear hK K
  refine sqnm ?_
  refine sqp HT_ 2 5 ?_
  refine sqp HT_ 3 6 ?_
  refine sqw HT_ HW_ 4 7 hHeld ?_
  refine sqo HT_ 5 8 (fun K hK => ?_)
  refine sqG Try.func180 #[.agg #[.int .i64 a0_0, .int .i64 a0_1, .int .i64 a0_2, .int .i64 a0_3]] ?_
  with_reducible refine (spec_l10Range.calls a0_0 a0_1 a0_2 a0_3 t223 t224 _ A7.out).mono ?_
  rintro e w36 ⟨rfl, hb⟩
  refine ⟨_, rfl, ?_⟩
  replace BK218 := sqb BK218 hb
  replace HB := sqs HB hb
  (try clear hb)
  refine hK.out _ _ sqz (fun hHeld => ?_)
  clear hK K
  refine sqnm ?_
  refine sqo HT_ 6 9 (fun K hK => ?_)
  refine sqG Try.func45 #[.agg #[.int .i64 t223, .int .i64 t224]] ?_
  with_reducible refine (spec_RangeOk.calls t223 t224 false _ A8.out).mono ?_
  rintro e w37 ⟨rfl, hb⟩
  refine ⟨_, rfl, ?_⟩
  replace BK218 := sqb BK218 hb
  replace HB := sqs HB hb
  (try clear hb)
  refine hK.out _ _ sqz (fun hHeld => ?_)
  clear hK K
  refine sqnm ?_
  refine sqp HT_ 7 10 ?_
  refine sqpu HT_ 8 11 ?_
  refine sqpu HT_ 9 12 ?_
  refine sqpu HT_ 10 13 ?_
  refine sqp HT_ 11 14 ?_
  refine sqp HT_ 12 15 ?_
  refine sqpu HT_ 13 16 ?_
  refine sqpu HT_ 14 17 ?_
  refine sqpu HT_ 15 18 ?_
  refine sqpu HT_ 16 19 ?_
  refine sqpu HT_ 17 20 ?_
  refine sqpu HT_ 18 21 ?_
  refine sqpu HT_ 19 22 ?_
  refine sqp HT_ 20 23 ?_
  refine sqp HT_ 21 24 ?_
  refine sqp HT_ 22 2 ?_
  refine done_ (done_of HT_.out (by kernel_rfl)) ?_
  try go_wp2
  go_ret
  exact sqe HB
 subst c9
 have H1 : ((spec_l10Rest.f a0_0 a0_1 a0_2 a0_3).bind fun bt226 => ((spec_RestOk.f bt226.1 bt226.2).bind fun t228 => (if t228 = true then ((spec_l10Range.f a0_0 a0_1 a0_2 a0_3).bind fun bt229 => ((spec_l10Rest.f a0_0 a0_1 a0_2 a0_3).bind fun bt231 => ((spec_ValMake.f k bt229.1 bt229.2 bt231.1 bt231.2).bind fun bt233 => (some (a0_0 == bt233.1 && (a0_1 == bt233.2.1 && (a0_2 == bt233.2.2.1 && (a0_3 == bt233.2.2.2)))))))) else (some false)))) = some r := by rw [if_pos rfl] at H; exact H
 clear H
 have H := H1
 clear H1
 replace H := sqbi H
 obtain ⟨⟨t226, t227⟩, A10, H⟩ := H
 try dsimp only at H
 replace H := sqbi H
 obtain ⟨t228, A11, H⟩ := H
 try dsimp only at H
 rcases sqI (t228 = true) with c12 | c12
 ·replace c12 := Bool.eq_false_iff.mpr c12
  subst c12
  have H1 : (some false) = some r := by rw [if_neg (show ¬ (false = true) by decide)] at H; exact H
  clear H
  have H := H1
  clear H1
  obtain rfl := Option.some.inj H
  go_enter Try.func80, Try.ntmps80
  try go_wp2_with (first | ((with_reducible refine gate_dst (N := 1) rfl ?_); refine sqx 1 #[.int .i64 a0_0, .int .i64 a0_1, .int .i64 a0_2, .int .i64 a0_3] 30 ?_; intro gb218 hg w26 hbox hb; have BK218 := Aside0.mk hbox; have GW218 := sqg HB hg; replace HB := sqs HB hb; clear hb hbox hg))
  replace BK218 := sqdr BK218
  replace HB := sqdB HB
  refine sqst 23 (fun w' => w'.cell? ⟨gb218, 0, none⟩ = some (.int .i64 a0_0) ∧ w'.cell? ⟨gb218, 1, none⟩ = some (.int .i64 a0_1) ∧ w'.cell? ⟨gb218, 2, none⟩ = some (.int .i64 a0_2) ∧ w'.cell? ⟨gb218, 3, none⟩ = some (.int .i64 a0_3)) sqz (fun hHeld => ?_); refine with_tabW spec_ValOk.tab1 spec_ValOk.bits1 (fun HT_ HW_ => ?_)
  generalize w26.drew = w27 at BK218 HB hHeld ⊢
  refine sqw HT_ HW_ 0 3 hHeld ?_
  refine sqo HT_ 1 4 (fun K hK => ?_)
  refine sqG Try.func100 #[] ?_
  with_reducible refine (spec_l10None.calls  t219 t220 t221 t222 _ A2.out).mono ?_
  rintro e w28 ⟨rfl, hb⟩
  refine ⟨_, rfl, ?_⟩
  replace BK218 := sqb BK218 hb
  replace HB := sqs HB hb
  (try clear hb)
  refine hK.out _ _ sqz (fun hHeld => ?_)
  clear hK K
  refine sqnm ?_
  refine sqp HT_ 2 5 ?_
  refine sqp HT_ 3 6 ?_
  refine sqw HT_ HW_ 4 7 hHeld ?_
  refine sqo HT_ 5 8 (fun K hK => ?_)
  refine sqG Try.func180 #[.agg #[.int .i64 a0_0, .int .i64 a0_1, .int .i64 a0_2, .int .i64 a0_3]] ?_
  with_reducible refine (spec_l10Range.calls a0_0 a0_1 a0_2 a0_3 t223 t224 _ A7.out).mono ?_
  rintro e w29 ⟨rfl, hb⟩
  refine ⟨_, rfl, ?_⟩
  replace BK218 := sqb BK218 hb
  replace HB := sqs HB hb
  (try clear hb)
  refine hK.out _ _ sqz (fun hHeld => ?_)
  clear hK K
  refine sqnm ?_
  refine sqo HT_ 6 9 (fun K hK => ?_)
  refine sqG Try.func45 #[.agg #[.int .i64 t223, .int .i64 t224]] ?_
  with_reducible refine (spec_RangeOk.calls t223 t224 true _ A8.out).mono ?_
  rintro e w30 ⟨rfl, hb⟩
  refine ⟨_, rfl, ?_⟩
  replace BK218 := sqb BK218 hb
  replace HB := sqs HB hb
  (try clear hb)
  refine hK.out _ _ sqz (fun hHeld => ?_)
  clear hK K
  refine sqnm ?_
  refine sqp HT_ 7 10 ?_
  refine sqw HT_ HW_ 8 11 hHeld ?_
  refine sqo HT_ 9 12 (fun K hK => ?_)
  refine sqG Try.func181 #[.agg #[.int .i64 a0_0, .int .i64 a0_1, .int .i64 a0_2, .int .i64 a0_3]] ?_
  with_reducible refine (spec_l10Rest.calls a0_0 a0_1 a0_2 a0_3 t226 t227 _ A10.out).mono ?_
  rintro e w31 ⟨rfl, hb⟩
  refine ⟨_, rfl, ?_⟩
  replace BK218 := sqb BK218 hb
  replace HB := sqs HB hb
  (try clear hb)
  refine hK.out _ _ sqz (fun hHeld => ?_)
  clear hK K
  refine sqnm ?_
  refine sqo HT_ 10 13 (fun K hK => ?_)
  refine sqG Try.func66 #[.agg #[.int .i64 t226, .int .i64 t227]] ?_
  with_reducible refine (spec_RestOk.calls t226 t227 false _ A11.out).mono ?_
  rintro e w32 ⟨rfl, hb⟩
  refine ⟨_, rfl, ?_⟩
  replace BK218 := sqb BK218 hb
  replace HB := sqs HB hb
  (try clear hb)
  refine hK.out _ _ sqz (fun hHeld => ?_)
  clear hK K
  refine sqnm ?_
  refine sqp HT_ 11 14 ?_
  refine sqp HT_ 12 15 ?_
  refine sqpu HT_ 13 16 ?_
  refine sqpu HT_ 14 17 ?_
  refine sqpu HT_ 15 18 ?_
  refine sqpu HT_ 16 19 ?_
  refine sqpu HT_ 17 20 ?_
  refine sqpu HT_ 18 21 ?_
  refine sqpu HT_ 19 22 ?_
  refine sqp HT_ 20 23 ?_
  refine sqp HT_ 21 24 ?_
  refine sqp HT_ 22 2 ?_
  refine done_ (done_of HT_.out (by kernel_rfl)) ?_
  try go_wp2
  go_ret
  exact sqe HB
 subst c12
 have H1 : ((spec_l10Range.f a0_0 a0_1 a0_2 a0_3).bind fun bt229 => ((spec_l10Rest.f a0_0 a0_1 a0_2 a0_3).bind fun bt231 => ((spec_ValMake.f k bt229.1 bt229.2 bt231.1 bt231.2).bind fun bt233 => (some (a0_0 == bt233.1 && (a0_1 == bt233.2.1 && (a0_2 == bt233.2.2.1 && (a0_3 == bt233.2.2.2)))))))) = some r := by rw [if_pos rfl] at H; exact H
 clear H
 have H := H1
 clear H1
 replace H := sqbi H
 obtain ⟨⟨t229, t230⟩, A13, H⟩ := H
 try dsimp only at H
 replace H := sqbi H
 obtain ⟨⟨t231, t232⟩, A14, H⟩ := H
 try dsimp only at H
 replace H := sqbi H
 obtain ⟨⟨t233, t234, t235, t236⟩, A15, H⟩ := H
 try dsimp only at H
 obtain rfl := Option.some.inj H
 go_enter Try.func80, Try.ntmps80
 try go_wp2_with (first | ((with_reducible refine gate_dst (N := 1) rfl ?_); refine sqx 1 #[.int .i64 a0_0, .int .i64 a0_1, .int .i64 a0_2, .int .i64 a0_3] 30 ?_; intro gb218 hg w16 hbox hb; have BK218 := Aside0.mk hbox; have GW218 := sqg HB hg; replace HB := sqs HB hb; clear hb hbox hg))
 replace BK218 := sqdr BK218
 replace HB := sqdB HB
 refine sqst 23 (fun w' => w'.cell? ⟨gb218, 0, none⟩ = some (.int .i64 a0_0) ∧ w'.cell? ⟨gb218, 1, none⟩ = some (.int .i64 a0_1) ∧ w'.cell? ⟨gb218, 2, none⟩ = some (.int .i64 a0_2) ∧ w'.cell? ⟨gb218, 3, none⟩ = some (.int .i64 a0_3)) sqz (fun hHeld => ?_); refine with_tabW spec_ValOk.tab1 spec_ValOk.bits1 (fun HT_ HW_ => ?_)
 generalize w16.drew = w17 at BK218 HB hHeld ⊢
 refine sqw HT_ HW_ 0 3 hHeld ?_
 refine sqo HT_ 1 4 (fun K hK => ?_)
 refine sqG Try.func100 #[] ?_
 with_reducible refine (spec_l10None.calls  t219 t220 t221 t222 _ A2.out).mono ?_
 rintro e w18 ⟨rfl, hb⟩
 refine ⟨_, rfl, ?_⟩
 replace BK218 := sqb BK218 hb
 replace HB := sqs HB hb
 (try clear hb)
 refine hK.out _ _ sqz (fun hHeld => ?_)
 clear hK K
 refine sqnm ?_
 refine sqp HT_ 2 5 ?_
 refine sqp HT_ 3 6 ?_
 refine sqw HT_ HW_ 4 7 hHeld ?_
 refine sqo HT_ 5 8 (fun K hK => ?_)
 refine sqG Try.func180 #[.agg #[.int .i64 a0_0, .int .i64 a0_1, .int .i64 a0_2, .int .i64 a0_3]] ?_
 with_reducible refine (spec_l10Range.calls a0_0 a0_1 a0_2 a0_3 t223 t224 _ A7.out).mono ?_
 rintro e w19 ⟨rfl, hb⟩
 refine ⟨_, rfl, ?_⟩
 replace BK218 := sqb BK218 hb
 replace HB := sqs HB hb
 (try clear hb)
 refine hK.out _ _ sqz (fun hHeld => ?_)
 clear hK K
 refine sqnm ?_
 refine sqo HT_ 6 9 (fun K hK => ?_)
 refine sqG Try.func45 #[.agg #[.int .i64 t223, .int .i64 t224]] ?_
 with_reducible refine (spec_RangeOk.calls t223 t224 true _ A8.out).mono ?_
 rintro e w20 ⟨rfl, hb⟩
 refine ⟨_, rfl, ?_⟩
 replace BK218 := sqb BK218 hb
 replace HB := sqs HB hb
 (try clear hb)
 refine hK.out _ _ sqz (fun hHeld => ?_)
 clear hK K
 refine sqnm ?_
 refine sqp HT_ 7 10 ?_
 refine sqw HT_ HW_ 8 11 hHeld ?_
 refine sqo HT_ 9 12 (fun K hK => ?_)
 refine sqG Try.func181 #[.agg #[.int .i64 a0_0, .int .i64 a0_1, .int .i64 a0_2, .int .i64 a0_3]] ?_
 with_reducible refine (spec_l10Rest.calls a0_0 a0_1 a0_2 a0_3 t226 t227 _ A10.out).mono ?_
 rintro e w21 ⟨rfl, hb⟩
 refine ⟨_, rfl, ?_⟩
 replace BK218 := sqb BK218 hb
 replace HB := sqs HB hb
 (try clear hb)
 refine hK.out _ _ sqz (fun hHeld => ?_)
 clear hK K
 refine sqnm ?_
 refine sqo HT_ 10 13 (fun K hK => ?_)
 refine sqG Try.func66 #[.agg #[.int .i64 t226, .int .i64 t227]] ?_
 with_reducible refine (spec_RestOk.calls t226 t227 true _ A11.out).mono ?_
 rintro e w22 ⟨rfl, hb⟩
 refine ⟨_, rfl, ?_⟩
 replace BK218 := sqb BK218 hb
 replace HB := sqs HB hb
 (try clear hb)
 refine hK.out _ _ sqz (fun hHeld => ?_)
 clear hK K
 refine sqnm ?_
 refine sqp HT_ 11 14 ?_
 refine sqp HT_ 12 15 ?_
 refine sqw HT_ HW_ 13 16 hHeld ?_
 refine sqw HT_ HW_ 14 17 hHeld ?_
 refine sqw HT_ HW_ 16 19 hHeld ?_
 refine sqo HT_ 15 18 (fun K hK => ?_)
 refine sqG Try.func180 #[.agg #[.int .i64 a0_0, .int .i64 a0_1, .int .i64 a0_2, .int .i64 a0_3]] ?_
 with_reducible refine (spec_l10Range.calls a0_0 a0_1 a0_2 a0_3 t229 t230 _ A13.out).mono ?_
 rintro e w23 ⟨rfl, hb⟩
 refine ⟨_, rfl, ?_⟩
 replace BK218 := sqb BK218 hb
 replace HB := sqs HB hb
 (try clear hb)
 refine hK.out _ _ sqz (fun hHeld => ?_)
 clear hK K
 refine sqnm ?_
 refine sqo HT_ 17 20 (fun K hK => ?_)
 refine sqG Try.func181 #[.agg #[.int .i64 a0_0, .int .i64 a0_1, .int .i64 a0_2, .int .i64 a0_3]] ?_
 with_reducible refine (spec_l10Rest.calls a0_0 a0_1 a0_2 a0_3 t231 t232 _ A14.out).mono ?_
 rintro e w24 ⟨rfl, hb⟩
 refine ⟨_, rfl, ?_⟩
 replace BK218 := sqb BK218 hb
 replace HB := sqs HB hb
 (try clear hb)
 refine hK.out _ _ sqz (fun hHeld => ?_)
 clear hK K
 refine sqnm ?_
 refine sqo HT_ 18 21 (fun K hK => ?_)
 refine sqG Try.func17 #[.agg #[.int .i64 t229, .int .i64 t230], .agg #[.int .i64 t231, .int .i64 t232]] ?_
 with_reducible refine (spec_ValMake.calls k t229 t230 t231 t232 t233 t234 t235 t236 _ A15.out).mono ?_
 rintro e w25 ⟨rfl, hb⟩
 refine ⟨_, rfl, ?_⟩
 replace BK218 := sqb BK218 hb
 replace HB := sqs HB hb
 (try clear hb)
 refine hK.out _ _ sqz (fun hHeld => ?_)
 clear hK K
 refine sqnm ?_
 refine sqp HT_ 19 22 ?_
 refine sqp HT_ 20 23 ?_
 refine sqp HT_ 21 24 ?_
 refine sqp HT_ 22 2 ?_
 refine done_ (done_of HT_.out (by kernel_rfl)) ?_
 try go_wp2
 go_ret
 exact sqe HB

end Go.Proofs.Ytkekcenlleebeaa.PFnValLattice
