/- Functions of the program as plain Lean functions, and that calls of them come to what these tell. Conditions: those in each law. -/
import Derived.Test.YtnmgckdgmplddaaSq
import Derived.Test.YtnmgckdgmplddaaDFnExactAbsHas
import Derived.Test.YtnmgckdgmplddaaQFnExactAbsHasx0
import Derived.Test.YtnmgckdgmplddaaQFnExactAbsHasx1
import Derived.Test.YtnmgckdgmplddaaQFnExactAbsHasx3
import Derived.Test.YtnmgckdgmplddaaQFnExactAbsHasx4
import Derived.Test.YtnmgckdgmplddaaQFnExactAbsHasx7
import Derived.Test.YtnmgckdgmplddaaQFnExactAbsHasx10
namespace Go.Proofs.Ytnmgckdgmplddaa.PFnExactAbsHas
open Go.RowKit Go.Proofs.Ytnmgckdgmplddaa.Sq Go.Proofs.YtnmgckdgmplddaaW.PrintWords Go.Proofs.YtnmgckdgmplddaaW.PrintLast Go.Proofs.YtnmgckdgmplddaaW.PrintMore
attribute [local go_sem] max2_int min2_int max_two min_two max_three min_three max_four min_four   -- for this text's walks alone
set_option linter.unusedVariables false
set_option linter.unusedSimpArgs false

attribute [local go_sem high] eqA60
/-! ### spec_ValHas: function 22 -/
def spec_ValHas.T1 : Bool × List (List Nat × List Nat) := (true, [([], []), ([0], [0]), ([1, 1], [1]), ([2], [2]), ([2, 2], [2]), ([3, 4, 2], [2, 3, 4]), ([2, 5], [2, 5]), ([6, 4], [6]), ([7], [7]), ([8, 7, 7], [7, 8]), ([7], [7]), ([9, 10, 9, 7], [7, 9, 10]), ([7, 11], [7, 11]), ([12, 11], [12]), ([13], [13]), ([14, 13, 13], [13, 14]), ([13], [13]), ([15, 16, 15, 13], [13, 15, 16]), ([13, 17], [13, 17]), ([18, 17, 0, 1, 2, 3, 4, 5, 6, 7, 8, 9, 10, 11, 12, 13, 14, 15, 16, 17, 18], [18])])
def spec_ValHas.B1 : List Nat := [0, 1, 3, 7, 7, 31, 63, 127, 255, 511, 255, 2047, 4095, 8191, 16383, 32767, 16383, 131071, 262143, 524287]
theorem spec_ValHas.tab1 : rtab .any (opsOf Try.f22 1) = spec_ValHas.T1 := by kernel_rfl
theorem spec_ValHas.bits1 : waitsOk spec_ValHas.T1.2 spec_ValHas.B1 = true := by kernel_rfl
set_option maxHeartbeats 8000000 in
set_option maxRecDepth 100000 in
theorem spec_ValHas.calls (k : Nat) (a0_0 : Int) (a0_1 : Int) (a0_2 : Int) (a0_3 : Int) (a1 : Int) (r : Bool) (w : World) (h : spec_ValHas.f k a0_0 a0_1 a0_2 a0_3 a1 = some r) :
  Calls Try.prog 22 #[.agg #[.int .i64 a0_0, .int .i64 a0_1, .int .i64 a0_2, .int .i64 a0_3], .int .i64 a1] w fun e w' => e = .returned (.bool r) ∧ Below w.heap.size w w' := by
 have hu60 := Try.underlying60
 have HB := Aside0.mk (Below.refl w.heap.size w)
 have H := h
 unfold spec_ValHas.f at H
 clear h
 replace H := Option.bind_eq_some_iff.mp H
 obtain ⟨t218, A30, H⟩ := H
 try dsimp only at H
 have A3 := Aside0.mk A30
 clear A30
 rcases sqI (t218 = true) with c4 | c4
 ·replace c4 := Bool.eq_false_iff.mpr c4
  subst c4
  have H1 : (some false) = some r := by rw [if_neg (show ¬ (false = true) by decide)] at H; exact H
  clear H
  have H := H1
  clear H1
  obtain rfl := Option.some.inj H
  go_enter Try.func22, Try.ntmps22
  try go_wp2_with (first | ((with_reducible refine gate_dst (N := 2) rfl ?_); refine sqx 2 #[.int .i64 a0_0, .int .i64 a0_1, .int .i64 a0_2, .int .i64 a0_3] 60 ?_; intro gb217 hg w30 hbox hb; have BK217 := Aside0.mk hbox; have GW217 := sqg HB hg; have GE217 := sqg HB hg; replace HB := sqs HB hb; clear hb hbox hg))
  replace BK217 := Aside0.mk (blk_drew BK217.out)
  replace HB := Aside0.mk (below_drew1 HB.out)
  refine start_ (n := 20) (S := fun w' => w'.cell? ⟨gb217, 0, none⟩ = some (.int .i64 a0_0) ∧ w'.cell? ⟨gb217, 1, none⟩ = some (.int .i64 a0_1) ∧ w'.cell? ⟨gb217, 2, none⟩ = some (.int .i64 a0_2) ∧ w'.cell? ⟨gb217, 3, none⟩ = some (.int .i64 a0_3)) (ds := []) #[false, false, false, false, false, false, false, false, false, false, false, false, false, false, false, false, false, false, false, false] (by kernel_rfl) rfl rfl sqz (fun hHeld => ?_); refine with_tabW spec_ValHas.tab1 spec_ValHas.bits1 (fun HT_ HW_ => ?_)
  generalize w30.drew = w31 at BK217 HB hHeld ⊢
  refine sqw HT_ HW_ 0 5 hHeld ?_
  refine sqo HT_ 1 6 (fun K hK => ?_)
  refine sqG Try.func44 #[.agg #[.int .i64 a0_0, .int .i64 a0_1, .int .i64 a0_2, .int .i64 a0_3]] ?_
  with_reducible refine (spec_ValOk.calls k a0_0 a0_1 a0_2 a0_3 false _ A3.out).mono ?_
  rintro e w32 ⟨rfl, hb⟩
  refine ⟨_, rfl, ?_⟩
  replace BK217 := sqb BK217 hb
  replace HB := sqs HB hb
  (try clear hb)
  refine hK.out _ _ sqz (fun hHeld => ?_)
  clear hK K
  refine sqnm ?_
  refine sqp HT_ 2 7 ?_
  refine sqpu HT_ 3 8 ?_
  refine sqpu HT_ 4 9 ?_
  refine sqpu HT_ 5 10 ?_
  refine sqp HT_ 6 11 ?_
  refine sqp HT_ 7 12 ?_
  refine sqpu HT_ 8 13 ?_
  refine sqpu HT_ 9 14 ?_
  refine sqpu HT_ 10 15 ?_
  refine sqpu HT_ 11 16 ?_
  refine sqp HT_ 12 17 ?_
  refine sqp HT_ 13 18 ?_
  refine sqpu HT_ 14 19 ?_
  refine sqpu HT_ 15 20 ?_
  refine sqpu HT_ 16 21 ?_
  refine sqpu HT_ 17 22 ?_
  refine sqp HT_ 18 23 ?_
  refine sqp HT_ 19 4 ?_
  refine done_ (done_of HT_.out (by kernel_rfl)) ?_
  try go_wp2
  go_ret
  exact sqe HB
 subst c4
 have H1 : ((spec_l10None.f).bind fun bt219 => (if (!(a0_0 == bt219.1) || (!(a0_1 == bt219.2.1) || (!(a0_2 == bt219.2.2.1) || (!(a0_3 == bt219.2.2.2))))) = true then ((spec_l10Range.f a0_0 a0_1 a0_2 a0_3).bind fun bt223 => ((spec_RangeHas.f bt223.1 bt223.2 a1).bind fun t225 => (if t225 = true then ((spec_l10Rest.f a0_0 a0_1 a0_2 a0_3).bind fun bt226 => ((spec_RestHas.f k bt226.1 bt226.2 a1).bind fun t228 => (some t228))) else (some false)))) else (some false))) = some r := by rw [if_pos rfl] at H; exact H
 clear H
 have H := H1
 clear H1
 replace H := Option.bind_eq_some_iff.mp H
 obtain ⟨⟨t219, t220, t221, t222⟩, A50, H⟩ := H
 try dsimp only at H
 have A5 := Aside0.mk A50
 clear A50
 replace H := sqi H
 rcases H with ⟨c6, H⟩ | ⟨c6, H⟩
 ·have c6b0 : (!(a0_0 == t219) || (!(a0_1 == t220) || (!(a0_2 == t221) || (!(a0_3 == t222))))) = false := by simpa using c6
  clear c6
  obtain rfl := Option.some.inj H
  go_enter Try.func22, Try.ntmps22
  try go_wp2_with (first | ((with_reducible refine gate_dst (N := 2) rfl ?_); refine sqx 2 #[.int .i64 a0_0, .int .i64 a0_1, .int .i64 a0_2, .int .i64 a0_3] 60 ?_; intro gb217 hg w26 hbox hb; have BK217 := Aside0.mk hbox; have GW217 := sqg HB hg; have GE217 := sqg HB hg; replace HB := sqs HB hb; clear hb hbox hg))
  replace BK217 := Aside0.mk (blk_drew BK217.out)
  replace HB := Aside0.mk (below_drew1 HB.out)
  refine start_ (n := 20) (S := fun w' => w'.cell? ⟨gb217, 0, none⟩ = some (.int .i64 a0_0) ∧ w'.cell? ⟨gb217, 1, none⟩ = some (.int .i64 a0_1) ∧ w'.cell? ⟨gb217, 2, none⟩ = some (.int .i64 a0_2) ∧ w'.cell? ⟨gb217, 3, none⟩ = some (.int .i64 a0_3)) (ds := []) #[false, false, false, false, false, false, false, false, false, false, false, false, false, false, false, false, false, false, false, false] (by kernel_rfl) rfl rfl sqz (fun hHeld => ?_); refine with_tabW spec_ValHas.tab1 spec_ValHas.bits1 (fun HT_ HW_ => ?_)
  generalize w26.drew = w27 at BK217 HB hHeld ⊢
  refine sqw HT_ HW_ 0 5 hHeld ?_
  refine sqo HT_ 1 6 (fun K hK => ?_)
  refine sqG Try.func44 #[.agg #[.int .i64 a0_0, .int .i64 a0_1, .int .i64 a0_2, .int .i64 a0_3]] ?_
  with_reducible refine (spec_ValOk.calls k a0_0 a0_1 a0_2 a0_3 true _ A3.out).mono ?_
  rintro e w28 ⟨rfl, hb⟩
  refine ⟨_, rfl, ?_⟩
  replace BK217 := sqb BK217 hb
  replace HB := sqs HB hb
  (try clear hb)
  refine hK.out _ _ sqz (fun hHeld => ?_)
  clear hK K
  refine sqnm ?_
  refine sqp HT_ 2 7 ?_
  refine sqw HT_ HW_ 3 8 hHeld ?_
  refine sqo HT_ 4 9 (fun K hK => ?_)
  refine sqG Try.func45 #[] ?_
  with_reducible refine (spec_l10None.calls  t219 t220 t221 t222 _ A5.out).mono ?_
  rintro e w29 ⟨rfl, hb⟩
  refine ⟨_, rfl, ?_⟩
  replace BK217 := sqb BK217 hb
  replace HB := sqs HB hb
  (try clear hb)
  refine hK.out _ _ sqz (fun hHeld => ?_)
  clear hK K
  refine sqnm ?_
  refine sqp HT_ 5 10 ?_
  refine sqp HT_ 6 11 ?_
  refine sqp HT_ 7 12 ?_
  refine sqpu HT_ 8 13 ?_
  refine sqpu HT_ 9 14 ?_
  refine sqpu HT_ 10 15 ?_
  refine sqpu HT_ 11 16 ?_
  refine sqp HT_ 12 17 ?_
  refine sqp HT_ 13 18 ?_
  refine sqpu HT_ 14 19 ?_
  refine sqpu HT_ 15 20 ?_
  refine sqpu HT_ 16 21 ?_
  refine sqpu HT_ 17 22 ?_
  refine sqp HT_ 18 23 ?_
  refine sqp HT_ 19 4 ?_
  refine done_ (done_of HT_.out (by kernel_rfl)) ?_
  try go_wp2
  go_ret
  exact sqe HB
 have c6b0 : (!(a0_0 == t219) || (!(a0_1 == t220) || (!(a0_2 == t221) || (!(a0_3 == t222))))) = true := c6
 clear c6
 replace H := Option.bind_eq_some_iff.mp H
 obtain ⟨⟨t223, t224⟩, A70, H⟩ := H
 try dsimp only at H
 have A7 := Aside0.mk A70
 clear A70
 replace H := Option.bind_eq_some_iff.mp H
 obtain ⟨t225, A80, H⟩ := H
 try dsimp only at H
 have A8 := Aside0.mk A80
 clear A80
 rcases sqI (t225 = true) with c9 | c9
 ·replace c9 := Bool.eq_false_iff.mpr c9
  subst c9
  have H1 : (some false) = some r := by rw [if_neg (show ¬ (false = true) by decide)] at H; exact H
  clear H
  have H := H1
  clear H1
  obtain rfl := Option.some.inj H
  go_enter Try.func22, Try.ntmps22
  try go_wp2_with (first | ((with_reducible refine gate_dst (N := 2) rfl ?_); refine sqx 2 #[.int .i64 a0_0, .int .i64 a0_1, .int .i64 a0_2, .int .i64 a0_3] 60 ?_; intro gb217 hg w20 hbox hb; have BK217 := Aside0.mk hbox; have GW217 := sqg HB hg; have GE217 := sqg HB hg; replace HB := sqs HB hb; clear hb hbox hg))
  replace BK217 := Aside0.mk (blk_drew BK217.out)
  replace HB := Aside0.mk (below_drew1 HB.out)
  refine start_ (n := 20) (S := fun w' => w'.cell? ⟨gb217, 0, none⟩ = some (.int .i64 a0_0) ∧ w'.cell? ⟨gb217, 1, none⟩ = some (.int .i64 a0_1) ∧ w'.cell? ⟨gb217, 2, none⟩ = some (.int .i64 a0_2) ∧ w'.cell? ⟨gb217, 3, none⟩ = some (.int .i64 a0_3)) (ds := []) #[false, false, false, false, false, false, false, false, false, false, false, false, false, false, false, false, false, false, false, false] (by kernel_rfl) rfl rfl sqz (fun hHeld => ?_); refine with_tabW spec_ValHas.tab1 spec_ValHas.bits1 (fun HT_ HW_ => ?_)
  generalize w20.drew = w21 at BK217 HB hHeld ⊢
  refine sqw HT_ HW_ 0 5 hHeld ?_
  refine sqo HT_ 1 6 (fun K hK => ?_)
  refine sqG Try.func44 #[.agg #[.int .i64 a0_0, .int .i64 a0_1, .int .i64 a0_2, .int .i64 a0_3]] ?_
  with_reducible refine (spec_ValOk.calls k a0_0 a0_1 a0_2 a0_3 true _ A3.out).mono ?_
  rintro e w22 ⟨rfl, hb⟩
  refine ⟨_, rfl, ?_⟩
  replace BK217 := sqb BK217 hb
  replace HB := sqs HB hb
  (try clear hb)
  refine hK.out _ _ sqz (fun hHeld => ?_)
  clear hK K
  refine sqnm ?_
  refine sqp HT_ 2 7 ?_
  refine sqw HT_ HW_ 3 8 hHeld ?_
  refine sqo HT_ 4 9 (fun K hK => ?_)
  refine sqG Try.func45 #[] ?_
  with_reducible refine (spec_l10None.calls  t219 t220 t221 t222 _ A5.out).mono ?_
  rintro e w23 ⟨rfl, hb⟩
  refine ⟨_, rfl, ?_⟩
  replace BK217 := sqb BK217 hb
  replace HB := sqs HB hb
  (try clear hb)
  refine hK.out _ _ sqz (fun hHeld => ?_)
  clear hK K
  refine sqnm ?_
  refine sqp HT_ 5 10 ?_
  refine sqp HT_ 6 11 ?_
  refine sqp HT_ 7 12 ?_
  refine sqp HT_ 10 15 ?_
  refine sqw HT_ HW_ 8 13 hHeld ?_
  refine sqo HT_ 9 14 (fun K hK => ?_)
  refine sqG Try.func47 #[.agg #[.int .i64 a0_0, .int .i64 a0_1, .int .i64 a0_2, .int .i64 a0_3]] ?_
  with_reducible refine (spec_l10Range.calls a0_0 a0_1 a0_2 a0_3 t223 t224 _ A7.out).mono ?_
  rintro e w24 ⟨rfl, hb⟩
  refine ⟨_, rfl, ?_⟩
  replace BK217 := sqb BK217 hb
  replace HB := sqs HB hb
  (try clear hb)
  refine hK.out _ _ sqz (fun hHeld => ?_)
  clear hK K
  refine sqnm ?_
  refine sqo HT_ 11 16 (fun K hK => ?_)
  refine sqG Try.func46 #[.agg #[.int .i64 t223, .int .i64 t224], .int .i64 a1] ?_
  with_reducible refine (spec_RangeHas.calls t223 t224 a1 false _ A8.out).mono ?_
  rintro e w25 ⟨rfl, hb⟩
  refine ⟨_, rfl, ?_⟩
  replace BK217 := sqb BK217 hb
  replace HB := sqs HB hb
  (try clear hb)
  refine hK.out _ _ sqz (fun hHeld => ?_)
  clear hK K
  refine sqnm ?_
  refine sqp HT_ 12 17 ?_
  refine sqp HT_ 13 18 ?_
  refine sqpu HT_ 14 19 ?_
  refine sqpu HT_ 15 20 ?_
  refine sqpu HT_ 16 21 ?_
  refine sqpu HT_ 17 22 ?_
  refine sqp HT_ 18 23 ?_
  refine sqp HT_ 19 4 ?_
  refine done_ (done_of HT_.out (by kernel_rfl)) ?_
  try go_wp2
  go_ret
  exact sqe HB
 subst c9
 have H1 : ((spec_l10Rest.f a0_0 a0_1 a0_2 a0_3).bind fun bt226 => ((spec_RestHas.f k bt226.1 bt226.2 a1).bind fun t228 => (some t228))) = some r := by rw [if_pos rfl] at H; exact H
 clear H
 have H := H1
 clear H1
 replace H := Option.bind_eq_some_iff.mp H
 obtain ⟨⟨t226, t227⟩, A100, H⟩ := H
 try dsimp only at H
 have A10 := Aside0.mk A100
 clear A100
 replace H := Option.bind_eq_some_iff.mp H
 obtain ⟨t228, A110, H⟩ := H
 try dsimp only at H
 have A11 := Aside0.mk A110
 clear A110
 obtain rfl := Option.some.inj H
 go_enter Try.func22, Try.ntmps22
 try go_wp2_with (first | ((with_reducible refine gate_dst (N := 2) rfl ?_); refine sqx 2 #[.int .i64 a0_0, .int .i64 a0_1, .int .i64 a0_2, .int .i64 a0_3] 60 ?_; intro gb217 hg w12 hbox hb; have BK217 := Aside0.mk hbox; have GW217 := sqg HB hg; have GE217 := sqg HB hg; replace HB := sqs HB hb; clear hb hbox hg))
 replace BK217 := Aside0.mk (blk_drew BK217.out)
 replace HB := Aside0.mk (below_drew1 HB.out)
 refine start_ (n := 20) (S := fun w' => w'.cell? ⟨gb217, 0, none⟩ = some (.int .i64 a0_0) ∧ w'.cell? ⟨gb217, 1, none⟩ = some (.int .i64 a0_1) ∧ w'.cell? ⟨gb217, 2, none⟩ = some (.int .i64 a0_2) ∧ w'.cell? ⟨gb217, 3, none⟩ = some (.int .i64 a0_3)) (ds := []) #[false, false, false, false, false, false, false, false, false, false, false, false, false, false, false, false, false, false, false, false] (by kernel_rfl) rfl rfl sqz (fun hHeld => ?_); refine with_tabW spec_ValHas.tab1 spec_ValHas.bits1 (fun HT_ HW_ => ?_)
 generalize w12.drew = w13 at BK217 HB hHeld ⊢
 refine sqw HT_ HW_ 0 5 hHeld ?_
 refine sqo HT_ 1 6 (fun K hK => ?_)
 refine sqG Try.func44 #[.agg #[.int .i64 a0_0, .int .i64 a0_1, .int .i64 a0_2, .int .i64 a0_3]] ?_
 with_reducible refine (spec_ValOk.calls k a0_0 a0_1 a0_2 a0_3 true _ A3.out).mono ?_
 rintro e w14 ⟨rfl, hb⟩
 refine ⟨_, rfl, ?_⟩
 replace BK217 := sqb BK217 hb
 replace HB := sqs HB hb
 (try clear hb)
 refine hK.out _ _ sqz (fun hHeld => ?_)
 clear hK K
 refine sqnm ?_
 refine sqp HT_ 2 7 ?_
 refine sqw HT_ HW_ 3 8 hHeld ?_
 refine sqo HT_ 4 9 (fun K hK => ?_)
 refine sqG Try.func45 #[] ?_
 with_reducible refine (spec_l10None.calls  t219 t220 t221 t222 _ A5.out).mono ?_
 rintro e w15 ⟨rfl, hb⟩
 refine ⟨_, rfl, ?_⟩
 replace BK217 := sqb BK217 hb
 replace HB := sqs HB hb
 (try clear hb)
 refine hK.out _ _ sqz (fun hHeld => ?_)
 clear hK K
 refine sqnm ?_
 refine sqp HT_ 5 10 ?_
 refine sqp HT_ 6 11 ?_
 refine sqp HT_ 7 12 ?_
 refine sqp HT_ 10 15 ?_
 refine sqw HT_ HW_ 8 13 hHeld ?_
 refine sqo HT_ 9 14 (fun K hK => ?_)
 refine sqG Try.func47 #[.agg #[.int .i64 a0_0, .int .i64 a0_1, .int .i64 a0_2, .int .i64 a0_3]] ?_
 with_reducible refine (spec_l10Range.calls a0_0 a0_1 a0_2 a0_3 t223 t224 _ A7.out).mono ?_
 rintro e w16 ⟨rfl, hb⟩
 refine ⟨_, rfl, ?_⟩
 replace BK217 := sqb BK217 hb
 replace HB := sqs HB hb
 (try clear hb)
 refine hK.out _ _ sqz (fun hHeld => ?_)
 clear hK K
 refine sqnm ?_
 refine sqo HT_ 11 16 (fun K hK => ?_)
 refine sqG Try.func46 #[.agg #[.int .i64 t223, .int .i64 t224], .int .i64 a1] ?_
 with_reducible refine (spec_RangeHas.calls t223 t224 a1 true _ A8.out).mono ?_
 rintro e w17 ⟨rfl, hb⟩
 refine ⟨_, rfl, ?_⟩
 replace BK217 := sqb BK217 hb
 replace HB := sqs HB hb
 (try clear hb)
 refine hK.out _ _ sqz (fun hHeld => ?_)
 clear hK K
 refine sqnm ?_
 refine sqp HT_ 12 17 ?_
 refine sqp HT_ 13 18 ?_
 refine sqp HT_ 16 21 ?_
 refine sqw HT_ HW_ 14 19 hHeld ?_
 refine sqo HT_ 15 20 (fun K hK => ?_)
 refine sqG Try.func49 #[.agg #[.int .i64 a0_0, .int .i64 a0_1, .int .i64 a0_2, .int .i64 a0_3]] ?_
 with_reducible refine (spec_l10Rest.calls a0_0 a0_1 a0_2 a0_3 t226 t227 _ A10.out).mono ?_
 rintro e w18 ⟨rfl, hb⟩
 refine ⟨_, rfl, ?_⟩
 replace BK217 := sqb BK217 hb
 replace HB := sqs HB hb
 (try clear hb)
 refine hK.out _ _ sqz (fun hHeld => ?_)
 clear hK K
 refine sqnm ?_
 refine sqo HT_ 17 22 (fun K hK => ?_)
 refine sqG Try.func48 #[.agg #[.int .i64 t226, .int .i64 t227], .int .i64 a1] ?_
 with_reducible refine (spec_RestHas.calls k t226 t227 a1 t228 _ A11.out).mono ?_
 rintro e w19 ⟨rfl, hb⟩
 refine ⟨_, rfl, ?_⟩
 replace BK217 := sqb BK217 hb
 replace HB := sqs HB hb
 (try clear hb)
 refine hK.out _ _ sqz (fun hHeld => ?_)
 clear hK K
 refine sqnm ?_
 refine sqp HT_ 18 23 ?_
 refine sqp HT_ 19 4 ?_
 refine done_ (done_of HT_.out (by kernel_rfl)) ?_
 try go_wp2
 go_ret
 exact sqe HB

end Go.Proofs.Ytnmgckdgmplddaa.PFnExactAbsHas
