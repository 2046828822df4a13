/- Functions of the program as plain Lean functions, and that calls of them come to what these tell. Conditions: those in each law. -/
import Derived.Test.YtkekcenlleebeaaSq
import Derived.Test.YtkekcenlleebeaaDFnExactAbsIn
import Derived.Test.YtkekcenlleebeaaQFnExactAbsInx0
import Derived.Test.YtkekcenlleebeaaQFnExactAbsInx3
import Derived.Test.YtkekcenlleebeaaQFnExactAbsInx8
import Derived.Test.YtkekcenlleebeaaQFnExactAbsInx10
import Derived.Test.YtkekcenlleebeaaQFnExactAbsInx11
namespace Go.Proofs.Ytkekcenlleebeaa.PFnExactAbsIn
open Go.RowKit Go.Proofs.Ytkekcenlleebeaa.Sq Go.Proofs.YtkekcenlleebeaaW.PrintWords Go.Proofs.YtkekcenlleebeaaW.PrintLast Go.Proofs.YtkekcenlleebeaaW.PrintMore
attribute [local go_sem] max2_int min2_int max_two min_two max_three min_three max_four min_four   -- for this text's walks alone
set_option linter.unusedVariables false
set_option linter.unusedSimpArgs false

attribute [local go_sem high] eqA30
/-! ### spec_ValOk: function 80 -/
def spec_ValOk.T1 : Bool × List (List Nat × List Nat) := (true, [([], []), ([], []), ([0, 1], [0, 1]), ([2, 1], [2]), ([3], [3]), ([4, 3, 3], [3, 4]), ([5, 5, 3], [3, 5]), ([6, 6, 3], [3, 6]), ([7], [7]), ([8, 7, 7], [7, 8]), ([9, 9, 7], [7, 9]), ([7, 10, 3], [3, 7, 10]), ([11, 10, 3], [3, 11]), ([12], [12]), ([12], [12]), ([14, 12, 12], [12, 14]), ([12], [12]), ([16, 15, 12], [12, 16]), ([15, 17, 17, 12], [12, 15, 17]), ([13, 18, 12], [12, 13, 18]), ([12, 19, 3], [3, 12, 19]), ([3, 20], [3, 20]), ([21, 18, 0, 1, 2, 3, 4, 5, 6, 7, 8, 9, 10, 11, 12, 13, 14, 15, 16, 17, 18, 19, 20, 21], [21])])
def spec_ValOk.B1 : List Nat := [0, 0, 3, 7, 15, 31, 63, 127, 255, 511, 1023, 2047, 4095, 8191, 8191, 24575, 8191, 122879, 253951, 524287, 1048575, 2097151, 4194303]
theorem spec_ValOk.tab1 : rtab .any (opsOf Try.f80 1) = spec_ValOk.T1 := by kernel_rfl
theorem spec_ValOk.bits1 : waitsOk spec_ValOk.T1.2 spec_ValOk.B1 = true := by kernel_rfl
set_option maxHeartbeats 8000000 in
set_option maxRecDepth 100000 in
theorem spec_ValOk.calls (k : Nat) (a0_0 : Int) (a0_1 : Int) (a0_2 : Int) (a0_3 : Int) (r : Bool) (w : World) (h : spec_ValOk.f k a0_0 a0_1 a0_2 a0_3 = some r) :
  Calls Try.prog 80 #[.agg #[.int .i64 a0_0, .int .i64 a0_1, .int .i64 a0_2, .int .i64 a0_3]] w fun e w' => e = .returned (.bool r) ∧ Below w.heap.size w w' := by
 have hu30 := Try.underlying30
 have HB := Aside0.mk (Below.refl w.heap.size w)
 have H : ((spec_l10None.f).bind fun bt254 => (if (a0_0 == bt254.1 && (a0_1 == bt254.2.1 && (a0_2 == bt254.2.2.1 && (a0_3 == bt254.2.2.2)))) = true then (some true) else ((spec_l10Range.f a0_0 a0_1 a0_2 a0_3).bind fun bt258 => ((spec_RangeOk.f bt258.1 bt258.2).bind fun t260 => (if t260 = true then ((spec_l10Rest.f a0_0 a0_1 a0_2 a0_3).bind fun bt261 => ((spec_RestOk.f bt261.1 bt261.2).bind fun t263 => (if t263 = true then ((spec_l10Range.f a0_0 a0_1 a0_2 a0_3).bind fun bt264 => ((spec_l10Rest.f a0_0 a0_1 a0_2 a0_3).bind fun bt266 => ((spec_ValMake.f k bt264.1 bt264.2 bt266.1 bt266.2).bind fun bt268 => (some (a0_0 == bt268.1 && (a0_1 == bt268.2.1 && (a0_2 == bt268.2.2.1 && (a0_3 == bt268.2.2.2)))))))) else (some false)))) else (some false)))))) = some r := h
 clear h
 replace H := sqbi H
 obtain ⟨⟨t254, t255, t256, t257⟩, A2, H⟩ := H
 replace H : (if (a0_0 == t254 && (a0_1 == t255 && (a0_2 == t256 && (a0_3 == t257)))) = true then (some true) else ((spec_l10Range.f a0_0 a0_1 a0_2 a0_3).bind fun bt258 => ((spec_RangeOk.f bt258.1 bt258.2).bind fun t260 => (if t260 = true then ((spec_l10Rest.f a0_0 a0_1 a0_2 a0_3).bind fun bt261 => ((spec_RestOk.f bt261.1 bt261.2).bind fun t263 => (if t263 = true then ((spec_l10Range.f a0_0 a0_1 a0_2 a0_3).bind fun bt264 => ((spec_l10Rest.f a0_0 a0_1 a0_2 a0_3).bind fun bt266 => ((spec_ValMake.f k bt264.1 bt264.2 bt266.1 bt266.2).bind fun bt268 => (some (a0_0 == bt268.1 && (a0_1 == bt268.2.1 && (a0_2 == bt268.2.2.1 && (a0_3 == bt268.2.2.2)))))))) else (some false)))) else (some false))))) = some r := H
 replace H := sqj H
 rcases H with ⟨c3, H⟩ | ⟨c3, H⟩
 ·have c3b0 : (a0_0 == t254 && (a0_1 == t255 && (a0_2 == t256 && (a0_3 == t257)))) = true := c3
  (try (have c3b1 : decide (a0_0 = t254 && (a0_1 == t255 && (a0_2 == t256 && (a0_3 == t257)))) = true := by simpa using c3))
  (try (have c3b2 : (a0_0 == t254 && (a0_1 == t255 && (a0_2 == t256 && (a0_3 == t257)))) = true := by simpa using c3))
  clear c3
  obtain rfl := Option.some.inj H
  go_enter Try.func80, Try.ntmps80
  try go_wp2_with (first | ((with_reducible refine gate_dst (N := 1) rfl ?_); refine sqx 1 #[.int .i64 a0_0, .int .i64 a0_1, .int .i64 a0_2, .int .i64 a0_3] 30 ?_; intro gb253 hg w4 hbox hb; have BK253 := Aside0.mk hbox; have GW253 := sqg HB hg; have GE253 := sqg HB hg; replace HB := sqs HB hb; clear hb hbox hg))
  replace BK253 := Aside0.mk (blk_drew BK253.out)
  replace HB := Aside0.mk (below_drew1 HB.out)
  refine start_ (n := 23) (S := fun w' => w'.cell? ⟨gb253, 0, none⟩ = some (.int .i64 a0_0) ∧ w'.cell? ⟨gb253, 1, none⟩ = some (.int .i64 a0_1) ∧ w'.cell? ⟨gb253, 2, none⟩ = some (.int .i64 a0_2) ∧ w'.cell? ⟨gb253, 3, none⟩ = some (.int .i64 a0_3)) (ds := []) #[false, false, false, false, false, false, false, false, false, false, false, false, false, false, false, false, false, false, false, false, false, false, false] (by kernel_rfl) rfl rfl sqz (fun hHeld => ?_); refine with_tabW spec_ValOk.tab1 spec_ValOk.bits1 (fun HT_ HW_ => ?_)
  generalize w4.drew = w5 at BK253 HB hHeld ⊢
  refine sqw HT_ HW_ 0 3 hHeld ?_
  refine sqo HT_ 1 4 (fun K hK => ?_)
  refine sqG Try.func100 #[] ?_
  with_reducible refine (spec_l10None.calls  t254 t255 t256 t257 _ A2.out).mono ?_
  rintro e w6 ⟨rfl, hb⟩
  refine ⟨_, rfl, ?_⟩
  replace BK253 := sqb BK253 hb
  replace HB := sqs HB hb
  (try clear hb)
  refine hK.out _ _ sqz (fun hHeld => ?_)
  clear hK K
  refine sqnm ?_
  refine sqp HT_ 2 5 ?_
  refine sqp HT_ 3 6 ?_
  refine sqpu HT_ 4 7 ?_
  refine sqpu HT_ 5 8 ?_
  refine sqpu HT_ 6 9 ?_
  refine sqpu HT_ 7 10 ?_
  refine sqpu HT_ 8 11 ?_
  refine sqpu HT_ 9 12 ?_
  refine sqpu HT_ 10 13 ?_
  refine sqpu HT_ 11 14 ?_
  refine sqpu HT_ 12 15 ?_
  refine sqpu HT_ 13 16 ?_
  refine sqpu HT_ 14 17 ?_
  refine sqpu HT_ 15 18 ?_
  refine sqpu HT_ 16 19 ?_
  refine sqpu HT_ 17 20 ?_
  refine sqpu HT_ 18 21 ?_
  refine sqpu HT_ 19 22 ?_
  refine sqpu HT_ 20 23 ?_
  refine sqp HT_ 21 24 ?_
  refine sqp HT_ 22 2 ?_
  refine done_ (done_of HT_.out (by kernel_rfl)) ?_
  try go_wp2
  go_ret
  exact sqe HB
 have c3b0 : (a0_0 == t254 && (a0_1 == t255 && (a0_2 == t256 && (a0_3 == t257)))) = false := by simpa using c3
 (try (have c3b1 : decide (a0_0 = t254 && (a0_1 == t255 && (a0_2 == t256 && (a0_3 == t257)))) = false := by simpa using c3))
 (try (have c3b2 : (a0_0 == t254 && (a0_1 == t255 && (a0_2 == t256 && (a0_3 == t257)))) = false := by simpa using c3))
 (try (have c3b3 : ¬ (a0_0 = t254 && (a0_1 == t255 && (a0_2 == t256 && (a0_3 == t257)))) := by simpa using c3))
 clear c3
 replace H := sqbi H
 obtain ⟨⟨t258, t259⟩, A7, H⟩ := H
 replace H : ((spec_RangeOk.f t258 t259).bind fun t260 => (if t260 = true then ((spec_l10Rest.f a0_0 a0_1 a0_2 a0_3).bind fun bt261 => ((spec_RestOk.f bt261.1 bt261.2).bind fun t263 => (if t263 = true then ((spec_l10Range.f a0_0 a0_1 a0_2 a0_3).bind fun bt264 => ((spec_l10Rest.f a0_0 a0_1 a0_2 a0_3).bind fun bt266 => ((spec_ValMake.f k bt264.1 bt264.2 bt266.1 bt266.2).bind fun bt268 => (some (a0_0 == bt268.1 && (a0_1 == bt268.2.1 && (a0_2 == bt268.2.2.1 && (a0_3 == bt268.2.2.2)))))))) else (some false)))) else (some false))) = some r := H
 replace H := sqbi H
 obtain ⟨t260, A8, H⟩ := H
 replace H : (if t260 = true then ((spec_l10Rest.f a0_0 a0_1 a0_2 a0_3).bind fun bt261 => ((spec_RestOk.f bt261.1 bt261.2).bind fun t263 => (if t263 = true then ((spec_l10Range.f a0_0 a0_1 a0_2 a0_3).bind fun bt264 => ((spec_l10Rest.f a0_0 a0_1 a0_2 a0_3).bind fun bt266 => ((spec_ValMake.f k bt264.1 bt264.2 bt266.1 bt266.2).bind fun bt268 => (some (a0_0 == bt268.1 && (a0_1 == bt268.2.1 && (a0_2 == bt268.2.2.1 && (a0_3 == bt268.2.2.2)))))))) else (some false)))) else (some false)) = some r := H
 rcases sqI (t260 = true) with c9 | c9
 ·replace c9 := Bool.eq_false_iff.mpr c9
  subst c9
  have H1 : (some false) = some r := by rw [if_neg (show ¬ (false = true) by decide)] at H; exact H
  clear H
  have H := H1
  clear H1
  obtain rfl := Option.some.inj H
  go_enter Try.func80, Try.ntmps80
  try go_wp2_with (first | ((with_reducible refine gate_dst (N := 1) rfl ?_); refine sqx 1 #[.int .i64 a0_0, .int .i64 a0_1, .int .i64 a0_2, .int .i64 a0_3] 30 ?_; intro gb253 hg w33 hbox hb; have BK253 := Aside0.mk hbox; have GW253 := sqg HB hg; have GE253 := sqg HB hg; replace HB := sqs HB hb; clear hb hbox hg))
  replace BK253 := Aside0.mk (blk_drew BK253.out)
  replace HB := Aside0.mk (below_drew1 HB.out)
  refine start_ (n := 23) (S := fun w' => w'.cell? ⟨gb253, 0, none⟩ = some (.int .i64 a0_0) ∧ w'.cell? ⟨gb253, 1, none⟩ = some (.int .i64 a0_1) ∧ w'.cell? ⟨gb253, 2, none⟩ = some (.int .i64 a0_2) ∧ w'.cell? ⟨gb253, 3, none⟩ = some (.int .i64 a0_3)) (ds := []) #[false, false, false, false, false, false, false, false, false, false, false, false, false, false, false, false, false, false, false, false, false, false, false] (by kernel_rfl) rfl rfl sqz (fun hHeld => ?_); refine with_tabW spec_ValOk.tab1 spec_ValOk.bits1 (fun HT_ HW_ => ?_)
  generalize w33.drew = w34 at BK253 HB hHeld ⊢
  refine sqw HT_ HW_ 0 3 hHeld ?_
  refine sqo HT_ 1 4 (fun K hK => ?_)
  refine sqG Try.func100 #[] ?_
  with_reducible refine (spec_l10None.calls  t254 t255 t256 t257 _ A2.out).mono ?_
  rintro e w35 ⟨rfl, hb⟩
  refine ⟨_, rfl, ?_⟩
  replace BK253 := sqb BK253 hb
  replace HB := sqs HB hb
  (try clear hb)
  refine hK.out _ _ sqz (fun hHeld => ?_)
  clear hK K
  refine sqnm ?_
  refine sqp HT_ 2 5 ?_
  refine sqp HT_ 3 6 ?_
  refine sqw HT_ HW_ 4 7 hHeld ?_
  refine sqo HT_ 5 8 (fun K hK => ?_)
  refine sqG Try.func180 #[.agg #[.int .i64 a0_0, .int .i64 a0_1, .int .i64 a0_2, .int .i64 a0_3]] ?_
  with_reducible refine (spec_l10Range.calls a0_0 a0_1 a0_2 a0_3 t258 t259 _ A7.out).mono ?_
  rintro e w36 ⟨rfl, hb⟩
  refine ⟨_, rfl, ?_⟩
  replace BK253 := sqb BK253 hb
  replace HB := sqs HB hb
  (try clear hb)
  refine hK.out _ _ sqz (fun hHeld => ?_)
  clear hK K
  refine sqnm ?_
  refine sqo HT_ 6 9 (fun K hK => ?_)
  refine sqG Try.func45 #[.agg #[.int .i64 t258, .int .i64 t259]] ?_
  with_reducible refine (spec_RangeOk.calls t258 t259 false _ A8.out).mono ?_
  rintro e w37 ⟨rfl, hb⟩
  refine ⟨_, rfl, ?_⟩
  replace BK253 := sqb BK253 hb
  replace HB := sqs HB hb
  (try clear hb)
  refine hK.out _ _ sqz (fun hHeld => ?_)
  clear hK K
  refine sqnm ?_
  refine sqp HT_ 7 10 ?_
  refine sqpu HT_ 8 11 ?_
  refine sqpu HT_ 9 12 ?_
  refine sqpu HT_ 10 13 ?_
  refine sqp HT_ 11 14 ?_
  refine sqp HT_ 12 15 ?_
  refine sqpu HT_ 13 16 ?_
  refine sqpu HT_ 14 17 ?_
  refine sqpu HT_ 15 18 ?_
  refine sqpu HT_ 16 19 ?_
  refine sqpu HT_ 17 20 ?_
  refine sqpu HT_ 18 21 ?_
  refine sqpu HT_ 19 22 ?_
  refine sqp HT_ 20 23 ?_
  refine sqp HT_ 21 24 ?_
  refine sqp HT_ 22 2 ?_
  refine done_ (done_of HT_.out (by kernel_rfl)) ?_
  try go_wp2
  go_ret
  exact sqe HB
 subst c9
 have H1 : ((spec_l10Rest.f a0_0 a0_1 a0_2 a0_3).bind fun bt261 => ((spec_RestOk.f bt261.1 bt261.2).bind fun t263 => (if t263 = true then ((spec_l10Range.f a0_0 a0_1 a0_2 a0_3).bind fun bt264 => ((spec_l10Rest.f a0_0 a0_1 a0_2 a0_3).bind fun bt266 => ((spec_ValMake.f k bt264.1 bt264.2 bt266.1 bt266.2).bind fun bt268 => (some (a0_0 == bt268.1 && (a0_1 == bt268.2.1 && (a0_2 == bt268.2.2.1 && (a0_3 == bt268.2.2.2)))))))) else (some false)))) = some r := by rw [if_pos rfl] at H; exact H
 clear H
 have H := H1
 clear H1
 replace H := sqbi H
 obtain ⟨⟨t261, t262⟩, A10, H⟩ := H
 replace H : ((spec_RestOk.f t261 t262).bind fun t263 => (if t263 = true then ((spec_l10Range.f a0_0 a0_1 a0_2 a0_3).bind fun bt264 => ((spec_l10Rest.f a0_0 a0_1 a0_2 a0_3).bind fun bt266 => ((spec_ValMake.f k bt264.1 bt264.2 bt266.1 bt266.2).bind fun bt268 => (some (a0_0 == bt268.1 && (a0_1 == bt268.2.1 && (a0_2 == bt268.2.2.1 && (a0_3 == bt268.2.2.2)))))))) else (some false))) = some r := H
 replace H := sqbi H
 obtain ⟨t263, A11, H⟩ := H
 replace H : (if t263 = true then ((spec_l10Range.f a0_0 a0_1 a0_2 a0_3).bind fun bt264 => ((spec_l10Rest.f a0_0 a0_1 a0_2 a0_3).bind fun bt266 => ((spec_ValMake.f k bt264.1 bt264.2 bt266.1 bt266.2).bind fun bt268 => (some (a0_0 == bt268.1 && (a0_1 == bt268.2.1 && (a0_2 == bt268.2.2.1 && (a0_3 == bt268.2.2.2)))))))) else (some false)) = some r := H
 rcases sqI (t263 = true) with c12 | c12
 ·replace c12 := Bool.eq_false_iff.mpr c12
  subst c12
  have H1 : (some false) = some r := by rw [if_neg (show ¬ (false = true) by decide)] at H; exact H
  clear H
  have H := H1
  clear H1
  obtain rfl := Option.some.inj H
  go_enter Try.func80, Try.ntmps80
  try go_wp2_with (first | ((with_reducible refine gate_dst (N := 1) rfl ?_); refine sqx 1 #[.int .i64 a0_0, .int .i64 a0_1, .int .i64 a0_2, .int .i64 a0_3] 30 ?_; intro gb253 hg w26 hbox hb; have BK253 := Aside0.mk hbox; have GW253 := sqg HB hg; have GE253 := sqg HB hg; replace HB := sqs HB hb; clear hb hbox hg))
  replace BK253 := Aside0.mk (blk_drew BK253.out)
  replace HB := Aside0.mk (below_drew1 HB.out)
  refine start_ (n := 23) (S := fun w' => w'.cell? ⟨gb253, 0, none⟩ = some (.int .i64 a0_0) ∧ w'.cell? ⟨gb253, 1, none⟩ = some (.int .i64 a0_1) ∧ w'.cell? ⟨gb253, 2, none⟩ = some (.int .i64 a0_2) ∧ w'.cell? ⟨gb253, 3, none⟩ = some (.int .i64 a0_3)) (ds := []) #[false, false, false, false, false, false, false, false, false, false, false, false, false, false, false, false, false, false, false, false, false, false, false] (by kernel_rfl) rfl rfl sqz (fun hHeld => ?_); refine with_tabW spec_ValOk.tab1 spec_ValOk.bits1 (fun HT_ HW_ => ?_)
  generalize w26.drew = w27 at BK253 HB hHeld ⊢
  refine sqw HT_ HW_ 0 3 hHeld ?_
  refine sqo HT_ 1 4 (fun K hK => ?_)
  refine sqG Try.func100 #[] ?_
  with_reducible refine (spec_l10None.calls  t254 t255 t256 t257 _ A2.out).mono ?_
  rintro e w28 ⟨rfl, hb⟩
  refine ⟨_, rfl, ?_⟩
  replace BK253 := sqb BK253 hb
  replace HB := sqs HB hb
  (try clear hb)
  refine hK.out _ _ sqz (fun hHeld => ?_)
  clear hK K
  refine sqnm ?_
  refine sqp HT_ 2 5 ?_
  refine sqp HT_ 3 6 ?_
  refine sqw HT_ HW_ 4 7 hHeld ?_
  refine sqo HT_ 5 8 (fun K hK => ?_)
  refine sqG Try.func180 #[.agg #[.int .i64 a0_0, .int .i64 a0_1, .int .i64 a0_2, .int .i64 a0_3]] ?_
  with_reducible refine (spec_l10Range.calls a0_0 a0_1 a0_2 a0_3 t258 t259 _ A7.out).mono ?_
  rintro e w29 ⟨rfl, hb⟩
  refine ⟨_, rfl, ?_⟩
  replace BK253 := sqb BK253 hb
  replace HB := sqs HB hb
  (try clear hb)
  refine hK.out _ _ sqz (fun hHeld => ?_)
  clear hK K
  refine sqnm ?_
  refine sqo HT_ 6 9 (fun K hK => ?_)
  refine sqG Try.func45 #[.agg #[.int .i64 t258, .int .i64 t259]] ?_
  with_reducible refine (spec_RangeOk.calls t258 t259 true _ A8.out).mono ?_
  rintro e w30 ⟨rfl, hb⟩
  refine ⟨_, rfl, ?_⟩
  replace BK253 := sqb BK253 hb
  replace HB := sqs HB hb
  (try clear hb)
  refine hK.out _ _ sqz (fun hHeld => ?_)
  clear hK K
  refine sqnm ?_
  refine sqp HT_ 7 10 ?_
  refine sqw HT_ HW_ 8 11 hHeld ?_
  refine sqo HT_ 9 12 (fun K hK => ?_)
  refine sqG Try.func181 #[.agg #[.int .i64 a0_0, .int .i64 a0_1, .int .i64 a0_2, .int .i64 a0_3]] ?_
  with_reducible refine (spec_l10Rest.calls a0_0 a0_1 a0_2 a0_3 t261 t262 _ A10.out).mono ?_
  rintro e w31 ⟨rfl, hb⟩
  refine ⟨_, rfl, ?_⟩
  replace BK253 := sqb BK253 hb
  replace HB := sqs HB hb
  (try clear hb)
  refine hK.out _ _ sqz (fun hHeld => ?_)
  clear hK K
  refine sqnm ?_
  refine sqo HT_ 10 13 (fun K hK => ?_)
  refine sqG Try.func66 #[.agg #[.int .i64 t261, .int .i64 t262]] ?_
  with_reducible refine (spec_RestOk.calls t261 t262 false _ A11.out).mono ?_
  rintro e w32 ⟨rfl, hb⟩
  refine ⟨_, rfl, ?_⟩
  replace BK253 := sqb BK253 hb
  replace HB := sqs HB hb
  (try clear hb)
  refine hK.out _ _ sqz (fun hHeld => ?_)
  clear hK K
  refine sqnm ?_
  refine sqp HT_ 11 14 ?_
  refine sqp HT_ 12 15 ?_
  refine sqpu HT_ 13 16 ?_
  refine sqpu HT_ 14 17 ?_
  refine sqpu HT_ 15 18 ?_
  refine sqpu HT_ 16 19 ?_
  refine sqpu HT_ 17 20 ?_
  refine sqpu HT_ 18 21 ?_
  refine sqpu HT_ 19 22 ?_
  refine sqp HT_ 20 23 ?_
  refine sqp HT_ 21 24 ?_
  refine sqp HT_ 22 2 ?_
  refine done_ (done_of HT_.out (by kernel_rfl)) ?_
  try go_wp2
  go_ret
  exact sqe HB
 subst c12
 have H1 : ((spec_l10Range.f a0_0 a0_1 a0_2 a0_3).bind fun bt264 => ((spec_l10Rest.f a0_0 a0_1 a0_2 a0_3).bind fun bt266 => ((spec_ValMake.f k bt264.1 bt264.2 bt266.1 bt266.2).bind fun bt268 => (some (a0_0 == bt268.1 && (a0_1 == bt268.2.1 && (a0_2 == bt268.2.2.1 && (a0_3 == bt268.2.2.2)))))))) = some r := by rw [if_pos rfl] at H; exact H
 clear H
 have H := H1
 clear H1
 replace H := sqbi H
 obtain ⟨⟨t264, t265⟩, A13, H⟩ := H
 replace H : ((spec_l10Rest.f a0_0 a0_1 a0_2 a0_3).bind fun bt266 => ((spec_ValMake.f k t264 t265 bt266.1 bt266.2).bind fun bt268 => (some (a0_0 == bt268.1 && (a0_1 == bt268.2.1 && (a0_2 == bt268.2.2.1 && (a0_3 == bt268.2.2.2))))))) = some r := H
 replace H := sqbi H
 obtain ⟨⟨t266, t267⟩, A14, H⟩ := H
 replace H : ((spec_ValMake.f k t264 t265 t266 t267).bind fun bt268 => (some (a0_0 == bt268.1 && (a0_1 == bt268.2.1 && (a0_2 == bt268.2.2.1 && (a0_3 == bt268.2.2.2)))))) = some r := H
 replace H := sqbi H
 obtain ⟨⟨t268, t269, t270, t271⟩, A15, H⟩ := H
 replace H : (some (a0_0 == t268 && (a0_1 == t269 && (a0_2 == t270 && (a0_3 == t271))))) = some r := H
 obtain rfl := Option.some.inj H
 go_enter Try.func80, Try.ntmps80
 try go_wp2_with (first | ((with_reducible refine gate_dst (N := 1) rfl ?_); refine sqx 1 #[.int .i64 a0_0, .int .i64 a0_1, .int .i64 a0_2, .int .i64 a0_3] 30 ?_; intro gb253 hg w16 hbox hb; have BK253 := Aside0.mk hbox; have GW253 := sqg HB hg; have GE253 := sqg HB hg; replace HB := sqs HB hb; clear hb hbox hg))
 replace BK253 := Aside0.mk (blk_drew BK253.out)
 replace HB := Aside0.mk (below_drew1 HB.out)
 refine start_ (n := 23) (S := fun w' => w'.cell? ⟨gb253, 0, none⟩ = some (.int .i64 a0_0) ∧ w'.cell? ⟨gb253, 1, none⟩ = some (.int .i64 a0_1) ∧ w'.cell? ⟨gb253, 2, none⟩ = some (.int .i64 a0_2) ∧ w'.cell? ⟨gb253, 3, none⟩ = some (.int .i64 a0_3)) (ds := []) #[false, false, false, false, false, false, false, false, false, false, false, false, false, false, false, false, false, false, false, false, false, false, false] (by kernel_rfl) rfl rfl sqz (fun hHeld => ?_); refine with_tabW spec_ValOk.tab1 spec_ValOk.bits1 (fun HT_ HW_ => ?_)
 generalize w16.drew = w17 at BK253 HB hHeld ⊢
 refine sqw HT_ HW_ 0 3 hHeld ?_
 refine sqo HT_ 1 4 (fun K hK => ?_)
 refine sqG Try.func100 #[] ?_
 with_reducible refine (spec_l10None.calls  t254 t255 t256 t257 _ A2.out).mono ?_
 rintro e w18 ⟨rfl, hb⟩
 refine ⟨_, rfl, ?_⟩
 replace BK253 := sqb BK253 hb
 replace HB := sqs HB hb
 (try clear hb)
 refine hK.out _ _ sqz (fun hHeld => ?_)
 clear hK K
 refine sqnm ?_
 refine sqp HT_ 2 5 ?_
 refine sqp HT_ 3 6 ?_
 refine sqw HT_ HW_ 4 7 hHeld ?_
 refine sqo HT_ 5 8 (fun K hK => ?_)
 refine sqG Try.func180 #[.agg #[.int .i64 a0_0, .int .i64 a0_1, .int .i64 a0_2, .int .i64 a0_3]] ?_
 with_reducible refine (spec_l10Range.calls a0_0 a0_1 a0_2 a0_3 t258 t259 _ A7.out).mono ?_
 rintro e w19 ⟨rfl, hb⟩
 refine ⟨_, rfl, ?_⟩
 replace BK253 := sqb BK253 hb
 replace HB := sqs HB hb
 (try clear hb)
 refine hK.out _ _ sqz (fun hHeld => ?_)
 clear hK K
 refine sqnm ?_
 refine sqo HT_ 6 9 (fun K hK => ?_)
 refine sqG Try.func45 #[.agg #[.int .i64 t258, .int .i64 t259]] ?_
 with_reducible refine (spec_RangeOk.calls t258 t259 true _ A8.out).mono ?_
 rintro e w20 ⟨rfl, hb⟩
 refine ⟨_, rfl, ?_⟩
 replace BK253 := sqb BK253 hb
 replace HB := sqs HB hb
 (try clear hb)
 refine hK.out _ _ sqz (fun hHeld => ?_)
 clear hK K
 refine sqnm ?_
 refine sqp HT_ 7 10 ?_
 refine sqw HT_ HW_ 8 11 hHeld ?_
 refine sqo HT_ 9 12 (fun K hK => ?_)
 refine sqG Try.func181 #[.agg #[.int .i64 a0_0, .int .i64 a0_1, .int .i64 a0_2, .int .i64 a0_3]] ?_
 with_reducible refine (spec_l10Rest.calls a0_0 a0_1 a0_2 a0_3 t261 t262 _ A10.out).mono ?_
 rintro e w21 ⟨rfl, hb⟩
 refine ⟨_, rfl, ?_⟩
 replace BK253 := sqb BK253 hb
 replace HB := sqs HB hb
 (try clear hb)
 refine hK.out _ _ sqz (fun hHeld => ?_)
 clear hK K
 refine sqnm ?_
 refine sqo HT_ 10 13 (fun K hK => ?_)
 refine sqG Try.func66 #[.agg #[.int .i64 t261, .int .i64 t262]] ?_
 with_reducible refine (spec_RestOk.calls t261 t262 true _ A11.out).mono ?_
 rintro e w22 ⟨rfl, hb⟩
 refine ⟨_, rfl, ?_⟩
 replace BK253 := sqb BK253 hb
 replace HB := sqs HB hb
 (try clear hb)
 refine hK.out _ _ sqz (fun hHeld => ?_)
 clear hK K
 refine sqnm ?_
 refine sqp HT_ 11 14 ?_
 refine sqp HT_ 12 15 ?_
 refine sqw HT_ HW_ 13 16 hHeld ?_
 refine sqw HT_ HW_ 14 17 hHeld ?_
 refine sqw HT_ HW_ 16 19 hHeld ?_
 refine sqo HT_ 15 18 (fun K hK => ?_)
 refine sqG Try.func180 #[.agg #[.int .i64 a0_0, .int .i64 a0_1, .int .i64 a0_2, .int .i64 a0_3]] ?_
 with_reducible refine (spec_l10Range.calls a0_0 a0_1 a0_2 a0_3 t264 t265 _ A13.out).mono ?_
 rintro e w23 ⟨rfl, hb⟩
 refine ⟨_, rfl, ?_⟩
 replace BK253 := sqb BK253 hb
 replace HB := sqs HB hb
 (try clear hb)
 refine hK.out _ _ sqz (fun hHeld => ?_)
 clear hK K
 refine sqnm ?_
 refine sqo HT_ 17 20 (fun K hK => ?_)
 refine sqG Try.func181 #[.agg #[.int .i64 a0_0, .int .i64 a0_1, .int .i64 a0_2, .int .i64 a0_3]] ?_
 with_reducible refine (spec_l10Rest.calls a0_0 a0_1 a0_2 a0_3 t266 t267 _ A14.out).mono ?_
 rintro e w24 ⟨rfl, hb⟩
 refine ⟨_, rfl, ?_⟩
 replace BK253 := sqb BK253 hb
 replace HB := sqs HB hb
 (try clear hb)
 refine hK.out _ _ sqz (fun hHeld => ?_)
 clear hK K
 refine sqnm ?_
 refine sqo HT_ 18 21 (fun K hK => ?_)
 refine sqG Try.func17 #[.agg #[.int .i64 t264, .int .i64 t265], .agg #[.int .i64 t266, .int .i64 t267]] ?_
 with_reducible refine (spec_ValMake.calls k t264 t265 t266 t267 t268 t269 t270 t271 _ A15.out).mono ?_
 rintro e w25 ⟨rfl, hb⟩
 refine ⟨_, rfl, ?_⟩
 replace BK253 := sqb BK253 hb
 replace HB := sqs HB hb
 (try clear hb)
 refine hK.out _ _ sqz (fun hHeld => ?_)
 clear hK K
 refine sqnm ?_
 refine sqp HT_ 19 22 ?_
 refine sqp HT_ 20 23 ?_
 refine sqp HT_ 21 24 ?_
 refine sqp HT_ 22 2 ?_
 refine done_ (done_of HT_.out (by kernel_rfl)) ?_
 try go_wp2
 go_ret
 exact sqe HB

end Go.Proofs.Ytkekcenlleebeaa.PFnExactAbsIn
