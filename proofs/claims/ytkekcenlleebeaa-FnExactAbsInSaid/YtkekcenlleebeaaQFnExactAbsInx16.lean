/- Functions of the program as plain Lean functions, and that calls of them come to what these tell. Conditions: those in each law. -/
import Derived.Test.YtkekcenlleebeaaSq
import Derived.Test.YtkekcenlleebeaaDFnExactAbsIn
import Derived.Test.YtkekcenlleebeaaQFnExactAbsInx0
import Derived.Test.YtkekcenlleebeaaQFnExactAbsInx1
import Derived.Test.YtkekcenlleebeaaQFnExactAbsInx2
import Derived.Test.YtkekcenlleebeaaQFnExactAbsInx7
import Derived.Test.YtkekcenlleebeaaQFnExactAbsInx8
import Derived.Test.YtkekcenlleebeaaQFnExactAbsInx9
namespace Go.Proofs.Ytkekcenlleebeaa.PFnExactAbsIn
open Go.RowKit Go.Proofs.Ytkekcenlleebeaa.Sq Go.Proofs.YtkekcenlleebeaaW.PrintWords Go.Proofs.YtkekcenlleebeaaW.PrintLast Go.Proofs.YtkekcenlleebeaaW.PrintMore
attribute [local go_sem] max2_int min2_int max_two min_two max_three min_three max_four min_four   -- for this text's walks alone
set_option linter.unusedVariables false
set_option linter.unusedSimpArgs false

attribute [local go_sem high] eqA24 eqA26
/-! ### spec_RangeIn: function 219 -/
def spec_RangeIn.T3 : Bool × List (List Nat × List Nat) := (true, [([], []), ([], []), ([0, 1], [0, 1]), ([2, 1], [2]), ([3], [3]), ([4, 3], [3, 4]), ([3], [3]), ([6, 3], [3, 6]), ([5, 7, 3], [3, 5, 7]), ([8, 3, 3], [3, 8]), ([9], [9]), ([10, 9], [9, 10]), ([9], [9]), ([12, 9], [9, 12]), ([11, 13, 9], [9, 11, 13]), ([9, 14, 3], [3, 9, 14]), ([3, 15], [3, 15]), ([16, 9, 0, 1, 2, 3, 4, 5, 6, 7, 8, 9, 10, 11, 12, 13, 14, 15, 16], [16])])
def spec_RangeIn.B3 : List Nat := [0, 0, 3, 7, 15, 31, 15, 79, 255, 511, 1023, 2047, 1023, 5119, 16383, 32767, 65535, 131071]
theorem spec_RangeIn.tab3 : rtab .any (opsOf Try.f219 3) = spec_RangeIn.T3 := by kernel_rfl
theorem spec_RangeIn.bits3 : waitsOk spec_RangeIn.T3.2 spec_RangeIn.B3 = true := by kernel_rfl
set_option maxHeartbeats 8000000 in
set_option maxRecDepth 100000 in
theorem spec_RangeIn.calls (a0_0 : Int) (a0_1 : Int) (a1_0 : Int) (a1_1 : Int) (r : Bool) (w : World) (h : spec_RangeIn.f a0_0 a0_1 a1_0 a1_1 = some r) :
  Calls Try.prog 219 #[.agg #[.int .i64 a0_0, .int .i64 a0_1], .agg #[.int .i64 a1_0, .int .i64 a1_1]] w fun e w' => e = .returned (.bool r) ∧ Below w.heap.size w w' := by
 have hu24 := Try.underlying24
 have HB := Aside0.mk (Below.refl w.heap.size w)
 have H : ((spec_RangeOk.f a0_0 a0_1).bind fun t299 => (if t299 = true then ((spec_RangeOk.f a1_0 a1_1).bind fun t300 => (if t300 = true then ((spec_l8None.f).bind fun bt301 => (if (a0_0 == bt301.1 && (a0_1 == bt301.2)) = true then (some true) else (if a1_0 ≤ a0_0 then (some (decide (a0_1 ≤ a1_1))) else (some false)))) else (some false))) else (some false))) = some r := h
 clear h
 replace H := sqbi H
 obtain ⟨t299, A3, H⟩ := H
 replace H : (if t299 = true then ((spec_RangeOk.f a1_0 a1_1).bind fun t300 => (if t300 = true then ((spec_l8None.f).bind fun bt301 => (if (a0_0 == bt301.1 && (a0_1 == bt301.2)) = true then (some true) else (if a1_0 ≤ a0_0 then (some (decide (a0_1 ≤ a1_1))) else (some false)))) else (some false))) else (some false)) = some r := H
 rcases sqI (t299 = true) with c4 | c4
 ·replace c4 := Bool.eq_false_iff.mpr c4
  subst c4
  have H1 : (some false) = some r := by rw [if_neg (show ¬ (false = true) by decide)] at H; exact H
  clear H
  have H := H1
  clear H1
  obtain rfl := Option.some.inj H
  go_enter Try.func219, Try.ntmps219
  go_wp2_with (first | ((with_reducible refine gate_dst (N := 2) rfl ?_); refine sqx 2 #[.int .i64 a0_0, .int .i64 a0_1] 24 ?_; intro gb297 hg w44 hbox hb; have BK297 := Aside0.mk hbox; have GW297 := sqg HB hg; have GE297 := sqg HB hg; replace HB := sqs HB hb; clear hb hbox hg) | ((with_reducible refine gate_dst (N := 3) rfl ?_); refine sqx 3 #[.int .i64 a1_0, .int .i64 a1_1] 24 ?_; intro gb298 hg w45 hbox hb; have BK298 := Aside0.mk hbox; have GW298 := sqg HB hg; have GE298 := sqg HB hg; have NB297_298 := sqn BK297 hg; have NB298_297 := sqm BK297 hg; replace BK297 := sqb BK297 hb; replace HB := sqs HB hb; clear hb hbox hg; have hnb46 := NB297_298.out; have hnc46 := NB298_297.out; obtain ⟨hcz47_0, hcz47_1, hfz47_0, hfz47_1⟩ := sqc2 BK297) | ((with_reducible refine gate_callee (f := 45) rfl ?_); refine sqL (some 6) Try.func45 #[.agg #[.int .i64 a0_0, .int .i64 a0_1]] ?_; (with_reducible refine (spec_RangeOk.calls a0_0 a0_1 false _ A3.out).mono ?_); rintro e w48 ⟨rfl, hb⟩; refine ⟨_, rfl, ?_⟩; refine sqM2 BK297 BK298 hb ?_; clear BK297 BK298; intro BK297 BK298; replace HB := sqs HB hb; (try clear hb)))
  go_ret
  exact sqe HB
 subst c4
 have H1 : ((spec_RangeOk.f a1_0 a1_1).bind fun t300 => (if t300 = true then ((spec_l8None.f).bind fun bt301 => (if (a0_0 == bt301.1 && (a0_1 == bt301.2)) = true then (some true) else (if a1_0 ≤ a0_0 then (some (decide (a0_1 ≤ a1_1))) else (some false)))) else (some false))) = some r := by rw [if_pos rfl] at H; exact H
 clear H
 have H := H1
 clear H1
 replace H := sqbi H
 obtain ⟨t300, A5, H⟩ := H
 replace H : (if t300 = true then ((spec_l8None.f).bind fun bt301 => (if (a0_0 == bt301.1 && (a0_1 == bt301.2)) = true then (some true) else (if a1_0 ≤ a0_0 then (some (decide (a0_1 ≤ a1_1))) else (some false)))) else (some false)) = some r := H
 rcases sqI (t300 = true) with c6 | c6
 ·replace c6 := Bool.eq_false_iff.mpr c6
  subst c6
  have H1 : (some false) = some r := by rw [if_neg (show ¬ (false = true) by decide)] at H; exact H
  clear H
  have H := H1
  clear H1
  obtain rfl := Option.some.inj H
  go_enter Try.func219, Try.ntmps219
  go_wp2_with (first | ((with_reducible refine gate_dst (N := 2) rfl ?_); refine sqx 2 #[.int .i64 a0_0, .int .i64 a0_1] 24 ?_; intro gb297 hg w37 hbox hb; have BK297 := Aside0.mk hbox; have GW297 := sqg HB hg; have GE297 := sqg HB hg; replace HB := sqs HB hb; clear hb hbox hg) | ((with_reducible refine gate_dst (N := 3) rfl ?_); refine sqx 3 #[.int .i64 a1_0, .int .i64 a1_1] 24 ?_; intro gb298 hg w38 hbox hb; have BK298 := Aside0.mk hbox; have GW298 := sqg HB hg; have GE298 := sqg HB hg; have NB297_298 := sqn BK297 hg; have NB298_297 := sqm BK297 hg; replace BK297 := sqb BK297 hb; replace HB := sqs HB hb; clear hb hbox hg; have hnb39 := NB297_298.out; have hnc39 := NB298_297.out; obtain ⟨hcz40_0, hcz40_1, hfz40_0, hfz40_1⟩ := sqc2 BK297) | ((with_reducible refine gate_callee (f := 45) rfl ?_); refine sqL (some 6) Try.func45 #[.agg #[.int .i64 a0_0, .int .i64 a0_1]] ?_; (with_reducible refine (spec_RangeOk.calls a0_0 a0_1 true _ A3.out).mono ?_); rintro e w41 ⟨rfl, hb⟩; refine ⟨_, rfl, ?_⟩; refine sqM2 BK297 BK298 hb ?_; clear BK297 BK298; intro BK297 BK298; replace HB := sqs HB hb; (try clear hb); obtain ⟨hcz42_0, hcz42_1, hfz42_0, hfz42_1⟩ := sqc2 BK298) | (go_at_call 45; (with_reducible refine (spec_RangeOk.calls a1_0 a1_1 false _ A5.out).mono ?_); rintro e w43 ⟨rfl, hb⟩; refine sqM2 BK297 BK298 hb ?_; clear BK297 BK298; intro BK297 BK298; replace HB := sqs HB hb; (try clear hb)))
  go_ret
  exact sqe HB
 subst c6
 have H1 : ((spec_l8None.f).bind fun bt301 => (if (a0_0 == bt301.1 && (a0_1 == bt301.2)) = true then (some true) else (if a1_0 ≤ a0_0 then (some (decide (a0_1 ≤ a1_1))) else (some false)))) = some r := by rw [if_pos rfl] at H; exact H
 clear H
 have H := H1
 clear H1
 replace H := sqbi H
 obtain ⟨⟨t301, t302⟩, A7, H⟩ := H
 replace H : (if (a0_0 == t301 && (a0_1 == t302)) = true then (some true) else (if a1_0 ≤ a0_0 then (some (decide (a0_1 ≤ a1_1))) else (some false))) = some r := H
 replace H := sqj H
 rcases H with ⟨c8, H⟩ | ⟨c8, H⟩
 ·have c8b0 : (a0_0 == t301 && (a0_1 == t302)) = true := c8
  (try (have c8b1 : decide (a0_0 = t301 && (a0_1 == t302)) = true := by simpa using c8))
  (try (have c8b2 : (a0_0 == t301 && (a0_1 == t302)) = true := by simpa using c8))
  clear c8
  obtain rfl := Option.some.inj H
  go_enter Try.func219, Try.ntmps219
  try go_wp2_with (first | ((with_reducible refine gate_dst (N := 2) rfl ?_); refine sqx 2 #[.int .i64 a0_0, .int .i64 a0_1] 24 ?_; intro gb297 hg w9 hbox hb; have BK297 := Aside0.mk hbox; have GW297 := sqg HB hg; have GE297 := sqg HB hg; replace HB := sqs HB hb; clear hb hbox hg) | ((with_reducible refine gate_dst (N := 3) rfl ?_); refine sqx 3 #[.int .i64 a1_0, .int .i64 a1_1] 24 ?_; intro gb298 hg w10 hbox hb; have BK298 := Aside0.mk hbox; have GW298 := sqg HB hg; have GE298 := sqg HB hg; have NB297_298 := sqn BK297 hg; have NB298_297 := sqm BK297 hg; replace BK297 := sqb BK297 hb; replace HB := sqs HB hb; clear hb hbox hg; have hnb11 := NB297_298.out; have hnc11 := NB298_297.out; obtain ⟨hcz12_0, hcz12_1, hfz12_0, hfz12_1⟩ := sqc2 BK297) | ((with_reducible refine gate_callee (f := 45) rfl ?_); refine sqL (some 6) Try.func45 #[.agg #[.int .i64 a0_0, .int .i64 a0_1]] ?_; (with_reducible refine (spec_RangeOk.calls a0_0 a0_1 true _ A3.out).mono ?_); rintro e w13 ⟨rfl, hb⟩; refine ⟨_, rfl, ?_⟩; refine sqM2 BK297 BK298 hb ?_; clear BK297 BK298; intro BK297 BK298; replace HB := sqs HB hb; (try clear hb); obtain ⟨hcz14_0, hcz14_1, hfz14_0, hfz14_1⟩ := sqc2 BK298) | (go_at_call 45; (with_reducible refine (spec_RangeOk.calls a1_0 a1_1 true _ A5.out).mono ?_); rintro e w15 ⟨rfl, hb⟩; refine sqM2 BK297 BK298 hb ?_; clear BK297 BK298; intro BK297 BK298; replace HB := sqs HB hb; (try clear hb)))
  replace BK297 := Aside0.mk (blk_drew BK297.out)
  replace BK298 := Aside0.mk (blk_drew BK298.out)
  replace HB := Aside0.mk (below_drew1 HB.out)
  refine start_ (n := 18) (S := fun w' => w'.cell? ⟨gb297, 0, none⟩ = some (.int .i64 a0_0) ∧ w'.cell? ⟨gb297, 1, none⟩ = some (.int .i64 a0_1)) (ds := []) #[false, false, false, false, false, false, false, false, false, false, false, false, false, false, false, false, false, false] (by kernel_rfl) rfl rfl sqz (fun hHeld => ?_); refine with_tabW spec_RangeIn.tab3 spec_RangeIn.bits3 (fun HT_ HW_ => ?_)
  generalize w15.drew = w16 at BK297 BK298 HB hHeld ⊢
  refine sqw HT_ HW_ 0 13 hHeld ?_
  refine sqo HT_ 1 14 (fun K hK => ?_)
  refine sqG Try.func99 #[] ?_
  with_reducible refine (spec_l8None.calls  t301 t302 _ A7.out).mono ?_
  rintro e w17 ⟨rfl, hb⟩
  refine ⟨_, rfl, ?_⟩
  refine sqM2 BK297 BK298 hb ?_; clear BK297 BK298; intro BK297 BK298
  replace HB := sqs HB hb
  (try clear hb)
  refine hK.out _ _ sqz (fun hHeld => ?_)
  clear hK K
  refine sqnm ?_
  refine sqp HT_ 2 15 ?_
  refine sqp HT_ 3 16 ?_
  refine sqpu HT_ 4 17 ?_
  refine sqpu HT_ 5 18 ?_
  refine sqpu HT_ 6 19 ?_
  refine sqpu HT_ 7 20 ?_
  refine sqpu HT_ 8 21 ?_
  refine sqpu HT_ 9 22 ?_
  refine sqpu HT_ 10 23 ?_
  refine sqpu HT_ 11 24 ?_
  refine sqpu HT_ 12 25 ?_
  refine sqpu HT_ 13 26 ?_
  refine sqpu HT_ 14 27 ?_
  refine sqpu HT_ 15 28 ?_
  refine sqp HT_ 16 29 ?_
  refine sqp HT_ 17 4 ?_
  refine done_ (done_of HT_.out (by kernel_rfl)) ?_
  try go_wp2
  go_ret
  exact sqe HB
 have c8b0 : (a0_0 == t301 && (a0_1 == t302)) = false := by simpa using c8
 (try (have c8b1 : decide (a0_0 = t301 && (a0_1 == t302)) = false := by simpa using c8))
 (try (have c8b2 : (a0_0 == t301 && (a0_1 == t302)) = false := by simpa using c8))
 (try (have c8b3 : ¬ (a0_0 = t301 && (a0_1 == t302)) := by simpa using c8))
 clear c8
 replace H := sqi H
 rcases H with ⟨c18, H⟩ | ⟨c18, H⟩
 ·have c18b0 := decide_eq_false c18
  clear c18
  obtain rfl := Option.some.inj H
  go_enter Try.func219, Try.ntmps219
  try go_wp2_with (first | ((with_reducible refine gate_dst (N := 2) rfl ?_); refine sqx 2 #[.int .i64 a0_0, .int .i64 a0_1] 24 ?_; intro gb297 hg w28 hbox hb; have BK297 := Aside0.mk hbox; have GW297 := sqg HB hg; have GE297 := sqg HB hg; replace HB := sqs HB hb; clear hb hbox hg) | ((with_reducible refine gate_dst (N := 3) rfl ?_); refine sqx 3 #[.int .i64 a1_0, .int .i64 a1_1] 24 ?_; intro gb298 hg w29 hbox hb; have BK298 := Aside0.mk hbox; have GW298 := sqg HB hg; have GE298 := sqg HB hg; have NB297_298 := sqn BK297 hg; have NB298_297 := sqm BK297 hg; replace BK297 := sqb BK297 hb; replace HB := sqs HB hb; clear hb hbox hg; have hnb30 := NB297_298.out; have hnc30 := NB298_297.out; obtain ⟨hcz31_0, hcz31_1, hfz31_0, hfz31_1⟩ := sqc2 BK297) | ((with_reducible refine gate_callee (f := 45) rfl ?_); refine sqL (some 6) Try.func45 #[.agg #[.int .i64 a0_0, .int .i64 a0_1]] ?_; (with_reducible refine (spec_RangeOk.calls a0_0 a0_1 true _ A3.out).mono ?_); rintro e w32 ⟨rfl, hb⟩; refine ⟨_, rfl, ?_⟩; refine sqM2 BK297 BK298 hb ?_; clear BK297 BK298; intro BK297 BK298; replace HB := sqs HB hb; (try clear hb); obtain ⟨hcz33_0, hcz33_1, hfz33_0, hfz33_1⟩ := sqc2 BK298) | (go_at_call 45; (with_reducible refine (spec_RangeOk.calls a1_0 a1_1 true _ A5.out).mono ?_); rintro e w34 ⟨rfl, hb⟩; refine sqM2 BK297 BK298 hb ?_; clear BK297 BK298; intro BK297 BK298; replace HB := sqs HB hb; (try clear hb)))
  replace BK297 := Aside0.mk (blk_drew BK297.out)
  replace BK298 := Aside0.mk (blk_drew BK298.out)
  replace HB := Aside0.mk (below_drew1 HB.out)
  refine start_ (n := 18) (S := fun w' => w'.cell? ⟨gb297, 0, none⟩ = some (.int .i64 a0_0) ∧ w'.cell? ⟨gb297, 1, none⟩ = some (.int .i64 a0_1) ∧ w'.cell? ⟨gb298, 0, none⟩ = some (.int .i64 a1_0) ∧ w'.cell? ⟨gb298, 1, none⟩ = some (.int .i64 a1_1)) (ds := []) #[false, false, false, false, false, false, false, false, false, false, false, false, false, false, false, false, false, false] (by kernel_rfl) rfl rfl sqz (fun hHeld => ?_); refine with_tabW spec_RangeIn.tab3 spec_RangeIn.bits3 (fun HT_ HW_ => ?_)
  generalize w34.drew = w35 at BK297 BK298 HB hHeld ⊢
  refine sqw HT_ HW_ 0 13 hHeld ?_
  refine sqo HT_ 1 14 (fun K hK => ?_)
  refine sqG Try.func99 #[] ?_
  with_reducible refine (spec_l8None.calls  t301 t302 _ A7.out).mono ?_
  rintro e w36 ⟨rfl, hb⟩
  refine ⟨_, rfl, ?_⟩
  refine sqM2 BK297 BK298 hb ?_; clear BK297 BK298; intro BK297 BK298
  replace HB := sqs HB hb
  (try clear hb)
  refine hK.out _ _ sqz (fun hHeld => ?_)
  clear hK K
  refine sqnm ?_
  refine sqp HT_ 2 15 ?_
  refine sqp HT_ 3 16 ?_
  refine sqp HT_ 4 17 ?_
  refine sqp HT_ 6 19 ?_
  refine sqw HT_ HW_ 5 18 hHeld ?_
  refine sqw HT_ HW_ 7 20 hHeld ?_
  refine sqp HT_ 8 21 ?_
  refine sqp HT_ 9 22 ?_
  refine sqpu HT_ 10 23 ?_
  refine sqpu HT_ 11 24 ?_
  refine sqpu HT_ 12 25 ?_
  refine sqpu HT_ 13 26 ?_
  refine sqpu HT_ 14 27 ?_
  refine sqp HT_ 15 28 ?_
  refine sqp HT_ 16 29 ?_
  refine sqp HT_ 17 4 ?_
  refine done_ (done_of HT_.out (by kernel_rfl)) ?_
  try go_wp2
  go_ret
  exact sqe HB
 have c18b0 := decide_eq_true c18
 clear c18
 obtain rfl := Option.some.inj H
 go_enter Try.func219, Try.ntmps219
 try go_wp2_with (first | ((with_reducible refine gate_dst (N := 2) rfl ?_); refine sqx 2 #[.int .i64 a0_0, .int .i64 a0_1] 24 ?_; intro gb297 hg w19 hbox hb; have BK297 := Aside0.mk hbox; have GW297 := sqg HB hg; have GE297 := sqg HB hg; replace HB := sqs HB hb; clear hb hbox hg) | ((with_reducible refine gate_dst (N := 3) rfl ?_); refine sqx 3 #[.int .i64 a1_0, .int .i64 a1_1] 24 ?_; intro gb298 hg w20 hbox hb; have BK298 := Aside0.mk hbox; have GW298 := sqg HB hg; have GE298 := sqg HB hg; have NB297_298 := sqn BK297 hg; have NB298_297 := sqm BK297 hg; replace BK297 := sqb BK297 hb; replace HB := sqs HB hb; clear hb hbox hg; have hnb21 := NB297_298.out; have hnc21 := NB298_297.out; obtain ⟨hcz22_0, hcz22_1, hfz22_0, hfz22_1⟩ := sqc2 BK297) | ((with_reducible refine gate_callee (f := 45) rfl ?_); refine sqL (some 6) Try.func45 #[.agg #[.int .i64 a0_0, .int .i64 a0_1]] ?_; (with_reducible refine (spec_RangeOk.calls a0_0 a0_1 true _ A3.out).mono ?_); rintro e w23 ⟨rfl, hb⟩; refine ⟨_, rfl, ?_⟩; refine sqM2 BK297 BK298 hb ?_; clear BK297 BK298; intro BK297 BK298; replace HB := sqs HB hb; (try clear hb); obtain ⟨hcz24_0, hcz24_1, hfz24_0, hfz24_1⟩ := sqc2 BK298) | (go_at_call 45; (with_reducible refine (spec_RangeOk.calls a1_0 a1_1 true _ A5.out).mono ?_); rintro e w25 ⟨rfl, hb⟩; refine sqM2 BK297 BK298 hb ?_; clear BK297 BK298; intro BK297 BK298; replace HB := sqs HB hb; (try clear hb)))
 replace BK297 := Aside0.mk (blk_drew BK297.out)
 replace BK298 := Aside0.mk (blk_drew BK298.out)
 replace HB := Aside0.mk (below_drew1 HB.out)
 refine start_ (n := 18) (S := fun w' => w'.cell? ⟨gb297, 0, none⟩ = some (.int .i64 a0_0) ∧ w'.cell? ⟨gb297, 1, none⟩ = some (.int .i64 a0_1) ∧ w'.cell? ⟨gb298, 0, none⟩ = some (.int .i64 a1_0) ∧ w'.cell? ⟨gb298, 1, none⟩ = some (.int .i64 a1_1)) (ds := []) #[false, false, false, false, false, false, false, false, false, false, false, false, false, false, false, false, false, false] (by kernel_rfl) rfl rfl sqz (fun hHeld => ?_); refine with_tabW spec_RangeIn.tab3 spec_RangeIn.bits3 (fun HT_ HW_ => ?_)
 generalize w25.drew = w26 at BK297 BK298 HB hHeld ⊢
 refine sqw HT_ HW_ 0 13 hHeld ?_
 refine sqo HT_ 1 14 (fun K hK => ?_)
 refine sqG Try.func99 #[] ?_
 with_reducible refine (spec_l8None.calls  t301 t302 _ A7.out).mono ?_
 rintro e w27 ⟨rfl, hb⟩
 refine ⟨_, rfl, ?_⟩
 refine sqM2 BK297 BK298 hb ?_; clear BK297 BK298; intro BK297 BK298
 replace HB := sqs HB hb
 (try clear hb)
 refine hK.out _ _ sqz (fun hHeld => ?_)
 clear hK K
 refine sqnm ?_
 refine sqp HT_ 2 15 ?_
 refine sqp HT_ 3 16 ?_
 refine sqp HT_ 4 17 ?_
 refine sqp HT_ 6 19 ?_
 refine sqw HT_ HW_ 5 18 hHeld ?_
 refine sqw HT_ HW_ 7 20 hHeld ?_
 refine sqp HT_ 8 21 ?_
 refine sqp HT_ 9 22 ?_
 refine sqp HT_ 10 23 ?_
 refine sqp HT_ 12 25 ?_
 refine sqw HT_ HW_ 11 24 hHeld ?_
 refine sqw HT_ HW_ 13 26 hHeld ?_
 refine sqp HT_ 14 27 ?_
 refine sqp HT_ 15 28 ?_
 refine sqp HT_ 16 29 ?_
 refine sqp HT_ 17 4 ?_
 refine done_ (done_of HT_.out (by kernel_rfl)) ?_
 try go_wp2
 go_ret
 exact sqe HB

/-! ### spec_RestIn: function 220 -/
set_option maxHeartbeats 8000000 in
set_option maxRecDepth 100000 in
theorem spec_RestIn.calls (k : Nat) (a0_0 : Int) (a0_1 : Int) (a1_0 : Int) (a1_1 : Int) (r : Bool) (w : World) (h : spec_RestIn.f k a0_0 a0_1 a1_0 a1_1 = some r) :
  Calls Try.prog 220 #[.agg #[.int .i64 a0_0, .int .i64 a0_1], .agg #[.int .i64 a1_0, .int .i64 a1_1]] w fun e w' => e = .returned (.bool r) ∧ Below w.heap.size w w' := by
 have hu26 := Try.underlying26
 have HB := Aside0.mk (Below.refl w.heap.size w)
 have H : ((spec_RestOk.f a0_0 a0_1).bind fun t305 => (if t305 = true then ((spec_RestOk.f a1_0 a1_1).bind fun t306 => (spec_RestIn.j0 k (!t306) a0_0 a0_1 a1_0 a1_1)) else (spec_RestIn.j0 k true a0_0 a0_1 a1_0 a1_1))) = some r := h
 clear h
 have HC3 := Aside0.mk H
 clear H
 go_enter Try.func220, Try.ntmps220
 go_upto_region 1 with (first | ((with_reducible refine gate_dst (N := 2) rfl ?_); refine sqx 2 #[.int .i64 a0_0, .int .i64 a0_1] 26 ?_; intro gb303 hg w4 hbox hb; have BK303 := Aside0.mk hbox; have GW303 := sqg HB hg; have GE303 := sqg HB hg; replace HB := sqs HB hb; clear hb hbox hg) | ((with_reducible refine gate_dst (N := 3) rfl ?_); refine sqx 3 #[.int .i64 a1_0, .int .i64 a1_1] 26 ?_; intro gb304 hg w5 hbox hb; have BK304 := Aside0.mk hbox; have GW304 := sqg HB hg; have GE304 := sqg HB hg; have NB303_304 := sqn BK303 hg; have NB304_303 := sqm BK303 hg; replace BK303 := sqb BK303 hb; replace HB := sqs HB hb; clear hb hbox hg))
 repeat (go_quiet (first | ((with_reducible refine gate_dst (N := 2) rfl ?_); refine sqx 2 #[.int .i64 a0_0, .int .i64 a0_1] 26 ?_; intro gb303 hg w4 hbox hb; have BK303 := Aside0.mk hbox; have GW303 := sqg HB hg; have GE303 := sqg HB hg; replace HB := sqs HB hb; clear hb hbox hg) | ((with_reducible refine gate_dst (N := 3) rfl ?_); refine sqx 3 #[.int .i64 a1_0, .int .i64 a1_1] 26 ?_; intro gb304 hg w5 hbox hb; have BK304 := Aside0.mk hbox; have GW304 := sqg HB hg; have GE304 := sqg HB hg; have NB303_304 := sqn BK303 hg; have NB304_303 := sqm BK303 hg; replace BK303 := sqb BK303 hb; replace HB := sqs HB hb; clear hb hbox hg)); go_upto_region 1 with (first | ((with_reducible refine gate_dst (N := 2) rfl ?_); refine sqx 2 #[.int .i64 a0_0, .int .i64 a0_1] 26 ?_; intro gb303 hg w4 hbox hb; have BK303 := Aside0.mk hbox; have GW303 := sqg HB hg; have GE303 := sqg HB hg; replace HB := sqs HB hb; clear hb hbox hg) | ((with_reducible refine gate_dst (N := 3) rfl ?_); refine sqx 3 #[.int .i64 a1_0, .int .i64 a1_1] 26 ?_; intro gb304 hg w5 hbox hb; have BK304 := Aside0.mk hbox; have GW304 := sqg HB hg; have GE304 := sqg HB hg; have NB303_304 := sqn BK303 hg; have NB304_303 := sqm BK303 hg; replace BK303 := sqb BK303 hb; replace HB := sqs HB hb; clear hb hbox hg)))
 (try simp only [Act.put, List.setIfInBounds_toArray, List.set_cons_zero, List.set_cons_succ])
 go_cut [12] (fun v12 wc => ∃ (kq : Nat) (x12_2 : Bool), v12 = .bool x12_2 ∧ Aside0 (spec_RestIn.j0 kq x12_2 a0_0 a0_1 a1_0 a1_1 = some r) ∧ Aside0 (kq ≤ k) ∧ Aside0 (wc.heap[gb303]? = some (.cells #[.int .i64 a0_0, .int .i64 a0_1] 26 (0, 0))) ∧ Aside0 (wc.heap[gb304]? = some (.cells #[.int .i64 a1_0, .int .i64 a1_1] 26 (0, 0))) ∧ Aside0 (Below w.heap.size w wc))
 case first =>
  have H := HC3.out
  clear HC3
  replace H := sqbi H
  obtain ⟨t305, A6, H⟩ := H
  replace H : (if t305 = true then ((spec_RestOk.f a1_0 a1_1).bind fun t306 => (spec_RestIn.j0 k (!t306) a0_0 a0_1 a1_0 a1_1)) else (spec_RestIn.j0 k true a0_0 a0_1 a1_0 a1_1)) = some r := H
  rcases sqI (t305 = true) with c7 | c7
  ·replace c7 := Bool.eq_false_iff.mpr c7
   subst c7
   have H1 : (spec_RestIn.j0 k true a0_0 a0_1 a1_0 a1_1) = some r := by rw [if_neg (show ¬ (false = true) by decide)] at H; exact H
   clear H
   have H := H1
   clear H1
   have H' := Aside0.mk H
   clear H
   have hnb14 := NB303_304.out
   have hnc14 := NB304_303.out
   obtain ⟨hcz15_0, hcz15_1, hfz15_0, hfz15_1⟩ := sqc2 BK303
   go_wp2_with (first | (go_at_call 66; (with_reducible refine (spec_RestOk.calls a0_0 a0_1 false _ A6.out).mono ?_); rintro e w16 ⟨rfl, hb⟩; refine sqM2 BK303 BK304 hb ?_; clear BK303 BK304; intro BK303 BK304; replace HB := sqs HB hb; (try clear hb)))
   repeat (go_quiet (first | (go_at_call 66; (with_reducible refine (spec_RestOk.calls a0_0 a0_1 false _ A6.out).mono ?_); rintro e w16 ⟨rfl, hb⟩; refine sqM2 BK303 BK304 hb ?_; clear BK303 BK304; intro BK303 BK304; replace HB := sqs HB hb; (try clear hb))); try go_wp2_with (first | (go_at_call 66; (with_reducible refine (spec_RestOk.calls a0_0 a0_1 false _ A6.out).mono ?_); rintro e w16 ⟨rfl, hb⟩; refine sqM2 BK303 BK304 hb ?_; clear BK303 BK304; intro BK303 BK304; replace HB := sqs HB hb; (try clear hb))))
   go_meet
   case rel => exact ⟨_, (true), (by first | rfl | (simp; done) | (simp [*]; done)), H', ⟨by first | omega | exact Nat.le_refl _⟩, sqk BK303, sqk BK304, sqh HB⟩
  subst c7
  have H1 : ((spec_RestOk.f a1_0 a1_1).bind fun t306 => (spec_RestIn.j0 k (!t306) a0_0 a0_1 a1_0 a1_1)) = some r := by rw [if_pos rfl] at H; exact H
  clear H
  have H := H1
  clear H1
  replace H := sqbi H
  obtain ⟨t306, A8, H⟩ := H
  replace H : (spec_RestIn.j0 k (!t306) a0_0 a0_1 a1_0 a1_1) = some r := H
  have H' := Aside0.mk H
  clear H
  have hnb9 := NB303_304.out
  have hnc9 := NB304_303.out
  obtain ⟨hcz10_0, hcz10_1, hfz10_0, hfz10_1⟩ := sqc2 BK303
  go_wp2_with (first | (go_at_call 66; (with_reducible refine (spec_RestOk.calls a0_0 a0_1 true _ A6.out).mono ?_); rintro e w11 ⟨rfl, hb⟩; refine sqM2 BK303 BK304 hb ?_; clear BK303 BK304; intro BK303 BK304; replace HB := sqs HB hb; (try clear hb); obtain ⟨hcz12_0, hcz12_1, hfz12_0, hfz12_1⟩ := sqc2 BK304) | (go_at_call 66; (with_reducible refine (spec_RestOk.calls a1_0 a1_1 t306 _ A8.out).mono ?_); rintro e w13 ⟨rfl, hb⟩; refine sqM2 BK303 BK304 hb ?_; clear BK303 BK304; intro BK303 BK304; replace HB := sqs HB hb; (try clear hb)))
  repeat (go_quiet (first | (go_at_call 66; (with_reducible refine (spec_RestOk.calls a0_0 a0_1 true _ A6.out).mono ?_); rintro e w11 ⟨rfl, hb⟩; refine sqM2 BK303 BK304 hb ?_; clear BK303 BK304; intro BK303 BK304; replace HB := sqs HB hb; (try clear hb); obtain ⟨hcz12_0, hcz12_1, hfz12_0, hfz12_1⟩ := sqc2 BK304) | (go_at_call 66; (with_reducible refine (spec_RestOk.calls a1_0 a1_1 t306 _ A8.out).mono ?_); rintro e w13 ⟨rfl, hb⟩; refine sqM2 BK303 BK304 hb ?_; clear BK303 BK304; intro BK303 BK304; replace HB := sqs HB hb; (try clear hb))); try go_wp2_with (first | (go_at_call 66; (with_reducible refine (spec_RestOk.calls a0_0 a0_1 true _ A6.out).mono ?_); rintro e w11 ⟨rfl, hb⟩; refine sqM2 BK303 BK304 hb ?_; clear BK303 BK304; intro BK303 BK304; replace HB := sqs HB hb; (try clear hb); obtain ⟨hcz12_0, hcz12_1, hfz12_0, hfz12_1⟩ := sqc2 BK304) | (go_at_call 66; (with_reducible refine (spec_RestOk.calls a1_0 a1_1 t306 _ A8.out).mono ?_); rintro e w13 ⟨rfl, hb⟩; refine sqM2 BK303 BK304 hb ?_; clear BK303 BK304; intro BK303 BK304; replace HB := sqs HB hb; (try clear hb))))
  go_meet
  case rel => exact ⟨_, (!t306), (by first | rfl | (simp; done) | (simp [*]; done)), H', ⟨by first | omega | exact Nat.le_refl _⟩, sqk BK303, sqk BK304, sqh HB⟩
 case rest =>
  clear HC3
  obtain ⟨kq, x12_2, rfl, HA, HJ2, BK303, BK304, HB⟩ := hcut
  cases kq with
  | zero => exact absurd HA.out (by simp [spec_RestIn.j0])
  | succ kj2 =>
   have H := HA.out
   clear HA
   simp only [spec_RestIn.j0] at H
   by_cases c17 : x12_2 = true
   ·subst c17
    have H1 : (some false) = some r := by rw [if_pos rfl] at H; exact H
    clear H
    have H := H1
    clear H1
    obtain rfl := Option.some.inj H
    go_wp2
    repeat (go_quiet (fail); try go_wp2)
    go_ret
    exact sqe HB
   replace c17 := Bool.eq_false_iff.mpr c17
   subst c17
   have H1 : (if a1_0 = 0 then (some (a0_0 == a1_0 && (a0_1 == a1_1))) else (if (Int.tmod a0_0 a1_0) = 0 then ((spec_l1Mod.f a0_1 a1_0).bind fun t307 => (some (t307 == a1_1))) else (some false))) = some r := by rw [if_neg (show ¬ (false = true) by decide)] at H; exact H
   clear H
   have H := H1
   clear H1
   replace H := sqj H
   rcases H with ⟨c18, H⟩ | ⟨c18, H⟩
   ·have c18b0 : (a1_0 == 0) = true := beq_iff_eq.mpr c18
    have c18b1 : (a1_0 != 0) = false := bne_eq_false_iff_eq.mpr c18
    clear c18
    obtain rfl := Option.some.inj H
    have hnb19 := NB304_303.out
    have hnc19 := NB303_304.out
    obtain ⟨hcz20_0, hcz20_1, hfz20_0, hfz20_1⟩ := sqc2 BK304
    obtain ⟨hcz21_0, hcz21_1, hfz21_0, hfz21_1⟩ := sqc2 BK303
    go_wp2
    repeat (go_quiet (fail); try go_wp2)
    go_ret
    exact sqe HB
   have c18b0 : (a1_0 == 0) = false := beq_eq_false_iff_ne.mpr c18
   have c18b1 : (a1_0 != 0) = true := bne_iff_ne.mpr c18
   replace H := sqi H
   rcases H with ⟨c22, H⟩ | ⟨c22, H⟩
   ·have c22b0 : ((Int.tmod a0_0 a1_0) == 0) = false := beq_eq_false_iff_ne.mpr c22
    have c22b1 : ((Int.tmod a0_0 a1_0) != 0) = true := bne_iff_ne.mpr c22
    obtain rfl := Option.some.inj H
    have hnb27 := NB304_303.out
    have hnc27 := NB303_304.out
    obtain ⟨hcz28_0, hcz28_1, hfz28_0, hfz28_1⟩ := sqc2 BK304
    obtain ⟨hcz29_0, hcz29_1, hfz29_0, hfz29_1⟩ := sqc2 BK303
    go_wp2
    repeat (go_quiet (fail); try go_wp2)
    go_ret
    exact sqe HB
   have c22b0 : ((Int.tmod a0_0 a1_0) == 0) = true := beq_iff_eq.mpr c22
   have c22b1 : ((Int.tmod a0_0 a1_0) != 0) = false := bne_eq_false_iff_eq.mpr c22
   clear c22
   replace H := sqbi H
   obtain ⟨t307, A23, H⟩ := H
   replace H : (some (t307 == a1_1)) = some r := H
   obtain rfl := Option.some.inj H
   have hnb24 := NB304_303.out
   have hnc24 := NB303_304.out
   obtain ⟨hcz25_0, hcz25_1, hfz25_0, hfz25_1⟩ := sqc2 BK304
   obtain ⟨hcz26_0, hcz26_1, hfz26_0, hfz26_1⟩ := sqc2 BK303
   go_wp2_with (first | (go_at_call 102; (with_reducible refine (spec_l1Mod.calls a0_1 a1_0 t307 _ A23.out).mono ?_); rintro e w' ⟨rfl, ⟨nd, rfl⟩⟩; (try first | exact ⟨rfl, _, World.drewN_drewN _ _ _⟩ | exact ⟨rfl, _, Eq.trans (World.drewN_drewN _ _ _) (congrArg (World.drewN _) (Nat.add_assoc _ _ _))⟩)))
   repeat (go_quiet (first | (go_at_call 102; (with_reducible refine (spec_l1Mod.calls a0_1 a1_0 t307 _ A23.out).mono ?_); rintro e w' ⟨rfl, ⟨nd, rfl⟩⟩; (try first | exact ⟨rfl, _, World.drewN_drewN _ _ _⟩ | exact ⟨rfl, _, Eq.trans (World.drewN_drewN _ _ _) (congrArg (World.drewN _) (Nat.add_assoc _ _ _))⟩))); try go_wp2_with (first | (go_at_call 102; (with_reducible refine (spec_l1Mod.calls a0_1 a1_0 t307 _ A23.out).mono ?_); rintro e w' ⟨rfl, ⟨nd, rfl⟩⟩; (try first | exact ⟨rfl, _, World.drewN_drewN _ _ _⟩ | exact ⟨rfl, _, Eq.trans (World.drewN_drewN _ _ _) (congrArg (World.drewN _) (Nat.add_assoc _ _ _))⟩))))
   go_ret
   exact sqe HB

end Go.Proofs.Ytkekcenlleebeaa.PFnExactAbsIn
