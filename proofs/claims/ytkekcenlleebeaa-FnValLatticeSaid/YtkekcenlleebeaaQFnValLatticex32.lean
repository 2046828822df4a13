/- Functions of the program as plain Lean functions, and that calls of them come to what these tell. Conditions: those in each law. -/
import Derived.Test.YtkekcenlleebeaaSq
import Derived.Test.YtkekcenlleebeaaDFnValLattice
import Derived.Test.YtkekcenlleebeaaQFnValLatticex0
import Derived.Test.YtkekcenlleebeaaQFnValLatticex3
import Derived.Test.YtkekcenlleebeaaQFnValLatticex7
import Derived.Test.YtkekcenlleebeaaQFnValLatticex9
import Derived.Test.YtkekcenlleebeaaQFnValLatticex10
import Derived.Test.YtkekcenlleebeaaQFnValLatticex11
import Derived.Test.YtkekcenlleebeaaQFnValLatticex30
import Derived.Test.YtkekcenlleebeaaQFnValLatticex31
namespace Go.Proofs.Ytkekcenlleebeaa.PFnValLattice
open Go.RowKit Go.Proofs.Ytkekcenlleebeaa.Sq Go.Proofs.YtkekcenlleebeaaW.PrintWords Go.Proofs.YtkekcenlleebeaaW.PrintLast Go.Proofs.YtkekcenlleebeaaW.PrintMore
attribute [local go_sem] max2_int min2_int max_two min_two max_three min_three max_four min_four   -- for this text's walks alone
set_option linter.unusedVariables false
set_option linter.unusedSimpArgs false

attribute [local go_sem high] eqA30
/-! ### spec_ValMeet: function 90 -/
def spec_ValMeet.T1 : Bool × List (List Nat × List Nat) := (true, [([], []), ([0], [0]), ([1], [1]), ([2, 1], [2]), ([3], [3]), ([4, 3, 3], [3, 4]), ([5, 3], [3, 5]), ([3, 6], [3, 6]), ([7, 5], [7]), ([8], [8]), ([8, 8], [8]), ([9, 10, 8], [8, 9, 10]), ([8, 11], [8, 11]), ([12, 10], [12]), ([13], [13]), ([13, 13], [13]), ([14, 15, 13], [13, 14, 15]), ([13, 16], [13, 16])])
def spec_ValMeet.B1 : List Nat := [0, 1, 3, 7, 15, 31, 63, 127, 255, 511, 511, 2047, 4095, 8191, 16383, 16383, 65535, 131071]
theorem spec_ValMeet.tab1 : rtab .any (opsOf Try.f90 1) = spec_ValMeet.T1 := by kernel_rfl
theorem spec_ValMeet.bits1 : waitsOk spec_ValMeet.T1.2 spec_ValMeet.B1 = true := by kernel_rfl
def spec_ValMeet.T3 : Bool × List (List Nat × List Nat) := (true, [([], []), ([0], [0]), ([], []), ([2, 1], [2]), ([1, 3, 3], [1, 3]), ([4], [4]), ([5], [5]), ([5], [5]), ([], []), ([8, 6, 4, 0, 1, 2, 3, 4, 5, 6, 8], [6, 8]), ([7, 9, 0, 1, 2, 3, 4, 5, 6, 7, 8, 9], [7])])
def spec_ValMeet.B3 : List Nat := [0, 1, 0, 7, 15, 31, 63, 63, 0, 383, 1023]
theorem spec_ValMeet.tab3 : rtab .any (opsOf Try.f90 3) = spec_ValMeet.T3 := by kernel_rfl
theorem spec_ValMeet.bits3 : waitsOk spec_ValMeet.T3.2 spec_ValMeet.B3 = true := by kernel_rfl
def spec_ValMeet.T6 : Bool × List (List Nat × List Nat) := (true, [([], []), ([0], [0]), ([], []), ([2, 1], [2]), ([1, 3, 3], [1, 3]), ([], []), ([4, 5, 4], [4, 5]), ([6, 6, 0, 1, 2, 3, 4, 5, 6], [6])])
def spec_ValMeet.B6 : List Nat := [0, 1, 0, 7, 15, 0, 63, 127]
theorem spec_ValMeet.tab6 : rtab .any (opsOf Try.f90 6) = spec_ValMeet.T6 := by kernel_rfl
theorem spec_ValMeet.bits6 : waitsOk spec_ValMeet.T6.2 spec_ValMeet.B6 = true := by kernel_rfl
set_option maxHeartbeats 8000000 in
set_option maxRecDepth 100000 in
theorem spec_ValMeet.calls (k : Nat) (a0_0 : Int) (a0_1 : Int) (a0_2 : Int) (a0_3 : Int) (a1_0 : Int) (a1_1 : Int) (a1_2 : Int) (a1_3 : Int) (r1 : Int) (r2 : Int) (r3 : Int) (r4 : Int) (w : World) (h : spec_ValMeet.f k a0_0 a0_1 a0_2 a0_3 a1_0 a1_1 a1_2 a1_3 = some (r1, r2, r3, r4)) :
  Calls Try.prog 90 #[.agg #[.int .i64 a0_0, .int .i64 a0_1, .int .i64 a0_2, .int .i64 a0_3], .agg #[.int .i64 a1_0, .int .i64 a1_1, .int .i64 a1_2, .int .i64 a1_3]] w fun e w' => e = .returned (.agg #[.int .i64 r1, .int .i64 r2, .int .i64 r3, .int .i64 r4]) ∧ Below w.heap.size w w' := by
 have hu30 := Try.underlying30
 have hu26 := Try.underlying26
 have HB := Aside0.mk (Below.refl w.heap.size w)
 have H := h
 unfold spec_ValMeet.f at H
 clear h
 have HC3 := Aside0.mk H
 clear H
 go_enter Try.func90, Try.ntmps90
 go_upto_region 1 with (first | ((with_reducible refine gate_dst (N := 2) rfl ?_); refine sqx 2 #[.int .i64 a0_0, .int .i64 a0_1, .int .i64 a0_2, .int .i64 a0_3] 30 ?_; intro gb749 hg w4 hbox hb; have BK749 := Aside0.mk hbox; have GW749 := sqg HB hg; replace HB := sqs HB hb; clear hb hbox hg) | ((with_reducible refine gate_dst (N := 3) rfl ?_); refine sqx 3 #[.int .i64 a1_0, .int .i64 a1_1, .int .i64 a1_2, .int .i64 a1_3] 30 ?_; intro gb750 hg w5 hbox hb; have BK750 := Aside0.mk hbox; have GW750 := sqg HB hg; have NB749_750 := sqn BK749 hg; have NB750_749 := sqm BK749 hg; replace BK749 := sqb BK749 hb; replace HB := sqs HB hb; clear hb hbox hg) | ((with_reducible refine gate_dst (N := 4) rfl ?_); refine sqx 4 #[.int .i64 0, .int .i64 0, .int .i64 0, .int .i64 0] 30 ?_; intro gb751 hg w6 hbox hb; have BK751 := Aside0.mk hbox; have GW751 := sqg HB hg; have NB749_751 := sqn BK749 hg; have NB751_749 := sqm BK749 hg; have NB750_751 := sqn BK750 hg; have NB751_750 := sqm BK750 hg; refine sqM2 BK749 BK750 hb ?_; clear BK749 BK750; intro BK749 BK750; replace HB := sqs HB hb; clear hb hbox hg))
 (try simp only [Act.put, List.setIfInBounds_toArray, List.set_cons_zero, List.set_cons_succ])
 go_cut [24] (fun v24 wc => ∃ (kq : Nat) (x24_2 : Bool), v24 = .bool x24_2 ∧ Aside0 (spec_ValMeet.j0 kq x24_2 a0_0 a0_1 a0_2 a0_3 a1_0 a1_1 a1_2 a1_3 = some (r1, r2, r3, r4)) ∧ Aside0 (kq ≤ k) ∧ Aside0 (wc.heap[gb749]? = some (.cells #[.int .i64 a0_0, .int .i64 a0_1, .int .i64 a0_2, .int .i64 a0_3] 30 (0, 0))) ∧ Aside0 (wc.heap[gb750]? = some (.cells #[.int .i64 a1_0, .int .i64 a1_1, .int .i64 a1_2, .int .i64 a1_3] 30 (0, 0))) ∧ Aside0 (wc.heap[gb751]? = some (.cells #[.int .i64 0, .int .i64 0, .int .i64 0, .int .i64 0] 30 (0, 0))) ∧ Aside0 (Below w.heap.size w wc))
 case first =>
  have H := HC3.out
  clear HC3
  replace H := sqbi H
  obtain ⟨t752, A7, H⟩ := H
  try dsimp only at H
  rcases sqI (t752 = true) with c8 | c8
  ·replace c8 := Bool.eq_false_iff.mpr c8
   subst c8
   have H1 : (spec_ValMeet.j0 k true a0_0 a0_1 a0_2 a0_3 a1_0 a1_1 a1_2 a1_3) = some (r1, r2, r3, r4) := by rw [if_neg (show ¬ (false = true) by decide)] at H; exact H
   clear H
   have H := H1
   clear H1
   have H' := Aside0.mk H
   clear H
   try go_wp2
   replace BK749 := sqdr BK749
   replace BK750 := sqdr BK750
   replace BK751 := sqdr BK751
   replace HB := sqdB HB
   refine sqst 18 (fun w' => w'.cell? ⟨gb749, 0, none⟩ = some (.int .i64 a0_0) ∧ w'.cell? ⟨gb749, 1, none⟩ = some (.int .i64 a0_1) ∧ w'.cell? ⟨gb749, 2, none⟩ = some (.int .i64 a0_2) ∧ w'.cell? ⟨gb749, 3, none⟩ = some (.int .i64 a0_3)) sqz (fun hHeld => ?_); refine with_tabW spec_ValMeet.tab1 spec_ValMeet.bits1 (fun HT_ HW_ => ?_)
   generalize w6.drew = w26 at BK749 BK750 BK751 HB hHeld ⊢
   refine sqw HT_ HW_ 0 7 hHeld ?_
   refine sqo HT_ 1 8 (fun K hK => ?_)
   refine sqG Try.func80 #[.agg #[.int .i64 a0_0, .int .i64 a0_1, .int .i64 a0_2, .int .i64 a0_3]] ?_
   with_reducible refine (spec_ValOk.calls k a0_0 a0_1 a0_2 a0_3 false _ A7.out).mono ?_
   rintro e w27 ⟨rfl, hb⟩
   refine ⟨_, rfl, ?_⟩
   refine sqM3 BK749 BK750 BK751 hb ?_; clear BK749 BK750 BK751; intro BK749 BK750 BK751
   replace HB := sqs HB hb
   (try clear hb)
   refine hK.out _ _ sqz (fun hHeld => ?_)
   clear hK K
   refine sqnm ?_
   refine sqp HT_ 2 9 ?_
   refine sqp HT_ 3 10 ?_
   refine sqpu HT_ 4 11 ?_
   refine sqpu HT_ 5 12 ?_
   refine sqpu HT_ 6 13 ?_
   refine sqp HT_ 7 14 ?_
   refine sqp HT_ 8 15 ?_
   refine sqpu HT_ 9 16 ?_
   refine sqpu HT_ 10 17 ?_
   refine sqpu HT_ 11 18 ?_
   refine sqp HT_ 12 19 ?_
   refine sqp HT_ 13 20 ?_
   refine sqpu HT_ 14 21 ?_
   refine sqpu HT_ 15 22 ?_
   refine sqpu HT_ 16 23 ?_
   refine sqp HT_ 17 24 ?_
   refine done_ (done_of HT_.out (by kernel_rfl)) ?_
   try go_wp2
   go_meet
   case rel => exact ⟨_, (true), (by first | rfl | (simp; done) | (simp [*]; done)), H', ⟨by first | omega | exact Nat.le_refl _⟩, sqk BK749, sqk BK750, sqk BK751, sqh HB⟩
  subst c8
  have H1 : ((spec_ValOk.f k a1_0 a1_1 a1_2 a1_3).bind fun t753 => (if t753 = true then ((spec_l10None.f).bind fun bt754 => (if (a0_0 == bt754.1 && (a0_1 == bt754.2.1 && (a0_2 == bt754.2.2.1 && (a0_3 == bt754.2.2.2)))) = true then (spec_ValMeet.j0 k true a0_0 a0_1 a0_2 a0_3 a1_0 a1_1 a1_2 a1_3) else ((spec_l10None.f).bind fun bt758 => (spec_ValMeet.j0 k (a1_0 == bt758.1 && (a1_1 == bt758.2.1 && (a1_2 == bt758.2.2.1 && (a1_3 == bt758.2.2.2)))) a0_0 a0_1 a0_2 a0_3 a1_0 a1_1 a1_2 a1_3)))) else (spec_ValMeet.j0 k true a0_0 a0_1 a0_2 a0_3 a1_0 a1_1 a1_2 a1_3))) = some (r1, r2, r3, r4) := by rw [if_pos rfl] at H; exact H
  clear H
  have H := H1
  clear H1
  replace H := sqbi H
  obtain ⟨t753, A9, H⟩ := H
  try dsimp only at H
  rcases sqI (t753 = true) with c10 | c10
  ·replace c10 := Bool.eq_false_iff.mpr c10
   subst c10
   have H1 : (spec_ValMeet.j0 k true a0_0 a0_1 a0_2 a0_3 a1_0 a1_1 a1_2 a1_3) = some (r1, r2, r3, r4) := by rw [if_neg (show ¬ (false = true) by decide)] at H; exact H
   clear H
   have H := H1
   clear H1
   have H' := Aside0.mk H
   clear H
   try go_wp2
   replace BK749 := sqdr BK749
   replace BK750 := sqdr BK750
   replace BK751 := sqdr BK751
   replace HB := sqdB HB
   refine sqst 18 (fun w' => w'.cell? ⟨gb749, 0, none⟩ = some (.int .i64 a0_0) ∧ w'.cell? ⟨gb749, 1, none⟩ = some (.int .i64 a0_1) ∧ w'.cell? ⟨gb749, 2, none⟩ = some (.int .i64 a0_2) ∧ w'.cell? ⟨gb749, 3, none⟩ = some (.int .i64 a0_3) ∧ w'.cell? ⟨gb750, 0, none⟩ = some (.int .i64 a1_0) ∧ w'.cell? ⟨gb750, 1, none⟩ = some (.int .i64 a1_1) ∧ w'.cell? ⟨gb750, 2, none⟩ = some (.int .i64 a1_2) ∧ w'.cell? ⟨gb750, 3, none⟩ = some (.int .i64 a1_3)) sqz (fun hHeld => ?_); refine with_tabW spec_ValMeet.tab1 spec_ValMeet.bits1 (fun HT_ HW_ => ?_)
   generalize w6.drew = w23 at BK749 BK750 BK751 HB hHeld ⊢
   refine sqw HT_ HW_ 0 7 hHeld ?_
   refine sqo HT_ 1 8 (fun K hK => ?_)
   refine sqG Try.func80 #[.agg #[.int .i64 a0_0, .int .i64 a0_1, .int .i64 a0_2, .int .i64 a0_3]] ?_
   with_reducible refine (spec_ValOk.calls k a0_0 a0_1 a0_2 a0_3 true _ A7.out).mono ?_
   rintro e w24 ⟨rfl, hb⟩
   refine ⟨_, rfl, ?_⟩
   refine sqM3 BK749 BK750 BK751 hb ?_; clear BK749 BK750 BK751; intro BK749 BK750 BK751
   replace HB := sqs HB hb
   (try clear hb)
   refine hK.out _ _ sqz (fun hHeld => ?_)
   clear hK K
   refine sqnm ?_
   refine sqp HT_ 2 9 ?_
   refine sqp HT_ 3 10 ?_
   refine sqw HT_ HW_ 4 11 hHeld ?_
   refine sqo HT_ 5 12 (fun K hK => ?_)
   refine sqG Try.func80 #[.agg #[.int .i64 a1_0, .int .i64 a1_1, .int .i64 a1_2, .int .i64 a1_3]] ?_
   with_reducible refine (spec_ValOk.calls k a1_0 a1_1 a1_2 a1_3 false _ A9.out).mono ?_
   rintro e w25 ⟨rfl, hb⟩
   refine ⟨_, rfl, ?_⟩
   refine sqM3 BK749 BK750 BK751 hb ?_; clear BK749 BK750 BK751; intro BK749 BK750 BK751
   replace HB := sqs HB hb
   (try clear hb)
   refine hK.out _ _ sqz (fun hHeld => ?_)
   clear hK K
   refine sqnm ?_
   refine sqp HT_ 6 13 ?_
   refine sqp HT_ 7 14 ?_
   refine sqp HT_ 8 15 ?_
   refine sqpu HT_ 9 16 ?_
   refine sqpu HT_ 10 17 ?_
   refine sqpu HT_ 11 18 ?_
   refine sqp HT_ 12 19 ?_
   refine sqp HT_ 13 20 ?_
   refine sqpu HT_ 14 21 ?_
   refine sqpu HT_ 15 22 ?_
   refine sqpu HT_ 16 23 ?_
   refine sqp HT_ 17 24 ?_
   refine done_ (done_of HT_.out (by kernel_rfl)) ?_
   try go_wp2
   go_meet
   case rel => exact ⟨_, (true), (by first | rfl | (simp; done) | (simp [*]; done)), H', ⟨by first | omega | exact Nat.le_refl _⟩, sqk BK749, sqk BK750, sqk BK751, sqh HB⟩
  subst c10
  have H1 : ((spec_l10None.f).bind fun bt754 => (if (a0_0 == bt754.1 && (a0_1 == bt754.2.1 && (a0_2 == bt754.2.2.1 && (a0_3 == bt754.2.2.2)))) = true then (spec_ValMeet.j0 k true a0_0 a0_1 a0_2 a0_3 a1_0 a1_1 a1_2 a1_3) else ((spec_l10None.f).bind fun bt758 => (spec_ValMeet.j0 k (a1_0 == bt758.1 && (a1_1 == bt758.2.1 && (a1_2 == bt758.2.2.1 && (a1_3 == bt758.2.2.2)))) a0_0 a0_1 a0_2 a0_3 a1_0 a1_1 a1_2 a1_3)))) = some (r1, r2, r3, r4) := by rw [if_pos rfl] at H; exact H
  clear H
  have H := H1
  clear H1
  replace H := sqbi H
  obtain ⟨⟨t754, t755, t756, t757⟩, A11, H⟩ := H
  try dsimp only at H
  replace H := sqj H
  rcases H with ⟨c12, H⟩ | ⟨c12, H⟩
  ·have c12b0 : (a0_0 == t754 && (a0_1 == t755 && (a0_2 == t756 && (a0_3 == t757)))) = true := c12
   (try (have c12b1 : decide (a0_0 = t754 && (a0_1 == t755 && (a0_2 == t756 && (a0_3 == t757)))) = true := by simpa using c12))
   (try (have c12b2 : (a0_0 == t754 && (a0_1 == t755 && (a0_2 == t756 && (a0_3 == t757)))) = true := by simpa using c12))
   clear c12
   (first | rw [c12b0] | (simp only [i64_w, i32_w]; rw [c12b0]) | skip)
   have H' := Aside0.mk H
   clear H
   try go_wp2
   replace BK749 := sqdr BK749
   replace BK750 := sqdr BK750
   replace BK751 := sqdr BK751
   replace HB := sqdB HB
   refine sqst 18 (fun w' => w'.cell? ⟨gb749, 0, none⟩ = some (.int .i64 a0_0) ∧ w'.cell? ⟨gb749, 1, none⟩ = some (.int .i64 a0_1) ∧ w'.cell? ⟨gb749, 2, none⟩ = some (.int .i64 a0_2) ∧ w'.cell? ⟨gb749, 3, none⟩ = some (.int .i64 a0_3) ∧ w'.cell? ⟨gb750, 0, none⟩ = some (.int .i64 a1_0) ∧ w'.cell? ⟨gb750, 1, none⟩ = some (.int .i64 a1_1) ∧ w'.cell? ⟨gb750, 2, none⟩ = some (.int .i64 a1_2) ∧ w'.cell? ⟨gb750, 3, none⟩ = some (.int .i64 a1_3)) sqz (fun hHeld => ?_); refine with_tabW spec_ValMeet.tab1 spec_ValMeet.bits1 (fun HT_ HW_ => ?_)
   generalize w6.drew = w13 at BK749 BK750 BK751 HB hHeld ⊢
   refine sqw HT_ HW_ 0 7 hHeld ?_
   refine sqo HT_ 1 8 (fun K hK => ?_)
   refine sqG Try.func80 #[.agg #[.int .i64 a0_0, .int .i64 a0_1, .int .i64 a0_2, .int .i64 a0_3]] ?_
   with_reducible refine (spec_ValOk.calls k a0_0 a0_1 a0_2 a0_3 true _ A7.out).mono ?_
   rintro e w14 ⟨rfl, hb⟩
   refine ⟨_, rfl, ?_⟩
   refine sqM3 BK749 BK750 BK751 hb ?_; clear BK749 BK750 BK751; intro BK749 BK750 BK751
   replace HB := sqs HB hb
   (try clear hb)
   refine hK.out _ _ sqz (fun hHeld => ?_)
   clear hK K
   refine sqnm ?_
   refine sqp HT_ 2 9 ?_
   refine sqp HT_ 3 10 ?_
   refine sqw HT_ HW_ 4 11 hHeld ?_
   refine sqo HT_ 5 12 (fun K hK => ?_)
   refine sqG Try.func80 #[.agg #[.int .i64 a1_0, .int .i64 a1_1, .int .i64 a1_2, .int .i64 a1_3]] ?_
   with_reducible refine (spec_ValOk.calls k a1_0 a1_1 a1_2 a1_3 true _ A9.out).mono ?_
   rintro e w15 ⟨rfl, hb⟩
   refine ⟨_, rfl, ?_⟩
   refine sqM3 BK749 BK750 BK751 hb ?_; clear BK749 BK750 BK751; intro BK749 BK750 BK751
   replace HB := sqs HB hb
   (try clear hb)
   refine hK.out _ _ sqz (fun hHeld => ?_)
   clear hK K
   refine sqnm ?_
   refine sqp HT_ 6 13 ?_
   refine sqp HT_ 7 14 ?_
   refine sqp HT_ 8 15 ?_
   refine sqw HT_ HW_ 9 16 hHeld ?_
   refine sqo HT_ 10 17 (fun K hK => ?_)
   refine sqG Try.func100 #[] ?_
   with_reducible refine (spec_l10None.calls  t754 t755 t756 t757 _ A11.out).mono ?_
   rintro e w16 ⟨rfl, hb⟩
   refine ⟨_, rfl, ?_⟩
   refine sqM3 BK749 BK750 BK751 hb ?_; clear BK749 BK750 BK751; intro BK749 BK750 BK751
   replace HB := sqs HB hb
   (try clear hb)
   refine hK.out _ _ sqz (fun hHeld => ?_)
   clear hK K
   refine sqnm ?_
   refine sqp HT_ 11 18 ?_
   refine sqp HT_ 12 19 ?_
   refine sqp HT_ 13 20 ?_
   refine sqpu HT_ 14 21 ?_
   refine sqpu HT_ 15 22 ?_
   refine sqpu HT_ 16 23 ?_
   refine sqp HT_ 17 24 ?_
   refine done_ (done_of HT_.out (by kernel_rfl)) ?_
   try go_wp2
   go_meet
   case rel => exact ⟨_, (true), (by first | rfl | (simp; done) | (simp [*]; done)), H', ⟨by first | omega | exact Nat.le_refl _⟩, sqk BK749, sqk BK750, sqk BK751, sqh HB⟩
  have c12b0 : (a0_0 == t754 && (a0_1 == t755 && (a0_2 == t756 && (a0_3 == t757)))) = false := by simpa using c12
  (try (have c12b1 : decide (a0_0 = t754 && (a0_1 == t755 && (a0_2 == t756 && (a0_3 == t757)))) = false := by simpa using c12))
  (try (have c12b2 : (a0_0 == t754 && (a0_1 == t755 && (a0_2 == t756 && (a0_3 == t757)))) = false := by simpa using c12))
  (try (have c12b3 : ¬ (a0_0 = t754 && (a0_1 == t755 && (a0_2 == t756 && (a0_3 == t757)))) := by simpa using c12))
  clear c12
  (first | rw [c12b0] | (simp only [i64_w, i32_w]; rw [c12b0]) | skip)
  replace H := sqbi H
  obtain ⟨⟨t758, t759, t760, t761⟩, A17, H⟩ := H
  try dsimp only at H
  have H' := Aside0.mk H
  clear H
  try go_wp2
  replace BK749 := sqdr BK749
  replace BK750 := sqdr BK750
  replace BK751 := sqdr BK751
  replace HB := sqdB HB
  refine sqst 18 (fun w' => w'.cell? ⟨gb749, 0, none⟩ = some (.int .i64 a0_0) ∧ w'.cell? ⟨gb749, 1, none⟩ = some (.int .i64 a0_1) ∧ w'.cell? ⟨gb749, 2, none⟩ = some (.int .i64 a0_2) ∧ w'.cell? ⟨gb749, 3, none⟩ = some (.int .i64 a0_3) ∧ w'.cell? ⟨gb750, 0, none⟩ = some (.int .i64 a1_0) ∧ w'.cell? ⟨gb750, 1, none⟩ = some (.int .i64 a1_1) ∧ w'.cell? ⟨gb750, 2, none⟩ = some (.int .i64 a1_2) ∧ w'.cell? ⟨gb750, 3, none⟩ = some (.int .i64 a1_3)) sqz (fun hHeld => ?_); refine with_tabW spec_ValMeet.tab1 spec_ValMeet.bits1 (fun HT_ HW_ => ?_)
  generalize w6.drew = w18 at BK749 BK750 BK751 HB hHeld ⊢
  refine sqw HT_ HW_ 0 7 hHeld ?_
  refine sqo HT_ 1 8 (fun K hK => ?_)
  refine sqG Try.func80 #[.agg #[.int .i64 a0_0, .int .i64 a0_1, .int .i64 a0_2, .int .i64 a0_3]] ?_
  with_reducible refine (spec_ValOk.calls k a0_0 a0_1 a0_2 a0_3 true _ A7.out).mono ?_
  rintro e w19 ⟨rfl, hb⟩
  refine ⟨_, rfl, ?_⟩
  refine sqM3 BK749 BK750 BK751 hb ?_; clear BK749 BK750 BK751; intro BK749 BK750 BK751
  replace HB := sqs HB hb
  (try clear hb)
  refine hK.out _ _ sqz (fun hHeld => ?_)
  clear hK K
  refine sqnm ?_
  refine sqp HT_ 2 9 ?_
  refine sqp HT_ 3 10 ?_
  refine sqw HT_ HW_ 4 11 hHeld ?_
  refine sqo HT_ 5 12 (fun K hK => ?_)
  refine sqG Try.func80 #[.agg #[.int .i64 a1_0, .int .i64 a1_1, .int .i64 a1_2, .int .i64 a1_3]] ?_
  with_reducible refine (spec_ValOk.calls k a1_0 a1_1 a1_2 a1_3 true _ A9.out).mono ?_
  rintro e w20 ⟨rfl, hb⟩
  refine ⟨_, rfl, ?_⟩
  refine sqM3 BK749 BK750 BK751 hb ?_; clear BK749 BK750 BK751; intro BK749 BK750 BK751
  replace HB := sqs HB hb
  (try clear hb)
  refine hK.out _ _ sqz (fun hHeld => ?_)
  clear hK K
  refine sqnm ?_
  refine sqp HT_ 6 13 ?_
  refine sqp HT_ 7 14 ?_
  refine sqp HT_ 8 15 ?_
  refine sqw HT_ HW_ 9 16 hHeld ?_
  refine sqo HT_ 10 17 (fun K hK => ?_)
  refine sqG Try.func100 #[] ?_
  with_reducible refine (spec_l10None.calls  t754 t755 t756 t757 _ A11.out).mono ?_
  rintro e w21 ⟨rfl, hb⟩
  refine ⟨_, rfl, ?_⟩
  refine sqM3 BK749 BK750 BK751 hb ?_; clear BK749 BK750 BK751; intro BK749 BK750 BK751
  replace HB := sqs HB hb
  (try clear hb)
  refine hK.out _ _ sqz (fun hHeld => ?_)
  clear hK K
  refine sqnm ?_
  refine sqp HT_ 11 18 ?_
  refine sqp HT_ 12 19 ?_
  refine sqp HT_ 13 20 ?_
  refine sqw HT_ HW_ 14 21 hHeld ?_
  refine sqo HT_ 15 22 (fun K hK => ?_)
  refine sqG Try.func100 #[] ?_
  with_reducible refine (spec_l10None.calls  t758 t759 t760 t761 _ A17.out).mono ?_
  rintro e w22 ⟨rfl, hb⟩
  refine ⟨_, rfl, ?_⟩
  refine sqM3 BK749 BK750 BK751 hb ?_; clear BK749 BK750 BK751; intro BK749 BK750 BK751
  replace HB := sqs HB hb
  (try clear hb)
  refine hK.out _ _ sqz (fun hHeld => ?_)
  clear hK K
  refine sqnm ?_
  refine sqp HT_ 16 23 ?_
  refine sqp HT_ 17 24 ?_
  refine done_ (done_of HT_.out (by kernel_rfl)) ?_
  try go_wp2
  go_meet
  case rel => exact ⟨_, ((a1_0 == t758 && (a1_1 == t759 && (a1_2 == t760 && (a1_3 == t761))))), (by first | rfl | (simp; done) | (simp [*]; done)), H', ⟨by first | omega | exact Nat.le_refl _⟩, sqk BK749, sqk BK750, sqk BK751, sqh HB⟩
 case rest =>
  clear HC3
  obtain ⟨kq, x24_2, rfl, HA, HJ2, BK749, BK750, BK751, HB⟩ := hcut
  cases kq with
  | zero => exact absurd HA.out (by simp [spec_ValMeet.j0])
  | succ kj2 =>
   have H := HA.out
   clear HA
   simp only [spec_ValMeet.j0] at H
   by_cases c28 : x24_2 = true
   ·subst c28
    have H1 : ((spec_l10None.f).bind fun bt762 => (some (bt762.1, bt762.2.1, bt762.2.2.1, bt762.2.2.2))) = some (r1, r2, r3, r4) := by rw [if_pos rfl] at H; exact H
    clear H
    have H := H1
    clear H1
    replace H := sqbi H
    obtain ⟨⟨t762, t763, t764, t765⟩, A29, H⟩ := H
    try dsimp only at H
    simp only [Option.some.injEq, Prod.mk.injEq] at H
    obtain ⟨rfl, rfl, rfl, rfl⟩ := H
    go_wp2_with (first | ((with_reducible refine gate_callee (f := 100) rfl ?_); refine sqL (some 25) Try.func100 #[] ?_; (with_reducible refine (spec_l10None.calls  t762 t763 t764 t765 _ A29.out).mono ?_); rintro e w30 ⟨rfl, hb⟩; refine ⟨_, rfl, ?_⟩; refine sqM3 BK749 BK750 BK751 hb ?_; clear BK749 BK750 BK751; intro BK749 BK750 BK751; replace HB := sqs HB hb; (try clear hb); obtain ⟨_, _, _, _⟩ := sqN2 NB751_749 NB751_750; obtain ⟨_, _, _, _, _, _, _, _⟩ := sqc4 BK751))
    refine bodyPost_ret (results_cell_row rfl _ _ gb751 30 #[.int .i64 t762, .int .i64 t763, .int .i64 t764, .int .i64 t765] (0, 0) _ rfl (sqP BK751) Try.underlying30 rfl (by kernel_rfl)) rfl ?_
    exact sqe HB
   replace c28 := Bool.eq_false_iff.mpr c28
   subst c28
   have H1 : ((spec_l10Rest.f a0_0 a0_1 a0_2 a0_3).bind fun bt766 => ((spec_l10Rest.f a1_0 a1_1 a1_2 a1_3).bind fun bt768 => ((spec_RestMeet.f kj2 bt766.1 bt766.2 bt768.1 bt768.2).bind fun bt770 => (if bt770.2.2 = true then ((spec_l10Range.f a0_0 a0_1 a0_2 a0_3).bind fun bt778 => ((spec_l10Range.f a1_0 a1_1 a1_2 a1_3).bind fun bt780 => ((spec_RangeMeet.f kj2 bt778.1 bt778.2 bt780.1 bt780.2).bind fun bt782 => ((spec_ValMake.f kj2 bt782.1 bt782.2 bt770.1 bt770.2.1).bind fun bt784 => (some (bt784.1, bt784.2.1, bt784.2.2.1, bt784.2.2.2)))))) else ((spec_l10None.f).bind fun bt774 => (some (bt774.1, bt774.2.1, bt774.2.2.1, bt774.2.2.2))))))) = some (r1, r2, r3, r4) := by rw [if_neg (show ¬ (false = true) by decide)] at H; exact H
   clear H
   have H := H1
   clear H1
   replace H := sqbi H
   obtain ⟨⟨t766, t767⟩, A34, H⟩ := H
   try dsimp only at H
   replace H := sqbi H
   obtain ⟨⟨t768, t769⟩, A35, H⟩ := H
   try dsimp only at H
   replace H := sqbi H
   obtain ⟨⟨t770, t771, t772⟩, A36, H⟩ := H
   try dsimp only at H
   rcases sqI (t772 = true) with c37 | c37
   ·replace c37 := Bool.eq_false_iff.mpr c37
    subst c37
    have H1 : ((spec_l10None.f).bind fun bt774 => (some (bt774.1, bt774.2.1, bt774.2.2.1, bt774.2.2.2))) = some (r1, r2, r3, r4) := by rw [if_neg (show ¬ (false = true) by decide)] at H; exact H
    clear H
    have H := H1
    clear H1
    replace H := sqbi H
    obtain ⟨⟨t774, t775, t776, t777⟩, A60, H⟩ := H
    try dsimp only at H
    simp only [Option.some.injEq, Prod.mk.injEq] at H
    obtain ⟨rfl, rfl, rfl, rfl⟩ := H
    try go_wp2
    replace BK749 := sqdr BK749
    replace BK750 := sqdr BK750
    replace BK751 := sqdr BK751
    replace HB := sqdB HB
    refine sqst 11 (fun w' => w'.cell? ⟨gb749, 0, none⟩ = some (.int .i64 a0_0) ∧ w'.cell? ⟨gb749, 1, none⟩ = some (.int .i64 a0_1) ∧ w'.cell? ⟨gb749, 2, none⟩ = some (.int .i64 a0_2) ∧ w'.cell? ⟨gb749, 3, none⟩ = some (.int .i64 a0_3) ∧ w'.cell? ⟨gb750, 0, none⟩ = some (.int .i64 a1_0) ∧ w'.cell? ⟨gb750, 1, none⟩ = some (.int .i64 a1_1) ∧ w'.cell? ⟨gb750, 2, none⟩ = some (.int .i64 a1_2) ∧ w'.cell? ⟨gb750, 3, none⟩ = some (.int .i64 a1_3)) sqz (fun hHeld => ?_); refine with_tabW spec_ValMeet.tab3 spec_ValMeet.bits3 (fun HT_ HW_ => ?_)
    generalize wc.drew = w61 at BK749 BK750 BK751 HB hHeld ⊢
    refine sqw HT_ HW_ 0 27 hHeld ?_
    refine sqw HT_ HW_ 2 29 hHeld ?_
    refine join_ (σ := Nat) 2 #[true, true, true, true, true, true, true, true, true, false, false] (fun s_ => [(28, .agg #[.int .i64 t766, .int .i64 t767]), (30, .agg #[.int .i64 t768, .int .i64 t769]), (31, .tuple #[.agg #[.int .i64 t770, .int .i64 t771], .bool false]), (5, .pointer (some ⟨s_, 0, none⟩)), (26, .tuple #[.agg #[.int .i64 t770, .int .i64 t771], .bool false]), (32, .agg #[.int .i64 t770, .int .i64 t771]), (33, .bool false)]) (fun s_ w' => (w'.cell? ⟨gb749, 0, none⟩ = some (.int .i64 a0_0) ∧ w'.cell? ⟨gb749, 1, none⟩ = some (.int .i64 a0_1) ∧ w'.cell? ⟨gb749, 2, none⟩ = some (.int .i64 a0_2) ∧ w'.cell? ⟨gb749, 3, none⟩ = some (.int .i64 a0_3) ∧ w'.cell? ⟨gb750, 0, none⟩ = some (.int .i64 a1_0) ∧ w'.cell? ⟨gb750, 1, none⟩ = some (.int .i64 a1_1) ∧ w'.cell? ⟨gb750, 2, none⟩ = some (.int .i64 a1_2) ∧ w'.cell? ⟨gb750, 3, none⟩ = some (.int .i64 a1_3)) ∧ (w'.heap[gb749]? = some (.cells #[.int .i64 a0_0, .int .i64 a0_1, .int .i64 a0_2, .int .i64 a0_3] 30 (0, 0))) ∧ (w'.heap[gb750]? = some (.cells #[.int .i64 a1_0, .int .i64 a1_1, .int .i64 a1_2, .int .i64 a1_3] 30 (0, 0))) ∧ (w'.heap[gb751]? = some (.cells #[.int .i64 0, .int .i64 0, .int .i64 0, .int .i64 0] 30 (0, 0))) ∧ (w'.heap[s_]? = some (.cells #[.int .i64 0, .int .i64 0] 26 (0, 0))) ∧ (w.heap.size ≤ s_) ∧ (w.heap.size ≤ s_) ∧ (gb749 ≠ s_) ∧ (s_ ≠ gb749) ∧ (gb750 ≠ s_) ∧ (s_ ≠ gb750) ∧ (gb751 ≠ s_) ∧ (s_ ≠ gb751) ∧ (Below w.heap.size w w')) ?_ ?_
    rotate_left
    ·intro hCont
     refine two_ (i := 1) (j := 8) (Ni := some 28) (Nj := some 5) #[true, true, true, false, false, false, false, false, false, false, false] #[true, false, true, false, false, false, false, false, true, false, false] rfl rfl rfl rfl (two_of HT_.out (by kernel_rfl)) (by decide) (by decide) (fun K hK => ?_) (fun K hK => ?_)
     ·skip
      refine sqG Try.func181 #[.agg #[.int .i64 a0_0, .int .i64 a0_1, .int .i64 a0_2, .int .i64 a0_3]] ?_
      with_reducible refine (spec_l10Rest.calls a0_0 a0_1 a0_2 a0_3 t766 t767 _ A34.out).mono ?_
      rintro e w62 ⟨rfl, hb⟩
      refine ⟨_, rfl, ?_⟩
      refine sqM3 BK749 BK750 BK751 hb ?_; clear BK749 BK750 BK751; intro BK749 BK750 BK751
      replace HB := sqs HB hb
      (try clear hb)
      refine hK.out _ _ sqz (fun hHeld => ?_)
      clear hK K
      refine sqnm ?_
      refine two_ (i := 3) (j := 8) (Ni := some 30) (Nj := some 5) #[true, true, true, true, false, false, false, false, false, false, false] #[true, true, true, false, false, false, false, false, true, false, false] rfl rfl rfl rfl (two_of HT_.out (by kernel_rfl)) (by decide) (by decide) (fun K hK => ?_) (fun K hK => ?_)
      ·skip
       refine sqG Try.func181 #[.agg #[.int .i64 a1_0, .int .i64 a1_1, .int .i64 a1_2, .int .i64 a1_3]] ?_
       with_reducible refine (spec_l10Rest.calls a1_0 a1_1 a1_2 a1_3 t768 t769 _ A35.out).mono ?_
       rintro e w63 ⟨rfl, hb⟩
       refine ⟨_, rfl, ?_⟩
       refine sqM3 BK749 BK750 BK751 hb ?_; clear BK749 BK750 BK751; intro BK749 BK750 BK751
       replace HB := sqs HB hb
       (try clear hb)
       refine hK.out _ _ sqz (fun hHeld => ?_)
       clear hK K
       refine sqnm ?_
       refine two_ (i := 4) (j := 8) (Ni := some 31) (Nj := some 5) #[true, true, true, true, true, false, false, false, false, false, false] #[true, true, true, true, false, false, false, false, true, false, false] rfl rfl rfl rfl (two_of HT_.out (by kernel_rfl)) (by decide) (by decide) (fun K hK => ?_) (fun K hK => ?_)
       ·skip
        refine sqG Try.func190 #[.agg #[.int .i64 t766, .int .i64 t767], .agg #[.int .i64 t768, .int .i64 t769]] ?_
        with_reducible refine (spec_RestMeet.calls kj2 t766 t767 t768 t769 t770 t771 false _ A36.out).mono ?_
        rintro e w64 ⟨rfl, hb⟩
        refine ⟨_, rfl, ?_⟩
        refine sqM3 BK749 BK750 BK751 hb ?_; clear BK749 BK750 BK751; intro BK749 BK750 BK751
        replace HB := sqs HB hb
        (try clear hb)
        refine hK.out _ _ sqz (fun hHeld => ?_)
        clear hK K
        refine sqnm ?_
        refine sqp HT_ 5 26 ?_
        refine sqp HT_ 6 32 ?_
        refine sqp HT_ 7 33 ?_
        refine sqo HT_ 8 5 (fun K hK => ?_)
        refine box_step ?hg (N := 5) ?hd (cs := #[.int .i64 0, .int .i64 0]) (t := 26) ?hr ?_; (case hd => rfl); (case hg => rfl); (case hr => first | (go_simp; done) | (go_simp; rfl))
        intro gb773 hg w65 hbox hb
        have BK773 := Aside0.mk (hbox)
        have GW773 := sqg HB hg
        have GE773 := sqg HB hg
        have NB749_773 := sqn BK749 hg
        have NB773_749 := sqm BK749 hg
        have NB750_773 := sqn BK750 hg
        have NB773_750 := sqm BK750 hg
        have NB751_773 := sqn BK751 hg
        have NB773_751 := sqm BK751 hg
        refine sqM3 BK749 BK750 BK751 hb ?_; clear BK749 BK750 BK751; intro BK749 BK750 BK751
        replace HB := sqs HB hb
        clear hb hbox hg
        refine hK.out _ _ sqz (fun hHeld => ?_)
        clear hK K
        refine sqnm ?_
        exact norm_ sqnn (hCont (gb773) _ ⟨hHeld, (sqt BK749.out), (sqt BK750.out), (sqt BK751.out), (sqt BK773.out), GW773.out, GE773.out, NB749_773.out, NB773_749.out, NB750_773.out, NB773_750.out, NB751_773.out, NB773_751.out, (sqB HB)⟩)
       ·skip
        refine box_step ?hg (N := 5) ?hd (cs := #[.int .i64 0, .int .i64 0]) (t := 26) ?hr ?_; (case hd => rfl); (case hg => rfl); (case hr => first | (go_simp; done) | (go_simp; rfl))
        intro gb773 hg w64 hbox hb
        have BK773 := Aside0.mk (hbox)
        have GW773 := sqg HB hg
        have GE773 := sqg HB hg
        have NB749_773 := sqn BK749 hg
        have NB773_749 := sqm BK749 hg
        have NB750_773 := sqn BK750 hg
        have NB773_750 := sqm BK750 hg
        have NB751_773 := sqn BK751 hg
        have NB773_751 := sqm BK751 hg
        refine sqM3 BK749 BK750 BK751 hb ?_; clear BK749 BK750 BK751; intro BK749 BK750 BK751
        replace HB := sqs HB hb
        clear hb hbox hg
        refine hK.out _ _ sqz (fun hHeld => ?_)
        clear hK K
        refine sqnm ?_
        refine sqo HT_ 4 31 (fun K hK => ?_)
        refine sqG Try.func190 #[.agg #[.int .i64 t766, .int .i64 t767], .agg #[.int .i64 t768, .int .i64 t769]] ?_
        with_reducible refine (spec_RestMeet.calls kj2 t766 t767 t768 t769 t770 t771 false _ A36.out).mono ?_
        rintro e w65 ⟨rfl, hb⟩
        refine ⟨_, rfl, ?_⟩
        refine sqM4 BK749 BK750 BK751 BK773 hb ?_; clear BK749 BK750 BK751 BK773; intro BK749 BK750 BK751 BK773
        replace HB := sqs HB hb
        (try clear hb)
        refine hK.out _ _ sqz (fun hHeld => ?_)
        clear hK K
        refine sqnm ?_
        refine sqp HT_ 5 26 ?_
        refine sqp HT_ 6 32 ?_
        refine sqp HT_ 7 33 ?_
        exact norm_ sqnn (hCont (gb773) _ ⟨hHeld, (sqt BK749.out), (sqt BK750.out), (sqt BK751.out), (sqt BK773.out), GW773.out, GE773.out, NB749_773.out, NB773_749.out, NB750_773.out, NB773_750.out, NB751_773.out, NB773_751.out, (sqB HB)⟩)
      ·skip
       refine box_step ?hg (N := 5) ?hd (cs := #[.int .i64 0, .int .i64 0]) (t := 26) ?hr ?_; (case hd => rfl); (case hg => rfl); (case hr => first | (go_simp; done) | (go_simp; rfl))
       intro gb773 hg w63 hbox hb
       have BK773 := Aside0.mk (hbox)
       have GW773 := sqg HB hg
       have GE773 := sqg HB hg
       have NB749_773 := sqn BK749 hg
       have NB773_749 := sqm BK749 hg
       have NB750_773 := sqn BK750 hg
       have NB773_750 := sqm BK750 hg
       have NB751_773 := sqn BK751 hg
       have NB773_751 := sqm BK751 hg
       refine sqM3 BK749 BK750 BK751 hb ?_; clear BK749 BK750 BK751; intro BK749 BK750 BK751
       replace HB := sqs HB hb
       clear hb hbox hg
       refine hK.out _ _ sqz (fun hHeld => ?_)
       clear hK K
       refine sqnm ?_
       refine sqo HT_ 3 30 (fun K hK => ?_)
       refine sqG Try.func181 #[.agg #[.int .i64 a1_0, .int .i64 a1_1, .int .i64 a1_2, .int .i64 a1_3]] ?_
       with_reducible refine (spec_l10Rest.calls a1_0 a1_1 a1_2 a1_3 t768 t769 _ A35.out).mono ?_
       rintro e w64 ⟨rfl, hb⟩
       refine ⟨_, rfl, ?_⟩
       refine sqM4 BK749 BK750 BK751 BK773 hb ?_; clear BK749 BK750 BK751 BK773; intro BK749 BK750 BK751 BK773
       replace HB := sqs HB hb
       (try clear hb)
       refine hK.out _ _ sqz (fun hHeld => ?_)
       clear hK K
       refine sqnm ?_
       refine sqo HT_ 4 31 (fun K hK => ?_)
       refine sqG Try.func190 #[.agg #[.int .i64 t766, .int .i64 t767], .agg #[.int .i64 t768, .int .i64 t769]] ?_
       with_reducible refine (spec_RestMeet.calls kj2 t766 t767 t768 t769 t770 t771 false _ A36.out).mono ?_
       rintro e w65 ⟨rfl, hb⟩
       refine ⟨_, rfl, ?_⟩
       refine sqM4 BK749 BK750 BK751 BK773 hb ?_; clear BK749 BK750 BK751 BK773; intro BK749 BK750 BK751 BK773
       replace HB := sqs HB hb
       (try clear hb)
       refine hK.out _ _ sqz (fun hHeld => ?_)
       clear hK K
       refine sqnm ?_
       refine sqp HT_ 5 26 ?_
       refine sqp HT_ 6 32 ?_
       refine sqp HT_ 7 33 ?_
       exact norm_ sqnn (hCont (gb773) _ ⟨hHeld, (sqt BK749.out), (sqt BK750.out), (sqt BK751.out), (sqt BK773.out), GW773.out, GE773.out, NB749_773.out, NB773_749.out, NB750_773.out, NB773_750.out, NB751_773.out, NB773_751.out, (sqB HB)⟩)
     ·skip
      refine box_step ?hg (N := 5) ?hd (cs := #[.int .i64 0, .int .i64 0]) (t := 26) ?hr ?_; (case hd => rfl); (case hg => rfl); (case hr => first | (go_simp; done) | (go_simp; rfl))
      intro gb773 hg w62 hbox hb
      have BK773 := Aside0.mk (hbox)
      have GW773 := sqg HB hg
      have GE773 := sqg HB hg
      have NB749_773 := sqn BK749 hg
      have NB773_749 := sqm BK749 hg
      have NB750_773 := sqn BK750 hg
      have NB773_750 := sqm BK750 hg
      have NB751_773 := sqn BK751 hg
      have NB773_751 := sqm BK751 hg
      refine sqM3 BK749 BK750 BK751 hb ?_; clear BK749 BK750 BK751; intro BK749 BK750 BK751
      replace HB := sqs HB hb
      clear hb hbox hg
      refine hK.out _ _ sqz (fun hHeld => ?_)
      clear hK K
      refine sqnm ?_
      refine sqo HT_ 1 28 (fun K hK => ?_)
      refine sqG Try.func181 #[.agg #[.int .i64 a0_0, .int .i64 a0_1, .int .i64 a0_2, .int .i64 a0_3]] ?_
      with_reducible refine (spec_l10Rest.calls a0_0 a0_1 a0_2 a0_3 t766 t767 _ A34.out).mono ?_
      rintro e w63 ⟨rfl, hb⟩
      refine ⟨_, rfl, ?_⟩
      refine sqM4 BK749 BK750 BK751 BK773 hb ?_; clear BK749 BK750 BK751 BK773; intro BK749 BK750 BK751 BK773
      replace HB := sqs HB hb
      (try clear hb)
      refine hK.out _ _ sqz (fun hHeld => ?_)
      clear hK K
      refine sqnm ?_
      refine sqo HT_ 3 30 (fun K hK => ?_)
      refine sqG Try.func181 #[.agg #[.int .i64 a1_0, .int .i64 a1_1, .int .i64 a1_2, .int .i64 a1_3]] ?_
      with_reducible refine (spec_l10Rest.calls a1_0 a1_1 a1_2 a1_3 t768 t769 _ A35.out).mono ?_
      rintro e w64 ⟨rfl, hb⟩
      refine ⟨_, rfl, ?_⟩
      refine sqM4 BK749 BK750 BK751 BK773 hb ?_; clear BK749 BK750 BK751 BK773; intro BK749 BK750 BK751 BK773
      replace HB := sqs HB hb
      (try clear hb)
      refine hK.out _ _ sqz (fun hHeld => ?_)
      clear hK K
      refine sqnm ?_
      refine sqo HT_ 4 31 (fun K hK => ?_)
      refine sqG Try.func190 #[.agg #[.int .i64 t766, .int .i64 t767], .agg #[.int .i64 t768, .int .i64 t769]] ?_
      with_reducible refine (spec_RestMeet.calls kj2 t766 t767 t768 t769 t770 t771 false _ A36.out).mono ?_
      rintro e w65 ⟨rfl, hb⟩
      refine ⟨_, rfl, ?_⟩
      refine sqM4 BK749 BK750 BK751 BK773 hb ?_; clear BK749 BK750 BK751 BK773; intro BK749 BK750 BK751 BK773
      replace HB := sqs HB hb
      (try clear hb)
      refine hK.out _ _ sqz (fun hHeld => ?_)
      clear hK K
      refine sqnm ?_
      refine sqp HT_ 5 26 ?_
      refine sqp HT_ 6 32 ?_
      refine sqp HT_ 7 33 ?_
      exact norm_ sqnn (hCont (gb773) _ ⟨hHeld, (sqt BK749.out), (sqt BK750.out), (sqt BK751.out), (sqt BK773.out), GW773.out, GE773.out, NB749_773.out, NB773_749.out, NB750_773.out, NB773_750.out, NB751_773.out, NB773_751.out, (sqB HB)⟩)
    rintro gb773 w66 ⟨hS_, h0_, h1_, h2_, h3_, h4_, h5_, h6_, h7_, h8_, h9_, h10_, h11_, h12_⟩
    replace BK749 := Aside0.mk h0_; replace BK750 := Aside0.mk h1_; replace BK751 := Aside0.mk h2_; have BK773 := Aside0.mk h3_; have GW773 := Aside0.mk h4_; have GE773 := Aside0.mk h5_; have NB749_773 := Aside0.mk h6_; have NB773_749 := Aside0.mk h7_; have NB750_773 := Aside0.mk h8_; have NB773_750 := Aside0.mk h9_; have NB751_773 := Aside0.mk h10_; have NB773_751 := Aside0.mk h11_; replace HB := Aside0.mk h12_; clear h0_ h1_ h2_ h3_ h4_ h5_ h6_ h7_ h8_ h9_ h10_ h11_ h12_
    have hHeld : w66.cell? ⟨gb749, 0, none⟩ = some (.int .i64 a0_0) ∧ w66.cell? ⟨gb749, 1, none⟩ = some (.int .i64 a0_1) ∧ w66.cell? ⟨gb749, 2, none⟩ = some (.int .i64 a0_2) ∧ w66.cell? ⟨gb749, 3, none⟩ = some (.int .i64 a0_3) ∧ w66.cell? ⟨gb750, 0, none⟩ = some (.int .i64 a1_0) ∧ w66.cell? ⟨gb750, 1, none⟩ = some (.int .i64 a1_1) ∧ w66.cell? ⟨gb750, 2, none⟩ = some (.int .i64 a1_2) ∧ w66.cell? ⟨gb750, 3, none⟩ = some (.int .i64 a1_3) := hS_
    refine norm_ (a' := ?_) ?_ ?_
    rotate_left
    ·simp only [putAll, Act.put, List.setIfInBounds_toArray, List.set_cons_zero, List.set_cons_succ]
     rfl
    refine one_ (i := 9) (N := none) #[true, true, true, true, true, true, true, true, true, true, false] rfl rfl (one_of HT_.out (by kernel_rfl)) (by decide) (fun K hK => ?_)
    have hs67 : w66.cell? ⟨gb773, 0, none⟩ = some (.int .i64 0) := (blk_cell BK773.out 0).trans rfl
    have hfs67 := blk_frozen BK773.out 0
    have hns67_0 := NB749_773.out
    have hns67_1 := NB750_773.out
    have hns67_2 := NB751_773.out
    have hms67_0 := NB773_749.out
    have hms67_1 := NB773_750.out
    have hms67_2 := NB773_751.out
    have hs68 : w66.cell? ⟨gb773, 1, none⟩ = some (.int .i64 0) := (blk_cell BK773.out 1).trans rfl
    have hfs68 := blk_frozen BK773.out 1
    have hns68_0 := NB749_773.out
    have hns68_1 := NB750_773.out
    have hns68_2 := NB751_773.out
    have hms68_0 := NB773_749.out
    have hms68_1 := NB773_750.out
    have hms68_2 := NB773_751.out
    refine skip_ (w1 := ?_) (by rfl) rfl ?_ ?_
    rotate_left
    ·go_simp
     rfl
    refine hK.out _ _ ⟨(sqfa NB749_773 ((sqfa NB749_773 (hHeld.1)))), (sqfa NB749_773 ((sqfa NB749_773 (hHeld.2.1)))), (sqfa NB749_773 ((sqfa NB749_773 (hHeld.2.2.1)))), (sqfa NB749_773 ((sqfa NB749_773 (hHeld.2.2.2.1)))), (sqfa NB750_773 ((sqfa NB750_773 (hHeld.2.2.2.2.1)))), (sqfa NB750_773 ((sqfa NB750_773 (hHeld.2.2.2.2.2.1)))), (sqfa NB750_773 ((sqfa NB750_773 (hHeld.2.2.2.2.2.2.1)))), (sqfa NB750_773 ((sqfa NB750_773 (hHeld.2.2.2.2.2.2.2))))⟩ (fun hHeld => ?_)
    clear hK K
    refine sqp HT_ 10 6 ?_
    refine done_ (done_of HT_.out (by kernel_rfl)) ?_
    try go_wp2_with (first | ((with_reducible refine gate_callee (f := 100) rfl ?_); refine sqL (some 36) Try.func100 #[] ?_; (with_reducible refine (spec_l10None.calls  t774 t775 t776 t777 _ A60.out).mono ?_); rintro e w69 ⟨rfl, hb⟩; refine ⟨_, rfl, ?_⟩; replace BK749 := sqbb BK749 hb; replace BK750 := sqbb BK750 hb; replace BK751 := sqbb BK751 hb; replace BK773 := Aside0.mk (blk_below (g := gb773) (o := .cells #[.int .i64 t770, .int .i64 t771] 26 (0, 0)) (sqP BK773) hb); replace HB := sqs HB hb; (try clear hb); obtain ⟨_, _, _, _, _, _⟩ := sqN3 NB751_749 NB751_750 NB751_773; obtain ⟨_, _, _, _, _, _, _, _⟩ := sqc4 BK751))
    refine bodyPost_ret (results_cell_row rfl _ _ gb751 30 #[.int .i64 t774, .int .i64 t775, .int .i64 t776, .int .i64 t777] (0, 0) _ rfl (sqP BK751) Try.underlying30 rfl (by kernel_rfl)) rfl ?_
    exact sqe HB
   subst c37
   have H1 : ((spec_l10Range.f a0_0 a0_1 a0_2 a0_3).bind fun bt778 => ((spec_l10Range.f a1_0 a1_1 a1_2 a1_3).bind fun bt780 => ((spec_RangeMeet.f kj2 bt778.1 bt778.2 bt780.1 bt780.2).bind fun bt782 => ((spec_ValMake.f kj2 bt782.1 bt782.2 t770 t771).bind fun bt784 => (some (bt784.1, bt784.2.1, bt784.2.2.1, bt784.2.2.2)))))) = some (r1, r2, r3, r4) := by rw [if_pos rfl] at H; exact H
   clear H
   have H := H1
   clear H1
   replace H := sqbi H
   obtain ⟨⟨t778, t779⟩, A38, H⟩ := H
   try dsimp only at H
   replace H := sqbi H
   obtain ⟨⟨t780, t781⟩, A39, H⟩ := H
   try dsimp only at H
   replace H := sqbi H
   obtain ⟨⟨t782, t783⟩, A40, H⟩ := H
   try dsimp only at H
   replace H := sqbi H
   obtain ⟨⟨t784, t785, t786, t787⟩, A41, H⟩ := H
   try dsimp only at H
   simp only [Option.some.injEq, Prod.mk.injEq] at H
   obtain ⟨rfl, rfl, rfl, rfl⟩ := H
   try go_wp2
   replace BK749 := sqdr BK749
   replace BK750 := sqdr BK750
   replace BK751 := sqdr BK751
   replace HB := sqdB HB
   refine sqst 11 (fun w' => w'.cell? ⟨gb749, 0, none⟩ = some (.int .i64 a0_0) ∧ w'.cell? ⟨gb749, 1, none⟩ = some (.int .i64 a0_1) ∧ w'.cell? ⟨gb749, 2, none⟩ = some (.int .i64 a0_2) ∧ w'.cell? ⟨gb749, 3, none⟩ = some (.int .i64 a0_3) ∧ w'.cell? ⟨gb750, 0, none⟩ = some (.int .i64 a1_0) ∧ w'.cell? ⟨gb750, 1, none⟩ = some (.int .i64 a1_1) ∧ w'.cell? ⟨gb750, 2, none⟩ = some (.int .i64 a1_2) ∧ w'.cell? ⟨gb750, 3, none⟩ = some (.int .i64 a1_3)) sqz (fun hHeld => ?_); refine with_tabW spec_ValMeet.tab3 spec_ValMeet.bits3 (fun HT_ HW_ => ?_)
   generalize wc.drew = w42 at BK749 BK750 BK751 HB hHeld ⊢
   refine sqw HT_ HW_ 0 27 hHeld ?_
   refine sqw HT_ HW_ 2 29 hHeld ?_
   refine join_ (σ := Nat) 2 #[true, true, true, true, true, true, true, true, true, false, false] (fun s_ => [(28, .agg #[.int .i64 t766, .int .i64 t767]), (30, .agg #[.int .i64 t768, .int .i64 t769]), (31, .tuple #[.agg #[.int .i64 t770, .int .i64 t771], .bool true]), (5, .pointer (some ⟨s_, 0, none⟩)), (26, .tuple #[.agg #[.int .i64 t770, .int .i64 t771], .bool true]), (32, .agg #[.int .i64 t770, .int .i64 t771]), (33, .bool true)]) (fun s_ w' => (w'.cell? ⟨gb749, 0, none⟩ = some (.int .i64 a0_0) ∧ w'.cell? ⟨gb749, 1, none⟩ = some (.int .i64 a0_1) ∧ w'.cell? ⟨gb749, 2, none⟩ = some (.int .i64 a0_2) ∧ w'.cell? ⟨gb749, 3, none⟩ = some (.int .i64 a0_3) ∧ w'.cell? ⟨gb750, 0, none⟩ = some (.int .i64 a1_0) ∧ w'.cell? ⟨gb750, 1, none⟩ = some (.int .i64 a1_1) ∧ w'.cell? ⟨gb750, 2, none⟩ = some (.int .i64 a1_2) ∧ w'.cell? ⟨gb750, 3, none⟩ = some (.int .i64 a1_3)) ∧ (w'.heap[gb749]? = some (.cells #[.int .i64 a0_0, .int .i64 a0_1, .int .i64 a0_2, .int .i64 a0_3] 30 (0, 0))) ∧ (w'.heap[gb750]? = some (.cells #[.int .i64 a1_0, .int .i64 a1_1, .int .i64 a1_2, .int .i64 a1_3] 30 (0, 0))) ∧ (w'.heap[gb751]? = some (.cells #[.int .i64 0, .int .i64 0, .int .i64 0, .int .i64 0] 30 (0, 0))) ∧ (w'.heap[s_]? = some (.cells #[.int .i64 0, .int .i64 0] 26 (0, 0))) ∧ (w.heap.size ≤ s_) ∧ (w.heap.size ≤ s_) ∧ (gb749 ≠ s_) ∧ (s_ ≠ gb749) ∧ (gb750 ≠ s_) ∧ (s_ ≠ gb750) ∧ (gb751 ≠ s_) ∧ (s_ ≠ gb751) ∧ (Below w.heap.size w w')) ?_ ?_
   rotate_left
   ·intro hCont
    refine two_ (i := 1) (j := 8) (Ni := some 28) (Nj := some 5) #[true, true, true, false, false, false, false, false, false, false, false] #[true, false, true, false, false, false, false, false, true, false, false] rfl rfl rfl rfl (two_of HT_.out (by kernel_rfl)) (by decide) (by decide) (fun K hK => ?_) (fun K hK => ?_)
    ·skip
     refine sqG Try.func181 #[.agg #[.int .i64 a0_0, .int .i64 a0_1, .int .i64 a0_2, .int .i64 a0_3]] ?_
     with_reducible refine (spec_l10Rest.calls a0_0 a0_1 a0_2 a0_3 t766 t767 _ A34.out).mono ?_
     rintro e w43 ⟨rfl, hb⟩
     refine ⟨_, rfl, ?_⟩
     refine sqM3 BK749 BK750 BK751 hb ?_; clear BK749 BK750 BK751; intro BK749 BK750 BK751
     replace HB := sqs HB hb
     (try clear hb)
     refine hK.out _ _ sqz (fun hHeld => ?_)
     clear hK K
     refine sqnm ?_
     refine two_ (i := 3) (j := 8) (Ni := some 30) (Nj := some 5) #[true, true, true, true, false, false, false, false, false, false, false] #[true, true, true, false, false, false, false, false, true, false, false] rfl rfl rfl rfl (two_of HT_.out (by kernel_rfl)) (by decide) (by decide) (fun K hK => ?_) (fun K hK => ?_)
     ·skip
      refine sqG Try.func181 #[.agg #[.int .i64 a1_0, .int .i64 a1_1, .int .i64 a1_2, .int .i64 a1_3]] ?_
      with_reducible refine (spec_l10Rest.calls a1_0 a1_1 a1_2 a1_3 t768 t769 _ A35.out).mono ?_
      rintro e w44 ⟨rfl, hb⟩
      refine ⟨_, rfl, ?_⟩
      refine sqM3 BK749 BK750 BK751 hb ?_; clear BK749 BK750 BK751; intro BK749 BK750 BK751
      replace HB := sqs HB hb
      (try clear hb)
      refine hK.out _ _ sqz (fun hHeld => ?_)
      clear hK K
      refine sqnm ?_
      refine two_ (i := 4) (j := 8) (Ni := some 31) (Nj := some 5) #[true, true, true, true, true, false, false, false, false, false, false] #[true, true, true, true, false, false, false, false, true, false, false] rfl rfl rfl rfl (two_of HT_.out (by kernel_rfl)) (by decide) (by decide) (fun K hK => ?_) (fun K hK => ?_)
      ·skip
       refine sqG Try.func190 #[.agg #[.int .i64 t766, .int .i64 t767], .agg #[.int .i64 t768, .int .i64 t769]] ?_
       with_reducible refine (spec_RestMeet.calls kj2 t766 t767 t768 t769 t770 t771 true _ A36.out).mono ?_
       rintro e w45 ⟨rfl, hb⟩
       refine ⟨_, rfl, ?_⟩
       refine sqM3 BK749 BK750 BK751 hb ?_; clear BK749 BK750 BK751; intro BK749 BK750 BK751
       replace HB := sqs HB hb
       (try clear hb)
       refine hK.out _ _ sqz (fun hHeld => ?_)
       clear hK K
       refine sqnm ?_
       refine sqp HT_ 5 26 ?_
       refine sqp HT_ 6 32 ?_
       refine sqp HT_ 7 33 ?_
       refine sqo HT_ 8 5 (fun K hK => ?_)
       refine box_step ?hg (N := 5) ?hd (cs := #[.int .i64 0, .int .i64 0]) (t := 26) ?hr ?_; (case hd => rfl); (case hg => rfl); (case hr => first | (go_simp; done) | (go_simp; rfl))
       intro gb773 hg w46 hbox hb
       have BK773 := Aside0.mk (hbox)
       have GW773 := sqg HB hg
       have GE773 := sqg HB hg
       have NB749_773 := sqn BK749 hg
       have NB773_749 := sqm BK749 hg
       have NB750_773 := sqn BK750 hg
       have NB773_750 := sqm BK750 hg
       have NB751_773 := sqn BK751 hg
       have NB773_751 := sqm BK751 hg
       refine sqM3 BK749 BK750 BK751 hb ?_; clear BK749 BK750 BK751; intro BK749 BK750 BK751
       replace HB := sqs HB hb
       clear hb hbox hg
       refine hK.out _ _ sqz (fun hHeld => ?_)
       clear hK K
       refine sqnm ?_
       exact norm_ sqnn (hCont (gb773) _ ⟨hHeld, (sqt BK749.out), (sqt BK750.out), (sqt BK751.out), (sqt BK773.out), GW773.out, GE773.out, NB749_773.out, NB773_749.out, NB750_773.out, NB773_750.out, NB751_773.out, NB773_751.out, (sqB HB)⟩)
      ·skip
       refine box_step ?hg (N := 5) ?hd (cs := #[.int .i64 0, .int .i64 0]) (t := 26) ?hr ?_; (case hd => rfl); (case hg => rfl); (case hr => first | (go_simp; done) | (go_simp; rfl))
       intro gb773 hg w45 hbox hb
       have BK773 := Aside0.mk (hbox)
       have GW773 := sqg HB hg
       have GE773 := sqg HB hg
       have NB749_773 := sqn BK749 hg
       have NB773_749 := sqm BK749 hg
       have NB750_773 := sqn BK750 hg
       have NB773_750 := sqm BK750 hg
       have NB751_773 := sqn BK751 hg
       have NB773_751 := sqm BK751 hg
       refine sqM3 BK749 BK750 BK751 hb ?_; clear BK749 BK750 BK751; intro BK749 BK750 BK751
       replace HB := sqs HB hb
       clear hb hbox hg
       refine hK.out _ _ sqz (fun hHeld => ?_)
       clear hK K
       refine sqnm ?_
       refine sqo HT_ 4 31 (fun K hK => ?_)
       refine sqG Try.func190 #[.agg #[.int .i64 t766, .int .i64 t767], .agg #[.int .i64 t768, .int .i64 t769]] ?_
       with_reducible refine (spec_RestMeet.calls kj2 t766 t767 t768 t769 t770 t771 true _ A36.out).mono ?_
       rintro e w46 ⟨rfl, hb⟩
       refine ⟨_, rfl, ?_⟩
       refine sqM4 BK749 BK750 BK751 BK773 hb ?_; clear BK749 BK750 BK751 BK773; intro BK749 BK750 BK751 BK773
       replace HB := sqs HB hb
       (try clear hb)
       refine hK.out _ _ sqz (fun hHeld => ?_)
       clear hK K
       refine sqnm ?_
       refine sqp HT_ 5 26 ?_
       refine sqp HT_ 6 32 ?_
       refine sqp HT_ 7 33 ?_
       exact norm_ sqnn (hCont (gb773) _ ⟨hHeld, (sqt BK749.out), (sqt BK750.out), (sqt BK751.out), (sqt BK773.out), GW773.out, GE773.out, NB749_773.out, NB773_749.out, NB750_773.out, NB773_750.out, NB751_773.out, NB773_751.out, (sqB HB)⟩)
     ·skip
      refine box_step ?hg (N := 5) ?hd (cs := #[.int .i64 0, .int .i64 0]) (t := 26) ?hr ?_; (case hd => rfl); (case hg => rfl); (case hr => first | (go_simp; done) | (go_simp; rfl))
      intro gb773 hg w44 hbox hb
      have BK773 := Aside0.mk (hbox)
      have GW773 := sqg HB hg
      have GE773 := sqg HB hg
      have NB749_773 := sqn BK749 hg
      have NB773_749 := sqm BK749 hg
      have NB750_773 := sqn BK750 hg
      have NB773_750 := sqm BK750 hg
      have NB751_773 := sqn BK751 hg
      have NB773_751 := sqm BK751 hg
      refine sqM3 BK749 BK750 BK751 hb ?_; clear BK749 BK750 BK751; intro BK749 BK750 BK751
      replace HB := sqs HB hb
      clear hb hbox hg
      refine hK.out _ _ sqz (fun hHeld => ?_)
      clear hK K
      refine sqnm ?_
      refine sqo HT_ 3 30 (fun K hK => ?_)
      refine sqG Try.func181 #[.agg #[.int .i64 a1_0, .int .i64 a1_1, .int .i64 a1_2, .int .i64 a1_3]] ?_
      with_reducible refine (spec_l10Rest.calls a1_0 a1_1 a1_2 a1_3 t768 t769 _ A35.out).mono ?_
      rintro e w45 ⟨rfl, hb⟩
      refine ⟨_, rfl, ?_⟩
      refine sqM4 BK749 BK750 BK751 BK773 hb ?_; clear BK749 BK750 BK751 BK773; intro BK749 BK750 BK751 BK773
      replace HB := sqs HB hb
      (try clear hb)
      refine hK.out _ _ sqz (fun hHeld => ?_)
      clear hK K
      refine sqnm ?_
      refine sqo HT_ 4 31 (fun K hK => ?_)
      refine sqG Try.func190 #[.agg #[.int .i64 t766, .int .i64 t767], .agg #[.int .i64 t768, .int .i64 t769]] ?_
      with_reducible refine (spec_RestMeet.calls kj2 t766 t767 t768 t769 t770 t771 true _ A36.out).mono ?_
      rintro e w46 ⟨rfl, hb⟩
      refine ⟨_, rfl, ?_⟩
      refine sqM4 BK749 BK750 BK751 BK773 hb ?_; clear BK749 BK750 BK751 BK773; intro BK749 BK750 BK751 BK773
      replace HB := sqs HB hb
      (try clear hb)
      refine hK.out _ _ sqz (fun hHeld => ?_)
      clear hK K
      refine sqnm ?_
      refine sqp HT_ 5 26 ?_
      refine sqp HT_ 6 32 ?_
      refine sqp HT_ 7 33 ?_
      exact norm_ sqnn (hCont (gb773) _ ⟨hHeld, (sqt BK749.out), (sqt BK750.out), (sqt BK751.out), (sqt BK773.out), GW773.out, GE773.out, NB749_773.out, NB773_749.out, NB750_773.out, NB773_750.out, NB751_773.out, NB773_751.out, (sqB HB)⟩)
    ·skip
     refine box_step ?hg (N := 5) ?hd (cs := #[.int .i64 0, .int .i64 0]) (t := 26) ?hr ?_; (case hd => rfl); (case hg => rfl); (case hr => first | (go_simp; done) | (go_simp; rfl))
     intro gb773 hg w43 hbox hb
     have BK773 := Aside0.mk (hbox)
     have GW773 := sqg HB hg
     have GE773 := sqg HB hg
     have NB749_773 := sqn BK749 hg
     have NB773_749 := sqm BK749 hg
     have NB750_773 := sqn BK750 hg
     have NB773_750 := sqm BK750 hg
     have NB751_773 := sqn BK751 hg
     have NB773_751 := sqm BK751 hg
     refine sqM3 BK749 BK750 BK751 hb ?_; clear BK749 BK750 BK751; intro BK749 BK750 BK751
     replace HB := sqs HB hb
     clear hb hbox hg
     refine hK.out _ _ sqz (fun hHeld => ?_)
     clear hK K
     refine sqnm ?_
     refine sqo HT_ 1 28 (fun K hK => ?_)
     refine sqG Try.func181 #[.agg #[.int .i64 a0_0, .int .i64 a0_1, .int .i64 a0_2, .int .i64 a0_3]] ?_
     with_reducible refine (spec_l10Rest.calls a0_0 a0_1 a0_2 a0_3 t766 t767 _ A34.out).mono ?_
     rintro e w44 ⟨rfl, hb⟩
     refine ⟨_, rfl, ?_⟩
     refine sqM4 BK749 BK750 BK751 BK773 hb ?_; clear BK749 BK750 BK751 BK773; intro BK749 BK750 BK751 BK773
     replace HB := sqs HB hb
     (try clear hb)
     refine hK.out _ _ sqz (fun hHeld => ?_)
     clear hK K
     refine sqnm ?_
     refine sqo HT_ 3 30 (fun K hK => ?_)
     refine sqG Try.func181 #[.agg #[.int .i64 a1_0, .int .i64 a1_1, .int .i64 a1_2, .int .i64 a1_3]] ?_
     with_reducible refine (spec_l10Rest.calls a1_0 a1_1 a1_2 a1_3 t768 t769 _ A35.out).mono ?_
     rintro e w45 ⟨rfl, hb⟩
     refine ⟨_, rfl, ?_⟩
     refine sqM4 BK749 BK750 BK751 BK773 hb ?_; clear BK749 BK750 BK751 BK773; intro BK749 BK750 BK751 BK773
     replace HB := sqs HB hb
     (try clear hb)
     refine hK.out _ _ sqz (fun hHeld => ?_)
     clear hK K
     refine sqnm ?_
     refine sqo HT_ 4 31 (fun K hK => ?_)
     refine sqG Try.func190 #[.agg #[.int .i64 t766, .int .i64 t767], .agg #[.int .i64 t768, .int .i64 t769]] ?_
     with_reducible refine (spec_RestMeet.calls kj2 t766 t767 t768 t769 t770 t771 true _ A36.out).mono ?_
     rintro e w46 ⟨rfl, hb⟩
     refine ⟨_, rfl, ?_⟩
     refine sqM4 BK749 BK750 BK751 BK773 hb ?_; clear BK749 BK750 BK751 BK773; intro BK749 BK750 BK751 BK773
     replace HB := sqs HB hb
     (try clear hb)
     refine hK.out _ _ sqz (fun hHeld => ?_)
     clear hK K
     refine sqnm ?_
     refine sqp HT_ 5 26 ?_
     refine sqp HT_ 6 32 ?_
     refine sqp HT_ 7 33 ?_
     exact norm_ sqnn (hCont (gb773) _ ⟨hHeld, (sqt BK749.out), (sqt BK750.out), (sqt BK751.out), (sqt BK773.out), GW773.out, GE773.out, NB749_773.out, NB773_749.out, NB750_773.out, NB773_750.out, NB751_773.out, NB773_751.out, (sqB HB)⟩)
   rintro gb773 w47 ⟨hS_, h0_, h1_, h2_, h3_, h4_, h5_, h6_, h7_, h8_, h9_, h10_, h11_, h12_⟩
   replace BK749 := Aside0.mk h0_; replace BK750 := Aside0.mk h1_; replace BK751 := Aside0.mk h2_; have BK773 := Aside0.mk h3_; have GW773 := Aside0.mk h4_; have GE773 := Aside0.mk h5_; have NB749_773 := Aside0.mk h6_; have NB773_749 := Aside0.mk h7_; have NB750_773 := Aside0.mk h8_; have NB773_750 := Aside0.mk h9_; have NB751_773 := Aside0.mk h10_; have NB773_751 := Aside0.mk h11_; replace HB := Aside0.mk h12_; clear h0_ h1_ h2_ h3_ h4_ h5_ h6_ h7_ h8_ h9_ h10_ h11_ h12_
   have hHeld : w47.cell? ⟨gb749, 0, none⟩ = some (.int .i64 a0_0) ∧ w47.cell? ⟨gb749, 1, none⟩ = some (.int .i64 a0_1) ∧ w47.cell? ⟨gb749, 2, none⟩ = some (.int .i64 a0_2) ∧ w47.cell? ⟨gb749, 3, none⟩ = some (.int .i64 a0_3) ∧ w47.cell? ⟨gb750, 0, none⟩ = some (.int .i64 a1_0) ∧ w47.cell? ⟨gb750, 1, none⟩ = some (.int .i64 a1_1) ∧ w47.cell? ⟨gb750, 2, none⟩ = some (.int .i64 a1_2) ∧ w47.cell? ⟨gb750, 3, none⟩ = some (.int .i64 a1_3) := hS_
   refine norm_ (a' := ?_) ?_ ?_
   rotate_left
   ·simp only [putAll, Act.put, List.setIfInBounds_toArray, List.set_cons_zero, List.set_cons_succ]
    rfl
   refine one_ (i := 9) (N := none) #[true, true, true, true, true, true, true, true, true, true, false] rfl rfl (one_of HT_.out (by kernel_rfl)) (by decide) (fun K hK => ?_)
   have hs48 : w47.cell? ⟨gb773, 0, none⟩ = some (.int .i64 0) := (blk_cell BK773.out 0).trans rfl
   have hfs48 := blk_frozen BK773.out 0
   have hns48_0 := NB749_773.out
   have hns48_1 := NB750_773.out
   have hns48_2 := NB751_773.out
   have hms48_0 := NB773_749.out
   have hms48_1 := NB773_750.out
   have hms48_2 := NB773_751.out
   have hs49 : w47.cell? ⟨gb773, 1, none⟩ = some (.int .i64 0) := (blk_cell BK773.out 1).trans rfl
   have hfs49 := blk_frozen BK773.out 1
   have hns49_0 := NB749_773.out
   have hns49_1 := NB750_773.out
   have hns49_2 := NB751_773.out
   have hms49_0 := NB773_749.out
   have hms49_1 := NB773_750.out
   have hms49_2 := NB773_751.out
   refine skip_ (w1 := ?_) (by rfl) rfl ?_ ?_
   rotate_left
   ·go_simp
    rfl
   refine hK.out _ _ ⟨(sqfa NB749_773 ((sqfa NB749_773 (hHeld.1)))), (sqfa NB749_773 ((sqfa NB749_773 (hHeld.2.1)))), (sqfa NB749_773 ((sqfa NB749_773 (hHeld.2.2.1)))), (sqfa NB749_773 ((sqfa NB749_773 (hHeld.2.2.2.1)))), (sqfa NB750_773 ((sqfa NB750_773 (hHeld.2.2.2.2.1)))), (sqfa NB750_773 ((sqfa NB750_773 (hHeld.2.2.2.2.2.1)))), (sqfa NB750_773 ((sqfa NB750_773 (hHeld.2.2.2.2.2.2.1)))), (sqfa NB750_773 ((sqfa NB750_773 (hHeld.2.2.2.2.2.2.2))))⟩ (fun hHeld => ?_)
   clear hK K
   refine sqp HT_ 10 6 ?_
   refine done_ (done_of HT_.out (by kernel_rfl)) ?_
   try go_wp2
   obtain ⟨w50, hw_⟩ : ∃ w_, w_ = ((w47.setCell ⟨gb773, 0, none⟩ (.int .i64 t770)).setCell ⟨gb773, 1, none⟩ (.int .i64 t771)) := ⟨_, rfl⟩
   replace BK749 := sqTe hw_ BK749
   replace BK750 := sqTe hw_ BK750
   replace BK751 := sqTe hw_ BK751
   replace BK773 : Aside0 (w50.heap[gb773]? = some (.cells #[.int .i64 t770, .int .i64 t771] 26 (0, 0))) := by rw [hw_]; exact ⟨sqP BK773⟩
   replace HB : Aside0 (Below w.heap.size w w50) := by rw [hw_]; exact sqh HB
   rw [← hw_]
   clear hw_
   replace BK749 := sqdr BK749
   replace BK750 := sqdr BK750
   replace BK751 := sqdr BK751
   replace BK773 := sqdr BK773
   replace HB := sqdB HB
   refine sqst 8 (fun w' => w'.cell? ⟨gb749, 0, none⟩ = some (.int .i64 a0_0) ∧ w'.cell? ⟨gb749, 1, none⟩ = some (.int .i64 a0_1) ∧ w'.cell? ⟨gb749, 2, none⟩ = some (.int .i64 a0_2) ∧ w'.cell? ⟨gb749, 3, none⟩ = some (.int .i64 a0_3) ∧ w'.cell? ⟨gb750, 0, none⟩ = some (.int .i64 a1_0) ∧ w'.cell? ⟨gb750, 1, none⟩ = some (.int .i64 a1_1) ∧ w'.cell? ⟨gb750, 2, none⟩ = some (.int .i64 a1_2) ∧ w'.cell? ⟨gb750, 3, none⟩ = some (.int .i64 a1_3) ∧ w'.cell? ⟨gb773, 0, none⟩ = some (.int .i64 t770) ∧ w'.cell? ⟨gb773, 1, none⟩ = some (.int .i64 t771)) sqz (fun hHeld => ?_); refine with_tabW spec_ValMeet.tab6 spec_ValMeet.bits6 (fun HT_ HW_ => ?_)
   generalize w50.drew = w51 at BK749 BK750 BK751 BK773 HB hHeld ⊢
   refine sqw HT_ HW_ 0 37 hHeld ?_
   refine sqw HT_ HW_ 2 39 hHeld ?_
   refine sqw HT_ HW_ 5 42 hHeld ?_
   refine sqo HT_ 1 38 (fun K hK => ?_)
   refine sqG Try.func180 #[.agg #[.int .i64 a0_0, .int .i64 a0_1, .int .i64 a0_2, .int .i64 a0_3]] ?_
   with_reducible refine (spec_l10Range.calls a0_0 a0_1 a0_2 a0_3 t778 t779 _ A38.out).mono ?_
   rintro e w52 ⟨rfl, hb⟩
   refine ⟨_, rfl, ?_⟩
   refine sqM4 BK749 BK750 BK751 BK773 hb ?_; clear BK749 BK750 BK751 BK773; intro BK749 BK750 BK751 BK773
   replace HB := sqs HB hb
   (try clear hb)
   refine hK.out _ _ sqz (fun hHeld => ?_)
   clear hK K
   refine sqnm ?_
   refine sqo HT_ 3 40 (fun K hK => ?_)
   refine sqG Try.func180 #[.agg #[.int .i64 a1_0, .int .i64 a1_1, .int .i64 a1_2, .int .i64 a1_3]] ?_
   with_reducible refine (spec_l10Range.calls a1_0 a1_1 a1_2 a1_3 t780 t781 _ A39.out).mono ?_
   rintro e w53 ⟨rfl, hb⟩
   refine ⟨_, rfl, ?_⟩
   refine sqM4 BK749 BK750 BK751 BK773 hb ?_; clear BK749 BK750 BK751 BK773; intro BK749 BK750 BK751 BK773
   replace HB := sqs HB hb
   (try clear hb)
   refine hK.out _ _ sqz (fun hHeld => ?_)
   clear hK K
   refine sqnm ?_
   refine sqo HT_ 4 41 (fun K hK => ?_)
   refine sqG Try.func131 #[.agg #[.int .i64 t778, .int .i64 t779], .agg #[.int .i64 t780, .int .i64 t781]] ?_
   with_reducible refine (spec_RangeMeet.calls kj2 t778 t779 t780 t781 t782 t783 _ A40.out).mono ?_
   rintro e w54 ⟨rfl, hb⟩
   refine ⟨_, rfl, ?_⟩
   refine sqM4 BK749 BK750 BK751 BK773 hb ?_; clear BK749 BK750 BK751 BK773; intro BK749 BK750 BK751 BK773
   replace HB := sqs HB hb
   (try clear hb)
   refine hK.out _ _ sqz (fun hHeld => ?_)
   clear hK K
   refine sqnm ?_
   refine sqo HT_ 6 43 (fun K hK => ?_)
   refine sqG Try.func17 #[.agg #[.int .i64 t782, .int .i64 t783], .agg #[.int .i64 t770, .int .i64 t771]] ?_
   with_reducible refine (spec_ValMake.calls kj2 t782 t783 t770 t771 t784 t785 t786 t787 _ A41.out).mono ?_
   rintro e w55 ⟨rfl, hb⟩
   refine ⟨_, rfl, ?_⟩
   refine sqM4 BK749 BK750 BK751 BK773 hb ?_; clear BK749 BK750 BK751 BK773; intro BK749 BK750 BK751 BK773
   replace HB := sqs HB hb
   (try clear hb)
   refine hK.out _ _ sqz (fun hHeld => ?_)
   clear hK K
   refine sqnm ?_
   refine one_ (i := 7) (N := none) #[true, true, true, true, true, true, true, true] rfl rfl (one_of HT_.out (by kernel_rfl)) (by decide) (fun K hK => ?_)
   have hs56 : w55.cell? ⟨gb751, 0, none⟩ = some (.int .i64 0) := (blk_cell BK751.out 0).trans rfl
   have hfs56 := blk_frozen BK751.out 0
   have hns56_0 := NB749_751.out
   have hns56_1 := NB750_751.out
   have hns56_3 := NB773_751.out
   have hms56_0 := NB751_749.out
   have hms56_1 := NB751_750.out
   have hms56_3 := NB751_773.out
   have hs57 : w55.cell? ⟨gb751, 1, none⟩ = some (.int .i64 0) := (blk_cell BK751.out 1).trans rfl
   have hfs57 := blk_frozen BK751.out 1
   have hns57_0 := NB749_751.out
   have hns57_1 := NB750_751.out
   have hns57_3 := NB773_751.out
   have hms57_0 := NB751_749.out
   have hms57_1 := NB751_750.out
   have hms57_3 := NB751_773.out
   have hs58 : w55.cell? ⟨gb751, 2, none⟩ = some (.int .i64 0) := (blk_cell BK751.out 2).trans rfl
   have hfs58 := blk_frozen BK751.out 2
   have hns58_0 := NB749_751.out
   have hns58_1 := NB750_751.out
   have hns58_3 := NB773_751.out
   have hms58_0 := NB751_749.out
   have hms58_1 := NB751_750.out
   have hms58_3 := NB751_773.out
   have hs59 : w55.cell? ⟨gb751, 3, none⟩ = some (.int .i64 0) := (blk_cell BK751.out 3).trans rfl
   have hfs59 := blk_frozen BK751.out 3
   have hns59_0 := NB749_751.out
   have hns59_1 := NB750_751.out
   have hns59_3 := NB773_751.out
   have hms59_0 := NB751_749.out
   have hms59_1 := NB751_750.out
   have hms59_3 := NB751_773.out
   refine skip_ (w1 := ?_) (by rfl) rfl ?_ ?_
   rotate_left
   ·go_simp
    rfl
   refine hK.out _ _ ⟨(sqfa NB749_751 ((sqfa NB749_751 ((sqfa NB749_751 ((sqfa NB749_751 (hHeld.1)))))))), (sqfa NB749_751 ((sqfa NB749_751 ((sqfa NB749_751 ((sqfa NB749_751 (hHeld.2.1)))))))), (sqfa NB749_751 ((sqfa NB749_751 ((sqfa NB749_751 ((sqfa NB749_751 (hHeld.2.2.1)))))))), (sqfa NB749_751 ((sqfa NB749_751 ((sqfa NB749_751 ((sqfa NB749_751 (hHeld.2.2.2.1)))))))), (sqfa NB750_751 ((sqfa NB750_751 ((sqfa NB750_751 ((sqfa NB750_751 (hHeld.2.2.2.2.1)))))))), (sqfa NB750_751 ((sqfa NB750_751 ((sqfa NB750_751 ((sqfa NB750_751 (hHeld.2.2.2.2.2.1)))))))), (sqfa NB750_751 ((sqfa NB750_751 ((sqfa NB750_751 ((sqfa NB750_751 (hHeld.2.2.2.2.2.2.1)))))))), (sqfa NB750_751 ((sqfa NB750_751 ((sqfa NB750_751 ((sqfa NB750_751 (hHeld.2.2.2.2.2.2.2.1)))))))), (sqfa NB773_751 ((sqfa NB773_751 ((sqfa NB773_751 ((sqfa NB773_751 (hHeld.2.2.2.2.2.2.2.2.1)))))))), (sqfa NB773_751 ((sqfa NB773_751 ((sqfa NB773_751 ((sqfa NB773_751 (hHeld.2.2.2.2.2.2.2.2.2))))))))⟩ (fun hHeld => ?_)
   clear hK K
   refine done_ (done_of HT_.out (by kernel_rfl)) ?_
   try go_wp2
   refine bodyPost_ret (results_cell_row rfl _ _ gb751 30 #[.int .i64 t784, .int .i64 t785, .int .i64 t786, .int .i64 t787] (0, 0) _ rfl (sqP BK751) Try.underlying30 rfl (by kernel_rfl)) rfl ?_
   exact sqe HB

end Go.Proofs.Ytkekcenlleebeaa.PFnValLattice
