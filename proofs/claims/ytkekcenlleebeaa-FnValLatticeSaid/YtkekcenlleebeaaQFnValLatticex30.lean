/- Functions of the program as plain Lean functions, and that calls of them come to what these tell. Conditions: those in each law. -/
import Derived.Test.YtkekcenlleebeaaSq
import Derived.Test.YtkekcenlleebeaaDFnValLattice
import Derived.Test.YtkekcenlleebeaaQFnValLatticex0
import Derived.Test.YtkekcenlleebeaaQFnValLatticex1
import Derived.Test.YtkekcenlleebeaaQFnValLatticex6
import Derived.Test.YtkekcenlleebeaaQFnValLatticex7
import Derived.Test.YtkekcenlleebeaaQFnValLatticex16
namespace Go.Proofs.Ytkekcenlleebeaa.PFnValLattice
open Go.RowKit Go.Proofs.Ytkekcenlleebeaa.Sq Go.Proofs.YtkekcenlleebeaaW.PrintWords Go.Proofs.YtkekcenlleebeaaW.PrintLast Go.Proofs.YtkekcenlleebeaaW.PrintMore
attribute [local go_sem] max2_int min2_int max_two min_two max_three min_three max_four min_four   -- for this text's walks alone
set_option linter.unusedVariables false
set_option linter.unusedSimpArgs false

attribute [local go_sem high] eqA24
/-! ### spec_RangeMeet: function 131 -/
def spec_RangeMeet.T1 : Bool × List (List Nat × List Nat) := (true, [([], []), ([0], [0]), ([1], [1]), ([2, 1], [2]), ([3], [3]), ([4, 3, 3], [3, 4]), ([5, 3], [3, 5]), ([3, 6], [3, 6]), ([7, 5], [7]), ([8], [8]), ([8, 8], [8]), ([9, 10, 8], [8, 9, 10]), ([8, 11], [8, 11]), ([12, 10], [12]), ([13], [13]), ([13, 13], [13]), ([14, 15, 13], [13, 14, 15]), ([13, 16], [13, 16])])
def spec_RangeMeet.B1 : List Nat := [0, 1, 3, 7, 15, 31, 63, 127, 255, 511, 511, 2047, 4095, 8191, 16383, 16383, 65535, 131071]
theorem spec_RangeMeet.tab1 : rtab .any (opsOf Try.f131 1) = spec_RangeMeet.T1 := by kernel_rfl
theorem spec_RangeMeet.bits1 : waitsOk spec_RangeMeet.T1.2 spec_RangeMeet.B1 = true := by kernel_rfl
def spec_RangeMeet.T3 : Bool × List (List Nat × List Nat) := (true, [([], []), ([0], [0]), ([], []), ([2], [2]), ([1, 3], [1, 3]), ([], []), ([5], [5]), ([], []), ([7], [7]), ([6, 8, 4], [6, 8]), ([4, 9, 9], [4, 9]), ([10, 10, 0, 1, 2, 3, 4, 5, 6, 7, 8, 9, 10], [10])])
def spec_RangeMeet.B3 : List Nat := [0, 1, 0, 4, 15, 0, 32, 0, 128, 511, 1023, 2047]
theorem spec_RangeMeet.tab3 : rtab .any (opsOf Try.f131 3) = spec_RangeMeet.T3 := by kernel_rfl
theorem spec_RangeMeet.bits3 : waitsOk spec_RangeMeet.T3.2 spec_RangeMeet.B3 = true := by kernel_rfl
set_option maxHeartbeats 8000000 in
set_option maxRecDepth 100000 in
theorem spec_RangeMeet.calls (k : Nat) (a0_0 : Int) (a0_1 : Int) (a1_0 : Int) (a1_1 : Int) (r1 : Int) (r2 : Int) (w : World) (h : spec_RangeMeet.f k a0_0 a0_1 a1_0 a1_1 = some (r1, r2)) :
  Calls Try.prog 131 #[.agg #[.int .i64 a0_0, .int .i64 a0_1], .agg #[.int .i64 a1_0, .int .i64 a1_1]] w fun e w' => e = .returned (.agg #[.int .i64 r1, .int .i64 r2]) ∧ Below w.heap.size w w' := by
 have hu24 := Try.underlying24
 have HB := Aside0.mk (Below.refl w.heap.size w)
 have H := h
 unfold spec_RangeMeet.f at H
 clear h
 have HC3 := Aside0.mk H
 clear H
 go_enter Try.func131, Try.ntmps131
 go_upto_region 1 with (first | ((with_reducible refine gate_dst (N := 2) rfl ?_); refine sqx 2 #[.int .i64 a0_0, .int .i64 a0_1] 24 ?_; intro gb722 hg w4 hbox hb; have BK722 := Aside0.mk hbox; have GW722 := sqg HB hg; replace HB := sqs HB hb; clear hb hbox hg) | ((with_reducible refine gate_dst (N := 3) rfl ?_); refine sqx 3 #[.int .i64 a1_0, .int .i64 a1_1] 24 ?_; intro gb723 hg w5 hbox hb; have BK723 := Aside0.mk hbox; have GW723 := sqg HB hg; have NB722_723 := sqn BK722 hg; have NB723_722 := sqm BK722 hg; replace BK722 := sqb BK722 hb; replace HB := sqs HB hb; clear hb hbox hg) | ((with_reducible refine gate_dst (N := 4) rfl ?_); refine sqx 4 #[.int .i64 0, .int .i64 0] 24 ?_; intro gb724 hg w6 hbox hb; have BK724 := Aside0.mk hbox; have GW724 := sqg HB hg; have NB722_724 := sqn BK722 hg; have NB724_722 := sqm BK722 hg; have NB723_724 := sqn BK723 hg; have NB724_723 := sqm BK723 hg; refine sqM2 BK722 BK723 hb ?_; clear BK722 BK723; intro BK722 BK723; replace HB := sqs HB hb; clear hb hbox hg))
 (try simp only [Act.put, List.setIfInBounds_toArray, List.set_cons_zero, List.set_cons_succ])
 go_cut [22] (fun v22 wc => ∃ (kq : Nat) (x22_2 : Bool), v22 = .bool x22_2 ∧ Aside0 (spec_RangeMeet.j0 kq x22_2 a0_0 a0_1 a1_0 a1_1 = some (r1, r2)) ∧ Aside0 (kq ≤ k) ∧ Aside0 (wc.heap[gb722]? = some (.cells #[.int .i64 a0_0, .int .i64 a0_1] 24 (0, 0))) ∧ Aside0 (wc.heap[gb723]? = some (.cells #[.int .i64 a1_0, .int .i64 a1_1] 24 (0, 0))) ∧ Aside0 (wc.heap[gb724]? = some (.cells #[.int .i64 0, .int .i64 0] 24 (0, 0))) ∧ Aside0 (Below w.heap.size w wc))
 case first =>
  have H := HC3.out
  clear HC3
  replace H := sqbi H
  obtain ⟨t725, A7, H⟩ := H
  try dsimp only at H
  rcases sqI (t725 = true) with c8 | c8
  ·replace c8 := Bool.eq_false_iff.mpr c8
   subst c8
   have H1 : (spec_RangeMeet.j0 k true a0_0 a0_1 a1_0 a1_1) = some (r1, r2) := by rw [if_neg (show ¬ (false = true) by decide)] at H; exact H
   clear H
   have H := H1
   clear H1
   have H' := Aside0.mk H
   clear H
   try go_wp2
   replace BK722 := sqdr BK722
   replace BK723 := sqdr BK723
   replace BK724 := sqdr BK724
   replace HB := sqdB HB
   refine sqst 18 (fun w' => w'.cell? ⟨gb722, 0, none⟩ = some (.int .i64 a0_0) ∧ w'.cell? ⟨gb722, 1, none⟩ = some (.int .i64 a0_1)) sqz (fun hHeld => ?_); refine with_tabW spec_RangeMeet.tab1 spec_RangeMeet.bits1 (fun HT_ HW_ => ?_)
   generalize w6.drew = w26 at BK722 BK723 BK724 HB hHeld ⊢
   refine sqw HT_ HW_ 0 5 hHeld ?_
   refine sqo HT_ 1 6 (fun K hK => ?_)
   refine sqG Try.func45 #[.agg #[.int .i64 a0_0, .int .i64 a0_1]] ?_
   with_reducible refine (spec_RangeOk.calls a0_0 a0_1 false _ A7.out).mono ?_
   rintro e w27 ⟨rfl, hb⟩
   refine ⟨_, rfl, ?_⟩
   refine sqM3 BK722 BK723 BK724 hb ?_; clear BK722 BK723 BK724; intro BK722 BK723 BK724
   replace HB := sqs HB hb
   (try clear hb)
   refine hK.out _ _ sqz (fun hHeld => ?_)
   clear hK K
   refine sqnm ?_
   refine sqp HT_ 2 7 ?_
   refine sqp HT_ 3 8 ?_
   refine sqpu HT_ 4 9 ?_
   refine sqpu HT_ 5 10 ?_
   refine sqpu HT_ 6 11 ?_
   refine sqp HT_ 7 12 ?_
   refine sqp HT_ 8 13 ?_
   refine sqpu HT_ 9 14 ?_
   refine sqpu HT_ 10 15 ?_
   refine sqpu HT_ 11 16 ?_
   refine sqp HT_ 12 17 ?_
   refine sqp HT_ 13 18 ?_
   refine sqpu HT_ 14 19 ?_
   refine sqpu HT_ 15 20 ?_
   refine sqpu HT_ 16 21 ?_
   refine sqp HT_ 17 22 ?_
   refine done_ (done_of HT_.out (by kernel_rfl)) ?_
   try go_wp2
   go_meet
   case rel => exact ⟨_, (true), (by first | rfl | (simp; done) | (simp [*]; done)), H', ⟨by first | omega | exact Nat.le_refl _⟩, sqk BK722, sqk BK723, sqk BK724, sqh HB⟩
  subst c8
  have H1 : ((spec_RangeOk.f a1_0 a1_1).bind fun t726 => (if t726 = true then ((spec_l8None.f).bind fun bt727 => (if (a0_0 == bt727.1 && (a0_1 == bt727.2)) = true then (spec_RangeMeet.j0 k true a0_0 a0_1 a1_0 a1_1) else ((spec_l8None.f).bind fun bt729 => (spec_RangeMeet.j0 k (a1_0 == bt729.1 && (a1_1 == bt729.2)) a0_0 a0_1 a1_0 a1_1)))) else (spec_RangeMeet.j0 k true a0_0 a0_1 a1_0 a1_1))) = some (r1, r2) := by rw [if_pos rfl] at H; exact H
  clear H
  have H := H1
  clear H1
  replace H := sqbi H
  obtain ⟨t726, A9, H⟩ := H
  try dsimp only at H
  rcases sqI (t726 = true) with c10 | c10
  ·replace c10 := Bool.eq_false_iff.mpr c10
   subst c10
   have H1 : (spec_RangeMeet.j0 k true a0_0 a0_1 a1_0 a1_1) = some (r1, r2) := by rw [if_neg (show ¬ (false = true) by decide)] at H; exact H
   clear H
   have H := H1
   clear H1
   have H' := Aside0.mk H
   clear H
   try go_wp2
   replace BK722 := sqdr BK722
   replace BK723 := sqdr BK723
   replace BK724 := sqdr BK724
   replace HB := sqdB HB
   refine sqst 18 (fun w' => w'.cell? ⟨gb722, 0, none⟩ = some (.int .i64 a0_0) ∧ w'.cell? ⟨gb722, 1, none⟩ = some (.int .i64 a0_1) ∧ w'.cell? ⟨gb723, 0, none⟩ = some (.int .i64 a1_0) ∧ w'.cell? ⟨gb723, 1, none⟩ = some (.int .i64 a1_1)) sqz (fun hHeld => ?_); refine with_tabW spec_RangeMeet.tab1 spec_RangeMeet.bits1 (fun HT_ HW_ => ?_)
   generalize w6.drew = w23 at BK722 BK723 BK724 HB hHeld ⊢
   refine sqw HT_ HW_ 0 5 hHeld ?_
   refine sqo HT_ 1 6 (fun K hK => ?_)
   refine sqG Try.func45 #[.agg #[.int .i64 a0_0, .int .i64 a0_1]] ?_
   with_reducible refine (spec_RangeOk.calls a0_0 a0_1 true _ A7.out).mono ?_
   rintro e w24 ⟨rfl, hb⟩
   refine ⟨_, rfl, ?_⟩
   refine sqM3 BK722 BK723 BK724 hb ?_; clear BK722 BK723 BK724; intro BK722 BK723 BK724
   replace HB := sqs HB hb
   (try clear hb)
   refine hK.out _ _ sqz (fun hHeld => ?_)
   clear hK K
   refine sqnm ?_
   refine sqp HT_ 2 7 ?_
   refine sqp HT_ 3 8 ?_
   refine sqw HT_ HW_ 4 9 hHeld ?_
   refine sqo HT_ 5 10 (fun K hK => ?_)
   refine sqG Try.func45 #[.agg #[.int .i64 a1_0, .int .i64 a1_1]] ?_
   with_reducible refine (spec_RangeOk.calls a1_0 a1_1 false _ A9.out).mono ?_
   rintro e w25 ⟨rfl, hb⟩
   refine ⟨_, rfl, ?_⟩
   refine sqM3 BK722 BK723 BK724 hb ?_; clear BK722 BK723 BK724; intro BK722 BK723 BK724
   replace HB := sqs HB hb
   (try clear hb)
   refine hK.out _ _ sqz (fun hHeld => ?_)
   clear hK K
   refine sqnm ?_
   refine sqp HT_ 6 11 ?_
   refine sqp HT_ 7 12 ?_
   refine sqp HT_ 8 13 ?_
   refine sqpu HT_ 9 14 ?_
   refine sqpu HT_ 10 15 ?_
   refine sqpu HT_ 11 16 ?_
   refine sqp HT_ 12 17 ?_
   refine sqp HT_ 13 18 ?_
   refine sqpu HT_ 14 19 ?_
   refine sqpu HT_ 15 20 ?_
   refine sqpu HT_ 16 21 ?_
   refine sqp HT_ 17 22 ?_
   refine done_ (done_of HT_.out (by kernel_rfl)) ?_
   try go_wp2
   go_meet
   case rel => exact ⟨_, (true), (by first | rfl | (simp; done) | (simp [*]; done)), H', ⟨by first | omega | exact Nat.le_refl _⟩, sqk BK722, sqk BK723, sqk BK724, sqh HB⟩
  subst c10
  have H1 : ((spec_l8None.f).bind fun bt727 => (if (a0_0 == bt727.1 && (a0_1 == bt727.2)) = true then (spec_RangeMeet.j0 k true a0_0 a0_1 a1_0 a1_1) else ((spec_l8None.f).bind fun bt729 => (spec_RangeMeet.j0 k (a1_0 == bt729.1 && (a1_1 == bt729.2)) a0_0 a0_1 a1_0 a1_1)))) = some (r1, r2) := by rw [if_pos rfl] at H; exact H
  clear H
  have H := H1
  clear H1
  replace H := sqbi H
  obtain ⟨⟨t727, t728⟩, A11, H⟩ := H
  try dsimp only at H
  replace H := sqj H
  rcases H with ⟨c12, H⟩ | ⟨c12, H⟩
  ·have c12b0 : (a0_0 == t727 && (a0_1 == t728)) = true := c12
   (try (have c12b1 : decide (a0_0 = t727 && (a0_1 == t728)) = true := by simpa using c12))
   (try (have c12b2 : (a0_0 == t727 && (a0_1 == t728)) = true := by simpa using c12))
   clear c12
   (first | rw [c12b0] | (simp only [i64_w, i32_w]; rw [c12b0]) | skip)
   have H' := Aside0.mk H
   clear H
   try go_wp2
   replace BK722 := sqdr BK722
   replace BK723 := sqdr BK723
   replace BK724 := sqdr BK724
   replace HB := sqdB HB
   refine sqst 18 (fun w' => w'.cell? ⟨gb722, 0, none⟩ = some (.int .i64 a0_0) ∧ w'.cell? ⟨gb722, 1, none⟩ = some (.int .i64 a0_1) ∧ w'.cell? ⟨gb723, 0, none⟩ = some (.int .i64 a1_0) ∧ w'.cell? ⟨gb723, 1, none⟩ = some (.int .i64 a1_1)) sqz (fun hHeld => ?_); refine with_tabW spec_RangeMeet.tab1 spec_RangeMeet.bits1 (fun HT_ HW_ => ?_)
   generalize w6.drew = w13 at BK722 BK723 BK724 HB hHeld ⊢
   refine sqw HT_ HW_ 0 5 hHeld ?_
   refine sqo HT_ 1 6 (fun K hK => ?_)
   refine sqG Try.func45 #[.agg #[.int .i64 a0_0, .int .i64 a0_1]] ?_
   with_reducible refine (spec_RangeOk.calls a0_0 a0_1 true _ A7.out).mono ?_
   rintro e w14 ⟨rfl, hb⟩
   refine ⟨_, rfl, ?_⟩
   refine sqM3 BK722 BK723 BK724 hb ?_; clear BK722 BK723 BK724; intro BK722 BK723 BK724
   replace HB := sqs HB hb
   (try clear hb)
   refine hK.out _ _ sqz (fun hHeld => ?_)
   clear hK K
   refine sqnm ?_
   refine sqp HT_ 2 7 ?_
   refine sqp HT_ 3 8 ?_
   refine sqw HT_ HW_ 4 9 hHeld ?_
   refine sqo HT_ 5 10 (fun K hK => ?_)
   refine sqG Try.func45 #[.agg #[.int .i64 a1_0, .int .i64 a1_1]] ?_
   with_reducible refine (spec_RangeOk.calls a1_0 a1_1 true _ A9.out).mono ?_
   rintro e w15 ⟨rfl, hb⟩
   refine ⟨_, rfl, ?_⟩
   refine sqM3 BK722 BK723 BK724 hb ?_; clear BK722 BK723 BK724; intro BK722 BK723 BK724
   replace HB := sqs HB hb
   (try clear hb)
   refine hK.out _ _ sqz (fun hHeld => ?_)
   clear hK K
   refine sqnm ?_
   refine sqp HT_ 6 11 ?_
   refine sqp HT_ 7 12 ?_
   refine sqp HT_ 8 13 ?_
   refine sqw HT_ HW_ 9 14 hHeld ?_
   refine sqo HT_ 10 15 (fun K hK => ?_)
   refine sqG Try.func99 #[] ?_
   with_reducible refine (spec_l8None.calls  t727 t728 _ A11.out).mono ?_
   rintro e w16 ⟨rfl, hb⟩
   refine ⟨_, rfl, ?_⟩
   refine sqM3 BK722 BK723 BK724 hb ?_; clear BK722 BK723 BK724; intro BK722 BK723 BK724
   replace HB := sqs HB hb
   (try clear hb)
   refine hK.out _ _ sqz (fun hHeld => ?_)
   clear hK K
   refine sqnm ?_
   refine sqp HT_ 11 16 ?_
   refine sqp HT_ 12 17 ?_
   refine sqp HT_ 13 18 ?_
   refine sqpu HT_ 14 19 ?_
   refine sqpu HT_ 15 20 ?_
   refine sqpu HT_ 16 21 ?_
   refine sqp HT_ 17 22 ?_
   refine done_ (done_of HT_.out (by kernel_rfl)) ?_
   try go_wp2
   go_meet
   case rel => exact ⟨_, (true), (by first | rfl | (simp; done) | (simp [*]; done)), H', ⟨by first | omega | exact Nat.le_refl _⟩, sqk BK722, sqk BK723, sqk BK724, sqh HB⟩
  have c12b0 : (a0_0 == t727 && (a0_1 == t728)) = false := by simpa using c12
  (try (have c12b1 : decide (a0_0 = t727 && (a0_1 == t728)) = false := by simpa using c12))
  (try (have c12b2 : (a0_0 == t727 && (a0_1 == t728)) = false := by simpa using c12))
  (try (have c12b3 : ¬ (a0_0 = t727 && (a0_1 == t728)) := by simpa using c12))
  clear c12
  (first | rw [c12b0] | (simp only [i64_w, i32_w]; rw [c12b0]) | skip)
  replace H := sqbi H
  obtain ⟨⟨t729, t730⟩, A17, H⟩ := H
  try dsimp only at H
  have H' := Aside0.mk H
  clear H
  try go_wp2
  replace BK722 := sqdr BK722
  replace BK723 := sqdr BK723
  replace BK724 := sqdr BK724
  replace HB := sqdB HB
  refine sqst 18 (fun w' => w'.cell? ⟨gb722, 0, none⟩ = some (.int .i64 a0_0) ∧ w'.cell? ⟨gb722, 1, none⟩ = some (.int .i64 a0_1) ∧ w'.cell? ⟨gb723, 0, none⟩ = some (.int .i64 a1_0) ∧ w'.cell? ⟨gb723, 1, none⟩ = some (.int .i64 a1_1)) sqz (fun hHeld => ?_); refine with_tabW spec_RangeMeet.tab1 spec_RangeMeet.bits1 (fun HT_ HW_ => ?_)
  generalize w6.drew = w18 at BK722 BK723 BK724 HB hHeld ⊢
  refine sqw HT_ HW_ 0 5 hHeld ?_
  refine sqo HT_ 1 6 (fun K hK => ?_)
  refine sqG Try.func45 #[.agg #[.int .i64 a0_0, .int .i64 a0_1]] ?_
  with_reducible refine (spec_RangeOk.calls a0_0 a0_1 true _ A7.out).mono ?_
  rintro e w19 ⟨rfl, hb⟩
  refine ⟨_, rfl, ?_⟩
  refine sqM3 BK722 BK723 BK724 hb ?_; clear BK722 BK723 BK724; intro BK722 BK723 BK724
  replace HB := sqs HB hb
  (try clear hb)
  refine hK.out _ _ sqz (fun hHeld => ?_)
  clear hK K
  refine sqnm ?_
  refine sqp HT_ 2 7 ?_
  refine sqp HT_ 3 8 ?_
  refine sqw HT_ HW_ 4 9 hHeld ?_
  refine sqo HT_ 5 10 (fun K hK => ?_)
  refine sqG Try.func45 #[.agg #[.int .i64 a1_0, .int .i64 a1_1]] ?_
  with_reducible refine (spec_RangeOk.calls a1_0 a1_1 true _ A9.out).mono ?_
  rintro e w20 ⟨rfl, hb⟩
  refine ⟨_, rfl, ?_⟩
  refine sqM3 BK722 BK723 BK724 hb ?_; clear BK722 BK723 BK724; intro BK722 BK723 BK724
  replace HB := sqs HB hb
  (try clear hb)
  refine hK.out _ _ sqz (fun hHeld => ?_)
  clear hK K
  refine sqnm ?_
  refine sqp HT_ 6 11 ?_
  refine sqp HT_ 7 12 ?_
  refine sqp HT_ 8 13 ?_
  refine sqw HT_ HW_ 9 14 hHeld ?_
  refine sqo HT_ 10 15 (fun K hK => ?_)
  refine sqG Try.func99 #[] ?_
  with_reducible refine (spec_l8None.calls  t727 t728 _ A11.out).mono ?_
  rintro e w21 ⟨rfl, hb⟩
  refine ⟨_, rfl, ?_⟩
  refine sqM3 BK722 BK723 BK724 hb ?_; clear BK722 BK723 BK724; intro BK722 BK723 BK724
  replace HB := sqs HB hb
  (try clear hb)
  refine hK.out _ _ sqz (fun hHeld => ?_)
  clear hK K
  refine sqnm ?_
  refine sqp HT_ 11 16 ?_
  refine sqp HT_ 12 17 ?_
  refine sqp HT_ 13 18 ?_
  refine sqw HT_ HW_ 14 19 hHeld ?_
  refine sqo HT_ 15 20 (fun K hK => ?_)
  refine sqG Try.func99 #[] ?_
  with_reducible refine (spec_l8None.calls  t729 t730 _ A17.out).mono ?_
  rintro e w22 ⟨rfl, hb⟩
  refine ⟨_, rfl, ?_⟩
  refine sqM3 BK722 BK723 BK724 hb ?_; clear BK722 BK723 BK724; intro BK722 BK723 BK724
  replace HB := sqs HB hb
  (try clear hb)
  refine hK.out _ _ sqz (fun hHeld => ?_)
  clear hK K
  refine sqnm ?_
  refine sqp HT_ 16 21 ?_
  refine sqp HT_ 17 22 ?_
  refine done_ (done_of HT_.out (by kernel_rfl)) ?_
  try go_wp2
  go_meet
  case rel => exact ⟨_, ((a1_0 == t729 && (a1_1 == t730))), (by first | rfl | (simp; done) | (simp [*]; done)), H', ⟨by first | omega | exact Nat.le_refl _⟩, sqk BK722, sqk BK723, sqk BK724, sqh HB⟩
 case rest =>
  clear HC3
  obtain ⟨kq, x22_2, rfl, HA, HJ2, BK722, BK723, BK724, HB⟩ := hcut
  cases kq with
  | zero => exact absurd HA.out (by simp [spec_RangeMeet.j0])
  | succ kj2 =>
   have H := HA.out
   clear HA
   simp only [spec_RangeMeet.j0] at H
   by_cases c28 : x22_2 = true
   ·subst c28
    have H1 : ((spec_l8None.f).bind fun bt731 => (some (bt731.1, bt731.2))) = some (r1, r2) := by rw [if_pos rfl] at H; exact H
    clear H
    have H := H1
    clear H1
    replace H := sqbi H
    obtain ⟨⟨t731, t732⟩, A29, H⟩ := H
    try dsimp only at H
    simp only [Option.some.injEq, Prod.mk.injEq] at H
    obtain ⟨rfl, rfl⟩ := H
    go_wp2_with (first | ((with_reducible refine gate_callee (f := 99) rfl ?_); refine sqL (some 23) Try.func99 #[] ?_; (with_reducible refine (spec_l8None.calls  t731 t732 _ A29.out).mono ?_); rintro e w30 ⟨rfl, hb⟩; refine ⟨_, rfl, ?_⟩; refine sqM3 BK722 BK723 BK724 hb ?_; clear BK722 BK723 BK724; intro BK722 BK723 BK724; replace HB := sqs HB hb; (try clear hb); obtain ⟨_, _, _, _⟩ := sqN2 NB724_722 NB724_723; obtain ⟨_, _, _, _⟩ := sqc2 BK724))
    refine bodyPost_ret (results_cell_row rfl _ _ gb724 24 #[.int .i64 t731, .int .i64 t732] (0, 0) _ rfl (sqP BK724) Try.underlying24 rfl (by kernel_rfl)) rfl ?_
    exact sqe HB
   replace c28 := Bool.eq_false_iff.mpr c28
   subst c28
   have H1 : ((spec_l8Max.f a0_0 a1_0).bind fun t733 => ((spec_l8Min.f a0_1 a1_1).bind fun t734 => ((spec_l8Cut.f t733 t734).bind fun bt735 => (some (bt735.1, bt735.2))))) = some (r1, r2) := by rw [if_neg (show ¬ (false = true) by decide)] at H; exact H
   clear H
   have H := H1
   clear H1
   replace H := sqbi H
   obtain ⟨t733, A34, H⟩ := H
   try dsimp only at H
   replace H := sqbi H
   obtain ⟨t734, A35, H⟩ := H
   try dsimp only at H
   replace H := sqbi H
   obtain ⟨⟨t735, t736⟩, A36, H⟩ := H
   try dsimp only at H
   simp only [Option.some.injEq, Prod.mk.injEq] at H
   obtain ⟨rfl, rfl⟩ := H
   try go_wp2
   replace BK722 := sqdr BK722
   replace BK723 := sqdr BK723
   replace BK724 := sqdr BK724
   replace HB := sqdB HB
   refine sqst 12 (fun w' => w'.cell? ⟨gb722, 0, none⟩ = some (.int .i64 a0_0) ∧ w'.cell? ⟨gb722, 1, none⟩ = some (.int .i64 a0_1) ∧ w'.cell? ⟨gb723, 0, none⟩ = some (.int .i64 a1_0) ∧ w'.cell? ⟨gb723, 1, none⟩ = some (.int .i64 a1_1)) sqz (fun hHeld => ?_); refine with_tabW spec_RangeMeet.tab3 spec_RangeMeet.bits3 (fun HT_ HW_ => ?_)
   generalize wc.drew = w37 at BK722 BK723 BK724 HB hHeld ⊢
   refine sqp HT_ 0 24 ?_
   refine sqp HT_ 2 26 ?_
   refine sqp HT_ 5 29 ?_
   refine sqp HT_ 7 31 ?_
   refine sqw HT_ HW_ 1 25 hHeld ?_
   refine sqw HT_ HW_ 3 27 hHeld ?_
   refine sqw HT_ HW_ 6 30 hHeld ?_
   refine sqw HT_ HW_ 8 32 hHeld ?_
   refine sqo HT_ 4 28 (fun K hK => ?_)
   refine sqG Try.func122 #[.int .i64 a0_0, .int .i64 a1_0] ?_
   with_reducible refine (spec_l8Max.calls a0_0 a1_0 t733 _ A34.out).mono ?_
   rintro e w' ⟨rfl, ⟨nd, rfl⟩⟩
   refine ⟨_, rfl, ?_⟩
   refine hK.out _ _ sqz (fun hHeld => ?_)
   clear hK K
   refine sqnm ?_
   refine sqo HT_ 9 33 (fun K hK => ?_)
   refine sqG Try.func134 #[.int .i64 a0_1, .int .i64 a1_1] ?_
   with_reducible refine (spec_l8Min.calls a0_1 a1_1 t734 _ A35.out).mono ?_
   rintro e w' ⟨rfl, ⟨nd, rfl⟩⟩
   refine ⟨_, rfl, ?_⟩
   refine hK.out _ _ sqz (fun hHeld => ?_)
   clear hK K
   refine sqnm ?_
   refine sqo HT_ 10 34 (fun K hK => ?_)
   refine sqG Try.func133 #[.int .i64 t733, .int .i64 t734] ?_
   with_reducible refine (spec_l8Cut.calls t733 t734 t735 t736 _ A36.out).mono ?_
   rintro e w38 ⟨rfl, hb⟩
   refine ⟨_, rfl, ?_⟩
   refine sqM3 BK722 BK723 BK724 hb ?_; clear BK722 BK723 BK724; intro BK722 BK723 BK724
   replace HB := sqs HB hb
   (try clear hb)
   refine hK.out _ _ sqz (fun hHeld => ?_)
   clear hK K
   refine sqnm ?_
   refine one_ (i := 11) (N := none) #[true, true, true, true, true, true, true, true, true, true, true, true] rfl rfl (one_of HT_.out (by kernel_rfl)) (by decide) (fun K hK => ?_)
   have hs39 : w38.cell? ⟨gb724, 0, none⟩ = some (.int .i64 0) := (blk_cell BK724.out 0).trans rfl
   have hfs39 := blk_frozen BK724.out 0
   have hns39_0 := NB722_724.out
   have hns39_1 := NB723_724.out
   have hms39_0 := NB724_722.out
   have hms39_1 := NB724_723.out
   have hs40 : w38.cell? ⟨gb724, 1, none⟩ = some (.int .i64 0) := (blk_cell BK724.out 1).trans rfl
   have hfs40 := blk_frozen BK724.out 1
   have hns40_0 := NB722_724.out
   have hns40_1 := NB723_724.out
   have hms40_0 := NB724_722.out
   have hms40_1 := NB724_723.out
   refine skip_ (w1 := ?_) (by rfl) rfl ?_ ?_
   rotate_left
   ·go_simp
    rfl
   refine hK.out _ _ ⟨(sqfa NB722_724 ((sqfa NB722_724 (hHeld.1)))), (sqfa NB722_724 ((sqfa NB722_724 (hHeld.2.1)))), (sqfa NB723_724 ((sqfa NB723_724 (hHeld.2.2.1)))), (sqfa NB723_724 ((sqfa NB723_724 (hHeld.2.2.2))))⟩ (fun hHeld => ?_)
   clear hK K
   refine done_ (done_of HT_.out (by kernel_rfl)) ?_
   try go_wp2
   refine bodyPost_ret (results_cell_row rfl _ _ gb724 24 #[.int .i64 t735, .int .i64 t736] (0, 0) _ rfl (sqP BK724) Try.underlying24 rfl (by kernel_rfl)) rfl ?_
   exact sqe HB

end Go.Proofs.Ytkekcenlleebeaa.PFnValLattice
