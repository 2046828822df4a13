/- Functions of the program as plain Lean functions, and that calls of them come to what these tell. Conditions: those in each law. -/
import Derived.Test.YtkekcenlleebeaaSq
import Derived.Test.YtkekcenlleebeaaDFnExactAbsIn
import Derived.Test.YtkekcenlleebeaaQFnExactAbsInx0
import Derived.Test.YtkekcenlleebeaaQFnExactAbsInx3
import Derived.Test.YtkekcenlleebeaaQFnExactAbsInx23
namespace Go.Proofs.Ytkekcenlleebeaa.PFnExactAbsIn
open Go.RowKit Go.Proofs.Ytkekcenlleebeaa.Sq Go.Proofs.YtkekcenlleebeaaW.PrintWords Go.Proofs.YtkekcenlleebeaaW.PrintLast Go.Proofs.YtkekcenlleebeaaW.PrintMore
attribute [local go_sem] max2_int min2_int max_two min_two max_three min_three max_four min_four   -- for this text's walks alone
set_option linter.unusedVariables false
set_option linter.unusedSimpArgs false

attribute [local go_sem high] eqA30
/-! ### impl_Range_empty: function 95 -/
set_option maxHeartbeats 8000000 in
set_option maxRecDepth 100000 in
theorem impl_Range_empty.calls (a0_0 : Int) (a0_1 : Int) (r : Bool) (w : World) (h : impl_Range_empty.f a0_0 a0_1 = some r) :
  Calls Try.prog 95 #[.agg #[.int .i64 a0_0, .int .i64 a0_1]] w fun e w' => e = .returned (.bool r) ∧ Below w.heap.size w w' := by
 have hu24 := Try.underlying24
 have HB := Aside0.mk (Below.refl w.heap.size w)
 have H : (some (decide (a0_0 > a0_1))) = some r := h
 clear h
 obtain rfl := Option.some.inj H
 go_enter Try.func95, Try.ntmps95
 go_wp2_with (first | ((with_reducible refine gate_dst (N := 1) rfl ?_); refine sqx 1 #[.int .i64 a0_0, .int .i64 a0_1] 24 ?_; intro gb379 hg w2 hbox hb; have BK379 := Aside0.mk hbox; have GW379 := sqg HB hg; have GE379 := sqg HB hg; replace HB := sqs HB hb; clear hb hbox hg; obtain ⟨hcz3_0, hcz3_1, hfz3_0, hfz3_1⟩ := sqc2 BK379))
 go_ret
 exact sqe HB

/-! ### impl_valNone: function 96 -/
set_option maxHeartbeats 8000000 in
set_option maxRecDepth 100000 in
theorem impl_valNone.calls  (r1 : Int) (r2 : Int) (r3 : Int) (r4 : Int) (w : World) (h : impl_valNone.f  = some (r1, r2, r3, r4)) :
  Calls Try.prog 96 #[] w fun e w' => e = .returned (.agg #[.int .i64 r1, .int .i64 r2, .int .i64 r3, .int .i64 r4]) ∧ Below w.heap.size w w' := by
 have hu30 := Try.underlying30
 have HB := Aside0.mk (Below.refl w.heap.size w)
 have H : (some (1, 0, 0, 0)) = some (r1, r2, r3, r4) := h
 clear h
 simp only [Option.some.injEq, Prod.mk.injEq] at H
 obtain ⟨rfl, rfl, rfl, rfl⟩ := H
 go_enter Try.func96, Try.ntmps96
 go_wp2_with (first | ((with_reducible refine gate_dst (N := 0) rfl ?_); refine sqx 0 #[.int .i64 0, .int .i64 0, .int .i64 0, .int .i64 0] 30 ?_; intro gb380 hg w1 hbox hb; have BK380 := Aside0.mk hbox; have GW380 := sqg HB hg; have GE380 := sqg HB hg; replace HB := sqs HB hb; clear hb hbox hg; obtain ⟨hcz2_0, hcz2_1, hcz2_2, hcz2_3, hfz2_0, hfz2_1, hfz2_2, hfz2_3⟩ := sqc4 BK380))
 refine bodyPost_ret (results_cell_row rfl _ _ gb380 30 #[.int .i64 1, .int .i64 0, .int .i64 0, .int .i64 0] (0, 0) _ rfl (by refine sqt ?_; refine blk_put (cs := #[.int .i64 1, .int .i64 0, .int .i64 0, .int .i64 0]) ?_ 3 _ rfl; refine sqt ?_; refine blk_put (cs := #[.int .i64 1, .int .i64 0, .int .i64 0, .int .i64 0]) ?_ 2 _ rfl; refine sqt ?_; refine blk_put (cs := #[.int .i64 1, .int .i64 0, .int .i64 0, .int .i64 0]) ?_ 1 _ rfl; refine sqt ?_; refine blk_put (cs := #[.int .i64 0, .int .i64 0, .int .i64 0, .int .i64 0]) ?_ 0 _ rfl; refine sqt ?_; exact BK380.out) Try.underlying30 rfl (by kernel_rfl)) rfl ?_
 exact sqe HB

/-! ### impl_valOne: function 97 -/
set_option maxHeartbeats 8000000 in
set_option maxRecDepth 100000 in
theorem impl_valOne.calls (a0 : Int) (r1 : Int) (r2 : Int) (r3 : Int) (r4 : Int) (w : World) (h : impl_valOne.f a0 = some (r1, r2, r3, r4)) :
  Calls Try.prog 97 #[.int .i64 a0] w fun e w' => e = .returned (.agg #[.int .i64 r1, .int .i64 r2, .int .i64 r3, .int .i64 r4]) ∧ Below w.heap.size w w' := by
 have hu30 := Try.underlying30
 have HB := Aside0.mk (Below.refl w.heap.size w)
 have H : (some (a0, a0, 0, a0)) = some (r1, r2, r3, r4) := h
 clear h
 simp only [Option.some.injEq, Prod.mk.injEq] at H
 obtain ⟨rfl, rfl, rfl, rfl⟩ := H
 go_enter Try.func97, Try.ntmps97
 go_wp2_with (first | ((with_reducible refine gate_dst (N := 2) rfl ?_); refine sqx 2 #[.int .i64 0, .int .i64 0, .int .i64 0, .int .i64 0] 30 ?_; intro gb381 hg w2 hbox hb; have BK381 := Aside0.mk hbox; have GW381 := sqg HB hg; have GE381 := sqg HB hg; replace HB := sqs HB hb; clear hb hbox hg; obtain ⟨hcz3_0, hcz3_1, hcz3_2, hcz3_3, hfz3_0, hfz3_1, hfz3_2, hfz3_3⟩ := sqc4 BK381))
 refine bodyPost_ret (results_cell_row rfl _ _ gb381 30 #[.int .i64 a0, .int .i64 a0, .int .i64 0, .int .i64 a0] (0, 0) _ rfl (by refine sqt ?_; refine blk_put (cs := #[.int .i64 a0, .int .i64 a0, .int .i64 0, .int .i64 0]) ?_ 3 _ rfl; refine sqt ?_; refine blk_put (cs := #[.int .i64 a0, .int .i64 a0, .int .i64 0, .int .i64 0]) ?_ 2 _ rfl; refine sqt ?_; refine blk_put (cs := #[.int .i64 a0, .int .i64 0, .int .i64 0, .int .i64 0]) ?_ 1 _ rfl; refine sqt ?_; refine blk_put (cs := #[.int .i64 0, .int .i64 0, .int .i64 0, .int .i64 0]) ?_ 0 _ rfl; refine sqt ?_; exact BK381.out) Try.underlying30 rfl (by kernel_rfl)) rfl ?_
 exact sqe HB

/-! ### impl_restMod: function 98 -/
set_option maxHeartbeats 8000000 in
set_option maxRecDepth 100000 in
theorem impl_restMod.calls (a0 : Int) (a1 : Int) (r : Int) (w : World) (h : impl_restMod.f a0 a1 = some r) :
  Calls Try.prog 98 #[.int .i64 a0, .int .i64 a1] w fun e w' => e = .returned (.int .i64 r) ∧ Drawn0 w w' := by
 have H : (if a1 = 0 then (none) else (if (Int.tmod a0 a1) < 0 then (some (wrap64 ((Int.tmod a0 a1) + a1))) else (some (Int.tmod a0 a1)))) = some r := h
 clear h
 replace H := sqj H
 rcases H with ⟨c3, H⟩ | ⟨c3, H⟩
 ·exact absurd H (by simp)
 have c3b0 : (a1 == 0) = false := beq_eq_false_iff_ne.mpr c3
 have c3b1 : (a1 != 0) = true := bne_iff_ne.mpr c3
 replace H := sqj H
 rcases H with ⟨c4, H⟩ | ⟨c4, H⟩
 ·have c4b0 := decide_eq_true c4
  clear c4
  obtain rfl := Option.some.inj H
  go_enter Try.func98, Try.ntmps98
  go_wp2
  go_ret
  exact ⟨by first | rfl | (simp; done) | (simp [*]; done), by repeat (first | exact Drawn0.refl _ | apply Drawn0.step)⟩
 have c4b0 := decide_eq_false c4
 clear c4
 obtain rfl := Option.some.inj H
 go_enter Try.func98, Try.ntmps98
 go_wp2
 go_ret
 exact ⟨by first | rfl | (simp; done) | (simp [*]; done), by repeat (first | exact Drawn0.refl _ | apply Drawn0.step)⟩

/-! ### impl_ValMake: function 16 -/
set_option maxHeartbeats 8000000 in
set_option maxRecDepth 100000 in
theorem impl_ValMake.calls (k : Nat) (a0_0 : Int) (a0_1 : Int) (a1_0 : Int) (a1_1 : Int) (r1 : Int) (r2 : Int) (r3 : Int) (r4 : Int) (w : World) (h : impl_ValMake.f k a0_0 a0_1 a1_0 a1_1 = some (r1, r2, r3, r4)) :
  Calls Try.prog 16 #[.agg #[.int .i64 a0_0, .int .i64 a0_1], .agg #[.int .i64 a1_0, .int .i64 a1_1]] w fun e w' => e = .returned (.agg #[.int .i64 r1, .int .i64 r2, .int .i64 r3, .int .i64 r4]) ∧ Below w.heap.size w w' := by
 have hu24 := Try.underlying24
 have hu26 := Try.underlying26
 have hu30 := Try.underlying30
 have HB := Aside0.mk (Below.refl w.heap.size w)
 have H : ((impl_RangeOk.f a0_0 a0_1).bind fun t385 => (if t385 = true then ((impl_RestOk.f a1_0 a1_1).bind fun t386 => (if t386 = true then ((impl_Range_empty.f a0_0 a0_1).bind fun t387 => (impl_ValMake.j0 k t387 a0_0 a0_1 a1_0 a1_1)) else (impl_ValMake.j0 k true a0_0 a0_1 a1_0 a1_1))) else (impl_ValMake.j0 k true a0_0 a0_1 a1_0 a1_1))) = some (r1, r2, r3, r4) := h
 clear h
 have HC3 := Aside0.mk H
 clear H
 go_enter Try.func16, Try.ntmps16
 go_upto_region 1 with (first | ((with_reducible refine gate_dst (N := 2) rfl ?_); refine sqx 2 #[.int .i64 a0_0, .int .i64 a0_1] 24 ?_; intro gb382 hg w4 hbox hb; have BK382 := Aside0.mk hbox; have GW382 := sqg HB hg; have GE382 := sqg HB hg; replace HB := sqs HB hb; clear hb hbox hg) | ((with_reducible refine gate_dst (N := 3) rfl ?_); refine sqx 3 #[.int .i64 a1_0, .int .i64 a1_1] 26 ?_; intro gb383 hg w5 hbox hb; have BK383 := Aside0.mk hbox; have GW383 := sqg HB hg; have GE383 := sqg HB hg; have NB382_383 := sqn BK382 hg; have NB383_382 := sqm BK382 hg; replace BK382 := sqb BK382 hb; replace HB := sqs HB hb; clear hb hbox hg) | ((with_reducible refine gate_dst (N := 4) rfl ?_); refine sqx 4 #[.int .i64 0, .int .i64 0, .int .i64 0, .int .i64 0] 30 ?_; intro gb384 hg w6 hbox hb; have BK384 := Aside0.mk hbox; have GW384 := sqg HB hg; have GE384 := sqg HB hg; have NB382_384 := sqn BK382 hg; have NB384_382 := sqm BK382 hg; have NB383_384 := sqn BK383 hg; have NB384_383 := sqm BK383 hg; refine sqM2 BK382 BK383 hb ?_; clear BK382 BK383; intro BK382 BK383; replace HB := sqs HB hb; clear hb hbox hg))
 repeat (go_quiet (first | ((with_reducible refine gate_dst (N := 2) rfl ?_); refine sqx 2 #[.int .i64 a0_0, .int .i64 a0_1] 24 ?_; intro gb382 hg w4 hbox hb; have BK382 := Aside0.mk hbox; have GW382 := sqg HB hg; have GE382 := sqg HB hg; replace HB := sqs HB hb; clear hb hbox hg) | ((with_reducible refine gate_dst (N := 3) rfl ?_); refine sqx 3 #[.int .i64 a1_0, .int .i64 a1_1] 26 ?_; intro gb383 hg w5 hbox hb; have BK383 := Aside0.mk hbox; have GW383 := sqg HB hg; have GE383 := sqg HB hg; have NB382_383 := sqn BK382 hg; have NB383_382 := sqm BK382 hg; replace BK382 := sqb BK382 hb; replace HB := sqs HB hb; clear hb hbox hg) | ((with_reducible refine gate_dst (N := 4) rfl ?_); refine sqx 4 #[.int .i64 0, .int .i64 0, .int .i64 0, .int .i64 0] 30 ?_; intro gb384 hg w6 hbox hb; have BK384 := Aside0.mk hbox; have GW384 := sqg HB hg; have GE384 := sqg HB hg; have NB382_384 := sqn BK382 hg; have NB384_382 := sqm BK382 hg; have NB383_384 := sqn BK383 hg; have NB384_383 := sqm BK383 hg; refine sqM2 BK382 BK383 hb ?_; clear BK382 BK383; intro BK382 BK383; replace HB := sqs HB hb; clear hb hbox hg)); go_upto_region 1 with (first | ((with_reducible refine gate_dst (N := 2) rfl ?_); refine sqx 2 #[.int .i64 a0_0, .int .i64 a0_1] 24 ?_; intro gb382 hg w4 hbox hb; have BK382 := Aside0.mk hbox; have GW382 := sqg HB hg; have GE382 := sqg HB hg; replace HB := sqs HB hb; clear hb hbox hg) | ((with_reducible refine gate_dst (N := 3) rfl ?_); refine sqx 3 #[.int .i64 a1_0, .int .i64 a1_1] 26 ?_; intro gb383 hg w5 hbox hb; have BK383 := Aside0.mk hbox; have GW383 := sqg HB hg; have GE383 := sqg HB hg; have NB382_383 := sqn BK382 hg; have NB383_382 := sqm BK382 hg; replace BK382 := sqb BK382 hb; replace HB := sqs HB hb; clear hb hbox hg) | ((with_reducible refine gate_dst (N := 4) rfl ?_); refine sqx 4 #[.int .i64 0, .int .i64 0, .int .i64 0, .int .i64 0] 30 ?_; intro gb384 hg w6 hbox hb; have BK384 := Aside0.mk hbox; have GW384 := sqg HB hg; have GE384 := sqg HB hg; have NB382_384 := sqn BK382 hg; have NB384_382 := sqm BK382 hg; have NB383_384 := sqn BK383 hg; have NB384_383 := sqm BK383 hg; refine sqM2 BK382 BK383 hb ?_; clear BK382 BK383; intro BK382 BK383; replace HB := sqs HB hb; clear hb hbox hg)))
 (try simp only [Act.put, List.setIfInBounds_toArray, List.set_cons_zero, List.set_cons_succ])
 go_cut [18] (fun v18 wc => ∃ (kq : Nat) (x18_2 : Bool), v18 = .bool x18_2 ∧ Aside0 (impl_ValMake.j0 kq x18_2 a0_0 a0_1 a1_0 a1_1 = some (r1, r2, r3, r4)) ∧ Aside0 (kq ≤ k) ∧ Aside0 (wc.heap[gb382]? = some (.cells #[.int .i64 a0_0, .int .i64 a0_1] 24 (0, 0))) ∧ Aside0 (wc.heap[gb383]? = some (.cells #[.int .i64 a1_0, .int .i64 a1_1] 26 (0, 0))) ∧ Aside0 (wc.heap[gb384]? = some (.cells #[.int .i64 0, .int .i64 0, .int .i64 0, .int .i64 0] 30 (0, 0))) ∧ Aside0 (Below w.heap.size w wc))
 case first =>
  have H := HC3.out
  clear HC3
  replace H := sqbi H
  obtain ⟨t385, A7, H⟩ := H
  replace H : (if t385 = true then ((impl_RestOk.f a1_0 a1_1).bind fun t386 => (if t386 = true then ((impl_Range_empty.f a0_0 a0_1).bind fun t387 => (impl_ValMake.j0 k t387 a0_0 a0_1 a1_0 a1_1)) else (impl_ValMake.j0 k true a0_0 a0_1 a1_0 a1_1))) else (impl_ValMake.j0 k true a0_0 a0_1 a1_0 a1_1)) = some (r1, r2, r3, r4) := H
  rcases sqI (t385 = true) with c8 | c8
  ·replace c8 := Bool.eq_false_iff.mpr c8
   subst c8
   have H1 : (impl_ValMake.j0 k true a0_0 a0_1 a1_0 a1_1) = some (r1, r2, r3, r4) := by rw [if_neg (show ¬ (false = true) by decide)] at H; exact H
   clear H
   have H := H1
   clear H1
   have H' := Aside0.mk H
   clear H
   have hnb28 := NB382_383.out
   have hnc28 := NB383_382.out
   have hnb29 := NB382_384.out
   have hnc29 := NB384_382.out
   obtain ⟨hcz30_0, hcz30_1, hfz30_0, hfz30_1⟩ := sqc2 BK382
   go_wp2_with (first | (go_at_call 76; (with_reducible refine (impl_RangeOk.calls a0_0 a0_1 false _ A7.out).mono ?_); rintro e w31 ⟨rfl, hb⟩; refine sqM3 BK382 BK383 BK384 hb ?_; clear BK382 BK383 BK384; intro BK382 BK383 BK384; replace HB := sqs HB hb; (try clear hb)))
   repeat (go_quiet (first | (go_at_call 76; (with_reducible refine (impl_RangeOk.calls a0_0 a0_1 false _ A7.out).mono ?_); rintro e w31 ⟨rfl, hb⟩; refine sqM3 BK382 BK383 BK384 hb ?_; clear BK382 BK383 BK384; intro BK382 BK383 BK384; replace HB := sqs HB hb; (try clear hb))); try go_wp2_with (first | (go_at_call 76; (with_reducible refine (impl_RangeOk.calls a0_0 a0_1 false _ A7.out).mono ?_); rintro e w31 ⟨rfl, hb⟩; refine sqM3 BK382 BK383 BK384 hb ?_; clear BK382 BK383 BK384; intro BK382 BK383 BK384; replace HB := sqs HB hb; (try clear hb))))
   go_meet
   case rel => exact ⟨_, (true), (by first | rfl | (simp; done) | (simp [*]; done)), H', ⟨by first | omega | exact Nat.le_refl _⟩, sqk BK382, sqk BK383, sqk BK384, sqh HB⟩
  subst c8
  have H1 : ((impl_RestOk.f a1_0 a1_1).bind fun t386 => (if t386 = true then ((impl_Range_empty.f a0_0 a0_1).bind fun t387 => (impl_ValMake.j0 k t387 a0_0 a0_1 a1_0 a1_1)) else (impl_ValMake.j0 k true a0_0 a0_1 a1_0 a1_1))) = some (r1, r2, r3, r4) := by rw [if_pos rfl] at H; exact H
  clear H
  have H := H1
  clear H1
  replace H := sqbi H
  obtain ⟨t386, A9, H⟩ := H
  replace H : (if t386 = true then ((impl_Range_empty.f a0_0 a0_1).bind fun t387 => (impl_ValMake.j0 k t387 a0_0 a0_1 a1_0 a1_1)) else (impl_ValMake.j0 k true a0_0 a0_1 a1_0 a1_1)) = some (r1, r2, r3, r4) := H
  rcases sqI (t386 = true) with c10 | c10
  ·replace c10 := Bool.eq_false_iff.mpr c10
   subst c10
   have H1 : (impl_ValMake.j0 k true a0_0 a0_1 a1_0 a1_1) = some (r1, r2, r3, r4) := by rw [if_neg (show ¬ (false = true) by decide)] at H; exact H
   clear H
   have H := H1
   clear H1
   have H' := Aside0.mk H
   clear H
   have hnb21 := NB382_383.out
   have hnc21 := NB383_382.out
   have hnb22 := NB382_384.out
   have hnc22 := NB384_382.out
   obtain ⟨hcz23_0, hcz23_1, hfz23_0, hfz23_1⟩ := sqc2 BK382
   go_wp2_with (first | (go_at_call 76; (with_reducible refine (impl_RangeOk.calls a0_0 a0_1 true _ A7.out).mono ?_); rintro e w24 ⟨rfl, hb⟩; refine sqM3 BK382 BK383 BK384 hb ?_; clear BK382 BK383 BK384; intro BK382 BK383 BK384; replace HB := sqs HB hb; (try clear hb); have hnb25 := NB383_384.out; have hnc25 := NB384_383.out; obtain ⟨hcz26_0, hcz26_1, hfz26_0, hfz26_1⟩ := sqc2 BK383) | (go_at_call 65; (with_reducible refine (impl_RestOk.calls a1_0 a1_1 false _ A9.out).mono ?_); rintro e w27 ⟨rfl, hb⟩; refine sqM3 BK382 BK383 BK384 hb ?_; clear BK382 BK383 BK384; intro BK382 BK383 BK384; replace HB := sqs HB hb; (try clear hb)))
   repeat (go_quiet (first | (go_at_call 76; (with_reducible refine (impl_RangeOk.calls a0_0 a0_1 true _ A7.out).mono ?_); rintro e w24 ⟨rfl, hb⟩; refine sqM3 BK382 BK383 BK384 hb ?_; clear BK382 BK383 BK384; intro BK382 BK383 BK384; replace HB := sqs HB hb; (try clear hb); have hnb25 := NB383_384.out; have hnc25 := NB384_383.out; obtain ⟨hcz26_0, hcz26_1, hfz26_0, hfz26_1⟩ := sqc2 BK383) | (go_at_call 65; (with_reducible refine (impl_RestOk.calls a1_0 a1_1 false _ A9.out).mono ?_); rintro e w27 ⟨rfl, hb⟩; refine sqM3 BK382 BK383 BK384 hb ?_; clear BK382 BK383 BK384; intro BK382 BK383 BK384; replace HB := sqs HB hb; (try clear hb))); try go_wp2_with (first | (go_at_call 76; (with_reducible refine (impl_RangeOk.calls a0_0 a0_1 true _ A7.out).mono ?_); rintro e w24 ⟨rfl, hb⟩; refine sqM3 BK382 BK383 BK384 hb ?_; clear BK382 BK383 BK384; intro BK382 BK383 BK384; replace HB := sqs HB hb; (try clear hb); have hnb25 := NB383_384.out; have hnc25 := NB384_383.out; obtain ⟨hcz26_0, hcz26_1, hfz26_0, hfz26_1⟩ := sqc2 BK383) | (go_at_call 65; (with_reducible refine (impl_RestOk.calls a1_0 a1_1 false _ A9.out).mono ?_); rintro e w27 ⟨rfl, hb⟩; refine sqM3 BK382 BK383 BK384 hb ?_; clear BK382 BK383 BK384; intro BK382 BK383 BK384; replace HB := sqs HB hb; (try clear hb))))
   go_meet
   case rel => exact ⟨_, (true), (by first | rfl | (simp; done) | (simp [*]; done)), H', ⟨by first | omega | exact Nat.le_refl _⟩, sqk BK382, sqk BK383, sqk BK384, sqh HB⟩
  subst c10
  have H1 : ((impl_Range_empty.f a0_0 a0_1).bind fun t387 => (impl_ValMake.j0 k t387 a0_0 a0_1 a1_0 a1_1)) = some (r1, r2, r3, r4) := by rw [if_pos rfl] at H; exact H
  clear H
  have H := H1
  clear H1
  replace H := sqbi H
  obtain ⟨t387, A11, H⟩ := H
  replace H : (impl_ValMake.j0 k t387 a0_0 a0_1 a1_0 a1_1) = some (r1, r2, r3, r4) := H
  have H' := Aside0.mk H
  clear H
  have hnb12 := NB382_383.out
  have hnc12 := NB383_382.out
  have hnb13 := NB382_384.out
  have hnc13 := NB384_382.out
  obtain ⟨hcz14_0, hcz14_1, hfz14_0, hfz14_1⟩ := sqc2 BK382
  go_wp2_with (first | (go_at_call 76; (with_reducible refine (impl_RangeOk.calls a0_0 a0_1 true _ A7.out).mono ?_); rintro e w15 ⟨rfl, hb⟩; refine sqM3 BK382 BK383 BK384 hb ?_; clear BK382 BK383 BK384; intro BK382 BK383 BK384; replace HB := sqs HB hb; (try clear hb); have hnb16 := NB383_384.out; have hnc16 := NB384_383.out; obtain ⟨hcz17_0, hcz17_1, hfz17_0, hfz17_1⟩ := sqc2 BK383) | (go_at_call 65; (with_reducible refine (impl_RestOk.calls a1_0 a1_1 true _ A9.out).mono ?_); rintro e w18 ⟨rfl, hb⟩; refine sqM3 BK382 BK383 BK384 hb ?_; clear BK382 BK383 BK384; intro BK382 BK383 BK384; replace HB := sqs HB hb; (try clear hb); obtain ⟨hcz19_0, hcz19_1, hfz19_0, hfz19_1⟩ := sqc2 BK382) | (go_at_call 95; (with_reducible refine (impl_Range_empty.calls a0_0 a0_1 t387 _ A11.out).mono ?_); rintro e w20 ⟨rfl, hb⟩; refine sqM3 BK382 BK383 BK384 hb ?_; clear BK382 BK383 BK384; intro BK382 BK383 BK384; replace HB := sqs HB hb; (try clear hb)))
  repeat (go_quiet (first | (go_at_call 76; (with_reducible refine (impl_RangeOk.calls a0_0 a0_1 true _ A7.out).mono ?_); rintro e w15 ⟨rfl, hb⟩; refine sqM3 BK382 BK383 BK384 hb ?_; clear BK382 BK383 BK384; intro BK382 BK383 BK384; replace HB := sqs HB hb; (try clear hb); have hnb16 := NB383_384.out; have hnc16 := NB384_383.out; obtain ⟨hcz17_0, hcz17_1, hfz17_0, hfz17_1⟩ := sqc2 BK383) | (go_at_call 65; (with_reducible refine (impl_RestOk.calls a1_0 a1_1 true _ A9.out).mono ?_); rintro e w18 ⟨rfl, hb⟩; refine sqM3 BK382 BK383 BK384 hb ?_; clear BK382 BK383 BK384; intro BK382 BK383 BK384; replace HB := sqs HB hb; (try clear hb); obtain ⟨hcz19_0, hcz19_1, hfz19_0, hfz19_1⟩ := sqc2 BK382) | (go_at_call 95; (with_reducible refine (impl_Range_empty.calls a0_0 a0_1 t387 _ A11.out).mono ?_); rintro e w20 ⟨rfl, hb⟩; refine sqM3 BK382 BK383 BK384 hb ?_; clear BK382 BK383 BK384; intro BK382 BK383 BK384; replace HB := sqs HB hb; (try clear hb))); try go_wp2_with (first | (go_at_call 76; (with_reducible refine (impl_RangeOk.calls a0_0 a0_1 true _ A7.out).mono ?_); rintro e w15 ⟨rfl, hb⟩; refine sqM3 BK382 BK383 BK384 hb ?_; clear BK382 BK383 BK384; intro BK382 BK383 BK384; replace HB := sqs HB hb; (try clear hb); have hnb16 := NB383_384.out; have hnc16 := NB384_383.out; obtain ⟨hcz17_0, hcz17_1, hfz17_0, hfz17_1⟩ := sqc2 BK383) | (go_at_call 65; (with_reducible refine (impl_RestOk.calls a1_0 a1_1 true _ A9.out).mono ?_); rintro e w18 ⟨rfl, hb⟩; refine sqM3 BK382 BK383 BK384 hb ?_; clear BK382 BK383 BK384; intro BK382 BK383 BK384; replace HB := sqs HB hb; (try clear hb); obtain ⟨hcz19_0, hcz19_1, hfz19_0, hfz19_1⟩ := sqc2 BK382) | (go_at_call 95; (with_reducible refine (impl_Range_empty.calls a0_0 a0_1 t387 _ A11.out).mono ?_); rintro e w20 ⟨rfl, hb⟩; refine sqM3 BK382 BK383 BK384 hb ?_; clear BK382 BK383 BK384; intro BK382 BK383 BK384; replace HB := sqs HB hb; (try clear hb))))
  go_meet
  case rel => exact ⟨_, (t387), (by first | rfl | (simp; done) | (simp [*]; done)), H', ⟨by first | omega | exact Nat.le_refl _⟩, sqk BK382, sqk BK383, sqk BK384, sqh HB⟩
 case rest =>
  clear HC3
  obtain ⟨kq, x18_2, rfl, HA, HJ2, BK382, BK383, BK384, HB⟩ := hcut
  cases kq with
  | zero => exact absurd HA.out (by simp [impl_ValMake.j0])
  | succ kj2 =>
   have H := HA.out
   clear HA
   simp only [impl_ValMake.j0] at H
   by_cases c32 : x18_2 = true
   ·subst c32
    have H1 : ((impl_valNone.f).bind fun bt388 => (some (bt388.1, bt388.2.1, bt388.2.2.1, bt388.2.2.2))) = some (r1, r2, r3, r4) := by rw [if_pos rfl] at H; exact H
    clear H
    have H := H1
    clear H1
    replace H := sqbi H
    obtain ⟨⟨t388, t389, t390, t391⟩, A33, H⟩ := H
    replace H : (some (t388, t389, t390, t391)) = some (r1, r2, r3, r4) := H
    simp only [Option.some.injEq, Prod.mk.injEq] at H
    obtain ⟨rfl, rfl, rfl, rfl⟩ := H
    go_wp2_with (first | (go_at_call 96; (with_reducible refine (impl_valNone.calls  t388 t389 t390 t391 _ A33.out).mono ?_); rintro e w34 ⟨rfl, hb⟩; refine sqM3 BK382 BK383 BK384 hb ?_; clear BK382 BK383 BK384; intro BK382 BK383 BK384; replace HB := sqs HB hb; (try clear hb); have hnb35 := NB384_382.out; have hnc35 := NB382_384.out; have hnb36 := NB384_383.out; have hnc36 := NB383_384.out; obtain ⟨hcz37_0, hcz37_1, hcz37_2, hcz37_3, hfz37_0, hfz37_1, hfz37_2, hfz37_3⟩ := sqc4 BK384))
    repeat (go_quiet (first | (go_at_call 96; (with_reducible refine (impl_valNone.calls  t388 t389 t390 t391 _ A33.out).mono ?_); rintro e w34 ⟨rfl, hb⟩; refine sqM3 BK382 BK383 BK384 hb ?_; clear BK382 BK383 BK384; intro BK382 BK383 BK384; replace HB := sqs HB hb; (try clear hb); have hnb35 := NB384_382.out; have hnc35 := NB382_384.out; have hnb36 := NB384_383.out; have hnc36 := NB383_384.out; obtain ⟨hcz37_0, hcz37_1, hcz37_2, hcz37_3, hfz37_0, hfz37_1, hfz37_2, hfz37_3⟩ := sqc4 BK384)); try go_wp2_with (first | (go_at_call 96; (with_reducible refine (impl_valNone.calls  t388 t389 t390 t391 _ A33.out).mono ?_); rintro e w34 ⟨rfl, hb⟩; refine sqM3 BK382 BK383 BK384 hb ?_; clear BK382 BK383 BK384; intro BK382 BK383 BK384; replace HB := sqs HB hb; (try clear hb); have hnb35 := NB384_382.out; have hnc35 := NB382_384.out; have hnb36 := NB384_383.out; have hnc36 := NB383_384.out; obtain ⟨hcz37_0, hcz37_1, hcz37_2, hcz37_3, hfz37_0, hfz37_1, hfz37_2, hfz37_3⟩ := sqc4 BK384)))
    refine bodyPost_ret (results_cell_row rfl _ _ gb384 30 #[.int .i64 t388, .int .i64 t389, .int .i64 t390, .int .i64 t391] (0, 0) _ rfl (by refine sqt ?_; refine blk_put (cs := #[.int .i64 t388, .int .i64 t389, .int .i64 t390, .int .i64 0]) ?_ 3 _ rfl; refine sqt ?_; refine blk_put (cs := #[.int .i64 t388, .int .i64 t389, .int .i64 0, .int .i64 0]) ?_ 2 _ rfl; refine sqt ?_; refine blk_put (cs := #[.int .i64 t388, .int .i64 0, .int .i64 0, .int .i64 0]) ?_ 1 _ rfl; refine sqt ?_; refine blk_put (cs := #[.int .i64 0, .int .i64 0, .int .i64 0, .int .i64 0]) ?_ 0 _ rfl; refine sqt ?_; exact BK384.out) Try.underlying30 rfl (by kernel_rfl)) rfl ?_
    exact sqe HB
   replace c32 := Bool.eq_false_iff.mpr c32
   subst c32
   have H1 : (if a1_0 = 0 then ((impl_RangeHas.f a0_0 a0_1 a1_1).bind fun t392 => (if t392 = true then ((impl_valOne.f a1_1).bind fun bt393 => (some (bt393.1, bt393.2.1, bt393.2.2.1, bt393.2.2.2))) else ((impl_valNone.f).bind fun bt397 => (some (bt397.1, bt397.2.1, bt397.2.2.1, bt397.2.2.2))))) else ((impl_restMod.f (wrap64 (a1_1 - a0_0)) a1_0).bind fun t401 => ((impl_restMod.f (wrap64 (a0_1 - a1_1)) a1_0).bind fun t402 => (if (wrap64 (a0_0 + t401)) > (wrap64 (a0_1 - t402)) then ((impl_valNone.f).bind fun bt403 => (some (bt403.1, bt403.2.1, bt403.2.2.1, bt403.2.2.2))) else (if (wrap64 (a0_0 + t401)) = (wrap64 (a0_1 - t402)) then ((impl_valOne.f (wrap64 (a0_0 + t401))).bind fun bt407 => (some (bt407.1, bt407.2.1, bt407.2.2.1, bt407.2.2.2))) else (some (wrap64 (a0_0 + t401), wrap64 (a0_1 - t402), a1_0, a1_1))))))) = some (r1, r2, r3, r4) := by rw [if_neg (show ¬ (false = true) by decide)] at H; exact H
   clear H
   have H := H1
   clear H1
   replace H := sqj H
   rcases H with ⟨c38, H⟩ | ⟨c38, H⟩
   ·have c38b0 : (a1_0 == 0) = true := beq_iff_eq.mpr c38
    have c38b1 : (a1_0 != 0) = false := bne_eq_false_iff_eq.mpr c38
    clear c38
    replace H := sqbi H
    obtain ⟨t392, A39, H⟩ := H
    replace H : (if t392 = true then ((impl_valOne.f a1_1).bind fun bt393 => (some (bt393.1, bt393.2.1, bt393.2.2.1, bt393.2.2.2))) else ((impl_valNone.f).bind fun bt397 => (some (bt397.1, bt397.2.1, bt397.2.2.1, bt397.2.2.2)))) = some (r1, r2, r3, r4) := H
    rcases sqI (t392 = true) with c40 | c40
    ·replace c40 := Bool.eq_false_iff.mpr c40
     subst c40
     have H1 : ((impl_valNone.f).bind fun bt397 => (some (bt397.1, bt397.2.1, bt397.2.2.1, bt397.2.2.2))) = some (r1, r2, r3, r4) := by rw [if_neg (show ¬ (false = true) by decide)] at H; exact H
     clear H
     have H := H1
     clear H1
     replace H := sqbi H
     obtain ⟨⟨t397, t398, t399, t400⟩, A51, H⟩ := H
     replace H : (some (t397, t398, t399, t400)) = some (r1, r2, r3, r4) := H
     simp only [Option.some.injEq, Prod.mk.injEq] at H
     obtain ⟨rfl, rfl, rfl, rfl⟩ := H
     have hnb52 := NB383_382.out
     have hnc52 := NB382_383.out
     have hnb53 := NB383_384.out
     have hnc53 := NB384_383.out
     obtain ⟨hcz54_0, hcz54_1, hfz54_0, hfz54_1⟩ := sqc2 BK383
     have hnb55 := NB382_384.out
     have hnc55 := NB384_382.out
     obtain ⟨hcz56_0, hcz56_1, hfz56_0, hfz56_1⟩ := sqc2 BK382
     go_wp2_with (first | (go_at_call 48; (with_reducible refine (impl_RangeHas.calls a0_0 a0_1 a1_1 false _ A39.out).mono ?_); rintro e w57 ⟨rfl, hb⟩; refine sqM3 BK382 BK383 BK384 hb ?_; clear BK382 BK383 BK384; intro BK382 BK383 BK384; replace HB := sqs HB hb; (try clear hb)) | (go_at_call 96; (with_reducible refine (impl_valNone.calls  t397 t398 t399 t400 _ A51.out).mono ?_); rintro e w58 ⟨rfl, hb⟩; refine sqM3 BK382 BK383 BK384 hb ?_; clear BK382 BK383 BK384; intro BK382 BK383 BK384; replace HB := sqs HB hb; (try clear hb); obtain ⟨hcz59_0, hcz59_1, hcz59_2, hcz59_3, hfz59_0, hfz59_1, hfz59_2, hfz59_3⟩ := sqc4 BK384))
     repeat (go_quiet (first | (go_at_call 48; (with_reducible refine (impl_RangeHas.calls a0_0 a0_1 a1_1 false _ A39.out).mono ?_); rintro e w57 ⟨rfl, hb⟩; refine sqM3 BK382 BK383 BK384 hb ?_; clear BK382 BK383 BK384; intro BK382 BK383 BK384; replace HB := sqs HB hb; (try clear hb)) | (go_at_call 96; (with_reducible refine (impl_valNone.calls  t397 t398 t399 t400 _ A51.out).mono ?_); rintro e w58 ⟨rfl, hb⟩; refine sqM3 BK382 BK383 BK384 hb ?_; clear BK382 BK383 BK384; intro BK382 BK383 BK384; replace HB := sqs HB hb; (try clear hb); obtain ⟨hcz59_0, hcz59_1, hcz59_2, hcz59_3, hfz59_0, hfz59_1, hfz59_2, hfz59_3⟩ := sqc4 BK384)); try go_wp2_with (first | (go_at_call 48; (with_reducible refine (impl_RangeHas.calls a0_0 a0_1 a1_1 false _ A39.out).mono ?_); rintro e w57 ⟨rfl, hb⟩; refine sqM3 BK382 BK383 BK384 hb ?_; clear BK382 BK383 BK384; intro BK382 BK383 BK384; replace HB := sqs HB hb; (try clear hb)) | (go_at_call 96; (with_reducible refine (impl_valNone.calls  t397 t398 t399 t400 _ A51.out).mono ?_); rintro e w58 ⟨rfl, hb⟩; refine sqM3 BK382 BK383 BK384 hb ?_; clear BK382 BK383 BK384; intro BK382 BK383 BK384; replace HB := sqs HB hb; (try clear hb); obtain ⟨hcz59_0, hcz59_1, hcz59_2, hcz59_3, hfz59_0, hfz59_1, hfz59_2, hfz59_3⟩ := sqc4 BK384)))
     refine bodyPost_ret (results_cell_row rfl _ _ gb384 30 #[.int .i64 t397, .int .i64 t398, .int .i64 t399, .int .i64 t400] (0, 0) _ rfl (by refine sqt ?_; refine blk_put (cs := #[.int .i64 t397, .int .i64 t398, .int .i64 t399, .int .i64 0]) ?_ 3 _ rfl; refine sqt ?_; refine blk_put (cs := #[.int .i64 t397, .int .i64 t398, .int .i64 0, .int .i64 0]) ?_ 2 _ rfl; refine sqt ?_; refine blk_put (cs := #[.int .i64 t397, .int .i64 0, .int .i64 0, .int .i64 0]) ?_ 1 _ rfl; refine sqt ?_; refine blk_put (cs := #[.int .i64 0, .int .i64 0, .int .i64 0, .int .i64 0]) ?_ 0 _ rfl; refine sqt ?_; exact BK384.out) Try.underlying30 rfl (by kernel_rfl)) rfl ?_
     exact sqe HB
    subst c40
    have H1 : ((impl_valOne.f a1_1).bind fun bt393 => (some (bt393.1, bt393.2.1, bt393.2.2.1, bt393.2.2.2))) = some (r1, r2, r3, r4) := by rw [if_pos rfl] at H; exact H
    clear H
    have H := H1
    clear H1
    replace H := sqbi H
    obtain ⟨⟨t393, t394, t395, t396⟩, A41, H⟩ := H
    replace H : (some (t393, t394, t395, t396)) = some (r1, r2, r3, r4) := H
    simp only [Option.some.injEq, Prod.mk.injEq] at H
    obtain ⟨rfl, rfl, rfl, rfl⟩ := H
    have hnb42 := NB383_382.out
    have hnc42 := NB382_383.out
    have hnb43 := NB383_384.out
    have hnc43 := NB384_383.out
    obtain ⟨hcz44_0, hcz44_1, hfz44_0, hfz44_1⟩ := sqc2 BK383
    have hnb45 := NB382_384.out
    have hnc45 := NB384_382.out
    obtain ⟨hcz46_0, hcz46_1, hfz46_0, hfz46_1⟩ := sqc2 BK382
    go_wp2_with (first | (go_at_call 48; (with_reducible refine (impl_RangeHas.calls a0_0 a0_1 a1_1 true _ A39.out).mono ?_); rintro e w47 ⟨rfl, hb⟩; refine sqM3 BK382 BK383 BK384 hb ?_; clear BK382 BK383 BK384; intro BK382 BK383 BK384; replace HB := sqs HB hb; (try clear hb); obtain ⟨hcz48_0, hcz48_1, hfz48_0, hfz48_1⟩ := sqc2 BK383) | (go_at_call 97; (with_reducible refine (impl_valOne.calls a1_1 t393 t394 t395 t396 _ A41.out).mono ?_); rintro e w49 ⟨rfl, hb⟩; refine sqM3 BK382 BK383 BK384 hb ?_; clear BK382 BK383 BK384; intro BK382 BK383 BK384; replace HB := sqs HB hb; (try clear hb); obtain ⟨hcz50_0, hcz50_1, hcz50_2, hcz50_3, hfz50_0, hfz50_1, hfz50_2, hfz50_3⟩ := sqc4 BK384))
    repeat (go_quiet (first | (go_at_call 48; (with_reducible refine (impl_RangeHas.calls a0_0 a0_1 a1_1 true _ A39.out).mono ?_); rintro e w47 ⟨rfl, hb⟩; refine sqM3 BK382 BK383 BK384 hb ?_; clear BK382 BK383 BK384; intro BK382 BK383 BK384; replace HB := sqs HB hb; (try clear hb); obtain ⟨hcz48_0, hcz48_1, hfz48_0, hfz48_1⟩ := sqc2 BK383) | (go_at_call 97; (with_reducible refine (impl_valOne.calls a1_1 t393 t394 t395 t396 _ A41.out).mono ?_); rintro e w49 ⟨rfl, hb⟩; refine sqM3 BK382 BK383 BK384 hb ?_; clear BK382 BK383 BK384; intro BK382 BK383 BK384; replace HB := sqs HB hb; (try clear hb); obtain ⟨hcz50_0, hcz50_1, hcz50_2, hcz50_3, hfz50_0, hfz50_1, hfz50_2, hfz50_3⟩ := sqc4 BK384)); try go_wp2_with (first | (go_at_call 48; (with_reducible refine (impl_RangeHas.calls a0_0 a0_1 a1_1 true _ A39.out).mono ?_); rintro e w47 ⟨rfl, hb⟩; refine sqM3 BK382 BK383 BK384 hb ?_; clear BK382 BK383 BK384; intro BK382 BK383 BK384; replace HB := sqs HB hb; (try clear hb); obtain ⟨hcz48_0, hcz48_1, hfz48_0, hfz48_1⟩ := sqc2 BK383) | (go_at_call 97; (with_reducible refine (impl_valOne.calls a1_1 t393 t394 t395 t396 _ A41.out).mono ?_); rintro e w49 ⟨rfl, hb⟩; refine sqM3 BK382 BK383 BK384 hb ?_; clear BK382 BK383 BK384; intro BK382 BK383 BK384; replace HB := sqs HB hb; (try clear hb); obtain ⟨hcz50_0, hcz50_1, hcz50_2, hcz50_3, hfz50_0, hfz50_1, hfz50_2, hfz50_3⟩ := sqc4 BK384)))
    refine bodyPost_ret (results_cell_row rfl _ _ gb384 30 #[.int .i64 t393, .int .i64 t394, .int .i64 t395, .int .i64 t396] (0, 0) _ rfl (by refine sqt ?_; refine blk_put (cs := #[.int .i64 t393, .int .i64 t394, .int .i64 t395, .int .i64 0]) ?_ 3 _ rfl; refine sqt ?_; refine blk_put (cs := #[.int .i64 t393, .int .i64 t394, .int .i64 0, .int .i64 0]) ?_ 2 _ rfl; refine sqt ?_; refine blk_put (cs := #[.int .i64 t393, .int .i64 0, .int .i64 0, .int .i64 0]) ?_ 1 _ rfl; refine sqt ?_; refine blk_put (cs := #[.int .i64 0, .int .i64 0, .int .i64 0, .int .i64 0]) ?_ 0 _ rfl; refine sqt ?_; exact BK384.out) Try.underlying30 rfl (by kernel_rfl)) rfl ?_
    exact sqe HB
   have c38b0 : (a1_0 == 0) = false := beq_eq_false_iff_ne.mpr c38
   have c38b1 : (a1_0 != 0) = true := bne_iff_ne.mpr c38
   replace H := sqbi H
   obtain ⟨t401, A60, H⟩ := H
   replace H : ((impl_restMod.f (wrap64 (a0_1 - a1_1)) a1_0).bind fun t402 => (if (wrap64 (a0_0 + t401)) > (wrap64 (a0_1 - t402)) then ((impl_valNone.f).bind fun bt403 => (some (bt403.1, bt403.2.1, bt403.2.2.1, bt403.2.2.2))) else (if (wrap64 (a0_0 + t401)) = (wrap64 (a0_1 - t402)) then ((impl_valOne.f (wrap64 (a0_0 + t401))).bind fun bt407 => (some (bt407.1, bt407.2.1, bt407.2.2.1, bt407.2.2.2))) else (some (wrap64 (a0_0 + t401), wrap64 (a0_1 - t402), a1_0, a1_1))))) = some (r1, r2, r3, r4) := H
   replace H := sqbi H
   obtain ⟨t402, A61, H⟩ := H
   replace H : (if (wrap64 (a0_0 + t401)) > (wrap64 (a0_1 - t402)) then ((impl_valNone.f).bind fun bt403 => (some (bt403.1, bt403.2.1, bt403.2.2.1, bt403.2.2.2))) else (if (wrap64 (a0_0 + t401)) = (wrap64 (a0_1 - t402)) then ((impl_valOne.f (wrap64 (a0_0 + t401))).bind fun bt407 => (some (bt407.1, bt407.2.1, bt407.2.2.1, bt407.2.2.2))) else (some (wrap64 (a0_0 + t401), wrap64 (a0_1 - t402), a1_0, a1_1)))) = some (r1, r2, r3, r4) := H
   replace H := sqj H
   rcases H with ⟨c62, H⟩ | ⟨c62, H⟩
   ·have c62b0 : decide ((wrap64 (a0_1 - t402)) < (wrap64 (a0_0 + t401))) = true := decide_eq_true c62
    clear c62
    replace H := sqbi H
    obtain ⟨⟨t403, t404, t405, t406⟩, A63, H⟩ := H
    replace H : (some (t403, t404, t405, t406)) = some (r1, r2, r3, r4) := H
    simp only [Option.some.injEq, Prod.mk.injEq] at H
    obtain ⟨rfl, rfl, rfl, rfl⟩ := H
    have hnb64 := NB383_382.out
    have hnc64 := NB382_383.out
    have hnb65 := NB383_384.out
    have hnc65 := NB384_383.out
    obtain ⟨hcz66_0, hcz66_1, hfz66_0, hfz66_1⟩ := sqc2 BK383
    have hnb67 := NB382_384.out
    have hnc67 := NB384_382.out
    obtain ⟨hcz68_0, hcz68_1, hfz68_0, hfz68_1⟩ := sqc2 BK382
    go_wp2_with (first | (go_at_call 98; (with_reducible refine (impl_restMod.calls (wrap64 (a1_1 - a0_0)) a1_0 t401 _ A60.out).mono ?_); rintro e w' ⟨rfl, ⟨nd, rfl⟩⟩; (try first | exact ⟨rfl, _, World.drewN_drewN _ _ _⟩ | exact ⟨rfl, _, Eq.trans (World.drewN_drewN _ _ _) (congrArg (World.drewN _) (Nat.add_assoc _ _ _))⟩)) | (go_at_call 98; (with_reducible refine (impl_restMod.calls (wrap64 (a0_1 - a1_1)) a1_0 t402 _ A61.out).mono ?_); rintro e w' ⟨rfl, ⟨nd, rfl⟩⟩; (try first | exact ⟨rfl, _, World.drewN_drewN _ _ _⟩ | exact ⟨rfl, _, Eq.trans (World.drewN_drewN _ _ _) (congrArg (World.drewN _) (Nat.add_assoc _ _ _))⟩)) | (go_at_call 96; (with_reducible refine (impl_valNone.calls  t403 t404 t405 t406 _ A63.out).mono ?_); rintro e w69 ⟨rfl, hb⟩; refine sqM3 BK382 BK383 BK384 hb ?_; clear BK382 BK383 BK384; intro BK382 BK383 BK384; replace HB := sqs HB hb; (try clear hb); obtain ⟨hcz70_0, hcz70_1, hcz70_2, hcz70_3, hfz70_0, hfz70_1, hfz70_2, hfz70_3⟩ := sqc4 BK384))
    repeat (go_quiet (first | (go_at_call 98; (with_reducible refine (impl_restMod.calls (wrap64 (a1_1 - a0_0)) a1_0 t401 _ A60.out).mono ?_); rintro e w' ⟨rfl, ⟨nd, rfl⟩⟩; (try first | exact ⟨rfl, _, World.drewN_drewN _ _ _⟩ | exact ⟨rfl, _, Eq.trans (World.drewN_drewN _ _ _) (congrArg (World.drewN _) (Nat.add_assoc _ _ _))⟩)) | (go_at_call 98; (with_reducible refine (impl_restMod.calls (wrap64 (a0_1 - a1_1)) a1_0 t402 _ A61.out).mono ?_); rintro e w' ⟨rfl, ⟨nd, rfl⟩⟩; (try first | exact ⟨rfl, _, World.drewN_drewN _ _ _⟩ | exact ⟨rfl, _, Eq.trans (World.drewN_drewN _ _ _) (congrArg (World.drewN _) (Nat.add_assoc _ _ _))⟩)) | (go_at_call 96; (with_reducible refine (impl_valNone.calls  t403 t404 t405 t406 _ A63.out).mono ?_); rintro e w69 ⟨rfl, hb⟩; refine sqM3 BK382 BK383 BK384 hb ?_; clear BK382 BK383 BK384; intro BK382 BK383 BK384; replace HB := sqs HB hb; (try clear hb); obtain ⟨hcz70_0, hcz70_1, hcz70_2, hcz70_3, hfz70_0, hfz70_1, hfz70_2, hfz70_3⟩ := sqc4 BK384)); try go_wp2_with (first | (go_at_call 98; (with_reducible refine (impl_restMod.calls (wrap64 (a1_1 - a0_0)) a1_0 t401 _ A60.out).mono ?_); rintro e w' ⟨rfl, ⟨nd, rfl⟩⟩; (try first | exact ⟨rfl, _, World.drewN_drewN _ _ _⟩ | exact ⟨rfl, _, Eq.trans (World.drewN_drewN _ _ _) (congrArg (World.drewN _) (Nat.add_assoc _ _ _))⟩)) | (go_at_call 98; (with_reducible refine (impl_restMod.calls (wrap64 (a0_1 - a1_1)) a1_0 t402 _ A61.out).mono ?_); rintro e w' ⟨rfl, ⟨nd, rfl⟩⟩; (try first | exact ⟨rfl, _, World.drewN_drewN _ _ _⟩ | exact ⟨rfl, _, Eq.trans (World.drewN_drewN _ _ _) (congrArg (World.drewN _) (Nat.add_assoc _ _ _))⟩)) | (go_at_call 96; (with_reducible refine (impl_valNone.calls  t403 t404 t405 t406 _ A63.out).mono ?_); rintro e w69 ⟨rfl, hb⟩; refine sqM3 BK382 BK383 BK384 hb ?_; clear BK382 BK383 BK384; intro BK382 BK383 BK384; replace HB := sqs HB hb; (try clear hb); obtain ⟨hcz70_0, hcz70_1, hcz70_2, hcz70_3, hfz70_0, hfz70_1, hfz70_2, hfz70_3⟩ := sqc4 BK384)))
    refine bodyPost_ret (results_cell_row rfl _ _ gb384 30 #[.int .i64 t403, .int .i64 t404, .int .i64 t405, .int .i64 t406] (0, 0) _ rfl (by refine sqt ?_; refine blk_put (cs := #[.int .i64 t403, .int .i64 t404, .int .i64 t405, .int .i64 0]) ?_ 3 _ rfl; refine sqt ?_; refine blk_put (cs := #[.int .i64 t403, .int .i64 t404, .int .i64 0, .int .i64 0]) ?_ 2 _ rfl; refine sqt ?_; refine blk_put (cs := #[.int .i64 t403, .int .i64 0, .int .i64 0, .int .i64 0]) ?_ 1 _ rfl; refine sqt ?_; refine blk_put (cs := #[.int .i64 0, .int .i64 0, .int .i64 0, .int .i64 0]) ?_ 0 _ rfl; refine sqt ?_; exact BK384.out) Try.underlying30 rfl (by kernel_rfl)) rfl ?_
    exact sqe HB
   have c62b0 : decide ((wrap64 (a0_1 - t402)) < (wrap64 (a0_0 + t401))) = false := decide_eq_false c62
   clear c62
   replace H := sqi H
   rcases H with ⟨c71, H⟩ | ⟨c71, H⟩
   ·have c71b0 : ((wrap64 (a0_0 + t401)) == (wrap64 (a0_1 - t402))) = false := beq_eq_false_iff_ne.mpr c71
    have c71b1 : ((wrap64 (a0_0 + t401)) != (wrap64 (a0_1 - t402))) = true := bne_iff_ne.mpr c71
    simp only [Option.some.injEq, Prod.mk.injEq] at H
    obtain ⟨rfl, rfl, rfl, rfl⟩ := H
    have hnb80 := NB383_382.out
    have hnc80 := NB382_383.out
    have hnb81 := NB383_384.out
    have hnc81 := NB384_383.out
    obtain ⟨hcz82_0, hcz82_1, hfz82_0, hfz82_1⟩ := sqc2 BK383
    have hnb83 := NB382_384.out
    have hnc83 := NB384_382.out
    obtain ⟨hcz84_0, hcz84_1, hfz84_0, hfz84_1⟩ := sqc2 BK382
    obtain ⟨hcz85_0, hcz85_1, hcz85_2, hcz85_3, hfz85_0, hfz85_1, hfz85_2, hfz85_3⟩ := sqc4 BK384
    go_wp2_with (first | (go_at_call 98; (with_reducible refine (impl_restMod.calls (wrap64 (a1_1 - a0_0)) a1_0 t401 _ A60.out).mono ?_); rintro e w' ⟨rfl, ⟨nd, rfl⟩⟩; (try first | exact ⟨rfl, _, World.drewN_drewN _ _ _⟩ | exact ⟨rfl, _, Eq.trans (World.drewN_drewN _ _ _) (congrArg (World.drewN _) (Nat.add_assoc _ _ _))⟩)) | (go_at_call 98; (with_reducible refine (impl_restMod.calls (wrap64 (a0_1 - a1_1)) a1_0 t402 _ A61.out).mono ?_); rintro e w' ⟨rfl, ⟨nd, rfl⟩⟩; (try first | exact ⟨rfl, _, World.drewN_drewN _ _ _⟩ | exact ⟨rfl, _, Eq.trans (World.drewN_drewN _ _ _) (congrArg (World.drewN _) (Nat.add_assoc _ _ _))⟩); (try (obtain ⟨hcz85_0, hcz85_1, hcz85_2, hcz85_3, hfz85_0, hfz85_1, hfz85_2, hfz85_3⟩ := sqc4 BK384))))
    repeat (go_quiet (first | (go_at_call 98; (with_reducible refine (impl_restMod.calls (wrap64 (a1_1 - a0_0)) a1_0 t401 _ A60.out).mono ?_); rintro e w' ⟨rfl, ⟨nd, rfl⟩⟩; (try first | exact ⟨rfl, _, World.drewN_drewN _ _ _⟩ | exact ⟨rfl, _, Eq.trans (World.drewN_drewN _ _ _) (congrArg (World.drewN _) (Nat.add_assoc _ _ _))⟩)) | (go_at_call 98; (with_reducible refine (impl_restMod.calls (wrap64 (a0_1 - a1_1)) a1_0 t402 _ A61.out).mono ?_); rintro e w' ⟨rfl, ⟨nd, rfl⟩⟩; (try first | exact ⟨rfl, _, World.drewN_drewN _ _ _⟩ | exact ⟨rfl, _, Eq.trans (World.drewN_drewN _ _ _) (congrArg (World.drewN _) (Nat.add_assoc _ _ _))⟩); (try (obtain ⟨hcz85_0, hcz85_1, hcz85_2, hcz85_3, hfz85_0, hfz85_1, hfz85_2, hfz85_3⟩ := sqc4 BK384)))); try go_wp2_with (first | (go_at_call 98; (with_reducible refine (impl_restMod.calls (wrap64 (a1_1 - a0_0)) a1_0 t401 _ A60.out).mono ?_); rintro e w' ⟨rfl, ⟨nd, rfl⟩⟩; (try first | exact ⟨rfl, _, World.drewN_drewN _ _ _⟩ | exact ⟨rfl, _, Eq.trans (World.drewN_drewN _ _ _) (congrArg (World.drewN _) (Nat.add_assoc _ _ _))⟩)) | (go_at_call 98; (with_reducible refine (impl_restMod.calls (wrap64 (a0_1 - a1_1)) a1_0 t402 _ A61.out).mono ?_); rintro e w' ⟨rfl, ⟨nd, rfl⟩⟩; (try first | exact ⟨rfl, _, World.drewN_drewN _ _ _⟩ | exact ⟨rfl, _, Eq.trans (World.drewN_drewN _ _ _) (congrArg (World.drewN _) (Nat.add_assoc _ _ _))⟩); (try (obtain ⟨hcz85_0, hcz85_1, hcz85_2, hcz85_3, hfz85_0, hfz85_1, hfz85_2, hfz85_3⟩ := sqc4 BK384)))))
    refine bodyPost_ret (results_cell_row rfl _ _ gb384 30 #[.int .i64 (wrap64 (a0_0 + t401)), .int .i64 (wrap64 (a0_1 - t402)), .int .i64 a1_0, .int .i64 a1_1] (0, 0) _ rfl (by refine sqt ?_; refine blk_put (cs := #[.int .i64 (wrap64 (a0_0 + t401)), .int .i64 (wrap64 (a0_1 - t402)), .int .i64 a1_0, .int .i64 0]) ?_ 3 _ rfl; refine sqt ?_; refine blk_put (cs := #[.int .i64 (wrap64 (a0_0 + t401)), .int .i64 (wrap64 (a0_1 - t402)), .int .i64 0, .int .i64 0]) ?_ 2 _ rfl; refine sqt ?_; refine blk_put (cs := #[.int .i64 (wrap64 (a0_0 + t401)), .int .i64 0, .int .i64 0, .int .i64 0]) ?_ 1 _ rfl; refine sqt ?_; refine blk_put (cs := #[.int .i64 0, .int .i64 0, .int .i64 0, .int .i64 0]) ?_ 0 _ rfl; refine sqt ?_; exact BK384.out) Try.underlying30 rfl (by kernel_rfl)) rfl ?_
    exact sqe HB
   have c71b0 : ((wrap64 (a0_0 + t401)) == (wrap64 (a0_1 - t402))) = true := beq_iff_eq.mpr c71
   have c71b1 : ((wrap64 (a0_0 + t401)) != (wrap64 (a0_1 - t402))) = false := bne_eq_false_iff_eq.mpr c71
   clear c71
   replace H := sqbi H
   obtain ⟨⟨t407, t408, t409, t410⟩, A72, H⟩ := H
   replace H : (some (t407, t408, t409, t410)) = some (r1, r2, r3, r4) := H
   simp only [Option.some.injEq, Prod.mk.injEq] at H
   obtain ⟨rfl, rfl, rfl, rfl⟩ := H
   have hnb73 := NB383_382.out
   have hnc73 := NB382_383.out
   have hnb74 := NB383_384.out
   have hnc74 := NB384_383.out
   obtain ⟨hcz75_0, hcz75_1, hfz75_0, hfz75_1⟩ := sqc2 BK383
   have hnb76 := NB382_384.out
   have hnc76 := NB384_382.out
   obtain ⟨hcz77_0, hcz77_1, hfz77_0, hfz77_1⟩ := sqc2 BK382
   go_wp2_with (first | (go_at_call 98; (with_reducible refine (impl_restMod.calls (wrap64 (a1_1 - a0_0)) a1_0 t401 _ A60.out).mono ?_); rintro e w' ⟨rfl, ⟨nd, rfl⟩⟩; (try first | exact ⟨rfl, _, World.drewN_drewN _ _ _⟩ | exact ⟨rfl, _, Eq.trans (World.drewN_drewN _ _ _) (congrArg (World.drewN _) (Nat.add_assoc _ _ _))⟩)) | (go_at_call 98; (with_reducible refine (impl_restMod.calls (wrap64 (a0_1 - a1_1)) a1_0 t402 _ A61.out).mono ?_); rintro e w' ⟨rfl, ⟨nd, rfl⟩⟩; (try first | exact ⟨rfl, _, World.drewN_drewN _ _ _⟩ | exact ⟨rfl, _, Eq.trans (World.drewN_drewN _ _ _) (congrArg (World.drewN _) (Nat.add_assoc _ _ _))⟩)) | (go_at_call 97; (with_reducible refine (impl_valOne.calls (wrap64 (a0_0 + t401)) t407 t408 t409 t410 _ A72.out).mono ?_); rintro e w78 ⟨rfl, hb⟩; refine sqM3 BK382 BK383 BK384 hb ?_; clear BK382 BK383 BK384; intro BK382 BK383 BK384; replace HB := sqs HB hb; (try clear hb); obtain ⟨hcz79_0, hcz79_1, hcz79_2, hcz79_3, hfz79_0, hfz79_1, hfz79_2, hfz79_3⟩ := sqc4 BK384))
   repeat (go_quiet (first | (go_at_call 98; (with_reducible refine (impl_restMod.calls (wrap64 (a1_1 - a0_0)) a1_0 t401 _ A60.out).mono ?_); rintro e w' ⟨rfl, ⟨nd, rfl⟩⟩; (try first | exact ⟨rfl, _, World.drewN_drewN _ _ _⟩ | exact ⟨rfl, _, Eq.trans (World.drewN_drewN _ _ _) (congrArg (World.drewN _) (Nat.add_assoc _ _ _))⟩)) | (go_at_call 98; (with_reducible refine (impl_restMod.calls (wrap64 (a0_1 - a1_1)) a1_0 t402 _ A61.out).mono ?_); rintro e w' ⟨rfl, ⟨nd, rfl⟩⟩; (try first | exact ⟨rfl, _, World.drewN_drewN _ _ _⟩ | exact ⟨rfl, _, Eq.trans (World.drewN_drewN _ _ _) (congrArg (World.drewN _) (Nat.add_assoc _ _ _))⟩)) | (go_at_call 97; (with_reducible refine (impl_valOne.calls (wrap64 (a0_0 + t401)) t407 t408 t409 t410 _ A72.out).mono ?_); rintro e w78 ⟨rfl, hb⟩; refine sqM3 BK382 BK383 BK384 hb ?_; clear BK382 BK383 BK384; intro BK382 BK383 BK384; replace HB := sqs HB hb; (try clear hb); obtain ⟨hcz79_0, hcz79_1, hcz79_2, hcz79_3, hfz79_0, hfz79_1, hfz79_2, hfz79_3⟩ := sqc4 BK384)); try go_wp2_with (first | (go_at_call 98; (with_reducible refine (impl_restMod.calls (wrap64 (a1_1 - a0_0)) a1_0 t401 _ A60.out).mono ?_); rintro e w' ⟨rfl, ⟨nd, rfl⟩⟩; (try first | exact ⟨rfl, _, World.drewN_drewN _ _ _⟩ | exact ⟨rfl, _, Eq.trans (World.drewN_drewN _ _ _) (congrArg (World.drewN _) (Nat.add_assoc _ _ _))⟩)) | (go_at_call 98; (with_reducible refine (impl_restMod.calls (wrap64 (a0_1 - a1_1)) a1_0 t402 _ A61.out).mono ?_); rintro e w' ⟨rfl, ⟨nd, rfl⟩⟩; (try first | exact ⟨rfl, _, World.drewN_drewN _ _ _⟩ | exact ⟨rfl, _, Eq.trans (World.drewN_drewN _ _ _) (congrArg (World.drewN _) (Nat.add_assoc _ _ _))⟩)) | (go_at_call 97; (with_reducible refine (impl_valOne.calls (wrap64 (a0_0 + t401)) t407 t408 t409 t410 _ A72.out).mono ?_); rintro e w78 ⟨rfl, hb⟩; refine sqM3 BK382 BK383 BK384 hb ?_; clear BK382 BK383 BK384; intro BK382 BK383 BK384; replace HB := sqs HB hb; (try clear hb); obtain ⟨hcz79_0, hcz79_1, hcz79_2, hcz79_3, hfz79_0, hfz79_1, hfz79_2, hfz79_3⟩ := sqc4 BK384)))
   refine bodyPost_ret (results_cell_row rfl _ _ gb384 30 #[.int .i64 t407, .int .i64 t408, .int .i64 t409, .int .i64 t410] (0, 0) _ rfl (by refine sqt ?_; refine blk_put (cs := #[.int .i64 t407, .int .i64 t408, .int .i64 t409, .int .i64 0]) ?_ 3 _ rfl; refine sqt ?_; refine blk_put (cs := #[.int .i64 t407, .int .i64 t408, .int .i64 0, .int .i64 0]) ?_ 2 _ rfl; refine sqt ?_; refine blk_put (cs := #[.int .i64 t407, .int .i64 0, .int .i64 0, .int .i64 0]) ?_ 1 _ rfl; refine sqt ?_; refine blk_put (cs := #[.int .i64 0, .int .i64 0, .int .i64 0, .int .i64 0]) ?_ 0 _ rfl; refine sqt ?_; exact BK384.out) Try.underlying30 rfl (by kernel_rfl)) rfl ?_
   exact sqe HB

/-! ### impl_Val_span: function 103 -/
set_option maxHeartbeats 8000000 in
set_option maxRecDepth 100000 in
theorem impl_Val_span.calls (a0_0 : Int) (a0_1 : Int) (a0_2 : Int) (a0_3 : Int) (r1 : Int) (r2 : Int) (w : World) (h : impl_Val_span.f a0_0 a0_1 a0_2 a0_3 = some (r1, r2)) :
  Calls Try.prog 103 #[.agg #[.int .i64 a0_0, .int .i64 a0_1, .int .i64 a0_2, .int .i64 a0_3]] w fun e w' => e = .returned (.agg #[.int .i64 r1, .int .i64 r2]) ∧ Below w.heap.size w w' := by
 have hu30 := Try.underlying30
 have hu24 := Try.underlying24
 have HB := Aside0.mk (Below.refl w.heap.size w)
 have H : (some (a0_0, a0_1)) = some (r1, r2) := h
 clear h
 simp only [Option.some.injEq, Prod.mk.injEq] at H
 obtain ⟨rfl, rfl⟩ := H
 go_enter Try.func103, Try.ntmps103
 go_wp2_with (first | ((with_reducible refine gate_dst (N := 1) rfl ?_); refine sqx 1 #[.int .i64 a0_0, .int .i64 a0_1, .int .i64 a0_2, .int .i64 a0_3] 30 ?_; intro gb411 hg w2 hbox hb; have BK411 := Aside0.mk hbox; have GW411 := sqg HB hg; have GE411 := sqg HB hg; replace HB := sqs HB hb; clear hb hbox hg) | ((with_reducible refine gate_dst (N := 2) rfl ?_); refine sqx 2 #[.int .i64 0, .int .i64 0] 24 ?_; intro gb412 hg w3 hbox hb; have BK412 := Aside0.mk hbox; have GW412 := sqg HB hg; have GE412 := sqg HB hg; have NB411_412 := sqn BK411 hg; have NB412_411 := sqm BK411 hg; replace BK411 := sqb BK411 hb; replace HB := sqs HB hb; clear hb hbox hg; have hnb4 := NB411_412.out; have hnc4 := NB412_411.out; obtain ⟨hcz5_0, hcz5_1, hcz5_2, hcz5_3, hfz5_0, hfz5_1, hfz5_2, hfz5_3⟩ := sqc4 BK411; obtain ⟨hcz6_0, hcz6_1, hfz6_0, hfz6_1⟩ := sqc2 BK412))
 refine bodyPost_ret (results_cell_row rfl _ _ gb412 24 #[.int .i64 a0_0, .int .i64 a0_1] (0, 0) _ rfl (by refine sqt ?_; refine blk_put (cs := #[.int .i64 a0_0, .int .i64 0]) ?_ 1 _ rfl; refine sqt ?_; refine blk_put (cs := #[.int .i64 0, .int .i64 0]) ?_ 0 _ rfl; refine sqt ?_; exact BK412.out) Try.underlying24 rfl (by kernel_rfl)) rfl ?_
 exact sqe HB

/-! ### impl_Val_rest: function 104 -/
set_option maxHeartbeats 8000000 in
set_option maxRecDepth 100000 in
theorem impl_Val_rest.calls (a0_0 : Int) (a0_1 : Int) (a0_2 : Int) (a0_3 : Int) (r1 : Int) (r2 : Int) (w : World) (h : impl_Val_rest.f a0_0 a0_1 a0_2 a0_3 = some (r1, r2)) :
  Calls Try.prog 104 #[.agg #[.int .i64 a0_0, .int .i64 a0_1, .int .i64 a0_2, .int .i64 a0_3]] w fun e w' => e = .returned (.agg #[.int .i64 r1, .int .i64 r2]) ∧ Below w.heap.size w w' := by
 have hu30 := Try.underlying30
 have hu26 := Try.underlying26
 have HB := Aside0.mk (Below.refl w.heap.size w)
 have H : (some (a0_2, a0_3)) = some (r1, r2) := h
 clear h
 simp only [Option.some.injEq, Prod.mk.injEq] at H
 obtain ⟨rfl, rfl⟩ := H
 go_enter Try.func104, Try.ntmps104
 go_wp2_with (first | ((with_reducible refine gate_dst (N := 1) rfl ?_); refine sqx 1 #[.int .i64 a0_0, .int .i64 a0_1, .int .i64 a0_2, .int .i64 a0_3] 30 ?_; intro gb413 hg w2 hbox hb; have BK413 := Aside0.mk hbox; have GW413 := sqg HB hg; have GE413 := sqg HB hg; replace HB := sqs HB hb; clear hb hbox hg) | ((with_reducible refine gate_dst (N := 2) rfl ?_); refine sqx 2 #[.int .i64 0, .int .i64 0] 26 ?_; intro gb414 hg w3 hbox hb; have BK414 := Aside0.mk hbox; have GW414 := sqg HB hg; have GE414 := sqg HB hg; have NB413_414 := sqn BK413 hg; have NB414_413 := sqm BK413 hg; replace BK413 := sqb BK413 hb; replace HB := sqs HB hb; clear hb hbox hg; have hnb4 := NB413_414.out; have hnc4 := NB414_413.out; obtain ⟨hcz5_0, hcz5_1, hcz5_2, hcz5_3, hfz5_0, hfz5_1, hfz5_2, hfz5_3⟩ := sqc4 BK413; obtain ⟨hcz6_0, hcz6_1, hfz6_0, hfz6_1⟩ := sqc2 BK414))
 refine bodyPost_ret (results_cell_row rfl _ _ gb414 26 #[.int .i64 a0_2, .int .i64 a0_3] (0, 0) _ rfl (by refine sqt ?_; refine blk_put (cs := #[.int .i64 a0_2, .int .i64 0]) ?_ 1 _ rfl; refine sqt ?_; refine blk_put (cs := #[.int .i64 0, .int .i64 0]) ?_ 0 _ rfl; refine sqt ?_; exact BK414.out) Try.underlying26 rfl (by kernel_rfl)) rfl ?_
 exact sqe HB

/-! ### impl_ValOk: function 18 -/
def impl_ValOk.T1 : Bool × List (List Nat × List Nat) := (true, [([], []), ([], []), ([1], [1]), ([], []), ([3, 2], [3]), ([2, 4, 4], [2, 4]), ([0, 5], [0, 5]), ([6, 5, 0, 1, 2, 3, 4, 5, 6], [6])])
def impl_ValOk.B1 : List Nat := [0, 0, 2, 0, 14, 30, 63, 127]
theorem impl_ValOk.tab1 : rtab .any (opsOf Try.f18 1) = impl_ValOk.T1 := by kernel_rfl
theorem impl_ValOk.bits1 : waitsOk impl_ValOk.T1.2 impl_ValOk.B1 = true := by kernel_rfl
set_option maxHeartbeats 8000000 in
set_option maxRecDepth 100000 in
theorem impl_ValOk.calls (k : Nat) (a0_0 : Int) (a0_1 : Int) (a0_2 : Int) (a0_3 : Int) (r : Bool) (w : World) (h : impl_ValOk.f k a0_0 a0_1 a0_2 a0_3 = some r) :
  Calls Try.prog 18 #[.agg #[.int .i64 a0_0, .int .i64 a0_1, .int .i64 a0_2, .int .i64 a0_3]] w fun e w' => e = .returned (.bool r) ∧ Below w.heap.size w w' := by
 have hu30 := Try.underlying30
 have HB := Aside0.mk (Below.refl w.heap.size w)
 have H : ((impl_Val_span.f a0_0 a0_1 a0_2 a0_3).bind fun bt416 => ((impl_Val_rest.f a0_0 a0_1 a0_2 a0_3).bind fun bt418 => ((impl_ValMake.f k bt416.1 bt416.2 bt418.1 bt418.2).bind fun bt420 => (some (a0_0 == bt420.1 && (a0_1 == bt420.2.1 && (a0_2 == bt420.2.2.1 && (a0_3 == bt420.2.2.2)))))))) = some r := h
 clear h
 replace H := sqbi H
 obtain ⟨⟨t416, t417⟩, A2, H⟩ := H
 replace H : ((impl_Val_rest.f a0_0 a0_1 a0_2 a0_3).bind fun bt418 => ((impl_ValMake.f k t416 t417 bt418.1 bt418.2).bind fun bt420 => (some (a0_0 == bt420.1 && (a0_1 == bt420.2.1 && (a0_2 == bt420.2.2.1 && (a0_3 == bt420.2.2.2))))))) = some r := H
 replace H := sqbi H
 obtain ⟨⟨t418, t419⟩, A3, H⟩ := H
 replace H : ((impl_ValMake.f k t416 t417 t418 t419).bind fun bt420 => (some (a0_0 == bt420.1 && (a0_1 == bt420.2.1 && (a0_2 == bt420.2.2.1 && (a0_3 == bt420.2.2.2)))))) = some r := H
 replace H := sqbi H
 obtain ⟨⟨t420, t421, t422, t423⟩, A4, H⟩ := H
 replace H : (some (a0_0 == t420 && (a0_1 == t421 && (a0_2 == t422 && (a0_3 == t423))))) = some r := H
 obtain rfl := Option.some.inj H
 go_enter Try.func18, Try.ntmps18
 try go_wp2_with (first | ((with_reducible refine gate_dst (N := 1) rfl ?_); refine sqx 1 #[.int .i64 a0_0, .int .i64 a0_1, .int .i64 a0_2, .int .i64 a0_3] 30 ?_; intro gb415 hg w5 hbox hb; have BK415 := Aside0.mk hbox; have GW415 := sqg HB hg; have GE415 := sqg HB hg; replace HB := sqs HB hb; clear hb hbox hg))
 replace BK415 := Aside0.mk (blk_drew BK415.out)
 replace HB := Aside0.mk (below_drew1 HB.out)
 refine start_ (n := 8) (S := fun w' => w'.cell? ⟨gb415, 0, none⟩ = some (.int .i64 a0_0) ∧ w'.cell? ⟨gb415, 1, none⟩ = some (.int .i64 a0_1) ∧ w'.cell? ⟨gb415, 2, none⟩ = some (.int .i64 a0_2) ∧ w'.cell? ⟨gb415, 3, none⟩ = some (.int .i64 a0_3)) (ds := []) #[false, false, false, false, false, false, false, false] (by kernel_rfl) rfl rfl sqz (fun hHeld => ?_); refine with_tabW impl_ValOk.tab1 impl_ValOk.bits1 (fun HT_ HW_ => ?_)
 generalize w5.drew = w6 at BK415 HB hHeld ⊢
 refine sqw HT_ HW_ 0 3 hHeld ?_
 refine sqw HT_ HW_ 1 4 hHeld ?_
 refine sqw HT_ HW_ 3 6 hHeld ?_
 refine sqo HT_ 2 5 (fun K hK => ?_)
 refine sqG Try.func103 #[.agg #[.int .i64 a0_0, .int .i64 a0_1, .int .i64 a0_2, .int .i64 a0_3]] ?_
 with_reducible refine (impl_Val_span.calls a0_0 a0_1 a0_2 a0_3 t416 t417 _ A2.out).mono ?_
 rintro e w7 ⟨rfl, hb⟩
 refine ⟨_, rfl, ?_⟩
 replace BK415 := sqb BK415 hb
 replace HB := sqs HB hb
 (try clear hb)
 refine hK.out _ _ sqz (fun hHeld => ?_)
 clear hK K
 refine sqnm ?_
 refine sqo HT_ 4 7 (fun K hK => ?_)
 refine sqG Try.func104 #[.agg #[.int .i64 a0_0, .int .i64 a0_1, .int .i64 a0_2, .int .i64 a0_3]] ?_
 with_reducible refine (impl_Val_rest.calls a0_0 a0_1 a0_2 a0_3 t418 t419 _ A3.out).mono ?_
 rintro e w8 ⟨rfl, hb⟩
 refine ⟨_, rfl, ?_⟩
 replace BK415 := sqb BK415 hb
 replace HB := sqs HB hb
 (try clear hb)
 refine hK.out _ _ sqz (fun hHeld => ?_)
 clear hK K
 refine sqnm ?_
 refine sqo HT_ 5 8 (fun K hK => ?_)
 refine sqG Try.func16 #[.agg #[.int .i64 t416, .int .i64 t417], .agg #[.int .i64 t418, .int .i64 t419]] ?_
 with_reducible refine (impl_ValMake.calls k t416 t417 t418 t419 t420 t421 t422 t423 _ A4.out).mono ?_
 rintro e w9 ⟨rfl, hb⟩
 refine ⟨_, rfl, ?_⟩
 replace BK415 := sqb BK415 hb
 replace HB := sqs HB hb
 (try clear hb)
 refine hK.out _ _ sqz (fun hHeld => ?_)
 clear hK K
 refine sqnm ?_
 refine sqp HT_ 6 9 ?_
 refine sqp HT_ 7 2 ?_
 refine done_ (done_of HT_.out (by kernel_rfl)) ?_
 try go_wp2
 go_ret
 exact sqe HB

/-! ### impl_Val_none: function 144 -/
set_option maxHeartbeats 8000000 in
set_option maxRecDepth 100000 in
theorem impl_Val_none.calls (a0_0 : Int) (a0_1 : Int) (a0_2 : Int) (a0_3 : Int) (r : Bool) (w : World) (h : impl_Val_none.f a0_0 a0_1 a0_2 a0_3 = some r) :
  Calls Try.prog 144 #[.agg #[.int .i64 a0_0, .int .i64 a0_1, .int .i64 a0_2, .int .i64 a0_3]] w fun e w' => e = .returned (.bool r) ∧ Below w.heap.size w w' := by
 have hu30 := Try.underlying30
 have HB := Aside0.mk (Below.refl w.heap.size w)
 have H : ((impl_valNone.f).bind fun bt425 => (some (a0_0 == bt425.1 && (a0_1 == bt425.2.1 && (a0_2 == bt425.2.2.1 && (a0_3 == bt425.2.2.2)))))) = some r := h
 clear h
 replace H := sqbi H
 obtain ⟨⟨t425, t426, t427, t428⟩, A2, H⟩ := H
 replace H : (some (a0_0 == t425 && (a0_1 == t426 && (a0_2 == t427 && (a0_3 == t428))))) = some r := H
 obtain rfl := Option.some.inj H
 go_enter Try.func144, Try.ntmps144
 try go_wp2_with (first | ((with_reducible refine gate_dst (N := 1) rfl ?_); refine sqx 1 #[.int .i64 a0_0, .int .i64 a0_1, .int .i64 a0_2, .int .i64 a0_3] 30 ?_; intro gb424 hg w3 hbox hb; have BK424 := Aside0.mk hbox; have GW424 := sqg HB hg; have GE424 := sqg HB hg; replace HB := sqs HB hb; clear hb hbox hg))
 replace BK424 := Aside0.mk (blk_drew BK424.out)
 replace HB := Aside0.mk (below_drew1 HB.out)
 refine start_ (n := 4) (S := fun w' => w'.cell? ⟨gb424, 0, none⟩ = some (.int .i64 a0_0) ∧ w'.cell? ⟨gb424, 1, none⟩ = some (.int .i64 a0_1) ∧ w'.cell? ⟨gb424, 2, none⟩ = some (.int .i64 a0_2) ∧ w'.cell? ⟨gb424, 3, none⟩ = some (.int .i64 a0_3)) (ds := []) #[false, false, false, false] (by kernel_rfl) rfl rfl sqz (fun hHeld => ?_)
 generalize w3.drew = w4 at BK424 HB hHeld ⊢
 refine take_ (i := 0) (N := some 3) (v := ?_) (a' := ?_) #[true, false, false, false] rfl rfl (by kernel_rfl) (fun _ _ _ h => h) (Or.inl ⟨by rfl, ?_⟩) hHeld ?_ ?_
 rotate_left
 ·rintro w' ⟨s0, s1, s2, s3⟩
  go_simp
  with_reducible rfl
 rotate_left
 ·simp only [Act.put, List.setIfInBounds_toArray, List.set_cons_zero, List.set_cons_succ, i64_w, i32_w]
  rfl
 refine one_ (i := 1) (N := some 4) #[true, true, false, false] rfl rfl (by kernel_rfl) (by decide) (fun K hK => ?_)
 refine sqG Try.func96 #[] ?_
 with_reducible refine (impl_valNone.calls  t425 t426 t427 t428 _ A2.out).mono ?_
 rintro e w5 ⟨rfl, hb⟩
 refine ⟨_, rfl, ?_⟩
 replace BK424 := sqb BK424 hb
 replace HB := sqs HB hb
 (try clear hb)
 refine hK.out _ _ sqz (fun hHeld => ?_)
 clear hK K
 refine sqnm ?_
 refine pure_ (i := 2) (N := some 5) (v := ?_) (a' := ?_) #[true, true, true, false] rfl rfl (by kernel_rfl) (fun _ _ _ h => h) (Or.inl ⟨by rfl, ?_⟩) ?_ ?_
 rotate_left
 ·intro w'
  go_simp
  with_reducible rfl
 rotate_left
 ·simp only [Act.put, List.setIfInBounds_toArray, List.set_cons_zero, List.set_cons_succ, i64_w, i32_w]
  rfl
 refine pure_ (i := 3) (N := some 2) (v := ?_) (a' := ?_) #[true, true, true, true] rfl rfl (by kernel_rfl) (fun _ _ _ h => h) (Or.inl ⟨by rfl, ?_⟩) ?_ ?_
 rotate_left
 ·intro w'
  go_simp
  with_reducible rfl
 rotate_left
 ·simp only [Act.put, List.setIfInBounds_toArray, List.set_cons_zero, List.set_cons_succ, i64_w, i32_w]
  rfl
 refine done_ (by kernel_rfl) ?_
 try go_wp2
 go_ret
 exact sqe HB

end Go.Proofs.Ytkekcenlleebeaa.PFnExactAbsIn
