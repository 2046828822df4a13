/- Functions of the program as plain Lean functions, and that calls of them come to what these tell. Conditions: those in each law. -/
import Derived.Test.YtkekcenlleebeaaSq
import Derived.Test.YtkekcenlleebeaaDFnGapsDo
import Derived.Test.YtkekcenlleebeaaQFnGapsDox0
import Derived.Test.YtkekcenlleebeaaQFnGapsDox3
import Derived.Test.YtkekcenlleebeaaQFnGapsDox5
import Derived.Test.YtkekcenlleebeaaQFnGapsDox6
import Derived.Test.YtkekcenlleebeaaQFnGapsDox8
import Derived.Test.YtkekcenlleebeaaQFnGapsDox9
import Derived.Test.YtkekcenlleebeaaQFnGapsDox12
import Derived.Test.YtkekcenlleebeaaQFnGapsDox13
namespace Go.Proofs.Ytkekcenlleebeaa.PFnGapsDo
open Go.RowKit Go.Proofs.Ytkekcenlleebeaa.Sq Go.Proofs.YtkekcenlleebeaaW.PrintWords Go.Proofs.YtkekcenlleebeaaW.PrintLast Go.Proofs.YtkekcenlleebeaaW.PrintMore
attribute [local go_sem] max2_int min2_int max_two min_two max_three min_three max_four min_four   -- for this text's walks alone
set_option linter.unusedVariables false
set_option linter.unusedSimpArgs false

/-! ### spec_GapsCut: function 52 -/
set_option maxHeartbeats 8000000 in
set_option maxRecDepth 100000 in
theorem spec_GapsCut.calls (k : Nat) (a0_0 : Int) (A0_1 : Option Addr) (c0_1 : Nat) (l0_1 : List Int) (a1 : Int) (a2 : Int) (a3 : Int) (r1 : Int) (r2 : List Int) (w : World) (hr0_1 : Kd.C (Kd.int .i64) w A0_1 l0_1.length l0_1) (hc0_1 : l0_1.length ≤ c0_1) (h : spec_GapsCut.f k a0_0 l0_1 a1 a2 a3 = some (r1, r2)) :
  Calls Try.prog 52 #[.agg #[.int .i64 a0_0, .slice A0_1 l0_1.length c0_1], .int .i64 a1, .int .i64 a2, .int .i64 a3] w fun e w' => ∃ v1_ : Value, e = .returned (.agg #[.int .i64 r1, v1_]) ∧ Kd.R (Kd.int .i64) 3 w' w.heap.size (fun _ => True) v1_ r2 ∧ Below w.heap.size w w' := by
 have hu41 := Try.underlying41
 have HR0_1 := Aside0.mk hr0_1
 have HC0_1 := Aside0.mk hc0_1
 clear hr0_1 hc0_1
 have HB := Aside0.mk (Below.refl w.heap.size w)
 have H : ((spec_GapsOk.f k a0_0 l0_1).bind fun t378 => (if t378 = true then ((spec_l1In.f a1 0 a0_0).bind fun t379 => (if t379 = true then ((spec_l1In.f a2 0 a0_0).bind fun t380 => (if t380 = true then (if a1 = a2 then (spec_GapsCut.j0 k a1 a2 a3 true a0_0 l0_1) else ((spec_l11C.f a3).bind fun t381 => (spec_GapsCut.j0 k a1 a2 a3 (!t381) a0_0 l0_1))) else (spec_GapsCut.j0 k a1 a2 a3 true a0_0 l0_1))) else (spec_GapsCut.j0 k a1 a2 a3 true a0_0 l0_1))) else (spec_GapsCut.j0 k a1 a2 a3 true a0_0 l0_1))) = some (r1, r2) := h
 clear h
 have HC5 := Aside0.mk H
 clear H
 go_enter Try.func52, Try.ntmps52
 go_upto_region 1 with (first | ((with_reducible refine gate_dst (N := 4) rfl ?_); refine sqx 4 #[.int .i64 a0_0, .slice A0_1 l0_1.length c0_1] 41 ?_; intro gb376 hg w6 hbox hb; have BK376 := Aside0.mk hbox; have GW376 := sqg HB hg; have GE376 := sqg HB hg; replace HB := sqs HB hb; clear hb hbox hg) | ((with_reducible refine gate_dst (N := 8) rfl ?_); refine sqx 8 #[.int .i64 0, .slice none 0 0] 41 ?_; intro gb377 hg w7 hbox hb; have BK377 := Aside0.mk hbox; have GW377 := sqg HB hg; have GE377 := sqg HB hg; have NB376_377 := sqn BK376 hg; have NB377_376 := sqm BK376 hg; replace BK376 := sqb BK376 hb; replace HB := sqs HB hb; clear hb hbox hg))
 (try simp only [Act.put, List.setIfInBounds_toArray, List.set_cons_zero, List.set_cons_succ])
 go_cut [36] (fun v36 wc => ∃ (kq : Nat) (x36_4 : Bool), v36 = .bool x36_4 ∧ Aside0 (spec_GapsCut.j0 kq a1 a2 a3 x36_4 a0_0 l0_1 = some (r1, r2)) ∧ Aside0 (kq ≤ k) ∧ Aside0 (wc.heap[gb376]? = some (.cells #[.int .i64 a0_0, (.slice A0_1 l0_1.length c0_1)] 41 (0, 0))) ∧ Aside0 (wc.heap[gb377]? = some (.cells #[.int .i64 0, (.slice none 0 0)] 41 (0, 0))) ∧ Aside0 (Below w.heap.size w wc))
 case first =>
  have H := HC5.out
  clear HC5
  replace H := sqbi H
  obtain ⟨t378, A8, H⟩ := H
  replace H : (if t378 = true then ((spec_l1In.f a1 0 a0_0).bind fun t379 => (if t379 = true then ((spec_l1In.f a2 0 a0_0).bind fun t380 => (if t380 = true then (if a1 = a2 then (spec_GapsCut.j0 k a1 a2 a3 true a0_0 l0_1) else ((spec_l11C.f a3).bind fun t381 => (spec_GapsCut.j0 k a1 a2 a3 (!t381) a0_0 l0_1))) else (spec_GapsCut.j0 k a1 a2 a3 true a0_0 l0_1))) else (spec_GapsCut.j0 k a1 a2 a3 true a0_0 l0_1))) else (spec_GapsCut.j0 k a1 a2 a3 true a0_0 l0_1)) = some (r1, r2) := H
  rcases sqI (t378 = true) with c9 | c9
  ·replace c9 := Bool.eq_false_iff.mpr c9
   subst c9
   have H1 : (spec_GapsCut.j0 k a1 a2 a3 true a0_0 l0_1) = some (r1, r2) := by rw [if_neg (show ¬ (false = true) by decide)] at H; exact H
   clear H
   have H := H1
   clear H1
   have H' := Aside0.mk H
   clear H
   have hnb32 := NB376_377.out
   have hnc32 := NB377_376.out
   obtain ⟨hcz33_0, hcz33_1, hfz33_0, hfz33_1⟩ := sqc2 BK376
   go_wp2_with (first | ((with_reducible refine gate_callee (f := 41) rfl ?_); refine sqL (some 11) Try.func41 #[.agg #[.int .i64 a0_0, .slice A0_1 l0_1.length c0_1]] ?_; (with_reducible refine (spec_GapsOk.calls k a0_0 _ _ l0_1 false _ ?side1 ?side2 A8.out).mono ?_); (case side1 => exact sqC (Kd.C_below HR0_1.out HB.out)); (case side2 => exact HC0_1.out); rintro e w34 ⟨rfl, hb⟩; refine ⟨_, rfl, ?_⟩; refine sqM2 BK376 BK377 hb ?_; clear BK376 BK377; intro BK376 BK377; replace HB := sqs HB hb; (try clear hb)))
   go_meet
   case rel => exact ⟨_, (true), (by first | rfl | (simp; done) | (simp [*]; done)), H', ⟨by first | omega | exact Nat.le_refl _⟩, sqk BK376, sqk BK377, sqh HB⟩
  subst c9
  have H1 : ((spec_l1In.f a1 0 a0_0).bind fun t379 => (if t379 = true then ((spec_l1In.f a2 0 a0_0).bind fun t380 => (if t380 = true then (if a1 = a2 then (spec_GapsCut.j0 k a1 a2 a3 true a0_0 l0_1) else ((spec_l11C.f a3).bind fun t381 => (spec_GapsCut.j0 k a1 a2 a3 (!t381) a0_0 l0_1))) else (spec_GapsCut.j0 k a1 a2 a3 true a0_0 l0_1))) else (spec_GapsCut.j0 k a1 a2 a3 true a0_0 l0_1))) = some (r1, r2) := by rw [if_pos rfl] at H; exact H
  clear H
  have H := H1
  clear H1
  replace H := sqbi H
  obtain ⟨t379, A10, H⟩ := H
  replace H : (if t379 = true then ((spec_l1In.f a2 0 a0_0).bind fun t380 => (if t380 = true then (if a1 = a2 then (spec_GapsCut.j0 k a1 a2 a3 true a0_0 l0_1) else ((spec_l11C.f a3).bind fun t381 => (spec_GapsCut.j0 k a1 a2 a3 (!t381) a0_0 l0_1))) else (spec_GapsCut.j0 k a1 a2 a3 true a0_0 l0_1))) else (spec_GapsCut.j0 k a1 a2 a3 true a0_0 l0_1)) = some (r1, r2) := H
  rcases sqI (t379 = true) with c11 | c11
  ·replace c11 := Bool.eq_false_iff.mpr c11
   subst c11
   have H1 : (spec_GapsCut.j0 k a1 a2 a3 true a0_0 l0_1) = some (r1, r2) := by rw [if_neg (show ¬ (false = true) by decide)] at H; exact H
   clear H
   have H := H1
   clear H1
   have H' := Aside0.mk H
   clear H
   have hnb28 := NB376_377.out
   have hnc28 := NB377_376.out
   obtain ⟨hcz29_0, hcz29_1, hfz29_0, hfz29_1⟩ := sqc2 BK376
   go_wp2_with (first | ((with_reducible refine gate_callee (f := 41) rfl ?_); refine sqL (some 11) Try.func41 #[.agg #[.int .i64 a0_0, .slice A0_1 l0_1.length c0_1]] ?_; (with_reducible refine (spec_GapsOk.calls k a0_0 _ _ l0_1 true _ ?side1 ?side2 A8.out).mono ?_); (case side1 => exact sqC (Kd.C_below HR0_1.out HB.out)); (case side2 => exact HC0_1.out); rintro e w30 ⟨rfl, hb⟩; refine ⟨_, rfl, ?_⟩; refine sqM2 BK376 BK377 hb ?_; clear BK376 BK377; intro BK376 BK377; replace HB := sqs HB hb; (try clear hb); obtain ⟨hcz31_0, hcz31_1, hfz31_0, hfz31_1⟩ := sqc2 BK376) | (go_at_call 105; (with_reducible refine (spec_l1In.calls a1 0 a0_0 false _ A10.out).mono ?_); rintro e w' ⟨rfl, ⟨nd, rfl⟩⟩))
   go_meet
   case rel => exact ⟨_, (true), (by first | rfl | (simp; done) | (simp [*]; done)), H', ⟨by first | omega | exact Nat.le_refl _⟩, sqk BK376, sqk BK377, sqh HB⟩
  subst c11
  have H1 : ((spec_l1In.f a2 0 a0_0).bind fun t380 => (if t380 = true then (if a1 = a2 then (spec_GapsCut.j0 k a1 a2 a3 true a0_0 l0_1) else ((spec_l11C.f a3).bind fun t381 => (spec_GapsCut.j0 k a1 a2 a3 (!t381) a0_0 l0_1))) else (spec_GapsCut.j0 k a1 a2 a3 true a0_0 l0_1))) = some (r1, r2) := by rw [if_pos rfl] at H; exact H
  clear H
  have H := H1
  clear H1
  replace H := sqbi H
  obtain ⟨t380, A12, H⟩ := H
  replace H : (if t380 = true then (if a1 = a2 then (spec_GapsCut.j0 k a1 a2 a3 true a0_0 l0_1) else ((spec_l11C.f a3).bind fun t381 => (spec_GapsCut.j0 k a1 a2 a3 (!t381) a0_0 l0_1))) else (spec_GapsCut.j0 k a1 a2 a3 true a0_0 l0_1)) = some (r1, r2) := H
  rcases sqI (t380 = true) with c13 | c13
  ·replace c13 := Bool.eq_false_iff.mpr c13
   subst c13
   have H1 : (spec_GapsCut.j0 k a1 a2 a3 true a0_0 l0_1) = some (r1, r2) := by rw [if_neg (show ¬ (false = true) by decide)] at H; exact H
   clear H
   have H := H1
   clear H1
   have H' := Aside0.mk H
   clear H
   have hnb24 := NB376_377.out
   have hnc24 := NB377_376.out
   obtain ⟨hcz25_0, hcz25_1, hfz25_0, hfz25_1⟩ := sqc2 BK376
   go_wp2_with (first | ((with_reducible refine gate_callee (f := 41) rfl ?_); refine sqL (some 11) Try.func41 #[.agg #[.int .i64 a0_0, .slice A0_1 l0_1.length c0_1]] ?_; (with_reducible refine (spec_GapsOk.calls k a0_0 _ _ l0_1 true _ ?side1 ?side2 A8.out).mono ?_); (case side1 => exact sqC (Kd.C_below HR0_1.out HB.out)); (case side2 => exact HC0_1.out); rintro e w26 ⟨rfl, hb⟩; refine ⟨_, rfl, ?_⟩; refine sqM2 BK376 BK377 hb ?_; clear BK376 BK377; intro BK376 BK377; replace HB := sqs HB hb; (try clear hb); obtain ⟨hcz27_0, hcz27_1, hfz27_0, hfz27_1⟩ := sqc2 BK376) | (go_at_call 105; (with_reducible refine (spec_l1In.calls a1 0 a0_0 true _ A10.out).mono ?_); rintro e w' ⟨rfl, ⟨nd, rfl⟩⟩) | (go_at_call 105; (with_reducible refine (spec_l1In.calls a2 0 a0_0 false _ A12.out).mono ?_); rintro e w' ⟨rfl, ⟨nd, rfl⟩⟩))
   go_meet
   case rel => exact ⟨_, (true), (by first | rfl | (simp; done) | (simp [*]; done)), H', ⟨by first | omega | exact Nat.le_refl _⟩, sqk BK376, sqk BK377, sqh HB⟩
  subst c13
  have H1 : (if a1 = a2 then (spec_GapsCut.j0 k a1 a2 a3 true a0_0 l0_1) else ((spec_l11C.f a3).bind fun t381 => (spec_GapsCut.j0 k a1 a2 a3 (!t381) a0_0 l0_1))) = some (r1, r2) := by rw [if_pos rfl] at H; exact H
  clear H
  have H := H1
  clear H1
  replace H := sqj H
  rcases H with ⟨c14, H⟩ | ⟨c14, H⟩
  ·have c14b0 : (a1 == a2) = true := beq_iff_eq.mpr c14
   have c14b1 : (a1 != a2) = false := bne_eq_false_iff_eq.mpr c14
   clear c14
   (first | rw [c14b0] | (simp only [i64_w, i32_w]; rw [c14b0]) | skip)
   have H' := Aside0.mk H
   clear H
   have hnb15 := NB376_377.out
   have hnc15 := NB377_376.out
   obtain ⟨hcz16_0, hcz16_1, hfz16_0, hfz16_1⟩ := sqc2 BK376
   go_wp2_with (first | ((with_reducible refine gate_callee (f := 41) rfl ?_); refine sqL (some 11) Try.func41 #[.agg #[.int .i64 a0_0, .slice A0_1 l0_1.length c0_1]] ?_; (with_reducible refine (spec_GapsOk.calls k a0_0 _ _ l0_1 true _ ?side1 ?side2 A8.out).mono ?_); (case side1 => exact sqC (Kd.C_below HR0_1.out HB.out)); (case side2 => exact HC0_1.out); rintro e w17 ⟨rfl, hb⟩; refine ⟨_, rfl, ?_⟩; refine sqM2 BK376 BK377 hb ?_; clear BK376 BK377; intro BK376 BK377; replace HB := sqs HB hb; (try clear hb); obtain ⟨hcz18_0, hcz18_1, hfz18_0, hfz18_1⟩ := sqc2 BK376) | (go_at_call 105; (with_reducible refine (spec_l1In.calls a1 0 a0_0 true _ A10.out).mono ?_); rintro e w' ⟨rfl, ⟨nd, rfl⟩⟩) | (go_at_call 105; (with_reducible refine (spec_l1In.calls a2 0 a0_0 true _ A12.out).mono ?_); rintro e w' ⟨rfl, ⟨nd, rfl⟩⟩))
   go_meet
   case rel => exact ⟨_, (true), (by first | rfl | (simp; done) | (simp [*]; done)), H', ⟨by first | omega | exact Nat.le_refl _⟩, sqk BK376, sqk BK377, sqh HB⟩
  have c14b0 : (a1 == a2) = false := beq_eq_false_iff_ne.mpr c14
  have c14b1 : (a1 != a2) = true := bne_iff_ne.mpr c14
  (first | rw [c14b0] | (simp only [i64_w, i32_w]; rw [c14b0]) | skip)
  replace H := sqbi H
  obtain ⟨t381, A19, H⟩ := H
  replace H : (spec_GapsCut.j0 k a1 a2 a3 (!t381) a0_0 l0_1) = some (r1, r2) := H
  have H' := Aside0.mk H
  clear H
  have hnb20 := NB376_377.out
  have hnc20 := NB377_376.out
  obtain ⟨hcz21_0, hcz21_1, hfz21_0, hfz21_1⟩ := sqc2 BK376
  go_wp2_with (first | ((with_reducible refine gate_callee (f := 41) rfl ?_); refine sqL (some 11) Try.func41 #[.agg #[.int .i64 a0_0, .slice A0_1 l0_1.length c0_1]] ?_; (with_reducible refine (spec_GapsOk.calls k a0_0 _ _ l0_1 true _ ?side1 ?side2 A8.out).mono ?_); (case side1 => exact sqC (Kd.C_below HR0_1.out HB.out)); (case side2 => exact HC0_1.out); rintro e w22 ⟨rfl, hb⟩; refine ⟨_, rfl, ?_⟩; refine sqM2 BK376 BK377 hb ?_; clear BK376 BK377; intro BK376 BK377; replace HB := sqs HB hb; (try clear hb); obtain ⟨hcz23_0, hcz23_1, hfz23_0, hfz23_1⟩ := sqc2 BK376) | (go_at_call 105; (with_reducible refine (spec_l1In.calls a1 0 a0_0 true _ A10.out).mono ?_); rintro e w' ⟨rfl, ⟨nd, rfl⟩⟩) | (go_at_call 105; (with_reducible refine (spec_l1In.calls a2 0 a0_0 true _ A12.out).mono ?_); rintro e w' ⟨rfl, ⟨nd, rfl⟩⟩) | (go_at_call 121; (with_reducible refine (spec_l11C.calls a3 t381 _ A19.out).mono ?_); rintro e w' ⟨rfl, ⟨nd, rfl⟩⟩))
  go_meet
  case rel => exact ⟨_, (!t381), (by first | rfl | (simp; done) | (simp [*]; done)), H', ⟨by first | omega | exact Nat.le_refl _⟩, sqk BK376, sqk BK377, sqh HB⟩
 case rest =>
  clear HC5
  obtain ⟨kq, x36_4, rfl, HA, HJ4, BK376, BK377, HB⟩ := hcut
  cases kq with
  | zero => exact absurd HA.out (by simp [spec_GapsCut.j0])
  | succ kj4 =>
   have H := HA.out
   clear HA
   simp only [spec_GapsCut.j0] at H
   by_cases c35 : x36_4 = true
   ·subst c35
    have H1 : (some (0, ([] : List Int))) = some (r1, r2) := by rw [if_pos rfl] at H; exact H
    clear H
    have H := H1
    clear H1
    simp only [Option.some.injEq, Prod.mk.injEq] at H
    obtain ⟨rfl, rfl⟩ := H
    have hnb36 := NB377_376.out
    have hnc36 := NB376_377.out
    obtain ⟨hcz37_0, hcz37_1, hfz37_0, hfz37_1⟩ := sqc2 BK377
    go_wp2
    refine bodyPost_ret (results_cell_row rfl _ _ gb377 41 #[.int .i64 0, .slice none 0 0] (0, 0) _ rfl (by refine sqt ?_; refine blk_put (cs := #[.int .i64 0, .slice none 0 0]) ?_ 1 _ rfl; refine sqt ?_; refine blk_put (cs := #[.int .i64 0, .slice none 0 0]) ?_ 0 _ rfl; refine sqt ?_; exact BK377.out) Try.underlying41 rfl (by kernel_rfl)) rfl ?_
    exact ⟨_, by first | rfl | (simp [errW_none, errW_some] <;> rfl) | (simp [*, errW_none, errW_some] <;> rfl), by first | exact Kd.R_nil _ _ _ _ _ | exact Kd.N_nil _ _ _ _ _ | exact Kd.V_nil _ _ _ _ _ | exact Kd.Q_nil _ _ _ _ _ | exact Kd.S_nil _ _ _ _ _, by repeat (first | (with_reducible first | exact HB.out | apply below_alloc | apply pw_below_drewN | apply below_drew1 | refine below_set ?_ GE376.out | refine below_set ?_ GE377.out) | exact HB.out)⟩
   replace c35 := Bool.eq_false_iff.mpr c35
   subst c35
   have H1 : ((spec_l11Copy.f kj4 a0_0 l0_1).bind fun bt382 => ((spec_l11At.f a0_0 l0_1 a1 a2).bind fun t387 => (if a3 < t387 then ((spec_l11Put.f bt382.1 bt382.2 a1 a2 a3).bind fun t388 => (some (bt382.1, t388))) else (some (bt382.1, bt382.2))))) = some (r1, r2) := by rw [if_neg (show ¬ (false = true) by decide)] at H; exact H
   clear H
   have H := H1
   clear H1
   replace H := sqbi H
   obtain ⟨⟨t382, t383⟩, A38, H⟩ := H
   replace H : ((spec_l11At.f a0_0 l0_1 a1 a2).bind fun t387 => (if a3 < t387 then ((spec_l11Put.f t382 t383 a1 a2 a3).bind fun t388 => (some (t382, t388))) else (some (t382, t383)))) = some (r1, r2) := H
   replace H := sqbi H
   obtain ⟨t387, A39, H⟩ := H
   replace H : (if a3 < t387 then ((spec_l11Put.f t382 t383 a1 a2 a3).bind fun t388 => (some (t382, t388))) else (some (t382, t383))) = some (r1, r2) := H
   replace H := sqi H
   rcases H with ⟨c40, H⟩ | ⟨c40, H⟩
   ·have c40b0 := decide_eq_false c40
    clear c40
    simp only [Option.some.injEq, Prod.mk.injEq] at H
    obtain ⟨rfl, rfl⟩ := H
    have hnb56 := NB376_377.out
    have hnc56 := NB377_376.out
    obtain ⟨hcz57_0, hcz57_1, hfz57_0, hfz57_1⟩ := sqc2 BK376
    go_wp2_with (first | ((with_reducible refine gate_callee (f := 113) rfl ?_); refine sqL (some 39) Try.func113 #[.agg #[.int .i64 a0_0, .slice A0_1 l0_1.length c0_1]] ?_; (with_reducible refine (spec_l11Copy.calls kj4 a0_0 _ _ l0_1 t382 t383 _ ?side1 ?side2 A38.out).mono ?_); (case side1 => exact sqC (Kd.C_below HR0_1.out HB.out)); (case side2 => exact HC0_1.out); rintro e w58 ⟨v384, rfl, ho0, hb⟩; refine ⟨_, rfl, ?_⟩; have HO385 := Aside0.mk (Kd.R_lower ho0 (below_size (sqB HB))); refine sqM2 BK376 BK377 hb ?_; clear BK376 BK377; intro BK376 BK377; replace HB := sqs HB hb; (try clear hb); (try clear hb2); (try clear hk); (try clear hi); (try clear ho0)) | ((with_reducible refine gate_dst (N := 9) rfl ?_); refine sqx 9 #[.int .i64 0, .slice none 0 0] 41 ?_; intro gb386 hg w59 hbox hb; have n0_ := Aside0.mk (Kd.R_below (sqy HO385.out) hb); have n1_ := sqb BK376 hb; have n2_ := sqb BK377 hb; have n3_ := sqs HB hb; have n4_ := Aside0.mk (hbox); have n5_ := sqg HB hg; have n6_ := sqg HB hg; have n7_ := sqn BK376 hg; have n8_ := sqm BK376 hg; have n9_ := sqn BK377 hg; have n10_ := sqm BK377 hg; clear HO385; clear BK376; clear BK377; clear HB; have HO385 := n0_; have BK376 := n1_; have BK377 := n2_; have HB := n3_; have BK386 := n4_; have GW386 := n5_; have GE386 := n6_; have NB376_386 := n7_; have NB386_376 := n8_; have NB377_386 := n9_; have NB386_377 := n10_; clear n0_ n1_ n2_ n3_ n4_ n5_ n6_ n7_ n8_ n9_ n10_; clear hb hbox hg; have hnb60 := NB386_376.out; have hnc60 := NB376_386.out; have hnb61 := NB386_377.out; have hnc61 := NB377_386.out; obtain ⟨hcz62_0, hcz62_1, hfz62_0, hfz62_1⟩ := sqc2 BK386; obtain ⟨Ao63, co63, eo63⟩ := Kd.R_slice HO385.out; subst eo63; obtain ⟨hcz64_0, hcz64_1, hfz64_0, hfz64_1⟩ := sqc2 BK376) | ((with_reducible refine gate_callee (f := 115) rfl ?_); refine sqL (some 44) Try.func115 #[.agg #[.int .i64 a0_0, .slice A0_1 l0_1.length c0_1], .int .i64 a1, .int .i64 a2] ?_; (with_reducible refine (spec_l11At.calls a0_0 _ _ l0_1 a1 a2 t387 _ ?side1 ?side2 A39.out).mono ?_); (case side1 => exact Kd.C_below HR0_1.out (sqB HB)); (case side2 => exact HC0_1.out); rintro e w65 ⟨rfl, hb⟩; refine ⟨_, rfl, ?_⟩; have n0_ := Aside0.mk (Kd.R_below (by (with_reducible repeat (first | apply Kd.R_alloc | apply Kd.R_drewN | apply Kd.R_drew)); exact (Kd.R_mono (Kd.R_far (p := ⟨gb386, 1, none⟩) (Kd.R_far (p := ⟨gb386, 0, none⟩) (Kd.R_types HO385.out BK386.out (by decide)) (fun _ hk => hk.2) (.int .i64 t382)) (fun _ hk => hk.2) (.slice Ao63 t383.length co63)) (fun _ h_ => h_.1))) hb); have n1_ := Aside0.mk (blk_below (g := gb376) (o := .cells #[.int .i64 a0_0, .slice A0_1 l0_1.length c0_1] 41 (0, 0)) (by refine sqt ?_; refine blk_far ?_ NB376_386.out _; refine sqt ?_; refine blk_far ?_ NB376_386.out _; refine sqt ?_; exact BK376.out) hb); have n2_ := Aside0.mk (blk_below (g := gb377) (o := .cells #[.int .i64 0, .slice none 0 0] 41 (0, 0)) (by refine sqt ?_; refine blk_far ?_ NB377_386.out _; refine sqt ?_; refine blk_far ?_ NB377_386.out _; refine sqt ?_; exact BK377.out) hb); have n3_ := Aside0.mk (blk_below (g := gb386) (o := .cells #[.int .i64 t382, .slice Ao63 t383.length co63] 41 (0, 0)) (by refine sqt ?_; refine blk_put (cs := #[.int .i64 t382, .slice none 0 0]) ?_ 1 _ rfl; refine sqt ?_; refine blk_put (cs := #[.int .i64 0, .slice none 0 0]) ?_ 0 _ rfl; refine sqt ?_; exact BK386.out) hb); have n4_ := sqs HB hb; clear HO385; clear BK376; clear BK377; clear BK386; clear HB; have HO385 := n0_; have BK376 := n1_; have BK377 := n2_; have BK386 := n3_; have HB := n4_; clear n0_ n1_ n2_ n3_ n4_; (try clear hb); (try clear hb2); (try clear hk); (try clear hi); obtain ⟨hcz66_0, hcz66_1, hfz66_0, hfz66_1⟩ := sqc2 BK386; obtain ⟨hcz67_0, hcz67_1, hfz67_0, hfz67_1⟩ := sqc2 BK377))
    refine bodyPost_ret (results_cell_row rfl _ _ gb377 41 #[.int .i64 t382, .slice Ao63 t383.length co63] (0, 0) _ rfl (by refine sqt ?_; refine blk_put (cs := #[.int .i64 t382, .slice none 0 0]) ?_ 1 _ rfl; refine sqt ?_; refine blk_put (cs := #[.int .i64 0, .slice none 0 0]) ?_ 0 _ rfl; refine sqt ?_; exact BK377.out) Try.underlying41 rfl (by kernel_rfl)) rfl ?_
    exact ⟨_, by first | rfl | (simp [errW_none, errW_some] <;> rfl) | (simp [*, errW_none, errW_some] <;> rfl), by (with_reducible repeat (first | apply Kd.R_alloc | apply Kd.R_drewN | apply Kd.R_drew)); exact Kd.R_mono (Kd.R_far (p := ⟨gb377, 1, none⟩) (Kd.R_far (p := ⟨gb377, 0, none⟩) (Kd.R_types HO385.out BK377.out (by decide)) (fun _ hk => hk.2) (.int .i64 t382)) (fun _ hk => hk.2) (.slice Ao63 t383.length co63)) (fun _ hk => trivial), by repeat (first | (with_reducible first | exact HB.out | apply below_alloc | apply pw_below_drewN | apply below_drew1 | refine below_set ?_ GE376.out | refine below_set ?_ GE377.out | refine below_set ?_ GE386.out) | exact HB.out)⟩
   have c40b0 := decide_eq_true c40
   clear c40
   replace H := sqbi H
   obtain ⟨t388, A41, H⟩ := H
   replace H : (some (t382, t388)) = some (r1, r2) := H
   simp only [Option.some.injEq, Prod.mk.injEq] at H
   obtain ⟨rfl, rfl⟩ := H
   have hnb42 := NB376_377.out
   have hnc42 := NB377_376.out
   obtain ⟨hcz43_0, hcz43_1, hfz43_0, hfz43_1⟩ := sqc2 BK376
   go_wp2_with (first | ((with_reducible refine gate_callee (f := 113) rfl ?_); refine sqL (some 39) Try.func113 #[.agg #[.int .i64 a0_0, .slice A0_1 l0_1.length c0_1]] ?_; (with_reducible refine (spec_l11Copy.calls kj4 a0_0 _ _ l0_1 t382 t383 _ ?side1 ?side2 A38.out).mono ?_); (case side1 => exact sqC (Kd.C_below HR0_1.out HB.out)); (case side2 => exact HC0_1.out); rintro e w44 ⟨v384, rfl, ho0, hb⟩; refine ⟨_, rfl, ?_⟩; have HO385 := Aside0.mk (Kd.R_lower ho0 (below_size (sqB HB))); refine sqM2 BK376 BK377 hb ?_; clear BK376 BK377; intro BK376 BK377; replace HB := sqs HB hb; (try clear hb); (try clear hb2); (try clear hk); (try clear hi); (try clear ho0)) | ((with_reducible refine gate_dst (N := 9) rfl ?_); refine sqx 9 #[.int .i64 0, .slice none 0 0] 41 ?_; intro gb386 hg w45 hbox hb; have n0_ := Aside0.mk (Kd.R_below (sqy HO385.out) hb); have n1_ := sqb BK376 hb; have n2_ := sqb BK377 hb; have n3_ := sqs HB hb; have n4_ := Aside0.mk (hbox); have n5_ := sqg HB hg; have n6_ := sqg HB hg; have n7_ := sqn BK376 hg; have n8_ := sqm BK376 hg; have n9_ := sqn BK377 hg; have n10_ := sqm BK377 hg; clear HO385; clear BK376; clear BK377; clear HB; have HO385 := n0_; have BK376 := n1_; have BK377 := n2_; have HB := n3_; have BK386 := n4_; have GW386 := n5_; have GE386 := n6_; have NB376_386 := n7_; have NB386_376 := n8_; have NB377_386 := n9_; have NB386_377 := n10_; clear n0_ n1_ n2_ n3_ n4_ n5_ n6_ n7_ n8_ n9_ n10_; clear hb hbox hg; have hnb46 := NB386_376.out; have hnc46 := NB376_386.out; have hnb47 := NB386_377.out; have hnc47 := NB377_386.out; obtain ⟨hcz48_0, hcz48_1, hfz48_0, hfz48_1⟩ := sqc2 BK386; obtain ⟨Ao49, co49, eo49⟩ := Kd.R_slice HO385.out; subst eo49; obtain ⟨hcz50_0, hcz50_1, hfz50_0, hfz50_1⟩ := sqc2 BK376) | ((with_reducible refine gate_callee (f := 115) rfl ?_); refine sqL (some 44) Try.func115 #[.agg #[.int .i64 a0_0, .slice A0_1 l0_1.length c0_1], .int .i64 a1, .int .i64 a2] ?_; (with_reducible refine (spec_l11At.calls a0_0 _ _ l0_1 a1 a2 t387 _ ?side1 ?side2 A39.out).mono ?_); (case side1 => exact Kd.C_below HR0_1.out (sqB HB)); (case side2 => exact HC0_1.out); rintro e w51 ⟨rfl, hb⟩; refine ⟨_, rfl, ?_⟩; have n0_ := Aside0.mk (Kd.R_below (by (with_reducible repeat (first | apply Kd.R_alloc | apply Kd.R_drewN | apply Kd.R_drew)); exact (Kd.R_mono (Kd.R_far (p := ⟨gb386, 1, none⟩) (Kd.R_far (p := ⟨gb386, 0, none⟩) (Kd.R_types HO385.out BK386.out (by decide)) (fun _ hk => hk.2) (.int .i64 t382)) (fun _ hk => hk.2) (.slice Ao49 t383.length co49)) (fun _ h_ => h_.1))) hb); have n1_ := Aside0.mk (blk_below (g := gb376) (o := .cells #[.int .i64 a0_0, .slice A0_1 l0_1.length c0_1] 41 (0, 0)) (by refine sqt ?_; refine blk_far ?_ NB376_386.out _; refine sqt ?_; refine blk_far ?_ NB376_386.out _; refine sqt ?_; exact BK376.out) hb); have n2_ := Aside0.mk (blk_below (g := gb377) (o := .cells #[.int .i64 0, .slice none 0 0] 41 (0, 0)) (by refine sqt ?_; refine blk_far ?_ NB377_386.out _; refine sqt ?_; refine blk_far ?_ NB377_386.out _; refine sqt ?_; exact BK377.out) hb); have n3_ := Aside0.mk (blk_below (g := gb386) (o := .cells #[.int .i64 t382, .slice Ao49 t383.length co49] 41 (0, 0)) (by refine sqt ?_; refine blk_put (cs := #[.int .i64 t382, .slice none 0 0]) ?_ 1 _ rfl; refine sqt ?_; refine blk_put (cs := #[.int .i64 0, .slice none 0 0]) ?_ 0 _ rfl; refine sqt ?_; exact BK386.out) hb); have n4_ := sqs HB hb; clear HO385; clear BK376; clear BK377; clear BK386; clear HB; have HO385 := n0_; have BK376 := n1_; have BK377 := n2_; have BK386 := n3_; have HB := n4_; clear n0_ n1_ n2_ n3_ n4_; (try clear hb); (try clear hb2); (try clear hk); (try clear hi); obtain ⟨hcz52_0, hcz52_1, hfz52_0, hfz52_1⟩ := sqc2 BK386) | ((with_reducible refine gate_callee (f := 116) rfl ?_); refine sqL (some 50) Try.func116 #[.agg #[.int .i64 t382, .slice Ao49 t383.length co49], .int .i64 a1, .int .i64 a2, .int .i64 a3] ?_; (with_reducible refine (spec_l11Put.calls t382 (fun k_ => some k_ = (.slice Ao49 t383.length co49 : Value).ownBlock) (.slice Ao49 t383.length co49) t383 a1 a2 a3 t388 w _ ?side1 ?side2 A41.out).mono ?_); (case side1 => repeat (first | (with_reducible first | exact HB.out | apply below_alloc | apply pw_below_drewN | apply below_drew1 | refine below_set ?_ GE376.out | refine below_set ?_ GE377.out | refine below_set ?_ GE386.out) | exact HB.out)); (case side2 => exact Kd.R_tight rfl HO385.out); rintro e w53 ⟨rfl, hy0, hb, hkp⟩; refine ⟨_, rfl, ?_⟩; have n0_ := Aside0.mk (blk_kept (sqt BK376.out) hkp (fun hs_ => (fun e_ => (Kd.R_ne HO385.out BK376.out (by decide)) e_) hs_)); have n1_ := Aside0.mk (blk_kept (sqt BK377.out) hkp (fun hs_ => (fun e_ => (Kd.R_ne HO385.out BK377.out (by decide)) e_) hs_)); have n2_ := Aside0.mk (Kd.R_reok rfl hy0 (fun k_ e_ => HO385.out.1 k_ e_)); have n3_ := Aside0.mk (blk_kept (sqt BK386.out) hkp (fun hs_ => (fun e_ => (Kd.R_ne HO385.out BK386.out (by decide)) e_) hs_)); have n4_ := Aside0.mk (hb); clear BK376; clear BK377; clear HO385; clear BK386; clear HB; have BK376 := n0_; have BK377 := n1_; have HO385 := n2_; have BK386 := n3_; have HB := n4_; clear n0_ n1_ n2_ n3_ n4_; (try clear hb); (try clear hkp); (try clear hy0); obtain ⟨hcz54_0, hcz54_1, hfz54_0, hfz54_1⟩ := sqc2 BK386; obtain ⟨hcz55_0, hcz55_1, hfz55_0, hfz55_1⟩ := sqc2 BK377))
   refine bodyPost_ret (results_cell_row rfl _ _ gb377 41 #[.int .i64 t382, .slice Ao49 t383.length co49] (0, 0) _ rfl (by refine sqt ?_; refine blk_put (cs := #[.int .i64 t382, .slice none 0 0]) ?_ 1 _ rfl; refine sqt ?_; refine blk_put (cs := #[.int .i64 0, .slice none 0 0]) ?_ 0 _ rfl; refine sqt ?_; exact BK377.out) Try.underlying41 rfl (by kernel_rfl)) rfl ?_
   exact ⟨_, by first | rfl | (simp [errW_none, errW_some] <;> rfl) | (simp [*, errW_none, errW_some] <;> rfl), by (with_reducible repeat (first | apply Kd.R_alloc | apply Kd.R_drewN | apply Kd.R_drew)); exact Kd.R_mono (Kd.R_far (p := ⟨gb377, 1, none⟩) (Kd.R_far (p := ⟨gb377, 0, none⟩) (Kd.R_types HO385.out BK377.out (by decide)) (fun _ hk => hk.2) (.int .i64 t382)) (fun _ hk => hk.2) (.slice Ao49 t383.length co49)) (fun _ hk => trivial), by repeat (first | (with_reducible first | exact HB.out | apply below_alloc | apply pw_below_drewN | apply below_drew1 | refine below_set ?_ GE376.out | refine below_set ?_ GE377.out | refine below_set ?_ GE386.out) | exact HB.out)⟩

/-! ### impl_rangeFrom: function 129 -/
set_option maxHeartbeats 8000000 in
set_option maxRecDepth 100000 in
theorem impl_rangeFrom.calls (a0 : Int) (a1 : Int) (r1 : Int) (r2 : Int) (w : World) (h : impl_rangeFrom.f a0 a1 = some (r1, r2)) :
  Calls Try.prog 129 #[.int .i64 a0, .int .i64 a1] w fun e w' => e = .returned (.agg #[.int .i64 r1, .int .i64 r2]) ∧ Below w.heap.size w w' := by
 have hu24 := Try.underlying24
 have HB := Aside0.mk (Below.refl w.heap.size w)
 have H : (if (mx a0 (-2147483648)) > (mn a1 2147483647) then ((impl_rangeNone.f).bind fun bt391 => (some (bt391.1, bt391.2))) else (some (mx a0 (-2147483648), mn a1 2147483647))) = some (r1, r2) := h
 clear h
 obtain ⟨ji3, hji3⟩ : ∃ j_ : Int, (mx a0 (-2147483648)) = j_ := ⟨_, rfl⟩
 replace H : (if (ji3) > (mn a1 2147483647) then ((impl_rangeNone.f).bind fun bt391 => (some (bt391.1, bt391.2))) else (some (ji3, mn a1 2147483647))) = some (r1, r2) := by first | (rw [hji3] at H; exact H) | (simp only [hji3] at H ⊢; exact H)
 have hji3_ : (if a0 < (-2147483648) then (-2147483648) else a0) = ji3 := hji3
 obtain ⟨ji4, hji4⟩ : ∃ j_ : Int, (mn a1 2147483647) = j_ := ⟨_, rfl⟩
 replace H : (if (ji3) > (ji4) then ((impl_rangeNone.f).bind fun bt391 => (some (bt391.1, bt391.2))) else (some (ji3, ji4))) = some (r1, r2) := by first | (rw [hji4] at H; exact H) | (simp only [hji4] at H ⊢; exact H)
 (try (have hji4h : ji4 ≤ 2147483647 := by (rw [← hji4]; unfold mn; (repeat' split) <;> omega)))
 (try (have hji4g : ji4 ≤ 64 := by omega))
 have hji4_ : (if 2147483647 < a1 then 2147483647 else a1) = ji4 := hji4
 replace H := sqi H
 rcases H with ⟨c5, H⟩ | ⟨c5, H⟩
 ·have c5b0 : decide ((ji4) < (ji3)) = false := decide_eq_false c5
  clear c5
  simp only [Option.some.injEq, Prod.mk.injEq] at H
  obtain ⟨rfl, rfl⟩ := H
  go_enter Try.func129, Try.ntmps129
  go_wp2_with (first | ((with_reducible refine gate_dst (N := 4) rfl ?_); refine sqx 4 #[.int .i64 0, .int .i64 0] 24 ?_; intro gb389 hg w13 hbox hb; have BK389 := Aside0.mk hbox; have GW389 := sqg HB hg; have GE389 := sqg HB hg; replace HB := sqs HB hb; clear hb hbox hg) | ((with_reducible refine gate_dst (N := 5) rfl ?_); refine sqx 5 #[.int .i64 0, .int .i64 0] 24 ?_; intro gb390 hg w14 hbox hb; have BK390 := Aside0.mk hbox; have GW390 := sqg HB hg; have GE390 := sqg HB hg; have NB389_390 := sqn BK389 hg; have NB390_389 := sqm BK389 hg; replace BK389 := sqb BK389 hb; replace HB := sqs HB hb; clear hb hbox hg; have hnb15 := NB390_389.out; have hnc15 := NB389_390.out; obtain ⟨hcz16_0, hcz16_1, hfz16_0, hfz16_1⟩ := sqc2 BK390; obtain ⟨hcz17_0, hcz17_1, hfz17_0, hfz17_1⟩ := sqc2 BK389))
  refine bodyPost_ret (results_cell_row rfl _ _ gb389 24 #[.int .i64 ji3, .int .i64 ji4] (0, 0) _ rfl (by refine sqt ?_; refine blk_put (cs := #[.int .i64 ji3, .int .i64 0]) ?_ 1 _ rfl; refine sqt ?_; refine blk_put (cs := #[.int .i64 0, .int .i64 0]) ?_ 0 _ rfl; refine sqt ?_; refine blk_far ?_ NB389_390.out _; refine sqt ?_; refine blk_far ?_ NB389_390.out _; refine sqt ?_; exact BK389.out) Try.underlying24 rfl (by kernel_rfl)) rfl ?_
  exact ⟨by first | rfl | (simp [errW_none, errW_some] <;> rfl) | (simp only [← hji3, ← hji4]; first | rfl | (simp [errW_none, errW_some] <;> rfl)) | (simp [*, errW_none, errW_some] <;> rfl), by repeat (first | (with_reducible first | exact HB.out | apply below_alloc | apply pw_below_drewN | apply below_drew1 | refine below_set ?_ GE389.out | refine below_set ?_ GE390.out) | exact HB.out)⟩
 have c5b0 : decide ((ji4) < (ji3)) = true := decide_eq_true c5
 clear c5
 replace H := sqbi H
 obtain ⟨⟨t391, t392⟩, A6, H⟩ := H
 replace H : (some (t391, t392)) = some (r1, r2) := H
 simp only [Option.some.injEq, Prod.mk.injEq] at H
 obtain ⟨rfl, rfl⟩ := H
 go_enter Try.func129, Try.ntmps129
 go_wp2_with (first | ((with_reducible refine gate_dst (N := 4) rfl ?_); refine sqx 4 #[.int .i64 0, .int .i64 0] 24 ?_; intro gb389 hg w7 hbox hb; have BK389 := Aside0.mk hbox; have GW389 := sqg HB hg; have GE389 := sqg HB hg; replace HB := sqs HB hb; clear hb hbox hg) | ((with_reducible refine gate_dst (N := 5) rfl ?_); refine sqx 5 #[.int .i64 0, .int .i64 0] 24 ?_; intro gb390 hg w8 hbox hb; have BK390 := Aside0.mk hbox; have GW390 := sqg HB hg; have GE390 := sqg HB hg; have NB389_390 := sqn BK389 hg; have NB390_389 := sqm BK389 hg; replace BK389 := sqb BK389 hb; replace HB := sqs HB hb; clear hb hbox hg; have hnb9 := NB390_389.out; have hnc9 := NB389_390.out; obtain ⟨hcz10_0, hcz10_1, hfz10_0, hfz10_1⟩ := sqc2 BK390) | ((with_reducible refine gate_callee (f := 126) rfl ?_); refine sqL (some 16) Try.func126 #[] ?_; (with_reducible refine (impl_rangeNone.calls  t391 t392 _ A6.out).mono ?_); rintro e w11 ⟨rfl, hb⟩; refine ⟨_, rfl, ?_⟩; have n0_ := Aside0.mk (blk_below (g := gb389) (o := .cells #[.int .i64 0, .int .i64 0] 24 (0, 0)) (by refine sqt ?_; refine blk_far ?_ NB389_390.out _; refine sqt ?_; refine blk_far ?_ NB389_390.out _; refine sqt ?_; exact BK389.out) hb); have n1_ := Aside0.mk (blk_below (g := gb390) (o := .cells #[.int .i64 ji3, .int .i64 ji4] 24 (0, 0)) (by refine sqt ?_; refine blk_put (cs := #[.int .i64 ji3, .int .i64 0]) ?_ 1 _ rfl; refine sqt ?_; refine blk_put (cs := #[.int .i64 0, .int .i64 0]) ?_ 0 _ rfl; refine sqt ?_; exact BK390.out) hb); have n2_ := sqs HB hb; clear BK389; clear BK390; clear HB; have BK389 := n0_; have BK390 := n1_; have HB := n2_; clear n0_ n1_ n2_; (try clear hb); obtain ⟨hcz12_0, hcz12_1, hfz12_0, hfz12_1⟩ := sqc2 BK389))
 refine bodyPost_ret (results_cell_row rfl _ _ gb389 24 #[.int .i64 t391, .int .i64 t392] (0, 0) _ rfl (by refine sqt ?_; refine blk_put (cs := #[.int .i64 t391, .int .i64 0]) ?_ 1 _ rfl; refine sqt ?_; refine blk_put (cs := #[.int .i64 0, .int .i64 0]) ?_ 0 _ rfl; refine sqt ?_; exact BK389.out) Try.underlying24 rfl (by kernel_rfl)) rfl ?_
 exact ⟨by first | rfl | (simp [errW_none, errW_some] <;> rfl) | (simp only [← hji3, ← hji4]; first | rfl | (simp [errW_none, errW_some] <;> rfl)) | (simp [*, errW_none, errW_some] <;> rfl), by repeat (first | (with_reducible first | exact HB.out | apply below_alloc | apply pw_below_drewN | apply below_drew1 | refine below_set ?_ GE389.out | refine below_set ?_ GE390.out) | exact HB.out)⟩

/-! ### impl_GapsRange: function 53 -/
def impl_GapsRange.T3 : Bool × List (List Nat × List Nat) := (true, [([], []), ([0], [0]), ([], []), ([], []), ([2, 3], [2, 3]), ([1, 4], [1, 4]), ([5], [5]), ([6], [6]), ([], []), ([8], [8]), ([], []), ([], []), ([10, 11, 4], [10, 11]), ([9, 12], [9, 12]), ([13], [13]), ([7, 14, 12], [7, 14]), ([15, 15, 0, 1, 2, 3, 4, 5, 6, 7, 8, 9, 10, 11, 12, 13, 14, 15], [15])])
def impl_GapsRange.B3 : List Nat := [0, 1, 0, 0, 12, 31, 63, 127, 0, 256, 0, 0, 3100, 7964, 16156, 32767, 65535]
theorem impl_GapsRange.tab3 : rtab .any (opsOf Try.f53 3) = impl_GapsRange.T3 := by kernel_rfl
theorem impl_GapsRange.bits3 : waitsOk impl_GapsRange.T3.2 impl_GapsRange.B3 = true := by kernel_rfl
set_option maxHeartbeats 8000000 in
set_option maxRecDepth 100000 in
theorem impl_GapsRange.calls (k : Nat) (a0_0 : Int) (A0_1 : Option Addr) (c0_1 : Nat) (l0_1 : List Int) (a1 : Int) (r1 : Int) (r2 : Int) (w : World) (hr0_1 : Kd.C (Kd.int .i64) w A0_1 l0_1.length l0_1) (hc0_1 : l0_1.length ≤ c0_1) (h : impl_GapsRange.f k a0_0 l0_1 a1 = some (r1, r2)) :
  Calls Try.prog 53 #[.agg #[.int .i64 a0_0, .slice A0_1 l0_1.length c0_1], .int .i64 a1] w fun e w' => e = .returned (.agg #[.int .i64 r1, .int .i64 r2]) ∧ Below w.heap.size w w' := by
 have hu41 := Try.underlying41
 have hu24 := Try.underlying24
 have HR0_1 := Aside0.mk hr0_1
 have HC0_1 := Aside0.mk hc0_1
 clear hr0_1 hc0_1
 have HB := Aside0.mk (Below.refl w.heap.size w)
 have H : ((impl_GapsOk.f k a0_0 l0_1).bind fun t395 => (if t395 = true then (if a1 < 1 then (impl_GapsRange.j0 k a1 true a0_0 l0_1) else (impl_GapsRange.j0 k a1 (decide (a1 > a0_0)) a0_0 l0_1)) else (impl_GapsRange.j0 k a1 true a0_0 l0_1))) = some (r1, r2) := h
 clear h
 have HC3 := Aside0.mk H
 clear H
 go_enter Try.func53, Try.ntmps53
 go_upto_region 1 with (first | ((with_reducible refine gate_dst (N := 2) rfl ?_); refine sqx 2 #[.int .i64 a0_0, .slice A0_1 l0_1.length c0_1] 41 ?_; intro gb393 hg w4 hbox hb; have BK393 := Aside0.mk hbox; have GW393 := sqg HB hg; have GE393 := sqg HB hg; replace HB := sqs HB hb; clear hb hbox hg) | ((with_reducible refine gate_dst (N := 4) rfl ?_); refine sqx 4 #[.int .i64 0, .int .i64 0] 24 ?_; intro gb394 hg w5 hbox hb; have BK394 := Aside0.mk hbox; have GW394 := sqg HB hg; have GE394 := sqg HB hg; have NB393_394 := sqn BK393 hg; have NB394_393 := sqm BK393 hg; replace BK393 := sqb BK393 hb; replace HB := sqs HB hb; clear hb hbox hg))
 (try simp only [Act.put, List.setIfInBounds_toArray, List.set_cons_zero, List.set_cons_succ])
 go_cut [17] (fun v17 wc => ∃ (kq : Nat) (x17_2 : Bool), v17 = .bool x17_2 ∧ Aside0 (impl_GapsRange.j0 kq a1 x17_2 a0_0 l0_1 = some (r1, r2)) ∧ Aside0 (kq ≤ k) ∧ Aside0 (wc.heap[gb393]? = some (.cells #[.int .i64 a0_0, (.slice A0_1 l0_1.length c0_1)] 41 (0, 0))) ∧ Aside0 (wc.heap[gb394]? = some (.cells #[.int .i64 0, .int .i64 0] 24 (0, 0))) ∧ Aside0 (Below w.heap.size w wc))
 case first =>
  have H := HC3.out
  clear HC3
  replace H := sqbi H
  obtain ⟨t395, A6, H⟩ := H
  replace H : (if t395 = true then (if a1 < 1 then (impl_GapsRange.j0 k a1 true a0_0 l0_1) else (impl_GapsRange.j0 k a1 (decide (a1 > a0_0)) a0_0 l0_1)) else (impl_GapsRange.j0 k a1 true a0_0 l0_1)) = some (r1, r2) := H
  rcases sqI (t395 = true) with c7 | c7
  ·replace c7 := Bool.eq_false_iff.mpr c7
   subst c7
   have H1 : (impl_GapsRange.j0 k a1 true a0_0 l0_1) = some (r1, r2) := by rw [if_neg (show ¬ (false = true) by decide)] at H; exact H
   clear H
   have H := H1
   clear H1
   have H' := Aside0.mk H
   clear H
   have hnb16 := NB393_394.out
   have hnc16 := NB394_393.out
   obtain ⟨hcz17_0, hcz17_1, hfz17_0, hfz17_1⟩ := sqc2 BK393
   go_wp2_with (first | ((with_reducible refine gate_callee (f := 31) rfl ?_); refine sqL (some 6) Try.func31 #[.agg #[.int .i64 a0_0, .slice A0_1 l0_1.length c0_1]] ?_; (with_reducible refine (impl_GapsOk.calls k a0_0 _ _ l0_1 false _ ?side1 ?side2 A6.out).mono ?_); (case side1 => exact sqC (Kd.C_below HR0_1.out HB.out)); (case side2 => exact HC0_1.out); rintro e w18 ⟨rfl, hb⟩; refine ⟨_, rfl, ?_⟩; refine sqM2 BK393 BK394 hb ?_; clear BK393 BK394; intro BK393 BK394; replace HB := sqs HB hb; (try clear hb)))
   go_meet
   case rel => exact ⟨_, (true), (by first | rfl | (simp; done) | (simp [*]; done)), H', ⟨by first | omega | exact Nat.le_refl _⟩, sqk BK393, sqk BK394, sqh HB⟩
  subst c7
  have H1 : (if a1 < 1 then (impl_GapsRange.j0 k a1 true a0_0 l0_1) else (impl_GapsRange.j0 k a1 (decide (a1 > a0_0)) a0_0 l0_1)) = some (r1, r2) := by rw [if_pos rfl] at H; exact H
  clear H
  have H := H1
  clear H1
  replace H := sqj H
  rcases H with ⟨c8, H⟩ | ⟨c8, H⟩
  ·have c8b0 := decide_eq_true c8
   clear c8
   (first | rw [c8b0] | (simp only [i64_w, i32_w]; rw [c8b0]) | skip)
   have H' := Aside0.mk H
   clear H
   have hnb9 := NB393_394.out
   have hnc9 := NB394_393.out
   obtain ⟨hcz10_0, hcz10_1, hfz10_0, hfz10_1⟩ := sqc2 BK393
   go_wp2_with (first | ((with_reducible refine gate_callee (f := 31) rfl ?_); refine sqL (some 6) Try.func31 #[.agg #[.int .i64 a0_0, .slice A0_1 l0_1.length c0_1]] ?_; (with_reducible refine (impl_GapsOk.calls k a0_0 _ _ l0_1 true _ ?side1 ?side2 A6.out).mono ?_); (case side1 => exact sqC (Kd.C_below HR0_1.out HB.out)); (case side2 => exact HC0_1.out); rintro e w11 ⟨rfl, hb⟩; refine ⟨_, rfl, ?_⟩; refine sqM2 BK393 BK394 hb ?_; clear BK393 BK394; intro BK393 BK394; replace HB := sqs HB hb; (try clear hb)))
   go_meet
   case rel => exact ⟨_, (true), (by first | rfl | (simp; done) | (simp [*]; done)), H', ⟨by first | omega | exact Nat.le_refl _⟩, sqk BK393, sqk BK394, sqh HB⟩
  have c8b0 := decide_eq_false c8
  clear c8
  (first | rw [c8b0] | (simp only [i64_w, i32_w]; rw [c8b0]) | skip)
  have H' := Aside0.mk H
  clear H
  have hnb12 := NB393_394.out
  have hnc12 := NB394_393.out
  obtain ⟨hcz13_0, hcz13_1, hfz13_0, hfz13_1⟩ := sqc2 BK393
  go_wp2_with (first | ((with_reducible refine gate_callee (f := 31) rfl ?_); refine sqL (some 6) Try.func31 #[.agg #[.int .i64 a0_0, .slice A0_1 l0_1.length c0_1]] ?_; (with_reducible refine (impl_GapsOk.calls k a0_0 _ _ l0_1 true _ ?side1 ?side2 A6.out).mono ?_); (case side1 => exact sqC (Kd.C_below HR0_1.out HB.out)); (case side2 => exact HC0_1.out); rintro e w14 ⟨rfl, hb⟩; refine ⟨_, rfl, ?_⟩; refine sqM2 BK393 BK394 hb ?_; clear BK393 BK394; intro BK393 BK394; replace HB := sqs HB hb; (try clear hb); obtain ⟨hcz15_0, hcz15_1, hfz15_0, hfz15_1⟩ := sqc2 BK393))
  go_meet
  case rel => exact ⟨_, (decide (a1 > a0_0)), (by first | rfl | (simp; done) | (simp [*]; done)), H', ⟨by first | omega | exact Nat.le_refl _⟩, sqk BK393, sqk BK394, sqh HB⟩
 case rest =>
  clear HC3
  obtain ⟨kq, x17_2, rfl, HA, HJ2, BK393, BK394, HB⟩ := hcut
  cases kq with
  | zero => exact absurd HA.out (by simp [impl_GapsRange.j0])
  | succ kj2 =>
   have H := HA.out
   clear HA
   simp only [impl_GapsRange.j0] at H
   by_cases c19 : x17_2 = true
   ·subst c19
    have H1 : ((impl_rangeNone.f).bind fun bt396 => (some (bt396.1, bt396.2))) = some (r1, r2) := by rw [if_pos rfl] at H; exact H
    clear H
    have H := H1
    clear H1
    replace H := sqbi H
    obtain ⟨⟨t396, t397⟩, A20, H⟩ := H
    replace H : (some (t396, t397)) = some (r1, r2) := H
    simp only [Option.some.injEq, Prod.mk.injEq] at H
    obtain ⟨rfl, rfl⟩ := H
    go_wp2_with (first | ((with_reducible refine gate_callee (f := 126) rfl ?_); refine sqL (some 18) Try.func126 #[] ?_; (with_reducible refine (impl_rangeNone.calls  t396 t397 _ A20.out).mono ?_); rintro e w21 ⟨rfl, hb⟩; refine ⟨_, rfl, ?_⟩; refine sqM2 BK393 BK394 hb ?_; clear BK393 BK394; intro BK393 BK394; replace HB := sqs HB hb; (try clear hb); have hnb22 := NB394_393.out; have hnc22 := NB393_394.out; obtain ⟨hcz23_0, hcz23_1, hfz23_0, hfz23_1⟩ := sqc2 BK394))
    refine bodyPost_ret (results_cell_row rfl _ _ gb394 24 #[.int .i64 t396, .int .i64 t397] (0, 0) _ rfl (by refine sqt ?_; refine blk_put (cs := #[.int .i64 t396, .int .i64 0]) ?_ 1 _ rfl; refine sqt ?_; refine blk_put (cs := #[.int .i64 0, .int .i64 0]) ?_ 0 _ rfl; refine sqt ?_; exact BK394.out) Try.underlying24 rfl (by kernel_rfl)) rfl ?_
    exact sqe HB
   replace c19 := Bool.eq_false_iff.mpr c19
   subst c19
   have H1 : ((impl_Gaps_at.f a0_0 l0_1 0 a1).bind fun t398 => (if 0 ≤ t398 then (if t398 < (l0_1.length : Int) then ((impl_Gaps_at.f a0_0 l0_1 a1 0).bind fun t400 => (if 0 ≤ t400 then (if t400 < (l0_1.length : Int) then ((impl_rangeFrom.f (wrap64 (-(rd l0_1 t398))) (rd l0_1 t400)).bind fun bt402 => (some (bt402.1, bt402.2))) else (none)) else (none))) else (none)) else (none))) = some (r1, r2) := by rw [if_neg (show ¬ (false = true) by decide)] at H; exact H
   clear H
   have H := H1
   clear H1
   replace H := sqbi H
   obtain ⟨t398, A24, H⟩ := H
   replace H : (if 0 ≤ t398 then (if t398 < (l0_1.length : Int) then ((impl_Gaps_at.f a0_0 l0_1 a1 0).bind fun t400 => (if 0 ≤ t400 then (if t400 < (l0_1.length : Int) then ((impl_rangeFrom.f (wrap64 (-(rd l0_1 t398))) (rd l0_1 t400)).bind fun bt402 => (some (bt402.1, bt402.2))) else (none)) else (none))) else (none)) else (none)) = some (r1, r2) := H
   replace H := sqi H
   rcases H with ⟨c25, H⟩ | ⟨c25, H⟩
   ·exact absurd H (by simp)
   have c25b0 := decide_eq_true c25
   clear c25
   replace H := sqi H
   rcases H with ⟨c26, H⟩ | ⟨c26, H⟩
   ·exact absurd H (by simp)
   have c26b0 := decide_eq_true c26
   clear c26
   replace H := sqbi H
   obtain ⟨t400, A27, H⟩ := H
   replace H : (if 0 ≤ t400 then (if t400 < (l0_1.length : Int) then ((impl_rangeFrom.f (wrap64 (-(rd l0_1 t398))) (rd l0_1 t400)).bind fun bt402 => (some (bt402.1, bt402.2))) else (none)) else (none)) = some (r1, r2) := H
   replace H := sqi H
   rcases H with ⟨c28, H⟩ | ⟨c28, H⟩
   ·exact absurd H (by simp)
   have c28b0 := decide_eq_true c28
   clear c28
   replace H := sqi H
   rcases H with ⟨c29, H⟩ | ⟨c29, H⟩
   ·exact absurd H (by simp)
   have c29b0 := decide_eq_true c29
   clear c29
   replace H := sqbi H
   obtain ⟨⟨t402, t403⟩, A30, H⟩ := H
   replace H : (some (t402, t403)) = some (r1, r2) := H
   simp only [Option.some.injEq, Prod.mk.injEq] at H
   obtain ⟨rfl, rfl⟩ := H
   try go_wp2
   replace BK393 := Aside0.mk (blk_drew BK393.out)
   replace BK394 := Aside0.mk (blk_drew BK394.out)
   replace HB := Aside0.mk (below_drew1 HB.out)
   have p399 : 0 ≤ (t398 : Int) := sqd
   have q399 : t398 < (l0_1.length : Int) := sqd
   obtain ⟨ad399, e399, hx399_0⟩ := Kd.at_int HR0_1.out t398 p399 q399
   have hw399_0 := hx399_0
   cases e399
   replace hx399_0 := sqa HB hx399_0
   replace p399 := eq_true p399
   replace q399 := eq_true q399
   have p401 : 0 ≤ (t400 : Int) := sqd
   have q401 : t400 < (l0_1.length : Int) := sqd
   obtain ⟨ad401, e401, hx401_0⟩ := Kd.at_int HR0_1.out t400 p401 q401
   have hw401_0 := hx401_0
   obtain rfl : ad399 = ad401 := (by injection e401)
   replace hx401_0 := sqa HB hx401_0
   replace p401 := eq_true p401
   replace q401 := eq_true q401
   refine start_ (n := 17) (S := fun w' => w'.cell? ⟨gb393, 0, none⟩ = some (.int .i64 a0_0) ∧ w'.cell? ⟨gb393, 1, none⟩ = some (.slice (some ad399) l0_1.length c0_1) ∧ w'.cell? (ad399.add (t398).toNat) = some (.int .i64 (rd l0_1 t398)) ∧ w'.cell? (ad399.add (t400).toNat) = some (.int .i64 (rd l0_1 t400))) (ds := []) #[false, false, false, false, false, false, false, false, false, false, false, false, false, false, false, false, false] (by kernel_rfl) rfl rfl ⟨(blk_cell BK393.out 0).trans rfl, (blk_cell BK393.out 1).trans rfl, (sqa HB hw399_0 :), (sqa HB hw401_0 :)⟩ (fun hHeld => ?_); refine with_tabW impl_GapsRange.tab3 impl_GapsRange.bits3 (fun HT_ HW_ => ?_)
   generalize wc.drew = w31 at BK393 BK394 HB hx399_0 hx401_0 hHeld ⊢
   refine sqp HT_ 0 19 ?_
   refine sqp HT_ 3 22 ?_
   refine sqp HT_ 8 27 ?_
   refine sqp HT_ 11 30 ?_
   refine sqw HT_ HW_ 1 20 hHeld ?_
   refine sqw HT_ HW_ 2 21 hHeld ?_
   refine sqw HT_ HW_ 9 28 hHeld ?_
   refine sqw HT_ HW_ 10 29 hHeld ?_
   refine sqo HT_ 4 23 (fun K hK => ?_)
   refine sqG Try.func118 #[.agg #[.int .i64 a0_0, .slice (some ad399) l0_1.length c0_1], .int .i64 0, .int .i64 a1] ?_
   with_reducible refine (impl_Gaps_at.calls a0_0 _ _ l0_1 0 a1 t398 _ ?side1 ?side2 A24.out).mono ?_
   (case side1 => exact sqC (Kd.C_below HR0_1.out HB.out))
   (case side2 => exact HC0_1.out)
   rintro e w32 ⟨rfl, hb⟩
   refine ⟨_, rfl, ?_⟩
   refine sqM2 BK393 BK394 hb ?_; clear BK393 BK394; intro BK393 BK394
   replace HB := sqs HB hb
   (try clear hb)
   refine hK.out _ _ ⟨(blk_cell BK393.out 0).trans rfl, (blk_cell BK393.out 1).trans rfl, (sqa HB hw399_0 :), (sqa HB hw401_0 :)⟩ (fun hHeld => ?_)
   clear hK K
   refine sqnm ?_
   refine sqp HT_ 5 24 ?_
   refine sqw HT_ HW_ 6 25 hHeld ?_
   refine sqp HT_ 7 26 ?_
   refine sqo HT_ 12 31 (fun K hK => ?_)
   refine sqG Try.func118 #[.agg #[.int .i64 a0_0, .slice (some ad399) l0_1.length c0_1], .int .i64 a1, .int .i64 0] ?_
   with_reducible refine (impl_Gaps_at.calls a0_0 _ _ l0_1 a1 0 t400 _ ?side1 ?side2 A27.out).mono ?_
   (case side1 => exact sqC (Kd.C_below HR0_1.out HB.out))
   (case side2 => exact HC0_1.out)
   rintro e w33 ⟨rfl, hb⟩
   refine ⟨_, rfl, ?_⟩
   refine sqM2 BK393 BK394 hb ?_; clear BK393 BK394; intro BK393 BK394
   replace HB := sqs HB hb
   (try clear hb)
   refine hK.out _ _ ⟨(blk_cell BK393.out 0).trans rfl, (blk_cell BK393.out 1).trans rfl, (sqa HB hw399_0 :), (sqa HB hw401_0 :)⟩ (fun hHeld => ?_)
   clear hK K
   refine sqnm ?_
   refine sqp HT_ 13 32 ?_
   refine sqw HT_ HW_ 14 33 hHeld ?_
   refine sqo HT_ 15 34 (fun K hK => ?_)
   refine sqG Try.func129 #[.int .i64 (wrap64 (-(rd l0_1 t398))), .int .i64 (rd l0_1 t400)] ?_
   with_reducible refine (impl_rangeFrom.calls (wrap64 (-(rd l0_1 t398))) (rd l0_1 t400) t402 t403 _ A30.out).mono ?_
   rintro e w34 ⟨rfl, hb⟩
   refine ⟨_, rfl, ?_⟩
   refine sqM2 BK393 BK394 hb ?_; clear BK393 BK394; intro BK393 BK394
   replace HB := sqs HB hb
   (try clear hb)
   refine hK.out _ _ ⟨(blk_cell BK393.out 0).trans rfl, (blk_cell BK393.out 1).trans rfl, (sqa HB hw399_0 :), (sqa HB hw401_0 :)⟩ (fun hHeld => ?_)
   clear hK K
   refine sqnm ?_
   refine one_ (i := 16) (N := none) #[true, true, true, true, true, true, true, true, true, true, true, true, true, true, true, true, true] rfl rfl (one_of HT_.out (by kernel_rfl)) (by decide) (fun K hK => ?_)
   have hs35 : w34.cell? ⟨gb394, 0, none⟩ = some (.int .i64 0) := (blk_cell BK394.out 0).trans rfl
   have hfs35 := blk_frozen BK394.out 0
   have hns35_0 := NB393_394.out
   have hms35_0 := NB394_393.out
   have hs36 : w34.cell? ⟨gb394, 1, none⟩ = some (.int .i64 0) := (blk_cell BK394.out 1).trans rfl
   have hfs36 := blk_frozen BK394.out 1
   have hns36_0 := NB393_394.out
   have hms36_0 := NB394_393.out
   refine skip_ (w1 := ?_) (by rfl) rfl ?_ ?_
   rotate_left
   ·go_simp
    rfl
   refine hK.out _ _ ⟨((cell_far (p := ⟨gb394, _, none⟩) NB393_394.out _).trans ((sqfa NB393_394 (hHeld.1)))), ((cell_far (p := ⟨gb394, _, none⟩) NB393_394.out _).trans ((sqfa NB393_394 (hHeld.2.1)))), ((cell_far (p := ⟨gb394, _, none⟩) (by first | exact Nat.ne_of_lt (Nat.lt_of_lt_of_le (by have := World.block_lt_of_cell? _ _ hw399_0; first | rwa [add_block] at this | exact this) GW394.out) | (rw [add_block]; exact Nat.ne_of_lt (Nat.lt_of_lt_of_le (by have := World.block_lt_of_cell? _ _ hw399_0; first | rwa [add_block] at this | exact this) GW394.out)) | (show (Addr.add _ _).block ≠ _; rw [add_block]; exact Nat.ne_of_lt (Nat.lt_of_lt_of_le (by have := World.block_lt_of_cell? _ _ hw399_0; first | rwa [add_block] at this | exact this) GW394.out)) | (dsimp only; exact Nat.ne_of_lt (Nat.lt_of_lt_of_le (by have := World.block_lt_of_cell? _ _ hw399_0; first | rwa [add_block] at this | exact this) GW394.out))) _).trans (((cell_far (p := ⟨gb394, _, none⟩) (by first | exact Nat.ne_of_lt (Nat.lt_of_lt_of_le (by have := World.block_lt_of_cell? _ _ hw399_0; first | rwa [add_block] at this | exact this) GW394.out) | (rw [add_block]; exact Nat.ne_of_lt (Nat.lt_of_lt_of_le (by have := World.block_lt_of_cell? _ _ hw399_0; first | rwa [add_block] at this | exact this) GW394.out)) | (show (Addr.add _ _).block ≠ _; rw [add_block]; exact Nat.ne_of_lt (Nat.lt_of_lt_of_le (by have := World.block_lt_of_cell? _ _ hw399_0; first | rwa [add_block] at this | exact this) GW394.out)) | (dsimp only; exact Nat.ne_of_lt (Nat.lt_of_lt_of_le (by have := World.block_lt_of_cell? _ _ hw399_0; first | rwa [add_block] at this | exact this) GW394.out))) _).trans (hHeld.2.2.1)))), ((cell_far (p := ⟨gb394, _, none⟩) (by first | exact Nat.ne_of_lt (Nat.lt_of_lt_of_le (by have := World.block_lt_of_cell? _ _ hw401_0; first | rwa [add_block] at this | exact this) GW394.out) | (rw [add_block]; exact Nat.ne_of_lt (Nat.lt_of_lt_of_le (by have := World.block_lt_of_cell? _ _ hw401_0; first | rwa [add_block] at this | exact this) GW394.out)) | (show (Addr.add _ _).block ≠ _; rw [add_block]; exact Nat.ne_of_lt (Nat.lt_of_lt_of_le (by have := World.block_lt_of_cell? _ _ hw401_0; first | rwa [add_block] at this | exact this) GW394.out)) | (dsimp only; exact Nat.ne_of_lt (Nat.lt_of_lt_of_le (by have := World.block_lt_of_cell? _ _ hw401_0; first | rwa [add_block] at this | exact this) GW394.out))) _).trans (((cell_far (p := ⟨gb394, _, none⟩) (by first | exact Nat.ne_of_lt (Nat.lt_of_lt_of_le (by have := World.block_lt_of_cell? _ _ hw401_0; first | rwa [add_block] at this | exact this) GW394.out) | (rw [add_block]; exact Nat.ne_of_lt (Nat.lt_of_lt_of_le (by have := World.block_lt_of_cell? _ _ hw401_0; first | rwa [add_block] at this | exact this) GW394.out)) | (show (Addr.add _ _).block ≠ _; rw [add_block]; exact Nat.ne_of_lt (Nat.lt_of_lt_of_le (by have := World.block_lt_of_cell? _ _ hw401_0; first | rwa [add_block] at this | exact this) GW394.out)) | (dsimp only; exact Nat.ne_of_lt (Nat.lt_of_lt_of_le (by have := World.block_lt_of_cell? _ _ hw401_0; first | rwa [add_block] at this | exact this) GW394.out))) _).trans (hHeld.2.2.2))))⟩ (fun hHeld => ?_)
   clear hK K
   refine done_ (done_of HT_.out (by kernel_rfl)) ?_
   try go_wp2
   refine bodyPost_ret (results_cell_row rfl _ _ gb394 24 #[.int .i64 t402, .int .i64 t403] (0, 0) _ rfl (by refine sqt ?_; refine blk_put (cs := #[.int .i64 t402, .int .i64 0]) ?_ 1 _ rfl; refine sqt ?_; refine blk_put (cs := #[.int .i64 0, .int .i64 0]) ?_ 0 _ rfl; refine sqt ?_; exact BK394.out) Try.underlying24 rfl (by kernel_rfl)) rfl ?_
   exact sqe HB

/-! ### laws_wide: function 55 -/
set_option maxHeartbeats 8000000 in
set_option maxRecDepth 100000 in
theorem laws_wide.calls (A0 : Option Addr) (c0 : Nat) (l0 : List Int) (a1 : Int) (r : Int) (w : World) (hr0 : Kd.C (Kd.int .u8) w A0 l0.length l0) (hc0 : l0.length ≤ c0) (h : laws_wide.f l0 a1 = some r) :
  Calls Try.prog 55 #[.slice A0 l0.length c0, .int .i64 a1] w fun e w' => e = .returned (.int .i64 r) ∧ Drawn0 w w' := by
 have HR0 := Aside0.mk hr0
 have HC0 := Aside0.mk hc0
 clear hr0 hc0
 have H : ((laws_at.f l0 a1).bind fun t404 => ((laws_at.f l0 (wrap64 (a1 + 1))).bind fun t405 => ((laws_at.f l0 (wrap64 (a1 + 2))).bind fun t406 => ((laws_at.f l0 (wrap64 (a1 + 3))).bind fun t407 => (some (Go.bits .or .i64 (Go.bits .or .i64 (Go.bits .or .i64 (wrap64 ((wrap64 (t404)) * 16777216)) (wrap64 ((wrap64 (t405)) * 65536))) (wrap64 ((wrap64 (t406)) * 256))) (wrap64 (t407)))))))) = some r := h
 clear h
 replace H := sqbi H
 obtain ⟨t404, A3, H⟩ := H
 replace H : ((laws_at.f l0 (wrap64 (a1 + 1))).bind fun t405 => ((laws_at.f l0 (wrap64 (a1 + 2))).bind fun t406 => ((laws_at.f l0 (wrap64 (a1 + 3))).bind fun t407 => (some (Go.bits .or .i64 (Go.bits .or .i64 (Go.bits .or .i64 (wrap64 ((wrap64 (t404)) * 16777216)) (wrap64 ((wrap64 (t405)) * 65536))) (wrap64 ((wrap64 (t406)) * 256))) (wrap64 (t407))))))) = some r := H
 replace H := sqbi H
 obtain ⟨t405, A4, H⟩ := H
 replace H : ((laws_at.f l0 (wrap64 (a1 + 2))).bind fun t406 => ((laws_at.f l0 (wrap64 (a1 + 3))).bind fun t407 => (some (Go.bits .or .i64 (Go.bits .or .i64 (Go.bits .or .i64 (wrap64 ((wrap64 (t404)) * 16777216)) (wrap64 ((wrap64 (t405)) * 65536))) (wrap64 ((wrap64 (t406)) * 256))) (wrap64 (t407)))))) = some r := H
 replace H := sqbi H
 obtain ⟨t406, A5, H⟩ := H
 replace H : ((laws_at.f l0 (wrap64 (a1 + 3))).bind fun t407 => (some (Go.bits .or .i64 (Go.bits .or .i64 (Go.bits .or .i64 (wrap64 ((wrap64 (t404)) * 16777216)) (wrap64 ((wrap64 (t405)) * 65536))) (wrap64 ((wrap64 (t406)) * 256))) (wrap64 (t407))))) = some r := H
 replace H := sqbi H
 obtain ⟨t407, A6, H⟩ := H
 replace H : (some (Go.bits .or .i64 (Go.bits .or .i64 (Go.bits .or .i64 (wrap64 ((wrap64 (t404)) * 16777216)) (wrap64 ((wrap64 (t405)) * 65536))) (wrap64 ((wrap64 (t406)) * 256))) (wrap64 (t407)))) = some r := H
 obtain rfl := Option.some.inj H
 go_enter Try.func55, Try.ntmps55
 go_wp2_with (first | ((with_reducible refine gate_callee (f := 33) rfl ?_); refine sqL (some 7) Try.func33 #[.slice A0 l0.length c0, .int .i64 a1] ?_; (with_reducible refine (laws_at.calls _ _ l0 a1 t404 _ ?side1 ?side2 A3.out).mono ?_); (case side1 => exact sqC HR0.out); (case side2 => exact HC0.out); rintro e w' ⟨rfl, ⟨nd, rfl⟩⟩; refine ⟨_, rfl, ?_⟩) | ((with_reducible refine gate_callee (f := 33) rfl ?_); refine sqL (some 13) Try.func33 #[.slice A0 l0.length c0, .int .i64 (wrap64 (a1 + 1))] ?_; (with_reducible refine (laws_at.calls _ _ l0 (wrap64 (a1 + 1)) t405 _ ?side1 ?side2 A4.out).mono ?_); (case side1 => exact sqC HR0.out); (case side2 => exact HC0.out); rintro e w' ⟨rfl, ⟨nd, rfl⟩⟩; refine ⟨_, rfl, ?_⟩) | ((with_reducible refine gate_callee (f := 33) rfl ?_); refine sqL (some 20) Try.func33 #[.slice A0 l0.length c0, .int .i64 (wrap64 (a1 + 2))] ?_; (with_reducible refine (laws_at.calls _ _ l0 (wrap64 (a1 + 2)) t406 _ ?side1 ?side2 A5.out).mono ?_); (case side1 => exact sqC HR0.out); (case side2 => exact HC0.out); rintro e w' ⟨rfl, ⟨nd, rfl⟩⟩; refine ⟨_, rfl, ?_⟩) | ((with_reducible refine gate_callee (f := 33) rfl ?_); refine sqL (some 27) Try.func33 #[.slice A0 l0.length c0, .int .i64 (wrap64 (a1 + 3))] ?_; (with_reducible refine (laws_at.calls _ _ l0 (wrap64 (a1 + 3)) t407 _ ?side1 ?side2 A6.out).mono ?_); (case side1 => exact sqC HR0.out); (case side2 => exact HC0.out); rintro e w' ⟨rfl, ⟨nd, rfl⟩⟩; refine ⟨_, rfl, ?_⟩))
 go_ret
 exact ⟨by first | rfl | (simp; done) | (simp [*]; done), by repeat (first | exact Drawn0.refl _ | apply Drawn0.step)⟩

end Go.Proofs.Ytkekcenlleebeaa.PFnGapsDo
