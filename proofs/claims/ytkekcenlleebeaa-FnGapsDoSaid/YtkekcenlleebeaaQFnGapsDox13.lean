/- Functions of the program as plain Lean functions, and that calls of them come to what these tell. Conditions: those in each law. -/
import Derived.Test.YtkekcenlleebeaaSq
import Derived.Test.YtkekcenlleebeaaDFnGapsDo
import Derived.Test.YtkekcenlleebeaaQFnGapsDox0
import Derived.Test.YtkekcenlleebeaaQFnGapsDox3
import Derived.Test.YtkekcenlleebeaaQFnGapsDox8
import Derived.Test.YtkekcenlleebeaaQFnGapsDox12
namespace Go.Proofs.Ytkekcenlleebeaa.PFnGapsDo
open Go.RowKit Go.Proofs.Ytkekcenlleebeaa.Sq Go.Proofs.YtkekcenlleebeaaW.PrintWords Go.Proofs.YtkekcenlleebeaaW.PrintLast Go.Proofs.YtkekcenlleebeaaW.PrintMore
attribute [local go_sem] max2_int min2_int max_two min_two max_three min_three max_four min_four   -- for this text's walks alone
set_option linter.unusedVariables false
set_option linter.unusedSimpArgs false

/-! ### spec_GapsMove: function 35 -/
def spec_GapsMove.T13 : Bool × List (List Nat × List Nat) := (true, [([], []), ([], []), ([], []), ([], []), ([], []), ([], []), ([3, 4, 5], [3, 4, 5]), ([], []), ([6, 7, 6], [6, 7]), ([8, 8], [8]), ([0, 1, 2, 9, 9], [0, 1, 2, 9])])
def spec_GapsMove.B13 : List Nat := [0, 0, 0, 0, 0, 0, 56, 0, 248, 504, 1023]
theorem spec_GapsMove.tab13 : rtab .any (opsOf Try.f35 13) = spec_GapsMove.T13 := by kernel_rfl
theorem spec_GapsMove.bits13 : waitsOk spec_GapsMove.T13.2 spec_GapsMove.B13 = true := by kernel_rfl
def spec_GapsMove.T14 : Bool × List (List Nat × List Nat) := (true, [([], []), ([], []), ([], []), ([], []), ([], []), ([], []), ([3, 4, 5], [3, 4, 5]), ([], []), ([7], [7]), ([6, 8, 6], [6, 8]), ([9, 9], [9]), ([0, 1, 2, 10, 10], [0, 1, 2, 10])])
def spec_GapsMove.B14 : List Nat := [0, 0, 0, 0, 0, 0, 56, 0, 128, 504, 1016, 2047]
theorem spec_GapsMove.tab14 : rtab .any (opsOf Try.f35 14) = spec_GapsMove.T14 := by kernel_rfl
theorem spec_GapsMove.bits14 : waitsOk spec_GapsMove.T14.2 spec_GapsMove.B14 = true := by kernel_rfl
set_option maxHeartbeats 8000000 in
set_option maxRecDepth 100000 in
theorem spec_GapsMove.calls (k : Nat) (a0_0 : Int) (A0_1 : Option Addr) (c0_1 : Nat) (l0_1 : List Int) (a1 : Int) (a2 : Int) (a3 : Int) (r1 : Int) (r2 : List Int) (w : World) (hr0_1 : Kd.C (Kd.int .i64) w A0_1 l0_1.length l0_1) (hc0_1 : l0_1.length ≤ c0_1) (h : spec_GapsMove.f k a0_0 l0_1 a1 a2 a3 = some (r1, r2)) :
  Calls Try.prog 35 #[.agg #[.int .i64 a0_0, .slice A0_1 l0_1.length c0_1], .int .i64 a1, .int .i64 a2, .int .i64 a3] w fun e w' => ∃ v1_ : Value, e = .returned (.agg #[.int .i64 r1, v1_]) ∧ Kd.R (Kd.int .i64) 3 w' w.heap.size (fun _ => True) v1_ r2 ∧ Below w.heap.size w w' := by
 have hu41 := Try.underlying41
 have HR0_1 := Aside0.mk hr0_1
 have HC0_1 := Aside0.mk hc0_1
 clear hr0_1 hc0_1
 have HB := Aside0.mk (Below.refl w.heap.size w)
 have H : ((spec_GapsOk.f k a0_0 l0_1).bind fun t332 => (if t332 = true then ((spec_l1In.f a1 1 a0_0).bind fun t333 => (if t333 = true then ((spec_l1In.f a2 0 a0_0).bind fun t334 => (if t334 = true then ((spec_l11C.f a3).bind fun t335 => (spec_GapsMove.j0 k a1 a2 a3 (!t335) a0_0 l0_1)) else (spec_GapsMove.j0 k a1 a2 a3 true a0_0 l0_1))) else (spec_GapsMove.j0 k a1 a2 a3 true a0_0 l0_1))) else (spec_GapsMove.j0 k a1 a2 a3 true a0_0 l0_1))) = some (r1, r2) := h
 clear h
 have HC5 := Aside0.mk H
 clear H
 go_enter Try.func35, Try.ntmps35
 go_upto_region 1 with (first | ((with_reducible refine gate_dst (N := 4) rfl ?_); refine sqx 4 #[.int .i64 a0_0, .slice A0_1 l0_1.length c0_1] 41 ?_; intro gb330 hg w6 hbox hb; have BK330 := Aside0.mk hbox; have GW330 := sqg HB hg; have GE330 := sqg HB hg; replace HB := sqs HB hb; clear hb hbox hg) | ((with_reducible refine gate_dst (N := 8) rfl ?_); refine sqx 8 #[.int .i64 0, .slice none 0 0] 41 ?_; intro gb331 hg w7 hbox hb; have BK331 := Aside0.mk hbox; have GW331 := sqg HB hg; have GE331 := sqg HB hg; have NB330_331 := sqn BK330 hg; have NB331_330 := sqm BK330 hg; replace BK330 := sqb BK330 hb; replace HB := sqs HB hb; clear hb hbox hg))
 (try simp only [Act.put, List.setIfInBounds_toArray, List.set_cons_zero, List.set_cons_succ])
 go_cut [33] (fun v33 wc => ∃ (kq : Nat) (x33_4 : Bool), v33 = .bool x33_4 ∧ Aside0 (spec_GapsMove.j0 kq a1 a2 a3 x33_4 a0_0 l0_1 = some (r1, r2)) ∧ Aside0 (kq ≤ k) ∧ Aside0 (wc.heap[gb330]? = some (.cells #[.int .i64 a0_0, (.slice A0_1 l0_1.length c0_1)] 41 (0, 0))) ∧ Aside0 (wc.heap[gb331]? = some (.cells #[.int .i64 0, (.slice none 0 0)] 41 (0, 0))) ∧ Aside0 (Below w.heap.size w wc))
 case first =>
  have H := HC5.out
  clear HC5
  replace H := sqbi H
  obtain ⟨t332, A8, H⟩ := H
  replace H : (if t332 = true then ((spec_l1In.f a1 1 a0_0).bind fun t333 => (if t333 = true then ((spec_l1In.f a2 0 a0_0).bind fun t334 => (if t334 = true then ((spec_l11C.f a3).bind fun t335 => (spec_GapsMove.j0 k a1 a2 a3 (!t335) a0_0 l0_1)) else (spec_GapsMove.j0 k a1 a2 a3 true a0_0 l0_1))) else (spec_GapsMove.j0 k a1 a2 a3 true a0_0 l0_1))) else (spec_GapsMove.j0 k a1 a2 a3 true a0_0 l0_1)) = some (r1, r2) := H
  rcases sqI (t332 = true) with c9 | c9
  ·replace c9 := Bool.eq_false_iff.mpr c9
   subst c9
   have H1 : (spec_GapsMove.j0 k a1 a2 a3 true a0_0 l0_1) = some (r1, r2) := by rw [if_neg (show ¬ (false = true) by decide)] at H; exact H
   clear H
   have H := H1
   clear H1
   have H' := Aside0.mk H
   clear H
   have hnb27 := NB330_331.out
   have hnc27 := NB331_330.out
   obtain ⟨hcz28_0, hcz28_1, hfz28_0, hfz28_1⟩ := sqc2 BK330
   go_wp2_with (first | ((with_reducible refine gate_callee (f := 41) rfl ?_); refine sqL (some 13) Try.func41 #[.agg #[.int .i64 a0_0, .slice A0_1 l0_1.length c0_1]] ?_; (with_reducible refine (spec_GapsOk.calls k a0_0 _ _ l0_1 false _ ?side1 ?side2 A8.out).mono ?_); (case side1 => exact sqC (Kd.C_below HR0_1.out HB.out)); (case side2 => exact HC0_1.out); rintro e w29 ⟨rfl, hb⟩; refine ⟨_, rfl, ?_⟩; refine sqM2 BK330 BK331 hb ?_; clear BK330 BK331; intro BK330 BK331; replace HB := sqs HB hb; (try clear hb)))
   go_meet
   case rel => exact ⟨_, (true), (by first | rfl | (simp; done) | (simp [*]; done)), H', ⟨by first | omega | exact Nat.le_refl _⟩, sqk BK330, sqk BK331, sqh HB⟩
  subst c9
  have H1 : ((spec_l1In.f a1 1 a0_0).bind fun t333 => (if t333 = true then ((spec_l1In.f a2 0 a0_0).bind fun t334 => (if t334 = true then ((spec_l11C.f a3).bind fun t335 => (spec_GapsMove.j0 k a1 a2 a3 (!t335) a0_0 l0_1)) else (spec_GapsMove.j0 k a1 a2 a3 true a0_0 l0_1))) else (spec_GapsMove.j0 k a1 a2 a3 true a0_0 l0_1))) = some (r1, r2) := by rw [if_pos rfl] at H; exact H
  clear H
  have H := H1
  clear H1
  replace H := sqbi H
  obtain ⟨t333, A10, H⟩ := H
  replace H : (if t333 = true then ((spec_l1In.f a2 0 a0_0).bind fun t334 => (if t334 = true then ((spec_l11C.f a3).bind fun t335 => (spec_GapsMove.j0 k a1 a2 a3 (!t335) a0_0 l0_1)) else (spec_GapsMove.j0 k a1 a2 a3 true a0_0 l0_1))) else (spec_GapsMove.j0 k a1 a2 a3 true a0_0 l0_1)) = some (r1, r2) := H
  rcases sqI (t333 = true) with c11 | c11
  ·replace c11 := Bool.eq_false_iff.mpr c11
   subst c11
   have H1 : (spec_GapsMove.j0 k a1 a2 a3 true a0_0 l0_1) = some (r1, r2) := by rw [if_neg (show ¬ (false = true) by decide)] at H; exact H
   clear H
   have H := H1
   clear H1
   have H' := Aside0.mk H
   clear H
   have hnb23 := NB330_331.out
   have hnc23 := NB331_330.out
   obtain ⟨hcz24_0, hcz24_1, hfz24_0, hfz24_1⟩ := sqc2 BK330
   go_wp2_with (first | ((with_reducible refine gate_callee (f := 41) rfl ?_); refine sqL (some 13) Try.func41 #[.agg #[.int .i64 a0_0, .slice A0_1 l0_1.length c0_1]] ?_; (with_reducible refine (spec_GapsOk.calls k a0_0 _ _ l0_1 true _ ?side1 ?side2 A8.out).mono ?_); (case side1 => exact sqC (Kd.C_below HR0_1.out HB.out)); (case side2 => exact HC0_1.out); rintro e w25 ⟨rfl, hb⟩; refine ⟨_, rfl, ?_⟩; refine sqM2 BK330 BK331 hb ?_; clear BK330 BK331; intro BK330 BK331; replace HB := sqs HB hb; (try clear hb); obtain ⟨hcz26_0, hcz26_1, hfz26_0, hfz26_1⟩ := sqc2 BK330) | (go_at_call 105; (with_reducible refine (spec_l1In.calls a1 1 a0_0 false _ A10.out).mono ?_); rintro e w' ⟨rfl, ⟨nd, rfl⟩⟩))
   go_meet
   case rel => exact ⟨_, (true), (by first | rfl | (simp; done) | (simp [*]; done)), H', ⟨by first | omega | exact Nat.le_refl _⟩, sqk BK330, sqk BK331, sqh HB⟩
  subst c11
  have H1 : ((spec_l1In.f a2 0 a0_0).bind fun t334 => (if t334 = true then ((spec_l11C.f a3).bind fun t335 => (spec_GapsMove.j0 k a1 a2 a3 (!t335) a0_0 l0_1)) else (spec_GapsMove.j0 k a1 a2 a3 true a0_0 l0_1))) = some (r1, r2) := by rw [if_pos rfl] at H; exact H
  clear H
  have H := H1
  clear H1
  replace H := sqbi H
  obtain ⟨t334, A12, H⟩ := H
  replace H : (if t334 = true then ((spec_l11C.f a3).bind fun t335 => (spec_GapsMove.j0 k a1 a2 a3 (!t335) a0_0 l0_1)) else (spec_GapsMove.j0 k a1 a2 a3 true a0_0 l0_1)) = some (r1, r2) := H
  rcases sqI (t334 = true) with c13 | c13
  ·replace c13 := Bool.eq_false_iff.mpr c13
   subst c13
   have H1 : (spec_GapsMove.j0 k a1 a2 a3 true a0_0 l0_1) = some (r1, r2) := by rw [if_neg (show ¬ (false = true) by decide)] at H; exact H
   clear H
   have H := H1
   clear H1
   have H' := Aside0.mk H
   clear H
   have hnb19 := NB330_331.out
   have hnc19 := NB331_330.out
   obtain ⟨hcz20_0, hcz20_1, hfz20_0, hfz20_1⟩ := sqc2 BK330
   go_wp2_with (first | ((with_reducible refine gate_callee (f := 41) rfl ?_); refine sqL (some 13) Try.func41 #[.agg #[.int .i64 a0_0, .slice A0_1 l0_1.length c0_1]] ?_; (with_reducible refine (spec_GapsOk.calls k a0_0 _ _ l0_1 true _ ?side1 ?side2 A8.out).mono ?_); (case side1 => exact sqC (Kd.C_below HR0_1.out HB.out)); (case side2 => exact HC0_1.out); rintro e w21 ⟨rfl, hb⟩; refine ⟨_, rfl, ?_⟩; refine sqM2 BK330 BK331 hb ?_; clear BK330 BK331; intro BK330 BK331; replace HB := sqs HB hb; (try clear hb); obtain ⟨hcz22_0, hcz22_1, hfz22_0, hfz22_1⟩ := sqc2 BK330) | (go_at_call 105; (with_reducible refine (spec_l1In.calls a1 1 a0_0 true _ A10.out).mono ?_); rintro e w' ⟨rfl, ⟨nd, rfl⟩⟩) | (go_at_call 105; (with_reducible refine (spec_l1In.calls a2 0 a0_0 false _ A12.out).mono ?_); rintro e w' ⟨rfl, ⟨nd, rfl⟩⟩))
   go_meet
   case rel => exact ⟨_, (true), (by first | rfl | (simp; done) | (simp [*]; done)), H', ⟨by first | omega | exact Nat.le_refl _⟩, sqk BK330, sqk BK331, sqh HB⟩
  subst c13
  have H1 : ((spec_l11C.f a3).bind fun t335 => (spec_GapsMove.j0 k a1 a2 a3 (!t335) a0_0 l0_1)) = some (r1, r2) := by rw [if_pos rfl] at H; exact H
  clear H
  have H := H1
  clear H1
  replace H := sqbi H
  obtain ⟨t335, A14, H⟩ := H
  replace H : (spec_GapsMove.j0 k a1 a2 a3 (!t335) a0_0 l0_1) = some (r1, r2) := H
  have H' := Aside0.mk H
  clear H
  have hnb15 := NB330_331.out
  have hnc15 := NB331_330.out
  obtain ⟨hcz16_0, hcz16_1, hfz16_0, hfz16_1⟩ := sqc2 BK330
  go_wp2_with (first | ((with_reducible refine gate_callee (f := 41) rfl ?_); refine sqL (some 13) Try.func41 #[.agg #[.int .i64 a0_0, .slice A0_1 l0_1.length c0_1]] ?_; (with_reducible refine (spec_GapsOk.calls k a0_0 _ _ l0_1 true _ ?side1 ?side2 A8.out).mono ?_); (case side1 => exact sqC (Kd.C_below HR0_1.out HB.out)); (case side2 => exact HC0_1.out); rintro e w17 ⟨rfl, hb⟩; refine ⟨_, rfl, ?_⟩; refine sqM2 BK330 BK331 hb ?_; clear BK330 BK331; intro BK330 BK331; replace HB := sqs HB hb; (try clear hb); obtain ⟨hcz18_0, hcz18_1, hfz18_0, hfz18_1⟩ := sqc2 BK330) | (go_at_call 105; (with_reducible refine (spec_l1In.calls a1 1 a0_0 true _ A10.out).mono ?_); rintro e w' ⟨rfl, ⟨nd, rfl⟩⟩) | (go_at_call 105; (with_reducible refine (spec_l1In.calls a2 0 a0_0 true _ A12.out).mono ?_); rintro e w' ⟨rfl, ⟨nd, rfl⟩⟩) | (go_at_call 121; (with_reducible refine (spec_l11C.calls a3 t335 _ A14.out).mono ?_); rintro e w' ⟨rfl, ⟨nd, rfl⟩⟩))
  go_meet
  case rel => exact ⟨_, (!t335), (by first | rfl | (simp; done) | (simp [*]; done)), H', ⟨by first | omega | exact Nat.le_refl _⟩, sqk BK330, sqk BK331, sqh HB⟩
 case rest =>
  clear HC5
  obtain ⟨kq, x33_4, rfl, HA, HJ4, BK330, BK331, HB⟩ := hcut
  cases kq with
  | zero => exact absurd HA.out (by simp [spec_GapsMove.j0])
  | succ kj4 =>
   have H := HA.out
   clear HA
   simp only [spec_GapsMove.j0] at H
   by_cases c30 : x33_4 = true
   ·subst c30
    have H1 : (some (0, ([] : List Int))) = some (r1, r2) := by rw [if_pos rfl] at H; exact H
    clear H
    have H := H1
    clear H1
    simp only [Option.some.injEq, Prod.mk.injEq] at H
    obtain ⟨rfl, rfl⟩ := H
    have hnb31 := NB331_330.out
    have hnc31 := NB330_331.out
    obtain ⟨hcz32_0, hcz32_1, hfz32_0, hfz32_1⟩ := sqc2 BK331
    go_wp2
    refine bodyPost_ret (results_cell_row rfl _ _ gb331 41 #[.int .i64 0, .slice none 0 0] (0, 0) _ rfl (by refine sqt ?_; refine blk_put (cs := #[.int .i64 0, .slice none 0 0]) ?_ 1 _ rfl; refine sqt ?_; refine blk_put (cs := #[.int .i64 0, .slice none 0 0]) ?_ 0 _ rfl; refine sqt ?_; exact BK331.out) Try.underlying41 rfl (by kernel_rfl)) rfl ?_
    exact ⟨_, by first | rfl | (simp [errW_none, errW_some] <;> rfl) | (simp [*, errW_none, errW_some] <;> rfl), by first | exact Kd.R_nil _ _ _ _ _ | exact Kd.N_nil _ _ _ _ _ | exact Kd.V_nil _ _ _ _ _ | exact Kd.Q_nil _ _ _ _ _ | exact Kd.S_nil _ _ _ _ _, by repeat (first | (with_reducible first | exact HB.out | apply below_alloc | apply pw_below_drewN | apply below_drew1 | refine below_set ?_ GE330.out | refine below_set ?_ GE331.out) | exact HB.out)⟩
   replace c30 := Bool.eq_false_iff.mpr c30
   subst c30
   have H1 : (if a1 = a2 then ((spec_l11Copy.f kj4 a0_0 l0_1).bind fun bt343 => (spec_GapsMove.l0 kj4 a1 a3 0 a0_0 l0_1 bt343.1 bt343.2)) else ((spec_GapsForget.f kj4 a0_0 l0_1 a1).bind fun bt336 => ((spec_l11Put.f bt336.1 bt336.2 a1 a2 a3).bind fun t341 => ((spec_l11Put.f bt336.1 t341 a2 a1 (wrap64 (-a3))).bind fun t342 => (some (bt336.1, t342)))))) = some (r1, r2) := by rw [if_neg (show ¬ (false = true) by decide)] at H; exact H
   clear H
   have H := H1
   clear H1
   replace H := sqi H
   rcases H with ⟨c33, H⟩ | ⟨c33, H⟩
   ·have c33b0 : (a1 == a2) = false := beq_eq_false_iff_ne.mpr c33
    have c33b1 : (a1 != a2) = true := bne_iff_ne.mpr c33
    replace H := sqbi H
    obtain ⟨⟨t336, t337⟩, A73, H⟩ := H
    replace H : ((spec_l11Put.f t336 t337 a1 a2 a3).bind fun t341 => ((spec_l11Put.f t336 t341 a2 a1 (wrap64 (-a3))).bind fun t342 => (some (t336, t342)))) = some (r1, r2) := H
    replace H := sqbi H
    obtain ⟨t341, A74, H⟩ := H
    replace H : ((spec_l11Put.f t336 t341 a2 a1 (wrap64 (-a3))).bind fun t342 => (some (t336, t342))) = some (r1, r2) := H
    replace H := sqbi H
    obtain ⟨t342, A75, H⟩ := H
    replace H : (some (t336, t342)) = some (r1, r2) := H
    simp only [Option.some.injEq, Prod.mk.injEq] at H
    obtain ⟨rfl, rfl⟩ := H
    have hnb76 := NB330_331.out
    have hnc76 := NB331_330.out
    obtain ⟨hcz77_0, hcz77_1, hfz77_0, hfz77_1⟩ := sqc2 BK330
    go_wp2_with (first | ((with_reducible refine gate_callee (f := 51) rfl ?_); refine sqL (some 40) Try.func51 #[.agg #[.int .i64 a0_0, .slice A0_1 l0_1.length c0_1], .int .i64 a1] ?_; (with_reducible refine (spec_GapsForget.calls kj4 a0_0 _ _ l0_1 a1 t336 t337 _ ?side1 ?side2 A73.out).mono ?_); (case side1 => exact sqC (Kd.C_below HR0_1.out HB.out)); (case side2 => exact HC0_1.out); rintro e w78 ⟨v338, rfl, ho0, hb⟩; refine ⟨_, rfl, ?_⟩; have HO339 := Aside0.mk (Kd.R_lower ho0 (below_size (sqB HB))); refine sqM2 BK330 BK331 hb ?_; clear BK330 BK331; intro BK330 BK331; replace HB := sqs HB hb; (try clear hb); (try clear hb2); (try clear hk); (try clear hi); (try clear ho0)) | ((with_reducible refine gate_dst (N := 9) rfl ?_); refine sqx 9 #[.int .i64 0, .slice none 0 0] 41 ?_; intro gb340 hg w79 hbox hb; have n0_ := Aside0.mk (Kd.R_below (sqy HO339.out) hb); have n1_ := sqb BK330 hb; have n2_ := sqb BK331 hb; have n3_ := sqs HB hb; have n4_ := Aside0.mk (hbox); have n5_ := sqg HB hg; have n6_ := sqg HB hg; have n7_ := sqn BK330 hg; have n8_ := sqm BK330 hg; have n9_ := sqn BK331 hg; have n10_ := sqm BK331 hg; clear HO339; clear BK330; clear BK331; clear HB; have HO339 := n0_; have BK330 := n1_; have BK331 := n2_; have HB := n3_; have BK340 := n4_; have GW340 := n5_; have GE340 := n6_; have NB330_340 := n7_; have NB340_330 := n8_; have NB331_340 := n9_; have NB340_331 := n10_; clear n0_ n1_ n2_ n3_ n4_ n5_ n6_ n7_ n8_ n9_ n10_; clear hb hbox hg; have hnb80 := NB340_330.out; have hnc80 := NB330_340.out; have hnb81 := NB340_331.out; have hnc81 := NB331_340.out; obtain ⟨hcz82_0, hcz82_1, hfz82_0, hfz82_1⟩ := sqc2 BK340; obtain ⟨Ao83, co83, eo83⟩ := Kd.R_slice HO339.out; subst eo83) | ((with_reducible refine gate_store (t := 41) (p := 9) rfl ?_); refine store_event (t := 41) (p := 9) (v := ?vo_w84) (w1 := ((w79.setCell ⟨gb340, 0, none⟩ (.int .i64 t336)).setCell ⟨gb340, 1, none⟩ (.slice Ao83 t337.length co83))) ?hg ?ho ?hn ?hr ?_; (case ho => rfl); (case hg => rfl); (case hn => rfl); (case hr => first | (go_simp; done) | (go_simp; rfl)); intro w84 hw; have n0_ : Aside0 (Kd.R (Kd.int .i64) 3 w84 w.heap.size (fun _ => True) (.slice Ao83 t337.length co83) t337) := ⟨(by rw [hw]; exact (by (with_reducible repeat (first | apply Kd.R_alloc | apply Kd.R_drewN | apply Kd.R_drew)); exact Kd.R_mono (Kd.R_far (p := ⟨gb340, 1, none⟩) (Kd.R_far (p := ⟨gb340, 0, none⟩) (Kd.R_types HO339.out BK340.out (by decide)) (fun _ hk => hk.2) (.int .i64 t336)) (fun _ hk => hk.2) (.slice Ao83 t337.length co83)) (fun _ hk => trivial)))⟩; have n1_ : Aside0 (w84.heap[gb330]? = some (.cells #[.int .i64 a0_0, .slice A0_1 l0_1.length c0_1] 41 (0, 0))) := ⟨(by rw [hw]; exact (by refine sqt ?_; refine blk_far ?_ NB330_340.out _; refine sqt ?_; refine blk_far ?_ NB330_340.out _; refine sqt ?_; exact BK330.out))⟩; have n2_ : Aside0 (w84.heap[gb331]? = some (.cells #[.int .i64 0, .slice none 0 0] 41 (0, 0))) := ⟨(by rw [hw]; exact (by refine sqt ?_; refine blk_far ?_ NB331_340.out _; refine sqt ?_; refine blk_far ?_ NB331_340.out _; refine sqt ?_; exact BK331.out))⟩; have n3_ : Aside0 (w84.heap[gb340]? = some (.cells #[.int .i64 t336, .slice Ao83 t337.length co83] 41 (0, 0))) := ⟨(by rw [hw]; exact (by refine sqt ?_; refine blk_put (cs := #[.int .i64 t336, .slice none 0 0]) ?_ 1 _ rfl; refine sqt ?_; refine blk_put (cs := #[.int .i64 0, .slice none 0 0]) ?_ 0 _ rfl; refine sqt ?_; exact BK340.out))⟩; have n4_ : Aside0 (Below w.heap.size w w84) := ⟨(by rw [hw]; exact (sqB HB))⟩; clear hw; clear HO339; clear BK330; clear BK331; clear BK340; clear HB; have HO339 := n0_; have BK330 := n1_; have BK331 := n2_; have BK340 := n3_; have HB := n4_; clear n0_ n1_ n2_ n3_ n4_; obtain ⟨hcz85_0, hcz85_1, hfz85_0, hfz85_1⟩ := sqc2 BK340) | ((with_reducible refine gate_callee (f := 116) rfl ?_); refine sqL (some 45) Try.func116 #[.agg #[.int .i64 t336, .slice Ao83 t337.length co83], .int .i64 a1, .int .i64 a2, .int .i64 a3] ?_; (with_reducible refine (spec_l11Put.calls t336 (fun k_ => some k_ = (.slice Ao83 t337.length co83 : Value).ownBlock) (.slice Ao83 t337.length co83) t337 a1 a2 a3 t341 w _ ?side1 ?side2 A74.out).mono ?_); (case side1 => repeat (first | (with_reducible first | exact HB.out | apply below_alloc | apply pw_below_drewN | apply below_drew1 | refine below_set ?_ GE330.out | refine below_set ?_ GE331.out | refine below_set ?_ GE340.out) | exact HB.out)); (case side2 => exact Kd.R_tight rfl HO339.out); rintro e w86 ⟨rfl, hy0, hb, hkp⟩; refine ⟨_, rfl, ?_⟩; have n0_ := Aside0.mk (blk_kept (sqt BK330.out) hkp (fun hs_ => (fun e_ => (Kd.R_ne HO339.out BK330.out (by decide)) e_) hs_)); have n1_ := Aside0.mk (blk_kept (sqt BK331.out) hkp (fun hs_ => (fun e_ => (Kd.R_ne HO339.out BK331.out (by decide)) e_) hs_)); have n2_ := Aside0.mk (Kd.R_reok rfl hy0 (fun k_ e_ => HO339.out.1 k_ e_)); have n3_ := Aside0.mk (blk_kept (sqt BK340.out) hkp (fun hs_ => (fun e_ => (Kd.R_ne HO339.out BK340.out (by decide)) e_) hs_)); have n4_ := Aside0.mk (hb); clear BK330; clear BK331; clear HO339; clear BK340; clear HB; have BK330 := n0_; have BK331 := n1_; have HO339 := n2_; have BK340 := n3_; have HB := n4_; clear n0_ n1_ n2_ n3_ n4_; (try clear hb); (try clear hkp); (try clear hy0); obtain ⟨hcz87_0, hcz87_1, hfz87_0, hfz87_1⟩ := sqc2 BK340) | ((with_reducible refine gate_callee (f := 116) rfl ?_); refine sqL (some 51) Try.func116 #[.agg #[.int .i64 t336, .slice Ao83 t337.length co83], .int .i64 a2, .int .i64 a1, .int .i64 (wrap64 (-a3))] ?_; (with_reducible refine (spec_l11Put.calls t336 (fun k_ => some k_ = (.slice Ao83 t337.length co83 : Value).ownBlock) (.slice Ao83 t337.length co83) t341 a2 a1 (wrap64 (-a3)) t342 w _ ?side1 ?side2 A75.out).mono ?_); (case side1 => repeat (first | (with_reducible first | exact HB.out | apply below_alloc | apply pw_below_drewN | apply below_drew1 | refine below_set ?_ GE330.out | refine below_set ?_ GE331.out | refine below_set ?_ GE340.out) | exact HB.out)); (case side2 => exact Kd.R_tight rfl HO339.out); rintro e w88 ⟨rfl, hy0, hb, hkp⟩; refine ⟨_, rfl, ?_⟩; have n0_ := Aside0.mk (blk_kept (sqt BK330.out) hkp (fun hs_ => (fun e_ => (Kd.R_ne HO339.out BK330.out (by decide)) e_) hs_)); have n1_ := Aside0.mk (blk_kept (sqt BK331.out) hkp (fun hs_ => (fun e_ => (Kd.R_ne HO339.out BK331.out (by decide)) e_) hs_)); have n2_ := Aside0.mk (Kd.R_reok rfl hy0 (fun k_ e_ => HO339.out.1 k_ e_)); have n3_ := Aside0.mk (blk_kept (sqt BK340.out) hkp (fun hs_ => (fun e_ => (Kd.R_ne HO339.out BK340.out (by decide)) e_) hs_)); have n4_ := Aside0.mk (hb); clear BK330; clear BK331; clear HO339; clear BK340; clear HB; have BK330 := n0_; have BK331 := n1_; have HO339 := n2_; have BK340 := n3_; have HB := n4_; clear n0_ n1_ n2_ n3_ n4_; (try clear hb); (try clear hkp); (try clear hy0); obtain ⟨hcz89_0, hcz89_1, hfz89_0, hfz89_1⟩ := sqc2 BK340; obtain ⟨hcz90_0, hcz90_1, hfz90_0, hfz90_1⟩ := sqc2 BK331))
    refine bodyPost_ret (results_cell_row rfl _ _ gb331 41 #[.int .i64 t336, .slice Ao83 t337.length co83] (0, 0) _ rfl (by refine sqt ?_; refine blk_put (cs := #[.int .i64 t336, .slice none 0 0]) ?_ 1 _ rfl; refine sqt ?_; refine blk_put (cs := #[.int .i64 0, .slice none 0 0]) ?_ 0 _ rfl; refine sqt ?_; exact BK331.out) Try.underlying41 rfl (by kernel_rfl)) rfl ?_
    exact ⟨_, by first | rfl | (simp [errW_none, errW_some] <;> rfl) | (simp [*, errW_none, errW_some] <;> rfl), by (with_reducible repeat (first | apply Kd.R_alloc | apply Kd.R_drewN | apply Kd.R_drew)); exact Kd.R_mono (Kd.R_far (p := ⟨gb331, 1, none⟩) (Kd.R_far (p := ⟨gb331, 0, none⟩) (Kd.R_types HO339.out BK331.out (by decide)) (fun _ hk => hk.2) (.int .i64 t336)) (fun _ hk => hk.2) (.slice Ao83 t337.length co83)) (fun _ hk => trivial), by repeat (first | (with_reducible first | exact HB.out | apply below_alloc | apply pw_below_drewN | apply below_drew1 | refine below_set ?_ GE330.out | refine below_set ?_ GE331.out | refine below_set ?_ GE340.out) | exact HB.out)⟩
   have c33b0 : (a1 == a2) = true := beq_iff_eq.mpr c33
   have c33b1 : (a1 != a2) = false := bne_eq_false_iff_eq.mpr c33
   clear c33
   replace H := sqbi H
   obtain ⟨⟨t343, t344⟩, A34, H⟩ := H
   replace H : (spec_GapsMove.l0 kj4 a1 a3 0 a0_0 l0_1 t343 t344) = some (r1, r2) := H
   have H' := Aside0.mk H
   clear H
   have hnb35 := NB330_331.out
   have hnc35 := NB331_330.out
   obtain ⟨hcz36_0, hcz36_1, hfz36_0, hfz36_1⟩ := sqc2 BK330
   go_wp2_with (first | ((with_reducible refine gate_callee (f := 113) rfl ?_); refine sqL (some 54) Try.func113 #[.agg #[.int .i64 a0_0, .slice A0_1 l0_1.length c0_1]] ?_; (with_reducible refine (spec_l11Copy.calls kj4 a0_0 _ _ l0_1 t343 t344 _ ?side1 ?side2 A34.out).mono ?_); (case side1 => exact sqC (Kd.C_below HR0_1.out HB.out)); (case side2 => exact HC0_1.out); rintro e w37 ⟨v345, rfl, ho0, hb⟩; refine ⟨_, rfl, ?_⟩; have HO346 := Aside0.mk (Kd.R_lower ho0 (below_size (sqB HB))); refine sqM2 BK330 BK331 hb ?_; clear BK330 BK331; intro BK330 BK331; replace HB := sqs HB hb; (try clear hb); (try clear hb2); (try clear hk); (try clear hi); (try clear ho0)) | ((with_reducible refine gate_dst (N := 10) rfl ?_); refine sqx 10 #[.int .i64 0, .slice none 0 0] 41 ?_; intro gb347 hg w38 hbox hb; have n0_ := Aside0.mk (Kd.R_below (sqy HO346.out) hb); have n1_ := sqb BK330 hb; have n2_ := sqb BK331 hb; have n3_ := sqs HB hb; have n4_ := Aside0.mk (hbox); have n5_ := sqg HB hg; have n6_ := sqg HB hg; have n7_ := sqn BK330 hg; have n8_ := sqm BK330 hg; have n9_ := sqn BK331 hg; have n10_ := sqm BK331 hg; clear HO346; clear BK330; clear BK331; clear HB; have HO346 := n0_; have BK330 := n1_; have BK331 := n2_; have HB := n3_; have BK347 := n4_; have GW347 := n5_; have GE347 := n6_; have NB330_347 := n7_; have NB347_330 := n8_; have NB331_347 := n9_; have NB347_331 := n10_; clear n0_ n1_ n2_ n3_ n4_ n5_ n6_ n7_ n8_ n9_ n10_; clear hb hbox hg; have hnb39 := NB347_330.out; have hnc39 := NB330_347.out; have hnb40 := NB347_331.out; have hnc40 := NB331_347.out; obtain ⟨hcz41_0, hcz41_1, hfz41_0, hfz41_1⟩ := sqc2 BK347; obtain ⟨Ao42, co42, eo42⟩ := Kd.R_slice HO346.out; subst eo42))
   go_loopg [11] kj4 (fun kq v11 w' => ∃ (x11_2 : Int) (x348001_2 : List Int) (u348001 : Value), v11 = .int .i64 x11_2 ∧ Aside0 (spec_GapsMove.l0 kq a1 a3 x11_2 a0_0 l0_1 t343 x348001_2 = some (r1, r2)) ∧ Aside0 (kq ≤ kj4) ∧ Aside0 (Kd.R (Kd.int .i64) 3 w' w.heap.size (fun _ => True) u348001 x348001_2) ∧ Aside0 (w'.heap[gb330]? = some (.cells #[.int .i64 a0_0, (.slice A0_1 l0_1.length c0_1)] 41 (0, 0))) ∧ Aside0 (w'.heap[gb331]? = some (.cells #[.int .i64 0, (.slice none 0 0)] 41 (0, 0))) ∧ Aside0 (w'.heap[gb347]? = some (.cells #[.int .i64 t343, u348001] 41 (0, 0))) ∧ Aside0 (Below w.heap.size w w'))
   case atStart => exact ⟨(0), (t344), (.slice Ao42 t344.length co42), (by first | rfl | (simp; done) | (simp [*]; done)), H', ⟨Nat.le_refl _⟩, ⟨by (with_reducible repeat (first | apply Kd.R_alloc | apply Kd.R_drewN | apply Kd.R_drew)); exact Kd.R_mono (Kd.R_far (p := ⟨gb347, 1, none⟩) (Kd.R_far (p := ⟨gb347, 0, none⟩) (Kd.R_types HO346.out BK347.out (by decide)) (fun _ hk => hk.2) (.int .i64 t343)) (fun _ hk => hk.2) (.slice Ao42 t344.length co42)) (fun _ hk => trivial)⟩, ⟨by refine sqt ?_; refine blk_far ?_ NB330_347.out _; refine sqt ?_; refine blk_far ?_ NB330_347.out _; refine sqt ?_; exact BK330.out⟩, ⟨by refine sqt ?_; refine blk_far ?_ NB331_347.out _; refine sqt ?_; refine blk_far ?_ NB331_347.out _; refine sqt ?_; exact BK331.out⟩, ⟨by refine sqt ?_; refine blk_put (cs := #[.int .i64 t343, .slice none 0 0]) ?_ 1 _ rfl; refine sqt ?_; refine blk_put (cs := #[.int .i64 0, .slice none 0 0]) ?_ 0 _ rfl; refine sqt ?_; exact BK347.out⟩, sqh HB⟩
   case round =>
    clear H'
    obtain ⟨x11_2, x348001_2, u348001, rfl, HA, HK2, HO_348001, BK330, BK331, BK347, HB⟩ := hrel
    cases gk with
    | zero => exact absurd HA.out (by simp [spec_GapsMove.l0])
    | succ k2 =>
     have H := HA.out
     clear HA
     simp only [spec_GapsMove.l0] at H
     replace H := sqi H
     rcases H with ⟨c43, H⟩ | ⟨c43, H⟩
     ·have c43b0 := decide_eq_false c43
      clear c43
      simp only [Option.some.injEq, Prod.mk.injEq] at H
      obtain ⟨rfl, rfl⟩ := H
      have hnb66 := NB330_331.out
      have hnc66 := NB331_330.out
      have hnb67 := NB330_347.out
      have hnc67 := NB347_330.out
      obtain ⟨hcz68_0, hcz68_1, hfz68_0, hfz68_1⟩ := sqc2 BK330
      have hnb69 := NB347_331.out
      have hnc69 := NB331_347.out
      obtain ⟨hcz70_0, hcz70_1, hfz70_0, hfz70_1⟩ := sqc2 BK347
      obtain ⟨hcz71_0, hcz71_1, hfz71_0, hfz71_1⟩ := sqc2 BK331
      obtain ⟨Ao72, co72, eo72⟩ := Kd.R_slice HO_348001.out
      subst eo72
      go_wp2
      refine bodyPost_ret (results_cell_row rfl _ _ gb331 41 #[.int .i64 t343, .slice Ao72 x348001_2.length co72] (0, 0) _ rfl (by refine sqt ?_; refine blk_put (cs := #[.int .i64 t343, .slice none 0 0]) ?_ 1 _ rfl; refine sqt ?_; refine blk_put (cs := #[.int .i64 0, .slice none 0 0]) ?_ 0 _ rfl; refine sqt ?_; exact BK331.out) Try.underlying41 rfl (by kernel_rfl)) rfl ?_
      exact ⟨_, by first | rfl | (simp [errW_none, errW_some] <;> rfl) | (simp [*, errW_none, errW_some] <;> rfl), by (with_reducible repeat (first | apply Kd.R_alloc | apply Kd.R_drewN | apply Kd.R_drew)); exact Kd.R_mono (Kd.R_far (p := ⟨gb331, 1, none⟩) (Kd.R_far (p := ⟨gb331, 0, none⟩) (Kd.R_types HO_348001.out BK331.out (by decide)) (fun _ hk => hk.2) (.int .i64 t343)) (fun _ hk => hk.2) (.slice Ao72 x348001_2.length co72)) (fun _ hk => trivial), by repeat (first | (with_reducible first | exact HB.out | apply below_alloc | apply pw_below_drewN | apply below_drew1 | refine below_set ?_ GE330.out | refine below_set ?_ GE331.out | refine below_set ?_ GE347.out) | exact HB.out)⟩
     have c43b0 := decide_eq_true c43
     clear c43
     replace H := sqj H
     rcases H with ⟨c44, H⟩ | ⟨c44, H⟩
     ·have c44b0 : (x11_2 == a1) = true := beq_iff_eq.mpr c44
      have c44b1 : (x11_2 != a1) = false := bne_eq_false_iff_eq.mpr c44
      clear c44
      have H' := Aside0.mk H
      clear H
      have hnb45 := NB330_331.out
      have hnc45 := NB331_330.out
      have hnb46 := NB330_347.out
      have hnc46 := NB347_330.out
      obtain ⟨hcz47_0, hcz47_1, hfz47_0, hfz47_1⟩ := sqc2 BK330
      go_wp2
      go_roundg k2
      case measure => have := HJ4.out; have := HK2.out; omega
      case rel => exact ⟨(wrap64 (x11_2 + 1)), (x348001_2), (u348001), (by first | rfl | (simp; done) | (simp [*]; done)), H', ⟨by have := HJ4.out; have := HK2.out; omega⟩, ⟨sqy HO_348001.out⟩, sqk BK330, sqk BK331, sqk BK347, sqh HB⟩
     have c44b0 : (x11_2 == a1) = false := beq_eq_false_iff_ne.mpr c44
     have c44b1 : (x11_2 != a1) = true := bne_iff_ne.mpr c44
     replace H := sqbi H
     obtain ⟨t348, A48, H⟩ := H
     replace H : ((spec_l11Add.f t348 a3).bind fun t349 => ((spec_l8Max.f (-1099511627776) t349).bind fun t350 => ((spec_l11Put.f t343 x348001_2 a1 x11_2 t350).bind fun t351 => ((spec_l11At.f a0_0 l0_1 x11_2 a1).bind fun t352 => ((spec_l11Add.f t352 (wrap64 (-a3))).bind fun t353 => ((spec_l8Max.f (-1099511627776) t353).bind fun t354 => ((spec_l11Put.f t343 t351 x11_2 a1 t354).bind fun t355 => (spec_GapsMove.l0 k2 a1 a3 (wrap64 (x11_2 + 1)) a0_0 l0_1 t343 t355)))))))) = some (r1, r2) := H
     replace H := sqbi H
     obtain ⟨t349, A49, H⟩ := H
     replace H : ((spec_l8Max.f (-1099511627776) t349).bind fun t350 => ((spec_l11Put.f t343 x348001_2 a1 x11_2 t350).bind fun t351 => ((spec_l11At.f a0_0 l0_1 x11_2 a1).bind fun t352 => ((spec_l11Add.f t352 (wrap64 (-a3))).bind fun t353 => ((spec_l8Max.f (-1099511627776) t353).bind fun t354 => ((spec_l11Put.f t343 t351 x11_2 a1 t354).bind fun t355 => (spec_GapsMove.l0 k2 a1 a3 (wrap64 (x11_2 + 1)) a0_0 l0_1 t343 t355))))))) = some (r1, r2) := H
     replace H := sqbi H
     obtain ⟨t350, A50, H⟩ := H
     replace H : ((spec_l11Put.f t343 x348001_2 a1 x11_2 t350).bind fun t351 => ((spec_l11At.f a0_0 l0_1 x11_2 a1).bind fun t352 => ((spec_l11Add.f t352 (wrap64 (-a3))).bind fun t353 => ((spec_l8Max.f (-1099511627776) t353).bind fun t354 => ((spec_l11Put.f t343 t351 x11_2 a1 t354).bind fun t355 => (spec_GapsMove.l0 k2 a1 a3 (wrap64 (x11_2 + 1)) a0_0 l0_1 t343 t355)))))) = some (r1, r2) := H
     replace H := sqbi H
     obtain ⟨t351, A51, H⟩ := H
     replace H : ((spec_l11At.f a0_0 l0_1 x11_2 a1).bind fun t352 => ((spec_l11Add.f t352 (wrap64 (-a3))).bind fun t353 => ((spec_l8Max.f (-1099511627776) t353).bind fun t354 => ((spec_l11Put.f t343 t351 x11_2 a1 t354).bind fun t355 => (spec_GapsMove.l0 k2 a1 a3 (wrap64 (x11_2 + 1)) a0_0 l0_1 t343 t355))))) = some (r1, r2) := H
     replace H := sqbi H
     obtain ⟨t352, A52, H⟩ := H
     replace H : ((spec_l11Add.f t352 (wrap64 (-a3))).bind fun t353 => ((spec_l8Max.f (-1099511627776) t353).bind fun t354 => ((spec_l11Put.f t343 t351 x11_2 a1 t354).bind fun t355 => (spec_GapsMove.l0 k2 a1 a3 (wrap64 (x11_2 + 1)) a0_0 l0_1 t343 t355)))) = some (r1, r2) := H
     replace H := sqbi H
     obtain ⟨t353, A53, H⟩ := H
     replace H : ((spec_l8Max.f (-1099511627776) t353).bind fun t354 => ((spec_l11Put.f t343 t351 x11_2 a1 t354).bind fun t355 => (spec_GapsMove.l0 k2 a1 a3 (wrap64 (x11_2 + 1)) a0_0 l0_1 t343 t355))) = some (r1, r2) := H
     replace H := sqbi H
     obtain ⟨t354, A54, H⟩ := H
     replace H : ((spec_l11Put.f t343 t351 x11_2 a1 t354).bind fun t355 => (spec_GapsMove.l0 k2 a1 a3 (wrap64 (x11_2 + 1)) a0_0 l0_1 t343 t355)) = some (r1, r2) := H
     replace H := sqbi H
     obtain ⟨t355, A55, H⟩ := H
     replace H : (spec_GapsMove.l0 k2 a1 a3 (wrap64 (x11_2 + 1)) a0_0 l0_1 t343 t355) = some (r1, r2) := H
     have H' := Aside0.mk H
     clear H
     have hnb56 := NB330_331.out
     have hnc56 := NB331_330.out
     have hnb57 := NB330_347.out
     have hnc57 := NB347_330.out
     obtain ⟨hcz58_0, hcz58_1, hfz58_0, hfz58_1⟩ := sqc2 BK330
     try go_wp2
     replace HO_348001 := Aside0.mk (Kd.R_drew HO_348001.out)
     replace BK330 := Aside0.mk (blk_drew BK330.out)
     replace BK331 := Aside0.mk (blk_drew BK331.out)
     replace BK347 := Aside0.mk (blk_drew BK347.out)
     replace HB := Aside0.mk (below_drew1 HB.out)
     refine start_ (n := 11) (S := fun w' => w'.cell? ⟨gb347, 0, none⟩ = some (.int .i64 t343) ∧ w'.cell? ⟨gb347, 1, none⟩ = some (u348001) ∧ w'.cell? ⟨gb330, 0, none⟩ = some (.int .i64 a0_0) ∧ w'.cell? ⟨gb330, 1, none⟩ = some (.slice A0_1 l0_1.length c0_1)) (ds := []) #[false, false, false, false, false, false, false, false, false, false, false] (by kernel_rfl) rfl rfl sqz (fun hHeld => ?_); refine with_tabW spec_GapsMove.tab13 spec_GapsMove.bits13 (fun HT_ HW_ => ?_)
     generalize wr.drew = w59 at HO_348001 BK330 BK331 BK347 HB hHeld ⊢
     refine sqp HT_ 1 65 ?_
     refine sqp HT_ 2 66 ?_
     refine sqp HT_ 4 68 ?_
     refine sqp HT_ 5 69 ?_
     refine sqp HT_ 7 71 ?_
     refine sqw HT_ HW_ 0 64 hHeld ?_
     refine sqw HT_ HW_ 3 67 hHeld ?_
     refine sqo HT_ 6 70 (fun K hK => ?_)
     refine sqG Try.func115 #[.agg #[.int .i64 a0_0, .slice A0_1 l0_1.length c0_1], .int .i64 a1, .int .i64 x11_2] ?_
     with_reducible refine (spec_l11At.calls a0_0 _ _ l0_1 a1 x11_2 t348 _ ?side1 ?side2 A48.out).mono ?_
     (case side1 => exact sqC (Kd.C_below HR0_1.out HB.out))
     (case side2 => exact HC0_1.out)
     rintro e w60 ⟨rfl, hb⟩
     refine ⟨_, rfl, ?_⟩
     have n0_ := Aside0.mk (Kd.R_below (sqy HO_348001.out) hb)
     have n1_ := sqb BK330 hb
     have n2_ := sqb BK331 hb
     have n3_ := sqb BK347 hb
     have n4_ := sqs HB hb
     clear HO_348001
     clear BK330
     clear BK331
     clear BK347
     clear HB
     have HO_348001 := n0_
     have BK330 := n1_
     have BK331 := n2_
     have BK347 := n3_
     have HB := n4_
     clear n0_ n1_ n2_ n3_ n4_
     (try clear hb)
     refine hK.out _ _ sqz (fun hHeld => ?_)
     clear hK K
     refine sqnm ?_
     refine sqo HT_ 8 72 (fun K hK => ?_)
     refine sqG Try.func114 #[.int .i64 t348, .int .i64 a3] ?_
     with_reducible refine (spec_l11Add.calls t348 a3 t349 _ A49.out).mono ?_
     rintro e w' ⟨rfl, ⟨nd, rfl⟩⟩
     refine ⟨_, rfl, ?_⟩
     refine hK.out _ _ sqz (fun hHeld => ?_)
     clear hK K
     refine sqnm ?_
     refine sqo HT_ 9 73 (fun K hK => ?_)
     refine sqG Try.func122 #[.int .i64 (-1099511627776), .int .i64 t349] ?_
     with_reducible refine (spec_l8Max.calls (-1099511627776) t349 t350 _ A50.out).mono ?_
     rintro e w' ⟨rfl, ⟨nd, rfl⟩⟩
     refine ⟨_, rfl, ?_⟩
     obtain ⟨Ao61, co61, eo61⟩ := Kd.R_slice HO_348001.out
     (first | subst eo61 | (injection eo61 with f1_ f2_ f3_; have f4_ := f1_.symm; have f5_ := f3_.symm; clear f1_ f2_ f3_; subst f4_; subst f5_))
     refine hK.out _ _ sqz (fun hHeld => ?_)
     clear hK K
     refine sqnm ?_
     refine sqo HT_ 10 74 (fun K hK => ?_)
     refine sqG Try.func116 #[.agg #[.int .i64 t343, .slice Ao61 x348001_2.length co61], .int .i64 a1, .int .i64 x11_2, .int .i64 t350] ?_
     with_reducible refine (spec_l11Put.calls t343 (fun k_ => some k_ = (.slice Ao61 x348001_2.length co61 : Value).ownBlock) (.slice Ao61 x348001_2.length co61) x348001_2 a1 x11_2 t350 t351 w _ ?side1 ?side2 A51.out).mono ?_
     (case side1 => repeat (first | (with_reducible first | exact HB.out | apply below_alloc | apply pw_below_drewN | apply below_drew1 | refine below_set ?_ GE330.out | refine below_set ?_ GE331.out | refine below_set ?_ GE347.out) | exact HB.out))
     (case side2 => exact Kd.R_tight rfl HO_348001.out)
     rintro e w62 ⟨rfl, hy0, hb, hkp⟩
     refine ⟨_, rfl, ?_⟩
     have n0_ := Aside0.mk (Kd.R_reok rfl hy0 (fun k_ e_ => HO_348001.out.1 k_ e_))
     have n1_ := Aside0.mk (blk_kept (sqt BK330.out) hkp (fun hs_ => (fun e_ => (Kd.R_ne HO_348001.out BK330.out (by decide)) e_) hs_))
     have n2_ := Aside0.mk (blk_kept (sqt BK331.out) hkp (fun hs_ => (fun e_ => (Kd.R_ne HO_348001.out BK331.out (by decide)) e_) hs_))
     have n3_ := Aside0.mk (blk_kept (sqt BK347.out) hkp (fun hs_ => (fun e_ => (Kd.R_ne HO_348001.out BK347.out (by decide)) e_) hs_))
     have n4_ := Aside0.mk (hb)
     clear HO_348001
     clear BK330
     clear BK331
     clear BK347
     clear HB
     have HO_348001 := n0_
     have BK330 := n1_
     have BK331 := n2_
     have BK347 := n3_
     have HB := n4_
     clear n0_ n1_ n2_ n3_ n4_
     (try clear hb)
     (try clear hkp)
     (try clear hy0)
     refine hK.out _ _ sqz (fun hHeld => ?_)
     clear hK K
     refine sqnm ?_
     refine done_ (done_of HT_.out (by kernel_rfl)) ?_
     try go_wp2
     replace HO_348001 := Aside0.mk (Kd.R_drew HO_348001.out)
     replace BK330 := Aside0.mk (blk_drew BK330.out)
     replace BK331 := Aside0.mk (blk_drew BK331.out)
     replace BK347 := Aside0.mk (blk_drew BK347.out)
     replace HB := Aside0.mk (below_drew1 HB.out)
     refine start_ (n := 12) (S := fun w' => w'.cell? ⟨gb347, 0, none⟩ = some (.int .i64 t343) ∧ w'.cell? ⟨gb347, 1, none⟩ = some (.slice Ao61 x348001_2.length co61) ∧ w'.cell? ⟨gb330, 0, none⟩ = some (.int .i64 a0_0) ∧ w'.cell? ⟨gb330, 1, none⟩ = some (.slice A0_1 l0_1.length c0_1)) (ds := []) #[false, false, false, false, false, false, false, false, false, false, false, false] (by kernel_rfl) rfl rfl sqz (fun hHeld => ?_); refine with_tabW spec_GapsMove.tab14 spec_GapsMove.bits14 (fun HT_ HW_ => ?_)
     generalize w62.drew = w63 at HO_348001 BK330 BK331 BK347 HB hHeld ⊢
     refine sqp HT_ 1 76 ?_
     refine sqp HT_ 2 77 ?_
     refine sqp HT_ 4 79 ?_
     refine sqp HT_ 5 80 ?_
     refine sqp HT_ 7 82 ?_
     refine sqp HT_ 8 83 ?_
     refine sqw HT_ HW_ 0 75 hHeld ?_
     refine sqw HT_ HW_ 3 78 hHeld ?_
     refine sqo HT_ 6 81 (fun K hK => ?_)
     refine sqG Try.func115 #[.agg #[.int .i64 a0_0, .slice A0_1 l0_1.length c0_1], .int .i64 x11_2, .int .i64 a1] ?_
     with_reducible refine (spec_l11At.calls a0_0 _ _ l0_1 x11_2 a1 t352 _ ?side1 ?side2 A52.out).mono ?_
     (case side1 => exact sqC (Kd.C_below HR0_1.out HB.out))
     (case side2 => exact HC0_1.out)
     rintro e w64 ⟨rfl, hb⟩
     refine ⟨_, rfl, ?_⟩
     have n0_ := Aside0.mk (Kd.R_below (sqy HO_348001.out) hb)
     have n1_ := sqb BK330 hb
     have n2_ := sqb BK331 hb
     have n3_ := sqb BK347 hb
     have n4_ := sqs HB hb
     clear HO_348001
     clear BK330
     clear BK331
     clear BK347
     clear HB
     have HO_348001 := n0_
     have BK330 := n1_
     have BK331 := n2_
     have BK347 := n3_
     have HB := n4_
     clear n0_ n1_ n2_ n3_ n4_
     (try clear hb)
     refine hK.out _ _ sqz (fun hHeld => ?_)
     clear hK K
     refine sqnm ?_
     refine sqo HT_ 9 84 (fun K hK => ?_)
     refine sqG Try.func114 #[.int .i64 t352, .int .i64 (wrap64 (-a3))] ?_
     with_reducible refine (spec_l11Add.calls t352 (wrap64 (-a3)) t353 _ A53.out).mono ?_
     rintro e w' ⟨rfl, ⟨nd, rfl⟩⟩
     refine ⟨_, rfl, ?_⟩
     refine hK.out _ _ sqz (fun hHeld => ?_)
     clear hK K
     refine sqnm ?_
     refine sqo HT_ 10 85 (fun K hK => ?_)
     refine sqG Try.func122 #[.int .i64 (-1099511627776), .int .i64 t353] ?_
     with_reducible refine (spec_l8Max.calls (-1099511627776) t353 t354 _ A54.out).mono ?_
     rintro e w' ⟨rfl, ⟨nd, rfl⟩⟩
     refine ⟨_, rfl, ?_⟩
     refine hK.out _ _ sqz (fun hHeld => ?_)
     clear hK K
     refine sqnm ?_
     refine sqo HT_ 11 86 (fun K hK => ?_)
     refine sqG Try.func116 #[.agg #[.int .i64 t343, .slice Ao61 x348001_2.length co61], .int .i64 x11_2, .int .i64 a1, .int .i64 t354] ?_
     with_reducible refine (spec_l11Put.calls t343 (fun k_ => some k_ = (.slice Ao61 x348001_2.length co61 : Value).ownBlock) (.slice Ao61 x348001_2.length co61) t351 x11_2 a1 t354 t355 w _ ?side1 ?side2 A55.out).mono ?_
     (case side1 => repeat (first | (with_reducible first | exact HB.out | apply below_alloc | apply pw_below_drewN | apply below_drew1 | refine below_set ?_ GE330.out | refine below_set ?_ GE331.out | refine below_set ?_ GE347.out) | exact HB.out))
     (case side2 => exact Kd.R_tight rfl HO_348001.out)
     rintro e w65 ⟨rfl, hy0, hb, hkp⟩
     refine ⟨_, rfl, ?_⟩
     have n0_ := Aside0.mk (Kd.R_reok rfl hy0 (fun k_ e_ => HO_348001.out.1 k_ e_))
     have n1_ := Aside0.mk (blk_kept (sqt BK330.out) hkp (fun hs_ => (fun e_ => (Kd.R_ne HO_348001.out BK330.out (by decide)) e_) hs_))
     have n2_ := Aside0.mk (blk_kept (sqt BK331.out) hkp (fun hs_ => (fun e_ => (Kd.R_ne HO_348001.out BK331.out (by decide)) e_) hs_))
     have n3_ := Aside0.mk (blk_kept (sqt BK347.out) hkp (fun hs_ => (fun e_ => (Kd.R_ne HO_348001.out BK347.out (by decide)) e_) hs_))
     have n4_ := Aside0.mk (hb)
     clear HO_348001
     clear BK330
     clear BK331
     clear BK347
     clear HB
     have HO_348001 := n0_
     have BK330 := n1_
     have BK331 := n2_
     have BK347 := n3_
     have HB := n4_
     clear n0_ n1_ n2_ n3_ n4_
     (try clear hb)
     (try clear hkp)
     (try clear hy0)
     refine hK.out _ _ sqz (fun hHeld => ?_)
     clear hK K
     refine sqnm ?_
     refine done_ (done_of HT_.out (by kernel_rfl)) ?_
     try go_wp2
     go_roundg k2
     case measure => have := HJ4.out; have := HK2.out; omega
     case rel => exact ⟨(wrap64 (x11_2 + 1)), (t355), (.slice Ao61 x348001_2.length co61), (by first | rfl | (simp; done) | (simp [*]; done)), H', ⟨by have := HJ4.out; have := HK2.out; omega⟩, ⟨sqy HO_348001.out⟩, sqk BK330, sqk BK331, sqk BK347, sqh HB⟩

/-! ### impl_rangeNone: function 126 -/
set_option maxHeartbeats 8000000 in
set_option maxRecDepth 100000 in
theorem impl_rangeNone.calls  (r1 : Int) (r2 : Int) (w : World) (h : impl_rangeNone.f  = some (r1, r2)) :
  Calls Try.prog 126 #[] w fun e w' => e = .returned (.agg #[.int .i64 r1, .int .i64 r2]) ∧ Below w.heap.size w w' := by
 have hu24 := Try.underlying24
 have HB := Aside0.mk (Below.refl w.heap.size w)
 have H : (some (1, 0)) = some (r1, r2) := h
 clear h
 simp only [Option.some.injEq, Prod.mk.injEq] at H
 obtain ⟨rfl, rfl⟩ := H
 go_enter Try.func126, Try.ntmps126
 go_wp2_with (first | ((with_reducible refine gate_dst (N := 0) rfl ?_); refine sqx 0 #[.int .i64 0, .int .i64 0] 24 ?_; intro gb356 hg w1 hbox hb; have BK356 := Aside0.mk hbox; have GW356 := sqg HB hg; have GE356 := sqg HB hg; replace HB := sqs HB hb; clear hb hbox hg; obtain ⟨hcz2_0, hcz2_1, hfz2_0, hfz2_1⟩ := sqc2 BK356))
 refine bodyPost_ret (results_cell_row rfl _ _ gb356 24 #[.int .i64 1, .int .i64 0] (0, 0) _ rfl (by refine sqt ?_; refine blk_put (cs := #[.int .i64 1, .int .i64 0]) ?_ 1 _ rfl; refine sqt ?_; refine blk_put (cs := #[.int .i64 0, .int .i64 0]) ?_ 0 _ rfl; refine sqt ?_; exact BK356.out) Try.underlying24 rfl (by kernel_rfl)) rfl ?_
 exact sqe HB

end Go.Proofs.Ytkekcenlleebeaa.PFnGapsDo
