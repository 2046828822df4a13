/- Functions of the program as plain Lean functions, and that calls of them come to what these tell. Conditions: those in each law. -/
import Derived.Test.YtkekcenlleebeaaSq
import Derived.Test.YtkekcenlleebeaaDFnExactAbsOk
import Derived.Test.YtkekcenlleebeaaQFnExactAbsOkx0
import Derived.Test.YtkekcenlleebeaaQFnExactAbsOkx2
import Derived.Test.YtkekcenlleebeaaQFnExactAbsOkx12
namespace Go.Proofs.Ytkekcenlleebeaa.PFnExactAbsOk
open Go.RowKit Go.Proofs.Ytkekcenlleebeaa.Sq Go.Proofs.YtkekcenlleebeaaW.PrintWords Go.Proofs.YtkekcenlleebeaaW.PrintLast Go.Proofs.YtkekcenlleebeaaW.PrintMore
attribute [local go_sem] max2_int min2_int max_two min_two max_three min_three max_four min_four   -- for this text's walks alone
set_option linter.unusedVariables false
set_option linter.unusedSimpArgs false

attribute [local go_sem high] eqA30
/-! ### impl_RangeHas: function 48 -/
set_option maxHeartbeats 8000000 in
set_option maxRecDepth 100000 in
theorem impl_RangeHas.calls (a0_0 : Int) (a0_1 : Int) (a1 : Int) (r : Bool) (w : World) (h : impl_RangeHas.f a0_0 a0_1 a1 = some r) :
  Calls Try.prog 48 #[.agg #[.int .i64 a0_0, .int .i64 a0_1], .int .i64 a1] w fun e w' => e = .returned (.bool r) ∧ Below w.heap.size w w' := by
 have hu24 := Try.underlying24
 have HB := Aside0.mk (Below.refl w.heap.size w)
 have H : ((impl_RangeOk.f a0_0 a0_1).bind fun t278 => (if t278 = true then (if a0_0 ≤ a1 then (some (decide (a1 ≤ a0_1))) else (some false)) else (some false))) = some r := h
 clear h
 replace H := Option.bind_eq_some_iff.mp H
 obtain ⟨t278, A30, H⟩ := H
 replace H : (if t278 = true then (if a0_0 ≤ a1 then (some (decide (a1 ≤ a0_1))) else (some false)) else (some false)) = some r := H
 have A3 := Aside0.mk A30
 clear A30
 by_cases c4 : t278 = true
 ·subst c4
  have H1 : (if a0_0 ≤ a1 then (some (decide (a1 ≤ a0_1))) else (some false)) = some r := by rw [if_pos rfl] at H; exact H
  clear H
  have H := H1
  clear H1
  by_cases c5 : a0_0 ≤ a1
  ·rw [if_pos c5] at H
   have c5b0 : decide (a0_0 ≤ a1) = true := decide_eq_true c5
   clear c5
   obtain rfl := Option.some.inj H
   go_enter Try.func48, Try.ntmps48
   go_wp2_with (first | ((with_reducible refine gate_dst (N := 2) rfl ?_); refine sqx 2 #[.int .i64 a0_0, .int .i64 a0_1] 24 ?_; intro gb277 hg w6 hbox hb; have BK277 := Aside0.mk (hbox); have GW277 := sqg HB hg; have GE277 := sqg HB hg; replace HB := sqs HB hb; clear hb hbox hg; obtain ⟨hcz7_0, hcz7_1, hfz7_0, hfz7_1⟩ := sqc2 BK277) | ((with_reducible refine gate_callee (f := 76) rfl ?_); refine sqL (some 6) Try.func76 #[.agg #[.int .i64 a0_0, .int .i64 a0_1]] ?_; (with_reducible refine (impl_RangeOk.calls a0_0 a0_1 true _ A3.out).mono ?_); rintro e w8 ⟨rfl, hb⟩; refine ⟨_, rfl, ?_⟩; replace BK277 := sqb BK277 hb; replace HB := sqs HB hb; (try clear hb); obtain ⟨hcz9_0, hcz9_1, hfz9_0, hfz9_1⟩ := sqc2 BK277))
   go_ret
   exact sqe HB
  ·rw [if_neg c5] at H
   have c5b0 : decide (a0_0 ≤ a1) = false := decide_eq_false c5
   clear c5
   obtain rfl := Option.some.inj H
   go_enter Try.func48, Try.ntmps48
   go_wp2_with (first | ((with_reducible refine gate_dst (N := 2) rfl ?_); refine sqx 2 #[.int .i64 a0_0, .int .i64 a0_1] 24 ?_; intro gb277 hg w10 hbox hb; have BK277 := Aside0.mk (hbox); have GW277 := sqg HB hg; have GE277 := sqg HB hg; replace HB := sqs HB hb; clear hb hbox hg; obtain ⟨hcz11_0, hcz11_1, hfz11_0, hfz11_1⟩ := sqc2 BK277) | ((with_reducible refine gate_callee (f := 76) rfl ?_); refine sqL (some 6) Try.func76 #[.agg #[.int .i64 a0_0, .int .i64 a0_1]] ?_; (with_reducible refine (impl_RangeOk.calls a0_0 a0_1 true _ A3.out).mono ?_); rintro e w12 ⟨rfl, hb⟩; refine ⟨_, rfl, ?_⟩; replace BK277 := sqb BK277 hb; replace HB := sqs HB hb; (try clear hb); obtain ⟨hcz13_0, hcz13_1, hfz13_0, hfz13_1⟩ := sqc2 BK277))
   go_ret
   exact sqe HB
 ·replace c4 := Bool.eq_false_iff.mpr c4
  subst c4
  have H1 : (some false) = some r := by rw [if_neg (show ¬ (false = true) by decide)] at H; exact H
  clear H
  have H := H1
  clear H1
  obtain rfl := Option.some.inj H
  go_enter Try.func48, Try.ntmps48
  go_wp2_with (first | ((with_reducible refine gate_dst (N := 2) rfl ?_); refine sqx 2 #[.int .i64 a0_0, .int .i64 a0_1] 24 ?_; intro gb277 hg w14 hbox hb; have BK277 := Aside0.mk (hbox); have GW277 := sqg HB hg; have GE277 := sqg HB hg; replace HB := sqs HB hb; clear hb hbox hg; obtain ⟨hcz15_0, hcz15_1, hfz15_0, hfz15_1⟩ := sqc2 BK277) | ((with_reducible refine gate_callee (f := 76) rfl ?_); refine sqL (some 6) Try.func76 #[.agg #[.int .i64 a0_0, .int .i64 a0_1]] ?_; (with_reducible refine (impl_RangeOk.calls a0_0 a0_1 false _ A3.out).mono ?_); rintro e w16 ⟨rfl, hb⟩; refine ⟨_, rfl, ?_⟩; replace BK277 := sqb BK277 hb; replace HB := sqs HB hb; (try clear hb)))
  go_ret
  exact sqe HB

/-! ### impl_RestOk: function 65 -/
set_option maxHeartbeats 8000000 in
set_option maxRecDepth 100000 in
theorem impl_RestOk.calls (a0_0 : Int) (a0_1 : Int) (r : Bool) (w : World) (h : impl_RestOk.f a0_0 a0_1 = some r) :
  Calls Try.prog 65 #[.agg #[.int .i64 a0_0, .int .i64 a0_1]] w fun e w' => e = .returned (.bool r) ∧ Below w.heap.size w w' := by
 have hu26 := Try.underlying26
 have HB := Aside0.mk (Below.refl w.heap.size w)
 have H : (if a0_0 = 0 then ((impl_NumOk.f a0_1).bind fun t280 => (some t280)) else (if a0_0 ≥ 1 then (if a0_0 ≤ 65536 then (if a0_1 ≥ 0 then (some (decide (a0_1 < a0_0))) else (some false)) else (some false)) else (some false))) = some r := h
 clear h
 by_cases c2 : a0_0 = 0
 ·rw [if_pos c2] at H
  have c2b0 : (a0_0 == 0) = true := beq_iff_eq.mpr c2
  have c2b1 : (a0_0 != 0) = false := bne_eq_false_iff_eq.mpr c2
  clear c2
  replace H := Option.bind_eq_some_iff.mp H
  obtain ⟨t280, A30, H⟩ := H
  replace H : (some t280) = some r := H
  have A3 := Aside0.mk A30
  clear A30
  obtain rfl := Option.some.inj H
  go_enter Try.func65, Try.ntmps65
  go_wp2_with (first | ((with_reducible refine gate_dst (N := 1) rfl ?_); refine sqx 1 #[.int .i64 a0_0, .int .i64 a0_1] 26 ?_; intro gb279 hg w4 hbox hb; have BK279 := Aside0.mk (hbox); have GW279 := sqg HB hg; have GE279 := sqg HB hg; replace HB := sqs HB hb; clear hb hbox hg; obtain ⟨hcz5_0, hcz5_1, hfz5_0, hfz5_1⟩ := sqc2 BK279) | ((with_reducible refine gate_callee (f := 117) rfl ?_); refine sqL (some 8) Try.func117 #[.int .i64 a0_1] ?_; (with_reducible refine (impl_NumOk.calls a0_1 t280 _ A3.out).mono ?_); rintro e w' ⟨rfl, ⟨nd, rfl⟩⟩; refine ⟨_, rfl, ?_⟩))
  go_ret
  exact sqe HB
 ·rw [if_neg c2] at H
  have c2b0 : (a0_0 == 0) = false := beq_eq_false_iff_ne.mpr c2
  have c2b1 : (a0_0 != 0) = true := bne_iff_ne.mpr c2
  by_cases c6 : a0_0 ≥ 1
  ·rw [if_pos c6] at H
   have c6b0 : decide (1 ≤ a0_0) = true := decide_eq_true c6
   clear c6
   by_cases c7 : a0_0 ≤ 65536
   ·rw [if_pos c7] at H
    have c7b0 : decide (a0_0 ≤ 65536) = true := decide_eq_true c7
    clear c7
    by_cases c8 : a0_1 ≥ 0
    ·rw [if_pos c8] at H
     have c8b0 : decide (0 ≤ a0_1) = true := decide_eq_true c8
     clear c8
     obtain rfl := Option.some.inj H
     go_enter Try.func65, Try.ntmps65
     go_wp2_with (first | ((with_reducible refine gate_dst (N := 1) rfl ?_); refine sqx 1 #[.int .i64 a0_0, .int .i64 a0_1] 26 ?_; intro gb279 hg w9 hbox hb; have BK279 := Aside0.mk (hbox); have GW279 := sqg HB hg; have GE279 := sqg HB hg; replace HB := sqs HB hb; clear hb hbox hg; obtain ⟨hcz10_0, hcz10_1, hfz10_0, hfz10_1⟩ := sqc2 BK279))
     go_ret
     exact sqe HB
    ·rw [if_neg c8] at H
     have c8b0 : decide (0 ≤ a0_1) = false := decide_eq_false c8
     clear c8
     obtain rfl := Option.some.inj H
     go_enter Try.func65, Try.ntmps65
     go_wp2_with (first | ((with_reducible refine gate_dst (N := 1) rfl ?_); refine sqx 1 #[.int .i64 a0_0, .int .i64 a0_1] 26 ?_; intro gb279 hg w11 hbox hb; have BK279 := Aside0.mk (hbox); have GW279 := sqg HB hg; have GE279 := sqg HB hg; replace HB := sqs HB hb; clear hb hbox hg; obtain ⟨hcz12_0, hcz12_1, hfz12_0, hfz12_1⟩ := sqc2 BK279))
     go_ret
     exact sqe HB
   ·rw [if_neg c7] at H
    have c7b0 : decide (a0_0 ≤ 65536) = false := decide_eq_false c7
    clear c7
    obtain rfl := Option.some.inj H
    go_enter Try.func65, Try.ntmps65
    go_wp2_with (first | ((with_reducible refine gate_dst (N := 1) rfl ?_); refine sqx 1 #[.int .i64 a0_0, .int .i64 a0_1] 26 ?_; intro gb279 hg w13 hbox hb; have BK279 := Aside0.mk (hbox); have GW279 := sqg HB hg; have GE279 := sqg HB hg; replace HB := sqs HB hb; clear hb hbox hg; obtain ⟨hcz14_0, hcz14_1, hfz14_0, hfz14_1⟩ := sqc2 BK279))
    go_ret
    exact sqe HB
  ·rw [if_neg c6] at H
   have c6b0 : decide (1 ≤ a0_0) = false := decide_eq_false c6
   clear c6
   obtain rfl := Option.some.inj H
   go_enter Try.func65, Try.ntmps65
   go_wp2_with (first | ((with_reducible refine gate_dst (N := 1) rfl ?_); refine sqx 1 #[.int .i64 a0_0, .int .i64 a0_1] 26 ?_; intro gb279 hg w15 hbox hb; have BK279 := Aside0.mk (hbox); have GW279 := sqg HB hg; have GE279 := sqg HB hg; replace HB := sqs HB hb; clear hb hbox hg; obtain ⟨hcz16_0, hcz16_1, hfz16_0, hfz16_1⟩ := sqc2 BK279))
   go_ret
   exact sqe HB

/-! ### impl_Range_empty: function 95 -/
set_option maxHeartbeats 8000000 in
set_option maxRecDepth 100000 in
theorem impl_Range_empty.calls (a0_0 : Int) (a0_1 : Int) (r : Bool) (w : World) (h : impl_Range_empty.f a0_0 a0_1 = some r) :
  Calls Try.prog 95 #[.agg #[.int .i64 a0_0, .int .i64 a0_1]] w fun e w' => e = .returned (.bool r) ∧ Below w.heap.size w w' := by
 have hu24 := Try.underlying24
 have HB := Aside0.mk (Below.refl w.heap.size w)
 have H : (some (decide (a0_0 > a0_1))) = some r := h
 clear h
 obtain rfl := Option.some.inj H
 go_enter Try.func95, Try.ntmps95
 go_wp2_with (first | ((with_reducible refine gate_dst (N := 1) rfl ?_); refine sqx 1 #[.int .i64 a0_0, .int .i64 a0_1] 24 ?_; intro gb281 hg w2 hbox hb; have BK281 := Aside0.mk (hbox); have GW281 := sqg HB hg; have GE281 := sqg HB hg; replace HB := sqs HB hb; clear hb hbox hg; obtain ⟨hcz3_0, hcz3_1, hfz3_0, hfz3_1⟩ := sqc2 BK281))
 go_ret
 exact sqe HB

/-! ### impl_valNone: function 96 -/
set_option maxHeartbeats 8000000 in
set_option maxRecDepth 100000 in
theorem impl_valNone.calls  (r1 : Int) (r2 : Int) (r3 : Int) (r4 : Int) (w : World) (h : impl_valNone.f  = some (r1, r2, r3, r4)) :
  Calls Try.prog 96 #[] w fun e w' => e = .returned (.agg #[.int .i64 r1, .int .i64 r2, .int .i64 r3, .int .i64 r4]) ∧ Below w.heap.size w w' := by
 have hu30 := Try.underlying30
 have HB := Aside0.mk (Below.refl w.heap.size w)
 have H : (some (1, 0, 0, 0)) = some (r1, r2, r3, r4) := h
 clear h
 simp only [Option.some.injEq, Prod.mk.injEq] at H
 obtain ⟨rfl, rfl, rfl, rfl⟩ := H
 go_enter Try.func96, Try.ntmps96
 go_wp2_with (first | ((with_reducible refine gate_dst (N := 0) rfl ?_); refine sqx 0 #[.int .i64 0, .int .i64 0, .int .i64 0, .int .i64 0] 30 ?_; intro gb282 hg w1 hbox hb; have BK282 := Aside0.mk (hbox); have GW282 := sqg HB hg; have GE282 := sqg HB hg; replace HB := sqs HB hb; clear hb hbox hg; obtain ⟨hcz2_0, hcz2_1, hcz2_2, hcz2_3, hfz2_0, hfz2_1, hfz2_2, hfz2_3⟩ := sqc4 BK282))
 refine bodyPost_ret (results_cell_row rfl _ _ gb282 30 #[.int .i64 1, .int .i64 0, .int .i64 0, .int .i64 0] (0, 0) _ rfl (by refine sqt ?_; refine blk_put (cs := #[.int .i64 1, .int .i64 0, .int .i64 0, .int .i64 0]) ?_ 3 _ rfl; refine sqt ?_; refine blk_put (cs := #[.int .i64 1, .int .i64 0, .int .i64 0, .int .i64 0]) ?_ 2 _ rfl; refine sqt ?_; refine blk_put (cs := #[.int .i64 1, .int .i64 0, .int .i64 0, .int .i64 0]) ?_ 1 _ rfl; refine sqt ?_; refine blk_put (cs := #[.int .i64 0, .int .i64 0, .int .i64 0, .int .i64 0]) ?_ 0 _ rfl; refine sqt ?_; exact BK282.out) Try.underlying30 rfl (by kernel_rfl)) rfl ?_
 exact sqe HB

/-! ### impl_valOne: function 97 -/
set_option maxHeartbeats 8000000 in
set_option maxRecDepth 100000 in
theorem impl_valOne.calls (a0 : Int) (r1 : Int) (r2 : Int) (r3 : Int) (r4 : Int) (w : World) (h : impl_valOne.f a0 = some (r1, r2, r3, r4)) :
  Calls Try.prog 97 #[.int .i64 a0] w fun e w' => e = .returned (.agg #[.int .i64 r1, .int .i64 r2, .int .i64 r3, .int .i64 r4]) ∧ Below w.heap.size w w' := by
 have hu30 := Try.underlying30
 have HB := Aside0.mk (Below.refl w.heap.size w)
 have H : (some (a0, a0, 0, a0)) = some (r1, r2, r3, r4) := h
 clear h
 simp only [Option.some.injEq, Prod.mk.injEq] at H
 obtain ⟨rfl, rfl, rfl, rfl⟩ := H
 go_enter Try.func97, Try.ntmps97
 go_wp2_with (first | ((with_reducible refine gate_dst (N := 2) rfl ?_); refine sqx 2 #[.int .i64 0, .int .i64 0, .int .i64 0, .int .i64 0] 30 ?_; intro gb283 hg w2 hbox hb; have BK283 := Aside0.mk (hbox); have GW283 := sqg HB hg; have GE283 := sqg HB hg; replace HB := sqs HB hb; clear hb hbox hg; obtain ⟨hcz3_0, hcz3_1, hcz3_2, hcz3_3, hfz3_0, hfz3_1, hfz3_2, hfz3_3⟩ := sqc4 BK283))
 refine bodyPost_ret (results_cell_row rfl _ _ gb283 30 #[.int .i64 a0, .int .i64 a0, .int .i64 0, .int .i64 a0] (0, 0) _ rfl (by refine sqt ?_; refine blk_put (cs := #[.int .i64 a0, .int .i64 a0, .int .i64 0, .int .i64 0]) ?_ 3 _ rfl; refine sqt ?_; refine blk_put (cs := #[.int .i64 a0, .int .i64 a0, .int .i64 0, .int .i64 0]) ?_ 2 _ rfl; refine sqt ?_; refine blk_put (cs := #[.int .i64 a0, .int .i64 0, .int .i64 0, .int .i64 0]) ?_ 1 _ rfl; refine sqt ?_; refine blk_put (cs := #[.int .i64 0, .int .i64 0, .int .i64 0, .int .i64 0]) ?_ 0 _ rfl; refine sqt ?_; exact BK283.out) Try.underlying30 rfl (by kernel_rfl)) rfl ?_
 exact sqe HB

/-! ### impl_restMod: function 98 -/
set_option maxHeartbeats 8000000 in
set_option maxRecDepth 100000 in
theorem impl_restMod.calls (a0 : Int) (a1 : Int) (r : Int) (w : World) (h : impl_restMod.f a0 a1 = some r) :
  Calls Try.prog 98 #[.int .i64 a0, .int .i64 a1] w fun e w' => e = .returned (.int .i64 r) ∧ Drawn0 w w' := by
 have H : (if a1 = 0 then (none) else (if (Int.tmod a0 a1) < 0 then (some (wrap64 ((Int.tmod a0 a1) + a1))) else (some (Int.tmod a0 a1)))) = some r := h
 clear h
 by_cases c3 : a1 = 0
 ·rw [if_pos c3] at H
  exact absurd H (by simp)
 ·rw [if_neg c3] at H
  have c3b0 : (a1 == 0) = false := beq_eq_false_iff_ne.mpr c3
  have c3b1 : (a1 != 0) = true := bne_iff_ne.mpr c3
  by_cases c4 : (Int.tmod a0 a1) < 0
  ·rw [if_pos c4] at H
   have c4b0 : decide ((Int.tmod a0 a1) < 0) = true := decide_eq_true c4
   clear c4
   obtain rfl := Option.some.inj H
   go_enter Try.func98, Try.ntmps98
   go_wp2
   go_ret
   exact ⟨by first | rfl | (simp; done) | (simp [*]; done), by repeat (first | exact Drawn0.refl _ | apply Drawn0.step)⟩
  ·rw [if_neg c4] at H
   have c4b0 : decide ((Int.tmod a0 a1) < 0) = false := decide_eq_false c4
   clear c4
   obtain rfl := Option.some.inj H
   go_enter Try.func98, Try.ntmps98
   go_wp2
   go_ret
   exact ⟨by first | rfl | (simp; done) | (simp [*]; done), by repeat (first | exact Drawn0.refl _ | apply Drawn0.step)⟩

/-! ### impl_ValMake: function 16 -/
theorem impl_ValMake.mono_l : ∀ k, (∀ y0 y1 y2 y3 y4, LeO (impl_ValMake.j0 k y0 y1 y2 y3 y4) (impl_ValMake.j0 (k + 1) y0 y1 y2 y3 y4))
 | 0 => fun _ _ _ _ _ r h => by simp [impl_ValMake.j0] at h
 | k + 1 => by
  have ih0 := impl_ValMake.mono_l k
  ·intro y0 y1 y2 y3 y4
   unfold impl_ValMake.j0
   repeat' first
   | (with_reducible exact ih0 _ _ _ _ _)
   | (with_reducible exact LeO.refl _)
   | (with_reducible exact LeO.none _)
   | (with_reducible refine LeO.ite ?_ ?_)
   | (with_reducible refine LeO.bind ?_ (fun _ => ?_))
   | exact ih0 _ _ _ _ _
   | exact LeO.none _
   | refine LeO.ite ?_ ?_
   | refine LeO.bind ?_ (fun _ => ?_)
theorem impl_ValMake.mono : ∀ a0 a1 a2 a3 k, LeO (impl_ValMake.f k a0 a1 a2 a3) (impl_ValMake.f (k + 1) a0 a1 a2 a3) := by
 intro a0 a1 a2 a3 k
 have ih0 := impl_ValMake.mono_l k
 unfold impl_ValMake.f
 repeat' first
   | (with_reducible exact ih0 _ _ _ _ _)
   | (with_reducible exact LeO.refl _)
   | (with_reducible exact LeO.none _)
   | (with_reducible refine LeO.ite ?_ ?_)
   | (with_reducible refine LeO.bind ?_ (fun _ => ?_))
   | exact ih0 _ _ _ _ _
   | exact LeO.none _
   | refine LeO.ite ?_ ?_
   | refine LeO.bind ?_ (fun _ => ?_)
set_option maxHeartbeats 8000000 in
set_option maxRecDepth 100000 in
theorem impl_ValMake.calls (k : Nat) (a0_0 : Int) (a0_1 : Int) (a1_0 : Int) (a1_1 : Int) (r1 : Int) (r2 : Int) (r3 : Int) (r4 : Int) (w : World) (h : impl_ValMake.f k a0_0 a0_1 a1_0 a1_1 = some (r1, r2, r3, r4)) :
  Calls Try.prog 16 #[.agg #[.int .i64 a0_0, .int .i64 a0_1], .agg #[.int .i64 a1_0, .int .i64 a1_1]] w fun e w' => e = .returned (.agg #[.int .i64 r1, .int .i64 r2, .int .i64 r3, .int .i64 r4]) ∧ Below w.heap.size w w' := by
 have hu24 := Try.underlying24
 have hu26 := Try.underlying26
 have hu30 := Try.underlying30
 have HB := Aside0.mk (Below.refl w.heap.size w)
 have H : ((impl_RangeOk.f a0_0 a0_1).bind fun t287 => (if t287 = true then ((impl_RestOk.f a1_0 a1_1).bind fun t288 => (if t288 = true then ((impl_Range_empty.f a0_0 a0_1).bind fun t289 => (impl_ValMake.j0 k t289 a0_0 a0_1 a1_0 a1_1)) else (impl_ValMake.j0 k true a0_0 a0_1 a1_0 a1_1))) else (impl_ValMake.j0 k true a0_0 a0_1 a1_0 a1_1))) = some (r1, r2, r3, r4) := h
 clear h
 have HC3 := Aside0.mk H
 clear H
 go_enter Try.func16, Try.ntmps16
 go_upto_region 1 with (first | ((with_reducible refine gate_dst (N := 2) rfl ?_); refine sqx 2 #[.int .i64 a0_0, .int .i64 a0_1] 24 ?_; intro gb284 hg w4 hbox hb; have BK284 := Aside0.mk (hbox); have GW284 := sqg HB hg; have GE284 := sqg HB hg; replace HB := sqs HB hb; clear hb hbox hg) | ((with_reducible refine gate_dst (N := 3) rfl ?_); refine sqx 3 #[.int .i64 a1_0, .int .i64 a1_1] 26 ?_; intro gb285 hg w5 hbox hb; have BK285 := Aside0.mk (hbox); have GW285 := sqg HB hg; have GE285 := sqg HB hg; have NB284_285 := sqn BK284 hg; have NB285_284 := sqm BK284 hg; replace BK284 := sqb BK284 hb; replace HB := sqs HB hb; clear hb hbox hg) | ((with_reducible refine gate_dst (N := 4) rfl ?_); refine sqx 4 #[.int .i64 0, .int .i64 0, .int .i64 0, .int .i64 0] 30 ?_; intro gb286 hg w6 hbox hb; have BK286 := Aside0.mk (hbox); have GW286 := sqg HB hg; have GE286 := sqg HB hg; have NB284_286 := sqn BK284 hg; have NB286_284 := sqm BK284 hg; have NB285_286 := sqn BK285 hg; have NB286_285 := sqm BK285 hg; replace BK284 := sqb BK284 hb; replace BK285 := sqb BK285 hb; replace HB := sqs HB hb; clear hb hbox hg))
 repeat (go_quiet (first | ((with_reducible refine gate_dst (N := 2) rfl ?_); refine sqx 2 #[.int .i64 a0_0, .int .i64 a0_1] 24 ?_; intro gb284 hg w4 hbox hb; have BK284 := Aside0.mk (hbox); have GW284 := sqg HB hg; have GE284 := sqg HB hg; replace HB := sqs HB hb; clear hb hbox hg) | ((with_reducible refine gate_dst (N := 3) rfl ?_); refine sqx 3 #[.int .i64 a1_0, .int .i64 a1_1] 26 ?_; intro gb285 hg w5 hbox hb; have BK285 := Aside0.mk (hbox); have GW285 := sqg HB hg; have GE285 := sqg HB hg; have NB284_285 := sqn BK284 hg; have NB285_284 := sqm BK284 hg; replace BK284 := sqb BK284 hb; replace HB := sqs HB hb; clear hb hbox hg) | ((with_reducible refine gate_dst (N := 4) rfl ?_); refine sqx 4 #[.int .i64 0, .int .i64 0, .int .i64 0, .int .i64 0] 30 ?_; intro gb286 hg w6 hbox hb; have BK286 := Aside0.mk (hbox); have GW286 := sqg HB hg; have GE286 := sqg HB hg; have NB284_286 := sqn BK284 hg; have NB286_284 := sqm BK284 hg; have NB285_286 := sqn BK285 hg; have NB286_285 := sqm BK285 hg; replace BK284 := sqb BK284 hb; replace BK285 := sqb BK285 hb; replace HB := sqs HB hb; clear hb hbox hg)); go_upto_region 1 with (first | ((with_reducible refine gate_dst (N := 2) rfl ?_); refine sqx 2 #[.int .i64 a0_0, .int .i64 a0_1] 24 ?_; intro gb284 hg w4 hbox hb; have BK284 := Aside0.mk (hbox); have GW284 := sqg HB hg; have GE284 := sqg HB hg; replace HB := sqs HB hb; clear hb hbox hg) | ((with_reducible refine gate_dst (N := 3) rfl ?_); refine sqx 3 #[.int .i64 a1_0, .int .i64 a1_1] 26 ?_; intro gb285 hg w5 hbox hb; have BK285 := Aside0.mk (hbox); have GW285 := sqg HB hg; have GE285 := sqg HB hg; have NB284_285 := sqn BK284 hg; have NB285_284 := sqm BK284 hg; replace BK284 := sqb BK284 hb; replace HB := sqs HB hb; clear hb hbox hg) | ((with_reducible refine gate_dst (N := 4) rfl ?_); refine sqx 4 #[.int .i64 0, .int .i64 0, .int .i64 0, .int .i64 0] 30 ?_; intro gb286 hg w6 hbox hb; have BK286 := Aside0.mk (hbox); have GW286 := sqg HB hg; have GE286 := sqg HB hg; have NB284_286 := sqn BK284 hg; have NB286_284 := sqm BK284 hg; have NB285_286 := sqn BK285 hg; have NB286_285 := sqm BK285 hg; replace BK284 := sqb BK284 hb; replace BK285 := sqb BK285 hb; replace HB := sqs HB hb; clear hb hbox hg)))
 (try simp only [Act.put, List.setIfInBounds_toArray, List.set_cons_zero, List.set_cons_succ])
 go_cut [18] (fun v18 wc => ∃ (kq : Nat) (x18_2 : Bool), v18 = .bool x18_2 ∧ Aside0 (impl_ValMake.j0 kq x18_2 a0_0 a0_1 a1_0 a1_1 = some (r1, r2, r3, r4)) ∧ Aside0 (kq ≤ k) ∧ Aside0 (wc.heap[gb284]? = some (.cells #[.int .i64 a0_0, .int .i64 a0_1] 24 (0, 0))) ∧ Aside0 (wc.heap[gb285]? = some (.cells #[.int .i64 a1_0, .int .i64 a1_1] 26 (0, 0))) ∧ Aside0 (wc.heap[gb286]? = some (.cells #[.int .i64 0, .int .i64 0, .int .i64 0, .int .i64 0] 30 (0, 0))) ∧ Aside0 (Below w.heap.size w wc))
 case first =>
  have H := HC3.out
  clear HC3
  replace H := Option.bind_eq_some_iff.mp H
  obtain ⟨t287, A70, H⟩ := H
  replace H : (if t287 = true then ((impl_RestOk.f a1_0 a1_1).bind fun t288 => (if t288 = true then ((impl_Range_empty.f a0_0 a0_1).bind fun t289 => (impl_ValMake.j0 k t289 a0_0 a0_1 a1_0 a1_1)) else (impl_ValMake.j0 k true a0_0 a0_1 a1_0 a1_1))) else (impl_ValMake.j0 k true a0_0 a0_1 a1_0 a1_1)) = some (r1, r2, r3, r4) := H
  have A7 := Aside0.mk A70
  clear A70
  by_cases c8 : t287 = true
  ·subst c8
   have H1 : ((impl_RestOk.f a1_0 a1_1).bind fun t288 => (if t288 = true then ((impl_Range_empty.f a0_0 a0_1).bind fun t289 => (impl_ValMake.j0 k t289 a0_0 a0_1 a1_0 a1_1)) else (impl_ValMake.j0 k true a0_0 a0_1 a1_0 a1_1))) = some (r1, r2, r3, r4) := by rw [if_pos rfl] at H; exact H
   clear H
   have H := H1
   clear H1
   replace H := Option.bind_eq_some_iff.mp H
   obtain ⟨t288, A90, H⟩ := H
   replace H : (if t288 = true then ((impl_Range_empty.f a0_0 a0_1).bind fun t289 => (impl_ValMake.j0 k t289 a0_0 a0_1 a1_0 a1_1)) else (impl_ValMake.j0 k true a0_0 a0_1 a1_0 a1_1)) = some (r1, r2, r3, r4) := H
   have A9 := Aside0.mk A90
   clear A90
   by_cases c10 : t288 = true
   ·subst c10
    have H1 : ((impl_Range_empty.f a0_0 a0_1).bind fun t289 => (impl_ValMake.j0 k t289 a0_0 a0_1 a1_0 a1_1)) = some (r1, r2, r3, r4) := by rw [if_pos rfl] at H; exact H
    clear H
    have H := H1
    clear H1
    replace H := Option.bind_eq_some_iff.mp H
    obtain ⟨t289, A110, H⟩ := H
    replace H : (impl_ValMake.j0 k t289 a0_0 a0_1 a1_0 a1_1) = some (r1, r2, r3, r4) := H
    have A11 := Aside0.mk A110
    clear A110
    have H' := Aside0.mk H
    clear H
    have hnb12 := NB284_285.out
    have hnc12 := NB285_284.out
    have hnb13 := NB284_286.out
    have hnc13 := NB286_284.out
    obtain ⟨hcz14_0, hcz14_1, hfz14_0, hfz14_1⟩ := sqc2 BK284
    go_wp2_with (first | (go_at_call 76; (with_reducible refine (impl_RangeOk.calls a0_0 a0_1 true _ A7.out).mono ?_); rintro e w15 ⟨rfl, hb⟩; replace BK284 := sqb BK284 hb; replace BK285 := sqb BK285 hb; replace BK286 := sqb BK286 hb; replace HB := sqs HB hb; (try clear hb); have hnb16 := NB285_286.out; have hnc16 := NB286_285.out; obtain ⟨hcz17_0, hcz17_1, hfz17_0, hfz17_1⟩ := sqc2 BK285) | (go_at_call 65; (with_reducible refine (impl_RestOk.calls a1_0 a1_1 true _ A9.out).mono ?_); rintro e w18 ⟨rfl, hb⟩; replace BK284 := sqb BK284 hb; replace BK285 := sqb BK285 hb; replace BK286 := sqb BK286 hb; replace HB := sqs HB hb; (try clear hb); obtain ⟨hcz19_0, hcz19_1, hfz19_0, hfz19_1⟩ := sqc2 BK284) | (go_at_call 95; (with_reducible refine (impl_Range_empty.calls a0_0 a0_1 t289 _ A11.out).mono ?_); rintro e w20 ⟨rfl, hb⟩; replace BK284 := sqb BK284 hb; replace BK285 := sqb BK285 hb; replace BK286 := sqb BK286 hb; replace HB := sqs HB hb; (try clear hb)))
    repeat (go_quiet (first | (go_at_call 76; (with_reducible refine (impl_RangeOk.calls a0_0 a0_1 true _ A7.out).mono ?_); rintro e w15 ⟨rfl, hb⟩; replace BK284 := sqb BK284 hb; replace BK285 := sqb BK285 hb; replace BK286 := sqb BK286 hb; replace HB := sqs HB hb; (try clear hb); have hnb16 := NB285_286.out; have hnc16 := NB286_285.out; obtain ⟨hcz17_0, hcz17_1, hfz17_0, hfz17_1⟩ := sqc2 BK285) | (go_at_call 65; (with_reducible refine (impl_RestOk.calls a1_0 a1_1 true _ A9.out).mono ?_); rintro e w18 ⟨rfl, hb⟩; replace BK284 := sqb BK284 hb; replace BK285 := sqb BK285 hb; replace BK286 := sqb BK286 hb; replace HB := sqs HB hb; (try clear hb); obtain ⟨hcz19_0, hcz19_1, hfz19_0, hfz19_1⟩ := sqc2 BK284) | (go_at_call 95; (with_reducible refine (impl_Range_empty.calls a0_0 a0_1 t289 _ A11.out).mono ?_); rintro e w20 ⟨rfl, hb⟩; replace BK284 := sqb BK284 hb; replace BK285 := sqb BK285 hb; replace BK286 := sqb BK286 hb; replace HB := sqs HB hb; (try clear hb))); try go_wp2_with (first | (go_at_call 76; (with_reducible refine (impl_RangeOk.calls a0_0 a0_1 true _ A7.out).mono ?_); rintro e w15 ⟨rfl, hb⟩; replace BK284 := sqb BK284 hb; replace BK285 := sqb BK285 hb; replace BK286 := sqb BK286 hb; replace HB := sqs HB hb; (try clear hb); have hnb16 := NB285_286.out; have hnc16 := NB286_285.out; obtain ⟨hcz17_0, hcz17_1, hfz17_0, hfz17_1⟩ := sqc2 BK285) | (go_at_call 65; (with_reducible refine (impl_RestOk.calls a1_0 a1_1 true _ A9.out).mono ?_); rintro e w18 ⟨rfl, hb⟩; replace BK284 := sqb BK284 hb; replace BK285 := sqb BK285 hb; replace BK286 := sqb BK286 hb; replace HB := sqs HB hb; (try clear hb); obtain ⟨hcz19_0, hcz19_1, hfz19_0, hfz19_1⟩ := sqc2 BK284) | (go_at_call 95; (with_reducible refine (impl_Range_empty.calls a0_0 a0_1 t289 _ A11.out).mono ?_); rintro e w20 ⟨rfl, hb⟩; replace BK284 := sqb BK284 hb; replace BK285 := sqb BK285 hb; replace BK286 := sqb BK286 hb; replace HB := sqs HB hb; (try clear hb))))
    go_meet
    case rel => exact ⟨_, (t289), (by first | rfl | (simp; done) | (simp [*]; done)), H', ⟨by first | omega | exact Nat.le_refl _⟩, sqk BK284, sqk BK285, sqk BK286, sqh HB⟩
   ·replace c10 := Bool.eq_false_iff.mpr c10
    subst c10
    have H1 : (impl_ValMake.j0 k true a0_0 a0_1 a1_0 a1_1) = some (r1, r2, r3, r4) := by rw [if_neg (show ¬ (false = true) by decide)] at H; exact H
    clear H
    have H := H1
    clear H1
    have H' := Aside0.mk H
    clear H
    have hnb21 := NB284_285.out
    have hnc21 := NB285_284.out
    have hnb22 := NB284_286.out
    have hnc22 := NB286_284.out
    obtain ⟨hcz23_0, hcz23_1, hfz23_0, hfz23_1⟩ := sqc2 BK284
    go_wp2_with (first | (go_at_call 76; (with_reducible refine (impl_RangeOk.calls a0_0 a0_1 true _ A7.out).mono ?_); rintro e w24 ⟨rfl, hb⟩; replace BK284 := sqb BK284 hb; replace BK285 := sqb BK285 hb; replace BK286 := sqb BK286 hb; replace HB := sqs HB hb; (try clear hb); have hnb25 := NB285_286.out; have hnc25 := NB286_285.out; obtain ⟨hcz26_0, hcz26_1, hfz26_0, hfz26_1⟩ := sqc2 BK285) | (go_at_call 65; (with_reducible refine (impl_RestOk.calls a1_0 a1_1 false _ A9.out).mono ?_); rintro e w27 ⟨rfl, hb⟩; replace BK284 := sqb BK284 hb; replace BK285 := sqb BK285 hb; replace BK286 := sqb BK286 hb; replace HB := sqs HB hb; (try clear hb)))
    repeat (go_quiet (first | (go_at_call 76; (with_reducible refine (impl_RangeOk.calls a0_0 a0_1 true _ A7.out).mono ?_); rintro e w24 ⟨rfl, hb⟩; replace BK284 := sqb BK284 hb; replace BK285 := sqb BK285 hb; replace BK286 := sqb BK286 hb; replace HB := sqs HB hb; (try clear hb); have hnb25 := NB285_286.out; have hnc25 := NB286_285.out; obtain ⟨hcz26_0, hcz26_1, hfz26_0, hfz26_1⟩ := sqc2 BK285) | (go_at_call 65; (with_reducible refine (impl_RestOk.calls a1_0 a1_1 false _ A9.out).mono ?_); rintro e w27 ⟨rfl, hb⟩; replace BK284 := sqb BK284 hb; replace BK285 := sqb BK285 hb; replace BK286 := sqb BK286 hb; replace HB := sqs HB hb; (try clear hb))); try go_wp2_with (first | (go_at_call 76; (with_reducible refine (impl_RangeOk.calls a0_0 a0_1 true _ A7.out).mono ?_); rintro e w24 ⟨rfl, hb⟩; replace BK284 := sqb BK284 hb; replace BK285 := sqb BK285 hb; replace BK286 := sqb BK286 hb; replace HB := sqs HB hb; (try clear hb); have hnb25 := NB285_286.out; have hnc25 := NB286_285.out; obtain ⟨hcz26_0, hcz26_1, hfz26_0, hfz26_1⟩ := sqc2 BK285) | (go_at_call 65; (with_reducible refine (impl_RestOk.calls a1_0 a1_1 false _ A9.out).mono ?_); rintro e w27 ⟨rfl, hb⟩; replace BK284 := sqb BK284 hb; replace BK285 := sqb BK285 hb; replace BK286 := sqb BK286 hb; replace HB := sqs HB hb; (try clear hb))))
    go_meet
    case rel => exact ⟨_, (true), (by first | rfl | (simp; done) | (simp [*]; done)), H', ⟨by first | omega | exact Nat.le_refl _⟩, sqk BK284, sqk BK285, sqk BK286, sqh HB⟩
  ·replace c8 := Bool.eq_false_iff.mpr c8
   subst c8
   have H1 : (impl_ValMake.j0 k true a0_0 a0_1 a1_0 a1_1) = some (r1, r2, r3, r4) := by rw [if_neg (show ¬ (false = true) by decide)] at H; exact H
   clear H
   have H := H1
   clear H1
   have H' := Aside0.mk H
   clear H
   have hnb28 := NB284_285.out
   have hnc28 := NB285_284.out
   have hnb29 := NB284_286.out
   have hnc29 := NB286_284.out
   obtain ⟨hcz30_0, hcz30_1, hfz30_0, hfz30_1⟩ := sqc2 BK284
   go_wp2_with (first | (go_at_call 76; (with_reducible refine (impl_RangeOk.calls a0_0 a0_1 false _ A7.out).mono ?_); rintro e w31 ⟨rfl, hb⟩; replace BK284 := sqb BK284 hb; replace BK285 := sqb BK285 hb; replace BK286 := sqb BK286 hb; replace HB := sqs HB hb; (try clear hb)))
   repeat (go_quiet (first | (go_at_call 76; (with_reducible refine (impl_RangeOk.calls a0_0 a0_1 false _ A7.out).mono ?_); rintro e w31 ⟨rfl, hb⟩; replace BK284 := sqb BK284 hb; replace BK285 := sqb BK285 hb; replace BK286 := sqb BK286 hb; replace HB := sqs HB hb; (try clear hb))); try go_wp2_with (first | (go_at_call 76; (with_reducible refine (impl_RangeOk.calls a0_0 a0_1 false _ A7.out).mono ?_); rintro e w31 ⟨rfl, hb⟩; replace BK284 := sqb BK284 hb; replace BK285 := sqb BK285 hb; replace BK286 := sqb BK286 hb; replace HB := sqs HB hb; (try clear hb))))
   go_meet
   case rel => exact ⟨_, (true), (by first | rfl | (simp; done) | (simp [*]; done)), H', ⟨by first | omega | exact Nat.le_refl _⟩, sqk BK284, sqk BK285, sqk BK286, sqh HB⟩
 case rest =>
  clear HC3
  obtain ⟨kq, x18_2, rfl, HA, HJ2, BK284, BK285, BK286, HB⟩ := hcut
  cases kq with
  | zero => exact absurd HA.out (by simp [impl_ValMake.j0])
  | succ kj2 =>
   have H := HA.out
   clear HA
   simp only [impl_ValMake.j0] at H
   by_cases c32 : x18_2 = true
   ·subst c32
    have H1 : ((impl_valNone.f).bind fun bt290 => (some (bt290.1, bt290.2.1, bt290.2.2.1, bt290.2.2.2))) = some (r1, r2, r3, r4) := by rw [if_pos rfl] at H; exact H
    clear H
    have H := H1
    clear H1
    replace H := Option.bind_eq_some_iff.mp H
    obtain ⟨⟨t290, t291, t292, t293⟩, A330, H⟩ := H
    replace H : (some (t290, t291, t292, t293)) = some (r1, r2, r3, r4) := H
    have A33 := Aside0.mk A330
    clear A330
    simp only [Option.some.injEq, Prod.mk.injEq] at H
    obtain ⟨rfl, rfl, rfl, rfl⟩ := H
    go_wp2_with (first | (go_at_call 96; (with_reducible refine (impl_valNone.calls  t290 t291 t292 t293 _ A33.out).mono ?_); rintro e w34 ⟨rfl, hb⟩; replace BK284 := sqb BK284 hb; replace BK285 := sqb BK285 hb; replace BK286 := sqb BK286 hb; replace HB := sqs HB hb; (try clear hb); have hnb35 := NB286_284.out; have hnc35 := NB284_286.out; have hnb36 := NB286_285.out; have hnc36 := NB285_286.out; obtain ⟨hcz37_0, hcz37_1, hcz37_2, hcz37_3, hfz37_0, hfz37_1, hfz37_2, hfz37_3⟩ := sqc4 BK286))
    repeat (go_quiet (first | (go_at_call 96; (with_reducible refine (impl_valNone.calls  t290 t291 t292 t293 _ A33.out).mono ?_); rintro e w34 ⟨rfl, hb⟩; replace BK284 := sqb BK284 hb; replace BK285 := sqb BK285 hb; replace BK286 := sqb BK286 hb; replace HB := sqs HB hb; (try clear hb); have hnb35 := NB286_284.out; have hnc35 := NB284_286.out; have hnb36 := NB286_285.out; have hnc36 := NB285_286.out; obtain ⟨hcz37_0, hcz37_1, hcz37_2, hcz37_3, hfz37_0, hfz37_1, hfz37_2, hfz37_3⟩ := sqc4 BK286)); try go_wp2_with (first | (go_at_call 96; (with_reducible refine (impl_valNone.calls  t290 t291 t292 t293 _ A33.out).mono ?_); rintro e w34 ⟨rfl, hb⟩; replace BK284 := sqb BK284 hb; replace BK285 := sqb BK285 hb; replace BK286 := sqb BK286 hb; replace HB := sqs HB hb; (try clear hb); have hnb35 := NB286_284.out; have hnc35 := NB284_286.out; have hnb36 := NB286_285.out; have hnc36 := NB285_286.out; obtain ⟨hcz37_0, hcz37_1, hcz37_2, hcz37_3, hfz37_0, hfz37_1, hfz37_2, hfz37_3⟩ := sqc4 BK286)))
    refine bodyPost_ret (results_cell_row rfl _ _ gb286 30 #[.int .i64 t290, .int .i64 t291, .int .i64 t292, .int .i64 t293] (0, 0) _ rfl (by refine sqt ?_; refine blk_put (cs := #[.int .i64 t290, .int .i64 t291, .int .i64 t292, .int .i64 0]) ?_ 3 _ rfl; refine sqt ?_; refine blk_put (cs := #[.int .i64 t290, .int .i64 t291, .int .i64 0, .int .i64 0]) ?_ 2 _ rfl; refine sqt ?_; refine blk_put (cs := #[.int .i64 t290, .int .i64 0, .int .i64 0, .int .i64 0]) ?_ 1 _ rfl; refine sqt ?_; refine blk_put (cs := #[.int .i64 0, .int .i64 0, .int .i64 0, .int .i64 0]) ?_ 0 _ rfl; refine sqt ?_; exact BK286.out) Try.underlying30 rfl (by kernel_rfl)) rfl ?_
    exact sqe HB
   ·replace c32 := Bool.eq_false_iff.mpr c32
    subst c32
    have H1 : (if a1_0 = 0 then ((impl_RangeHas.f a0_0 a0_1 a1_1).bind fun t294 => (if t294 = true then ((impl_valOne.f a1_1).bind fun bt295 => (some (bt295.1, bt295.2.1, bt295.2.2.1, bt295.2.2.2))) else ((impl_valNone.f).bind fun bt299 => (some (bt299.1, bt299.2.1, bt299.2.2.1, bt299.2.2.2))))) else ((impl_restMod.f (wrap64 (a1_1 - a0_0)) a1_0).bind fun t303 => ((impl_restMod.f (wrap64 (a0_1 - a1_1)) a1_0).bind fun t304 => (if (wrap64 (a0_0 + t303)) > (wrap64 (a0_1 - t304)) then ((impl_valNone.f).bind fun bt305 => (some (bt305.1, bt305.2.1, bt305.2.2.1, bt305.2.2.2))) else (if (wrap64 (a0_0 + t303)) = (wrap64 (a0_1 - t304)) then ((impl_valOne.f (wrap64 (a0_0 + t303))).bind fun bt309 => (some (bt309.1, bt309.2.1, bt309.2.2.1, bt309.2.2.2))) else (some (wrap64 (a0_0 + t303), wrap64 (a0_1 - t304), a1_0, a1_1))))))) = some (r1, r2, r3, r4) := by rw [if_neg (show ¬ (false = true) by decide)] at H; exact H
    clear H
    have H := H1
    clear H1
    by_cases c38 : a1_0 = 0
    ·rw [if_pos c38] at H
     have c38b0 : (a1_0 == 0) = true := beq_iff_eq.mpr c38
     have c38b1 : (a1_0 != 0) = false := bne_eq_false_iff_eq.mpr c38
     clear c38
     replace H := Option.bind_eq_some_iff.mp H
     obtain ⟨t294, A390, H⟩ := H
     replace H : (if t294 = true then ((impl_valOne.f a1_1).bind fun bt295 => (some (bt295.1, bt295.2.1, bt295.2.2.1, bt295.2.2.2))) else ((impl_valNone.f).bind fun bt299 => (some (bt299.1, bt299.2.1, bt299.2.2.1, bt299.2.2.2)))) = some (r1, r2, r3, r4) := H
     have A39 := Aside0.mk A390
     clear A390
     by_cases c40 : t294 = true
     ·subst c40
      have H1 : ((impl_valOne.f a1_1).bind fun bt295 => (some (bt295.1, bt295.2.1, bt295.2.2.1, bt295.2.2.2))) = some (r1, r2, r3, r4) := by rw [if_pos rfl] at H; exact H
      clear H
      have H := H1
      clear H1
      replace H := Option.bind_eq_some_iff.mp H
      obtain ⟨⟨t295, t296, t297, t298⟩, A410, H⟩ := H
      replace H : (some (t295, t296, t297, t298)) = some (r1, r2, r3, r4) := H
      have A41 := Aside0.mk A410
      clear A410
      simp only [Option.some.injEq, Prod.mk.injEq] at H
      obtain ⟨rfl, rfl, rfl, rfl⟩ := H
      have hnb42 := NB285_284.out
      have hnc42 := NB284_285.out
      have hnb43 := NB285_286.out
      have hnc43 := NB286_285.out
      obtain ⟨hcz44_0, hcz44_1, hfz44_0, hfz44_1⟩ := sqc2 BK285
      have hnb45 := NB284_286.out
      have hnc45 := NB286_284.out
      obtain ⟨hcz46_0, hcz46_1, hfz46_0, hfz46_1⟩ := sqc2 BK284
      go_wp2_with (first | (go_at_call 48; (with_reducible refine (impl_RangeHas.calls a0_0 a0_1 a1_1 true _ A39.out).mono ?_); rintro e w47 ⟨rfl, hb⟩; replace BK284 := sqb BK284 hb; replace BK285 := sqb BK285 hb; replace BK286 := sqb BK286 hb; replace HB := sqs HB hb; (try clear hb); obtain ⟨hcz48_0, hcz48_1, hfz48_0, hfz48_1⟩ := sqc2 BK285) | (go_at_call 97; (with_reducible refine (impl_valOne.calls a1_1 t295 t296 t297 t298 _ A41.out).mono ?_); rintro e w49 ⟨rfl, hb⟩; replace BK284 := sqb BK284 hb; replace BK285 := sqb BK285 hb; replace BK286 := sqb BK286 hb; replace HB := sqs HB hb; (try clear hb); obtain ⟨hcz50_0, hcz50_1, hcz50_2, hcz50_3, hfz50_0, hfz50_1, hfz50_2, hfz50_3⟩ := sqc4 BK286))
      repeat (go_quiet (first | (go_at_call 48; (with_reducible refine (impl_RangeHas.calls a0_0 a0_1 a1_1 true _ A39.out).mono ?_); rintro e w47 ⟨rfl, hb⟩; replace BK284 := sqb BK284 hb; replace BK285 := sqb BK285 hb; replace BK286 := sqb BK286 hb; replace HB := sqs HB hb; (try clear hb); obtain ⟨hcz48_0, hcz48_1, hfz48_0, hfz48_1⟩ := sqc2 BK285) | (go_at_call 97; (with_reducible refine (impl_valOne.calls a1_1 t295 t296 t297 t298 _ A41.out).mono ?_); rintro e w49 ⟨rfl, hb⟩; replace BK284 := sqb BK284 hb; replace BK285 := sqb BK285 hb; replace BK286 := sqb BK286 hb; replace HB := sqs HB hb; (try clear hb); obtain ⟨hcz50_0, hcz50_1, hcz50_2, hcz50_3, hfz50_0, hfz50_1, hfz50_2, hfz50_3⟩ := sqc4 BK286)); try go_wp2_with (first | (go_at_call 48; (with_reducible refine (impl_RangeHas.calls a0_0 a0_1 a1_1 true _ A39.out).mono ?_); rintro e w47 ⟨rfl, hb⟩; replace BK284 := sqb BK284 hb; replace BK285 := sqb BK285 hb; replace BK286 := sqb BK286 hb; replace HB := sqs HB hb; (try clear hb); obtain ⟨hcz48_0, hcz48_1, hfz48_0, hfz48_1⟩ := sqc2 BK285) | (go_at_call 97; (with_reducible refine (impl_valOne.calls a1_1 t295 t296 t297 t298 _ A41.out).mono ?_); rintro e w49 ⟨rfl, hb⟩; replace BK284 := sqb BK284 hb; replace BK285 := sqb BK285 hb; replace BK286 := sqb BK286 hb; replace HB := sqs HB hb; (try clear hb); obtain ⟨hcz50_0, hcz50_1, hcz50_2, hcz50_3, hfz50_0, hfz50_1, hfz50_2, hfz50_3⟩ := sqc4 BK286)))
      refine bodyPost_ret (results_cell_row rfl _ _ gb286 30 #[.int .i64 t295, .int .i64 t296, .int .i64 t297, .int .i64 t298] (0, 0) _ rfl (by refine sqt ?_; refine blk_put (cs := #[.int .i64 t295, .int .i64 t296, .int .i64 t297, .int .i64 0]) ?_ 3 _ rfl; refine sqt ?_; refine blk_put (cs := #[.int .i64 t295, .int .i64 t296, .int .i64 0, .int .i64 0]) ?_ 2 _ rfl; refine sqt ?_; refine blk_put (cs := #[.int .i64 t295, .int .i64 0, .int .i64 0, .int .i64 0]) ?_ 1 _ rfl; refine sqt ?_; refine blk_put (cs := #[.int .i64 0, .int .i64 0, .int .i64 0, .int .i64 0]) ?_ 0 _ rfl; refine sqt ?_; exact BK286.out) Try.underlying30 rfl (by kernel_rfl)) rfl ?_
      exact sqe HB
     ·replace c40 := Bool.eq_false_iff.mpr c40
      subst c40
      have H1 : ((impl_valNone.f).bind fun bt299 => (some (bt299.1, bt299.2.1, bt299.2.2.1, bt299.2.2.2))) = some (r1, r2, r3, r4) := by rw [if_neg (show ¬ (false = true) by decide)] at H; exact H
      clear H
      have H := H1
      clear H1
      replace H := Option.bind_eq_some_iff.mp H
      obtain ⟨⟨t299, t300, t301, t302⟩, A510, H⟩ := H
      replace H : (some (t299, t300, t301, t302)) = some (r1, r2, r3, r4) := H
      have A51 := Aside0.mk A510
      clear A510
      simp only [Option.some.injEq, Prod.mk.injEq] at H
      obtain ⟨rfl, rfl, rfl, rfl⟩ := H
      have hnb52 := NB285_284.out
      have hnc52 := NB284_285.out
      have hnb53 := NB285_286.out
      have hnc53 := NB286_285.out
      obtain ⟨hcz54_0, hcz54_1, hfz54_0, hfz54_1⟩ := sqc2 BK285
      have hnb55 := NB284_286.out
      have hnc55 := NB286_284.out
      obtain ⟨hcz56_0, hcz56_1, hfz56_0, hfz56_1⟩ := sqc2 BK284
      go_wp2_with (first | (go_at_call 48; (with_reducible refine (impl_RangeHas.calls a0_0 a0_1 a1_1 false _ A39.out).mono ?_); rintro e w57 ⟨rfl, hb⟩; replace BK284 := sqb BK284 hb; replace BK285 := sqb BK285 hb; replace BK286 := sqb BK286 hb; replace HB := sqs HB hb; (try clear hb)) | (go_at_call 96; (with_reducible refine (impl_valNone.calls  t299 t300 t301 t302 _ A51.out).mono ?_); rintro e w58 ⟨rfl, hb⟩; replace BK284 := sqb BK284 hb; replace BK285 := sqb BK285 hb; replace BK286 := sqb BK286 hb; replace HB := sqs HB hb; (try clear hb); obtain ⟨hcz59_0, hcz59_1, hcz59_2, hcz59_3, hfz59_0, hfz59_1, hfz59_2, hfz59_3⟩ := sqc4 BK286))
      repeat (go_quiet (first | (go_at_call 48; (with_reducible refine (impl_RangeHas.calls a0_0 a0_1 a1_1 false _ A39.out).mono ?_); rintro e w57 ⟨rfl, hb⟩; replace BK284 := sqb BK284 hb; replace BK285 := sqb BK285 hb; replace BK286 := sqb BK286 hb; replace HB := sqs HB hb; (try clear hb)) | (go_at_call 96; (with_reducible refine (impl_valNone.calls  t299 t300 t301 t302 _ A51.out).mono ?_); rintro e w58 ⟨rfl, hb⟩; replace BK284 := sqb BK284 hb; replace BK285 := sqb BK285 hb; replace BK286 := sqb BK286 hb; replace HB := sqs HB hb; (try clear hb); obtain ⟨hcz59_0, hcz59_1, hcz59_2, hcz59_3, hfz59_0, hfz59_1, hfz59_2, hfz59_3⟩ := sqc4 BK286)); try go_wp2_with (first | (go_at_call 48; (with_reducible refine (impl_RangeHas.calls a0_0 a0_1 a1_1 false _ A39.out).mono ?_); rintro e w57 ⟨rfl, hb⟩; replace BK284 := sqb BK284 hb; replace BK285 := sqb BK285 hb; replace BK286 := sqb BK286 hb; replace HB := sqs HB hb; (try clear hb)) | (go_at_call 96; (with_reducible refine (impl_valNone.calls  t299 t300 t301 t302 _ A51.out).mono ?_); rintro e w58 ⟨rfl, hb⟩; replace BK284 := sqb BK284 hb; replace BK285 := sqb BK285 hb; replace BK286 := sqb BK286 hb; replace HB := sqs HB hb; (try clear hb); obtain ⟨hcz59_0, hcz59_1, hcz59_2, hcz59_3, hfz59_0, hfz59_1, hfz59_2, hfz59_3⟩ := sqc4 BK286)))
      refine bodyPost_ret (results_cell_row rfl _ _ gb286 30 #[.int .i64 t299, .int .i64 t300, .int .i64 t301, .int .i64 t302] (0, 0) _ rfl (by refine sqt ?_; refine blk_put (cs := #[.int .i64 t299, .int .i64 t300, .int .i64 t301, .int .i64 0]) ?_ 3 _ rfl; refine sqt ?_; refine blk_put (cs := #[.int .i64 t299, .int .i64 t300, .int .i64 0, .int .i64 0]) ?_ 2 _ rfl; refine sqt ?_; refine blk_put (cs := #[.int .i64 t299, .int .i64 0, .int .i64 0, .int .i64 0]) ?_ 1 _ rfl; refine sqt ?_; refine blk_put (cs := #[.int .i64 0, .int .i64 0, .int .i64 0, .int .i64 0]) ?_ 0 _ rfl; refine sqt ?_; exact BK286.out) Try.underlying30 rfl (by kernel_rfl)) rfl ?_
      exact sqe HB
    ·rw [if_neg c38] at H
     have c38b0 : (a1_0 == 0) = false := beq_eq_false_iff_ne.mpr c38
     have c38b1 : (a1_0 != 0) = true := bne_iff_ne.mpr c38
     replace H := Option.bind_eq_some_iff.mp H
     obtain ⟨t303, A600, H⟩ := H
     replace H : ((impl_restMod.f (wrap64 (a0_1 - a1_1)) a1_0).bind fun t304 => (if (wrap64 (a0_0 + t303)) > (wrap64 (a0_1 - t304)) then ((impl_valNone.f).bind fun bt305 => (some (bt305.1, bt305.2.1, bt305.2.2.1, bt305.2.2.2))) else (if (wrap64 (a0_0 + t303)) = (wrap64 (a0_1 - t304)) then ((impl_valOne.f (wrap64 (a0_0 + t303))).bind fun bt309 => (some (bt309.1, bt309.2.1, bt309.2.2.1, bt309.2.2.2))) else (some (wrap64 (a0_0 + t303), wrap64 (a0_1 - t304), a1_0, a1_1))))) = some (r1, r2, r3, r4) := H
     have A60 := Aside0.mk A600
     clear A600
     replace H := Option.bind_eq_some_iff.mp H
     obtain ⟨t304, A610, H⟩ := H
     replace H : (if (wrap64 (a0_0 + t303)) > (wrap64 (a0_1 - t304)) then ((impl_valNone.f).bind fun bt305 => (some (bt305.1, bt305.2.1, bt305.2.2.1, bt305.2.2.2))) else (if (wrap64 (a0_0 + t303)) = (wrap64 (a0_1 - t304)) then ((impl_valOne.f (wrap64 (a0_0 + t303))).bind fun bt309 => (some (bt309.1, bt309.2.1, bt309.2.2.1, bt309.2.2.2))) else (some (wrap64 (a0_0 + t303), wrap64 (a0_1 - t304), a1_0, a1_1)))) = some (r1, r2, r3, r4) := H
     have A61 := Aside0.mk A610
     clear A610
     by_cases c62 : (wrap64 (a0_0 + t303)) > (wrap64 (a0_1 - t304))
     ·rw [if_pos c62] at H
      have c62b0 : decide ((wrap64 (a0_1 - t304)) < (wrap64 (a0_0 + t303))) = true := decide_eq_true c62
      clear c62
      replace H := Option.bind_eq_some_iff.mp H
      obtain ⟨⟨t305, t306, t307, t308⟩, A630, H⟩ := H
      replace H : (some (t305, t306, t307, t308)) = some (r1, r2, r3, r4) := H
      have A63 := Aside0.mk A630
      clear A630
      simp only [Option.some.injEq, Prod.mk.injEq] at H
      obtain ⟨rfl, rfl, rfl, rfl⟩ := H
      have hnb64 := NB285_284.out
      have hnc64 := NB284_285.out
      have hnb65 := NB285_286.out
      have hnc65 := NB286_285.out
      obtain ⟨hcz66_0, hcz66_1, hfz66_0, hfz66_1⟩ := sqc2 BK285
      have hnb67 := NB284_286.out
      have hnc67 := NB286_284.out
      obtain ⟨hcz68_0, hcz68_1, hfz68_0, hfz68_1⟩ := sqc2 BK284
      go_wp2_with (first | (go_at_call 98; (with_reducible refine (impl_restMod.calls (wrap64 (a1_1 - a0_0)) a1_0 t303 _ A60.out).mono ?_); rintro e w' ⟨rfl, ⟨nd, rfl⟩⟩; (try first | exact ⟨rfl, _, World.drewN_drewN _ _ _⟩ | exact ⟨rfl, _, Eq.trans (World.drewN_drewN _ _ _) (congrArg (World.drewN _) (Nat.add_assoc _ _ _))⟩)) | (go_at_call 98; (with_reducible refine (impl_restMod.calls (wrap64 (a0_1 - a1_1)) a1_0 t304 _ A61.out).mono ?_); rintro e w' ⟨rfl, ⟨nd, rfl⟩⟩; (try first | exact ⟨rfl, _, World.drewN_drewN _ _ _⟩ | exact ⟨rfl, _, Eq.trans (World.drewN_drewN _ _ _) (congrArg (World.drewN _) (Nat.add_assoc _ _ _))⟩)) | (go_at_call 96; (with_reducible refine (impl_valNone.calls  t305 t306 t307 t308 _ A63.out).mono ?_); rintro e w69 ⟨rfl, hb⟩; replace BK284 := sqb BK284 hb; replace BK285 := sqb BK285 hb; replace BK286 := sqb BK286 hb; replace HB := sqs HB hb; (try clear hb); obtain ⟨hcz70_0, hcz70_1, hcz70_2, hcz70_3, hfz70_0, hfz70_1, hfz70_2, hfz70_3⟩ := sqc4 BK286))
      repeat (go_quiet (first | (go_at_call 98; (with_reducible refine (impl_restMod.calls (wrap64 (a1_1 - a0_0)) a1_0 t303 _ A60.out).mono ?_); rintro e w' ⟨rfl, ⟨nd, rfl⟩⟩; (try first | exact ⟨rfl, _, World.drewN_drewN _ _ _⟩ | exact ⟨rfl, _, Eq.trans (World.drewN_drewN _ _ _) (congrArg (World.drewN _) (Nat.add_assoc _ _ _))⟩)) | (go_at_call 98; (with_reducible refine (impl_restMod.calls (wrap64 (a0_1 - a1_1)) a1_0 t304 _ A61.out).mono ?_); rintro e w' ⟨rfl, ⟨nd, rfl⟩⟩; (try first | exact ⟨rfl, _, World.drewN_drewN _ _ _⟩ | exact ⟨rfl, _, Eq.trans (World.drewN_drewN _ _ _) (congrArg (World.drewN _) (Nat.add_assoc _ _ _))⟩)) | (go_at_call 96; (with_reducible refine (impl_valNone.calls  t305 t306 t307 t308 _ A63.out).mono ?_); rintro e w69 ⟨rfl, hb⟩; replace BK284 := sqb BK284 hb; replace BK285 := sqb BK285 hb; replace BK286 := sqb BK286 hb; replace HB := sqs HB hb; (try clear hb); obtain ⟨hcz70_0, hcz70_1, hcz70_2, hcz70_3, hfz70_0, hfz70_1, hfz70_2, hfz70_3⟩ := sqc4 BK286)); try go_wp2_with (first | (go_at_call 98; (with_reducible refine (impl_restMod.calls (wrap64 (a1_1 - a0_0)) a1_0 t303 _ A60.out).mono ?_); rintro e w' ⟨rfl, ⟨nd, rfl⟩⟩; (try first | exact ⟨rfl, _, World.drewN_drewN _ _ _⟩ | exact ⟨rfl, _, Eq.trans (World.drewN_drewN _ _ _) (congrArg (World.drewN _) (Nat.add_assoc _ _ _))⟩)) | (go_at_call 98; (with_reducible refine (impl_restMod.calls (wrap64 (a0_1 - a1_1)) a1_0 t304 _ A61.out).mono ?_); rintro e w' ⟨rfl, ⟨nd, rfl⟩⟩; (try first | exact ⟨rfl, _, World.drewN_drewN _ _ _⟩ | exact ⟨rfl, _, Eq.trans (World.drewN_drewN _ _ _) (congrArg (World.drewN _) (Nat.add_assoc _ _ _))⟩)) | (go_at_call 96; (with_reducible refine (impl_valNone.calls  t305 t306 t307 t308 _ A63.out).mono ?_); rintro e w69 ⟨rfl, hb⟩; replace BK284 := sqb BK284 hb; replace BK285 := sqb BK285 hb; replace BK286 := sqb BK286 hb; replace HB := sqs HB hb; (try clear hb); obtain ⟨hcz70_0, hcz70_1, hcz70_2, hcz70_3, hfz70_0, hfz70_1, hfz70_2, hfz70_3⟩ := sqc4 BK286)))
      refine bodyPost_ret (results_cell_row rfl _ _ gb286 30 #[.int .i64 t305, .int .i64 t306, .int .i64 t307, .int .i64 t308] (0, 0) _ rfl (by refine sqt ?_; refine blk_put (cs := #[.int .i64 t305, .int .i64 t306, .int .i64 t307, .int .i64 0]) ?_ 3 _ rfl; refine sqt ?_; refine blk_put (cs := #[.int .i64 t305, .int .i64 t306, .int .i64 0, .int .i64 0]) ?_ 2 _ rfl; refine sqt ?_; refine blk_put (cs := #[.int .i64 t305, .int .i64 0, .int .i64 0, .int .i64 0]) ?_ 1 _ rfl; refine sqt ?_; refine blk_put (cs := #[.int .i64 0, .int .i64 0, .int .i64 0, .int .i64 0]) ?_ 0 _ rfl; refine sqt ?_; exact BK286.out) Try.underlying30 rfl (by kernel_rfl)) rfl ?_
      exact sqe HB
     ·rw [if_neg c62] at H
      have c62b0 : decide ((wrap64 (a0_1 - t304)) < (wrap64 (a0_0 + t303))) = false := decide_eq_false c62
      clear c62
      by_cases c71 : (wrap64 (a0_0 + t303)) = (wrap64 (a0_1 - t304))
      ·rw [if_pos c71] at H
       have c71b0 : ((wrap64 (a0_0 + t303)) == (wrap64 (a0_1 - t304))) = true := beq_iff_eq.mpr c71
       have c71b1 : ((wrap64 (a0_0 + t303)) != (wrap64 (a0_1 - t304))) = false := bne_eq_false_iff_eq.mpr c71
       clear c71
       replace H := Option.bind_eq_some_iff.mp H
       obtain ⟨⟨t309, t310, t311, t312⟩, A720, H⟩ := H
       replace H : (some (t309, t310, t311, t312)) = some (r1, r2, r3, r4) := H
       have A72 := Aside0.mk A720
       clear A720
       simp only [Option.some.injEq, Prod.mk.injEq] at H
       obtain ⟨rfl, rfl, rfl, rfl⟩ := H
       have hnb73 := NB285_284.out
       have hnc73 := NB284_285.out
       have hnb74 := NB285_286.out
       have hnc74 := NB286_285.out
       obtain ⟨hcz75_0, hcz75_1, hfz75_0, hfz75_1⟩ := sqc2 BK285
       have hnb76 := NB284_286.out
       have hnc76 := NB286_284.out
       obtain ⟨hcz77_0, hcz77_1, hfz77_0, hfz77_1⟩ := sqc2 BK284
       go_wp2_with (first | (go_at_call 98; (with_reducible refine (impl_restMod.calls (wrap64 (a1_1 - a0_0)) a1_0 t303 _ A60.out).mono ?_); rintro e w' ⟨rfl, ⟨nd, rfl⟩⟩; (try first | exact ⟨rfl, _, World.drewN_drewN _ _ _⟩ | exact ⟨rfl, _, Eq.trans (World.drewN_drewN _ _ _) (congrArg (World.drewN _) (Nat.add_assoc _ _ _))⟩)) | (go_at_call 98; (with_reducible refine (impl_restMod.calls (wrap64 (a0_1 - a1_1)) a1_0 t304 _ A61.out).mono ?_); rintro e w' ⟨rfl, ⟨nd, rfl⟩⟩; (try first | exact ⟨rfl, _, World.drewN_drewN _ _ _⟩ | exact ⟨rfl, _, Eq.trans (World.drewN_drewN _ _ _) (congrArg (World.drewN _) (Nat.add_assoc _ _ _))⟩)) | (go_at_call 97; (with_reducible refine (impl_valOne.calls (wrap64 (a0_0 + t303)) t309 t310 t311 t312 _ A72.out).mono ?_); rintro e w78 ⟨rfl, hb⟩; replace BK284 := sqb BK284 hb; replace BK285 := sqb BK285 hb; replace BK286 := sqb BK286 hb; replace HB := sqs HB hb; (try clear hb); obtain ⟨hcz79_0, hcz79_1, hcz79_2, hcz79_3, hfz79_0, hfz79_1, hfz79_2, hfz79_3⟩ := sqc4 BK286))
       repeat (go_quiet (first | (go_at_call 98; (with_reducible refine (impl_restMod.calls (wrap64 (a1_1 - a0_0)) a1_0 t303 _ A60.out).mono ?_); rintro e w' ⟨rfl, ⟨nd, rfl⟩⟩; (try first | exact ⟨rfl, _, World.drewN_drewN _ _ _⟩ | exact ⟨rfl, _, Eq.trans (World.drewN_drewN _ _ _) (congrArg (World.drewN _) (Nat.add_assoc _ _ _))⟩)) | (go_at_call 98; (with_reducible refine (impl_restMod.calls (wrap64 (a0_1 - a1_1)) a1_0 t304 _ A61.out).mono ?_); rintro e w' ⟨rfl, ⟨nd, rfl⟩⟩; (try first | exact ⟨rfl, _, World.drewN_drewN _ _ _⟩ | exact ⟨rfl, _, Eq.trans (World.drewN_drewN _ _ _) (congrArg (World.drewN _) (Nat.add_assoc _ _ _))⟩)) | (go_at_call 97; (with_reducible refine (impl_valOne.calls (wrap64 (a0_0 + t303)) t309 t310 t311 t312 _ A72.out).mono ?_); rintro e w78 ⟨rfl, hb⟩; replace BK284 := sqb BK284 hb; replace BK285 := sqb BK285 hb; replace BK286 := sqb BK286 hb; replace HB := sqs HB hb; (try clear hb); obtain ⟨hcz79_0, hcz79_1, hcz79_2, hcz79_3, hfz79_0, hfz79_1, hfz79_2, hfz79_3⟩ := sqc4 BK286)); try go_wp2_with (first | (go_at_call 98; (with_reducible refine (impl_restMod.calls (wrap64 (a1_1 - a0_0)) a1_0 t303 _ A60.out).mono ?_); rintro e w' ⟨rfl, ⟨nd, rfl⟩⟩; (try first | exact ⟨rfl, _, World.drewN_drewN _ _ _⟩ | exact ⟨rfl, _, Eq.trans (World.drewN_drewN _ _ _) (congrArg (World.drewN _) (Nat.add_assoc _ _ _))⟩)) | (go_at_call 98; (with_reducible refine (impl_restMod.calls (wrap64 (a0_1 - a1_1)) a1_0 t304 _ A61.out).mono ?_); rintro e w' ⟨rfl, ⟨nd, rfl⟩⟩; (try first | exact ⟨rfl, _, World.drewN_drewN _ _ _⟩ | exact ⟨rfl, _, Eq.trans (World.drewN_drewN _ _ _) (congrArg (World.drewN _) (Nat.add_assoc _ _ _))⟩)) | (go_at_call 97; (with_reducible refine (impl_valOne.calls (wrap64 (a0_0 + t303)) t309 t310 t311 t312 _ A72.out).mono ?_); rintro e w78 ⟨rfl, hb⟩; replace BK284 := sqb BK284 hb; replace BK285 := sqb BK285 hb; replace BK286 := sqb BK286 hb; replace HB := sqs HB hb; (try clear hb); obtain ⟨hcz79_0, hcz79_1, hcz79_2, hcz79_3, hfz79_0, hfz79_1, hfz79_2, hfz79_3⟩ := sqc4 BK286)))
       refine bodyPost_ret (results_cell_row rfl _ _ gb286 30 #[.int .i64 t309, .int .i64 t310, .int .i64 t311, .int .i64 t312] (0, 0) _ rfl (by refine sqt ?_; refine blk_put (cs := #[.int .i64 t309, .int .i64 t310, .int .i64 t311, .int .i64 0]) ?_ 3 _ rfl; refine sqt ?_; refine blk_put (cs := #[.int .i64 t309, .int .i64 t310, .int .i64 0, .int .i64 0]) ?_ 2 _ rfl; refine sqt ?_; refine blk_put (cs := #[.int .i64 t309, .int .i64 0, .int .i64 0, .int .i64 0]) ?_ 1 _ rfl; refine sqt ?_; refine blk_put (cs := #[.int .i64 0, .int .i64 0, .int .i64 0, .int .i64 0]) ?_ 0 _ rfl; refine sqt ?_; exact BK286.out) Try.underlying30 rfl (by kernel_rfl)) rfl ?_
       exact sqe HB
      ·rw [if_neg c71] at H
       have c71b0 : ((wrap64 (a0_0 + t303)) == (wrap64 (a0_1 - t304))) = false := beq_eq_false_iff_ne.mpr c71
       have c71b1 : ((wrap64 (a0_0 + t303)) != (wrap64 (a0_1 - t304))) = true := bne_iff_ne.mpr c71
       simp only [Option.some.injEq, Prod.mk.injEq] at H
       obtain ⟨rfl, rfl, rfl, rfl⟩ := H
       have hnb80 := NB285_284.out
       have hnc80 := NB284_285.out
       have hnb81 := NB285_286.out
       have hnc81 := NB286_285.out
       obtain ⟨hcz82_0, hcz82_1, hfz82_0, hfz82_1⟩ := sqc2 BK285
       have hnb83 := NB284_286.out
       have hnc83 := NB286_284.out
       obtain ⟨hcz84_0, hcz84_1, hfz84_0, hfz84_1⟩ := sqc2 BK284
       obtain ⟨hcz85_0, hcz85_1, hcz85_2, hcz85_3, hfz85_0, hfz85_1, hfz85_2, hfz85_3⟩ := sqc4 BK286
       go_wp2_with (first | (go_at_call 98; (with_reducible refine (impl_restMod.calls (wrap64 (a1_1 - a0_0)) a1_0 t303 _ A60.out).mono ?_); rintro e w' ⟨rfl, ⟨nd, rfl⟩⟩; (try first | exact ⟨rfl, _, World.drewN_drewN _ _ _⟩ | exact ⟨rfl, _, Eq.trans (World.drewN_drewN _ _ _) (congrArg (World.drewN _) (Nat.add_assoc _ _ _))⟩)) | (go_at_call 98; (with_reducible refine (impl_restMod.calls (wrap64 (a0_1 - a1_1)) a1_0 t304 _ A61.out).mono ?_); rintro e w' ⟨rfl, ⟨nd, rfl⟩⟩; (try first | exact ⟨rfl, _, World.drewN_drewN _ _ _⟩ | exact ⟨rfl, _, Eq.trans (World.drewN_drewN _ _ _) (congrArg (World.drewN _) (Nat.add_assoc _ _ _))⟩); (try (obtain ⟨hcz85_0, hcz85_1, hcz85_2, hcz85_3, hfz85_0, hfz85_1, hfz85_2, hfz85_3⟩ := sqc4 BK286))))
       repeat (go_quiet (first | (go_at_call 98; (with_reducible refine (impl_restMod.calls (wrap64 (a1_1 - a0_0)) a1_0 t303 _ A60.out).mono ?_); rintro e w' ⟨rfl, ⟨nd, rfl⟩⟩; (try first | exact ⟨rfl, _, World.drewN_drewN _ _ _⟩ | exact ⟨rfl, _, Eq.trans (World.drewN_drewN _ _ _) (congrArg (World.drewN _) (Nat.add_assoc _ _ _))⟩)) | (go_at_call 98; (with_reducible refine (impl_restMod.calls (wrap64 (a0_1 - a1_1)) a1_0 t304 _ A61.out).mono ?_); rintro e w' ⟨rfl, ⟨nd, rfl⟩⟩; (try first | exact ⟨rfl, _, World.drewN_drewN _ _ _⟩ | exact ⟨rfl, _, Eq.trans (World.drewN_drewN _ _ _) (congrArg (World.drewN _) (Nat.add_assoc _ _ _))⟩); (try (obtain ⟨hcz85_0, hcz85_1, hcz85_2, hcz85_3, hfz85_0, hfz85_1, hfz85_2, hfz85_3⟩ := sqc4 BK286)))); try go_wp2_with (first | (go_at_call 98; (with_reducible refine (impl_restMod.calls (wrap64 (a1_1 - a0_0)) a1_0 t303 _ A60.out).mono ?_); rintro e w' ⟨rfl, ⟨nd, rfl⟩⟩; (try first | exact ⟨rfl, _, World.drewN_drewN _ _ _⟩ | exact ⟨rfl, _, Eq.trans (World.drewN_drewN _ _ _) (congrArg (World.drewN _) (Nat.add_assoc _ _ _))⟩)) | (go_at_call 98; (with_reducible refine (impl_restMod.calls (wrap64 (a0_1 - a1_1)) a1_0 t304 _ A61.out).mono ?_); rintro e w' ⟨rfl, ⟨nd, rfl⟩⟩; (try first | exact ⟨rfl, _, World.drewN_drewN _ _ _⟩ | exact ⟨rfl, _, Eq.trans (World.drewN_drewN _ _ _) (congrArg (World.drewN _) (Nat.add_assoc _ _ _))⟩); (try (obtain ⟨hcz85_0, hcz85_1, hcz85_2, hcz85_3, hfz85_0, hfz85_1, hfz85_2, hfz85_3⟩ := sqc4 BK286)))))
       refine bodyPost_ret (results_cell_row rfl _ _ gb286 30 #[.int .i64 (wrap64 (a0_0 + t303)), .int .i64 (wrap64 (a0_1 - t304)), .int .i64 a1_0, .int .i64 a1_1] (0, 0) _ rfl (by refine sqt ?_; refine blk_put (cs := #[.int .i64 (wrap64 (a0_0 + t303)), .int .i64 (wrap64 (a0_1 - t304)), .int .i64 a1_0, .int .i64 0]) ?_ 3 _ rfl; refine sqt ?_; refine blk_put (cs := #[.int .i64 (wrap64 (a0_0 + t303)), .int .i64 (wrap64 (a0_1 - t304)), .int .i64 0, .int .i64 0]) ?_ 2 _ rfl; refine sqt ?_; refine blk_put (cs := #[.int .i64 (wrap64 (a0_0 + t303)), .int .i64 0, .int .i64 0, .int .i64 0]) ?_ 1 _ rfl; refine sqt ?_; refine blk_put (cs := #[.int .i64 0, .int .i64 0, .int .i64 0, .int .i64 0]) ?_ 0 _ rfl; refine sqt ?_; exact BK286.out) Try.underlying30 rfl (by kernel_rfl)) rfl ?_
       exact sqe HB

/-! ### impl_Val_span: function 103 -/
set_option maxHeartbeats 8000000 in
set_option maxRecDepth 100000 in
theorem impl_Val_span.calls (a0_0 : Int) (a0_1 : Int) (a0_2 : Int) (a0_3 : Int) (r1 : Int) (r2 : Int) (w : World) (h : impl_Val_span.f a0_0 a0_1 a0_2 a0_3 = some (r1, r2)) :
  Calls Try.prog 103 #[.agg #[.int .i64 a0_0, .int .i64 a0_1, .int .i64 a0_2, .int .i64 a0_3]] w fun e w' => e = .returned (.agg #[.int .i64 r1, .int .i64 r2]) ∧ Below w.heap.size w w' := by
 have hu30 := Try.underlying30
 have hu24 := Try.underlying24
 have HB := Aside0.mk (Below.refl w.heap.size w)
 have H : (some (a0_0, a0_1)) = some (r1, r2) := h
 clear h
 simp only [Option.some.injEq, Prod.mk.injEq] at H
 obtain ⟨rfl, rfl⟩ := H
 go_enter Try.func103, Try.ntmps103
 go_wp2_with (first | ((with_reducible refine gate_dst (N := 1) rfl ?_); refine sqx 1 #[.int .i64 a0_0, .int .i64 a0_1, .int .i64 a0_2, .int .i64 a0_3] 30 ?_; intro gb313 hg w2 hbox hb; have BK313 := Aside0.mk (hbox); have GW313 := sqg HB hg; have GE313 := sqg HB hg; replace HB := sqs HB hb; clear hb hbox hg) | ((with_reducible refine gate_dst (N := 2) rfl ?_); refine sqx 2 #[.int .i64 0, .int .i64 0] 24 ?_; intro gb314 hg w3 hbox hb; have BK314 := Aside0.mk (hbox); have GW314 := sqg HB hg; have GE314 := sqg HB hg; have NB313_314 := sqn BK313 hg; have NB314_313 := sqm BK313 hg; replace BK313 := sqb BK313 hb; replace HB := sqs HB hb; clear hb hbox hg; have hnb4 := NB313_314.out; have hnc4 := NB314_313.out; obtain ⟨hcz5_0, hcz5_1, hcz5_2, hcz5_3, hfz5_0, hfz5_1, hfz5_2, hfz5_3⟩ := sqc4 BK313; obtain ⟨hcz6_0, hcz6_1, hfz6_0, hfz6_1⟩ := sqc2 BK314))
 refine bodyPost_ret (results_cell_row rfl _ _ gb314 24 #[.int .i64 a0_0, .int .i64 a0_1] (0, 0) _ rfl (by refine sqt ?_; refine blk_put (cs := #[.int .i64 a0_0, .int .i64 0]) ?_ 1 _ rfl; refine sqt ?_; refine blk_put (cs := #[.int .i64 0, .int .i64 0]) ?_ 0 _ rfl; refine sqt ?_; exact BK314.out) Try.underlying24 rfl (by kernel_rfl)) rfl ?_
 exact sqe HB

/-! ### impl_Val_rest: function 104 -/
set_option maxHeartbeats 8000000 in
set_option maxRecDepth 100000 in
theorem impl_Val_rest.calls (a0_0 : Int) (a0_1 : Int) (a0_2 : Int) (a0_3 : Int) (r1 : Int) (r2 : Int) (w : World) (h : impl_Val_rest.f a0_0 a0_1 a0_2 a0_3 = some (r1, r2)) :
  Calls Try.prog 104 #[.agg #[.int .i64 a0_0, .int .i64 a0_1, .int .i64 a0_2, .int .i64 a0_3]] w fun e w' => e = .returned (.agg #[.int .i64 r1, .int .i64 r2]) ∧ Below w.heap.size w w' := by
 have hu30 := Try.underlying30
 have hu26 := Try.underlying26
 have HB := Aside0.mk (Below.refl w.heap.size w)
 have H : (some (a0_2, a0_3)) = some (r1, r2) := h
 clear h
 simp only [Option.some.injEq, Prod.mk.injEq] at H
 obtain ⟨rfl, rfl⟩ := H
 go_enter Try.func104, Try.ntmps104
 go_wp2_with (first | ((with_reducible refine gate_dst (N := 1) rfl ?_); refine sqx 1 #[.int .i64 a0_0, .int .i64 a0_1, .int .i64 a0_2, .int .i64 a0_3] 30 ?_; intro gb315 hg w2 hbox hb; have BK315 := Aside0.mk (hbox); have GW315 := sqg HB hg; have GE315 := sqg HB hg; replace HB := sqs HB hb; clear hb hbox hg) | ((with_reducible refine gate_dst (N := 2) rfl ?_); refine sqx 2 #[.int .i64 0, .int .i64 0] 26 ?_; intro gb316 hg w3 hbox hb; have BK316 := Aside0.mk (hbox); have GW316 := sqg HB hg; have GE316 := sqg HB hg; have NB315_316 := sqn BK315 hg; have NB316_315 := sqm BK315 hg; replace BK315 := sqb BK315 hb; replace HB := sqs HB hb; clear hb hbox hg; have hnb4 := NB315_316.out; have hnc4 := NB316_315.out; obtain ⟨hcz5_0, hcz5_1, hcz5_2, hcz5_3, hfz5_0, hfz5_1, hfz5_2, hfz5_3⟩ := sqc4 BK315; obtain ⟨hcz6_0, hcz6_1, hfz6_0, hfz6_1⟩ := sqc2 BK316))
 refine bodyPost_ret (results_cell_row rfl _ _ gb316 26 #[.int .i64 a0_2, .int .i64 a0_3] (0, 0) _ rfl (by refine sqt ?_; refine blk_put (cs := #[.int .i64 a0_2, .int .i64 0]) ?_ 1 _ rfl; refine sqt ?_; refine blk_put (cs := #[.int .i64 0, .int .i64 0]) ?_ 0 _ rfl; refine sqt ?_; exact BK316.out) Try.underlying26 rfl (by kernel_rfl)) rfl ?_
 exact sqe HB

/-! ### impl_ValOk: function 18 -/
theorem impl_ValOk.mono : ∀ a0 a1 a2 a3 k, LeO (impl_ValOk.f k a0 a1 a2 a3) (impl_ValOk.f (k + 1) a0 a1 a2 a3) := by
 intro a0 a1 a2 a3 k
 unfold impl_ValOk.f
 repeat' first
   | (with_reducible exact impl_ValMake.mono _ _ _ _ _)
   | (with_reducible exact LeO.refl _)
   | (with_reducible exact LeO.none _)
   | (with_reducible refine LeO.ite ?_ ?_)
   | (with_reducible refine LeO.bind ?_ (fun _ => ?_))
   | exact impl_ValMake.mono _ _ _ _ _
   | exact LeO.none _
   | refine LeO.ite ?_ ?_
   | refine LeO.bind ?_ (fun _ => ?_)
def impl_ValOk.T1 : Bool × List (List Nat × List Nat) := (true, [([], []), ([], []), ([1], [1]), ([], []), ([3, 2], [3]), ([2, 4, 4], [2, 4]), ([0, 5], [0, 5]), ([6, 5, 0, 1, 2, 3, 4, 5, 6], [6])])
def impl_ValOk.B1 : List Nat := [0, 0, 2, 0, 14, 30, 63, 127]
theorem impl_ValOk.tab1 : rtab .any (opsOf Try.f18 1) = impl_ValOk.T1 := by kernel_rfl
theorem impl_ValOk.bits1 : waitsOk impl_ValOk.T1.2 impl_ValOk.B1 = true := by kernel_rfl
set_option maxHeartbeats 8000000 in
set_option maxRecDepth 100000 in
theorem impl_ValOk.calls (k : Nat) (a0_0 : Int) (a0_1 : Int) (a0_2 : Int) (a0_3 : Int) (r : Bool) (w : World) (h : impl_ValOk.f k a0_0 a0_1 a0_2 a0_3 = some r) :
  Calls Try.prog 18 #[.agg #[.int .i64 a0_0, .int .i64 a0_1, .int .i64 a0_2, .int .i64 a0_3]] w fun e w' => e = .returned (.bool r) ∧ Below w.heap.size w w' := by
 have hu30 := Try.underlying30
 have HB := Aside0.mk (Below.refl w.heap.size w)
 have H : ((impl_Val_span.f a0_0 a0_1 a0_2 a0_3).bind fun bt318 => ((impl_Val_rest.f a0_0 a0_1 a0_2 a0_3).bind fun bt320 => ((impl_ValMake.f k bt318.1 bt318.2 bt320.1 bt320.2).bind fun bt322 => (some (a0_0 == bt322.1 && (a0_1 == bt322.2.1 && (a0_2 == bt322.2.2.1 && (a0_3 == bt322.2.2.2)))))))) = some r := h
 clear h
 replace H := Option.bind_eq_some_iff.mp H
 obtain ⟨⟨t318, t319⟩, A20, H⟩ := H
 replace H : ((impl_Val_rest.f a0_0 a0_1 a0_2 a0_3).bind fun bt320 => ((impl_ValMake.f k t318 t319 bt320.1 bt320.2).bind fun bt322 => (some (a0_0 == bt322.1 && (a0_1 == bt322.2.1 && (a0_2 == bt322.2.2.1 && (a0_3 == bt322.2.2.2))))))) = some r := H
 have A2 := Aside0.mk A20
 clear A20
 replace H := Option.bind_eq_some_iff.mp H
 obtain ⟨⟨t320, t321⟩, A30, H⟩ := H
 replace H : ((impl_ValMake.f k t318 t319 t320 t321).bind fun bt322 => (some (a0_0 == bt322.1 && (a0_1 == bt322.2.1 && (a0_2 == bt322.2.2.1 && (a0_3 == bt322.2.2.2)))))) = some r := H
 have A3 := Aside0.mk A30
 clear A30
 replace H := Option.bind_eq_some_iff.mp H
 obtain ⟨⟨t322, t323, t324, t325⟩, A40, H⟩ := H
 replace H : (some (a0_0 == t322 && (a0_1 == t323 && (a0_2 == t324 && (a0_3 == t325))))) = some r := H
 have A4 := Aside0.mk A40
 clear A40
 obtain rfl := Option.some.inj H
 go_enter Try.func18, Try.ntmps18
 try go_wp2_with (first | ((with_reducible refine gate_dst (N := 1) rfl ?_); refine sqx 1 #[.int .i64 a0_0, .int .i64 a0_1, .int .i64 a0_2, .int .i64 a0_3] 30 ?_; intro gb317 hg w5 hbox hb; have BK317 := Aside0.mk (hbox); have GW317 := sqg HB hg; have GE317 := sqg HB hg; replace HB := sqs HB hb; clear hb hbox hg))
 replace BK317 := Aside0.mk (blk_drew BK317.out)
 replace HB := Aside0.mk (below_drew1 HB.out)
 refine start_ (n := 8) (S := fun w' => w'.cell? ⟨gb317, 0, none⟩ = some (.int .i64 a0_0) ∧ w'.cell? ⟨gb317, 1, none⟩ = some (.int .i64 a0_1) ∧ w'.cell? ⟨gb317, 2, none⟩ = some (.int .i64 a0_2) ∧ w'.cell? ⟨gb317, 3, none⟩ = some (.int .i64 a0_3)) (ds := []) #[false, false, false, false, false, false, false, false] (by kernel_rfl) rfl rfl ⟨(blk_cell BK317.out 0).trans rfl, (blk_cell BK317.out 1).trans rfl, (blk_cell BK317.out 2).trans rfl, (blk_cell BK317.out 3).trans rfl⟩ (fun hHeld => ?_); refine with_tabW impl_ValOk.tab1 impl_ValOk.bits1 (fun HT_ HW_ => ?_)
 generalize w5.drew = w6 at BK317 HB hHeld ⊢
 refine sqw HT_ HW_ 0 3 hHeld ?_
 refine sqw HT_ HW_ 1 4 hHeld ?_
 refine sqw HT_ HW_ 3 6 hHeld ?_
 refine sqo HT_ 2 5 (fun K hK => ?_)
 refine sqG Try.func103 #[.agg #[.int .i64 a0_0, .int .i64 a0_1, .int .i64 a0_2, .int .i64 a0_3]] ?_
 with_reducible refine (impl_Val_span.calls a0_0 a0_1 a0_2 a0_3 t318 t319 _ A2.out).mono ?_
 rintro e w7 ⟨rfl, hb⟩
 refine ⟨_, rfl, ?_⟩
 replace BK317 := sqb BK317 hb
 replace HB := sqs HB hb
 (try clear hb)
 refine hK.out _ _ sqz (fun hHeld => ?_)
 clear hK K
 refine sqnm ?_
 refine sqo HT_ 4 7 (fun K hK => ?_)
 refine sqG Try.func104 #[.agg #[.int .i64 a0_0, .int .i64 a0_1, .int .i64 a0_2, .int .i64 a0_3]] ?_
 with_reducible refine (impl_Val_rest.calls a0_0 a0_1 a0_2 a0_3 t320 t321 _ A3.out).mono ?_
 rintro e w8 ⟨rfl, hb⟩
 refine ⟨_, rfl, ?_⟩
 replace BK317 := sqb BK317 hb
 replace HB := sqs HB hb
 (try clear hb)
 refine hK.out _ _ sqz (fun hHeld => ?_)
 clear hK K
 refine sqnm ?_
 refine sqo HT_ 5 8 (fun K hK => ?_)
 refine sqG Try.func16 #[.agg #[.int .i64 t318, .int .i64 t319], .agg #[.int .i64 t320, .int .i64 t321]] ?_
 with_reducible refine (impl_ValMake.calls k t318 t319 t320 t321 t322 t323 t324 t325 _ A4.out).mono ?_
 rintro e w9 ⟨rfl, hb⟩
 refine ⟨_, rfl, ?_⟩
 replace BK317 := sqb BK317 hb
 replace HB := sqs HB hb
 (try clear hb)
 refine hK.out _ _ sqz (fun hHeld => ?_)
 clear hK K
 refine sqnm ?_
 refine sqp HT_ 6 9 ?_
 refine sqp HT_ 7 2 ?_
 refine done_ (done_of HT_.out (by kernel_rfl)) ?_
 try go_wp2
 go_ret
 exact sqe HB

/-! ### impl_Gaps_at: function 118 -/
set_option maxHeartbeats 8000000 in
set_option maxRecDepth 100000 in
theorem impl_Gaps_at.calls (a0_0 : Int) (A0_1 : Option Addr) (c0_1 : Nat) (l0_1 : List Int) (a1 : Int) (a2 : Int) (r : Int) (w : World) (hr0_1 : Kd.C (Kd.int .i64) w A0_1 l0_1.length l0_1) (hc0_1 : l0_1.length ≤ c0_1) (h : impl_Gaps_at.f a0_0 l0_1 a1 a2 = some r) :
  Calls Try.prog 118 #[.agg #[.int .i64 a0_0, .slice A0_1 l0_1.length c0_1], .int .i64 a1, .int .i64 a2] w fun e w' => e = .returned (.int .i64 r) ∧ Below w.heap.size w w' := by
 have hu41 := Try.underlying41
 have HR0_1 := Aside0.mk hr0_1
 have HC0_1 := Aside0.mk hc0_1
 clear hr0_1 hc0_1
 have HB := Aside0.mk (Below.refl w.heap.size w)
 have H : (some (wrap64 ((wrap64 (a1 * (wrap64 (a0_0 + 1)))) + a2))) = some r := h
 clear h
 obtain rfl := Option.some.inj H
 go_enter Try.func118, Try.ntmps118
 go_wp2_with (first | ((with_reducible refine gate_dst (N := 3) rfl ?_); refine sqx 3 #[.int .i64 a0_0, .slice A0_1 l0_1.length c0_1] 41 ?_; intro gb326 hg w4 hbox hb; have BK326 := Aside0.mk (hbox); have GW326 := sqg HB hg; have GE326 := sqg HB hg; replace HB := sqs HB hb; clear hb hbox hg; obtain ⟨hcz5_0, hcz5_1, hfz5_0, hfz5_1⟩ := sqc2 BK326))
 go_ret
 exact sqe HB

end Go.Proofs.Ytkekcenlleebeaa.PFnExactAbsOk
