/- Functions of the program as plain Lean functions, and that calls of them come to what these tell. Conditions: those in each law. -/
import Derived.Test.YtkekcenlleebeaaSq
import Derived.Test.YtkekcenlleebeaaDFnRangeCmp
import Derived.Test.YtkekcenlleebeaaQFnRangeCmpx0
import Derived.Test.YtkekcenlleebeaaQFnRangeCmpx5
namespace Go.Proofs.Ytkekcenlleebeaa.PFnRangeCmp
open Go.RowKit Go.Proofs.Ytkekcenlleebeaa.Sq Go.Proofs.YtkekcenlleebeaaW.PrintWords Go.Proofs.YtkekcenlleebeaaW.PrintLast Go.Proofs.YtkekcenlleebeaaW.PrintMore
attribute [local go_sem] max2_int min2_int max_two min_two max_three min_three max_four min_four   -- for this text's walks alone
set_option linter.unusedVariables false
set_option linter.unusedSimpArgs false

/-! ### spec_l8Ne: function 132 -/
set_option maxHeartbeats 8000000 in
set_option maxRecDepth 100000 in
theorem spec_l8Ne.calls (a0_0 : Int) (a0_1 : Int) (a1_0 : Int) (a1_1 : Int) (r1 : Int) (r2 : Int) (w : World) (h : spec_l8Ne.f a0_0 a0_1 a1_0 a1_1 = some (r1, r2)) :
    Calls Try.prog 132 #[.agg #[.int .i64 a0_0, .int .i64 a0_1], .agg #[.int .i64 a1_0, .int .i64 a1_1]] w fun e w' => e = .returned (.agg #[.int .i64 r1, .int .i64 r2]) ∧ Below w.heap.size w w' := by
  have hu24 := Try.underlying24
  have HB := Aside0.mk (Below.refl w.heap.size w)
  have H : (if a1_0 = a1_1 then (if a0_0 = a1_0 then ((spec_l8Cut.f (wrap64 (a0_0 + 1)) a0_1).bind fun bt333 => (some (bt333.1, bt333.2))) else (if a0_1 = a1_0 then ((spec_l8Cut.f a0_0 (wrap64 (a0_1 - 1))).bind fun bt335 => (some (bt335.1, bt335.2))) else (some (a0_0, a0_1)))) else (some (a0_0, a0_1))) = some (r1, r2) := h
  clear h
  by_cases c3 : a1_0 = a1_1
  · rw [if_pos c3] at H
    have c3b0 : (a1_0 == a1_1) = true := beq_iff_eq.mpr c3
    have c3b1 : (a1_0 != a1_1) = false := bne_eq_false_iff_eq.mpr c3
    clear c3
    by_cases c4 : a0_0 = a1_0
    · rw [if_pos c4] at H
      have c4b0 : (a0_0 == a1_0) = true := beq_iff_eq.mpr c4
      have c4b1 : (a0_0 != a1_0) = false := bne_eq_false_iff_eq.mpr c4
      clear c4
      replace H := Option.bind_eq_some_iff.mp H
      obtain ⟨⟨t333, t334⟩, A50, H⟩ := H
      replace H : (some (t333, t334)) = some (r1, r2) := H
      have A5 := Aside0.mk A50
      clear A50
      simp only [Option.some.injEq, Prod.mk.injEq] at H
      obtain ⟨rfl, rfl⟩ := H
      go_enter Try.func132, Try.ntmps132
      go_wp2_with (first | ((with_reducible refine gate_dst (N := 2) rfl ?_); refine sqx 2 #[.int .i64 a0_0, .int .i64 a0_1] 24 ?_; intro gb330 hg w6 hbox hb; have BK330 := Aside0.mk (hbox); have GW330 := sqg HB hg; have GE330 := sqg HB hg; replace HB := sqs HB hb; clear hb hbox hg) | ((with_reducible refine gate_dst (N := 3) rfl ?_); refine sqx 3 #[.int .i64 a1_0, .int .i64 a1_1] 24 ?_; intro gb331 hg w7 hbox hb; have BK331 := Aside0.mk (hbox); have GW331 := sqg HB hg; have GE331 := sqg HB hg; have NB330_331 := sqn BK330 hg; have NB331_330 := sqm BK330 hg; replace BK330 := sqb BK330 hb; replace HB := sqs HB hb; clear hb hbox hg) | ((with_reducible refine gate_dst (N := 4) rfl ?_); refine sqx 4 #[.int .i64 0, .int .i64 0] 24 ?_; intro gb332 hg w8 hbox hb; have BK332 := Aside0.mk (hbox); have GW332 := sqg HB hg; have GE332 := sqg HB hg; have NB330_332 := sqn BK330 hg; have NB332_330 := sqm BK330 hg; have NB331_332 := sqn BK331 hg; have NB332_331 := sqm BK331 hg; replace BK330 := sqb BK330 hb; replace BK331 := sqb BK331 hb; replace HB := sqs HB hb; clear hb hbox hg; have hnb9 := NB331_330.out; have hnc9 := NB330_331.out; have hnb10 := NB331_332.out; have hnc10 := NB332_331.out; obtain ⟨hcz11_0, hcz11_1, hfz11_0, hfz11_1⟩ := sqc2 BK331; have hnb12 := NB330_332.out; have hnc12 := NB332_330.out; obtain ⟨hcz13_0, hcz13_1, hfz13_0, hfz13_1⟩ := sqc2 BK330) | ((with_reducible refine gate_callee (f := 133) rfl ?_); refine sqL (some 21) Try.func133 #[.int .i64 (wrap64 (a0_0 + 1)), .int .i64 a0_1] ?_; (with_reducible refine (spec_l8Cut.calls (wrap64 (a0_0 + 1)) a0_1 t333 t334 _ A5.out).mono ?_); rintro e w14 ⟨rfl, hb⟩; refine ⟨_, rfl, ?_⟩; replace BK330 := sqb BK330 hb; replace BK331 := sqb BK331 hb; replace BK332 := sqb BK332 hb; replace HB := sqs HB hb; (try clear hb); obtain ⟨hcz15_0, hcz15_1, hfz15_0, hfz15_1⟩ := sqc2 BK332))
      refine bodyPost_ret (results_cell_row rfl _ _ gb332 24 #[.int .i64 t333, .int .i64 t334] (0, 0) _ rfl (by refine sqt ?_; refine blk_put (cs := #[.int .i64 t333, .int .i64 0]) ?_ 1 _ rfl; refine sqt ?_; refine blk_put (cs := #[.int .i64 0, .int .i64 0]) ?_ 0 _ rfl; refine sqt ?_; exact BK332.out) Try.underlying24 rfl (by kernel_rfl)) rfl ?_
      exact sqe HB
    · rw [if_neg c4] at H
      have c4b0 : (a0_0 == a1_0) = false := beq_eq_false_iff_ne.mpr c4
      have c4b1 : (a0_0 != a1_0) = true := bne_iff_ne.mpr c4
      by_cases c16 : a0_1 = a1_0
      · rw [if_pos c16] at H
        have c16b0 : (a0_1 == a1_0) = true := beq_iff_eq.mpr c16
        have c16b1 : (a0_1 != a1_0) = false := bne_eq_false_iff_eq.mpr c16
        clear c16
        replace H := Option.bind_eq_some_iff.mp H
        obtain ⟨⟨t335, t336⟩, A170, H⟩ := H
        replace H : (some (t335, t336)) = some (r1, r2) := H
        have A17 := Aside0.mk A170
        clear A170
        simp only [Option.some.injEq, Prod.mk.injEq] at H
        obtain ⟨rfl, rfl⟩ := H
        go_enter Try.func132, Try.ntmps132
        go_wp2_with (first | ((with_reducible refine gate_dst (N := 2) rfl ?_); refine sqx 2 #[.int .i64 a0_0, .int .i64 a0_1] 24 ?_; intro gb330 hg w18 hbox hb; have BK330 := Aside0.mk (hbox); have GW330 := sqg HB hg; have GE330 := sqg HB hg; replace HB := sqs HB hb; clear hb hbox hg) | ((with_reducible refine gate_dst (N := 3) rfl ?_); refine sqx 3 #[.int .i64 a1_0, .int .i64 a1_1] 24 ?_; intro gb331 hg w19 hbox hb; have BK331 := Aside0.mk (hbox); have GW331 := sqg HB hg; have GE331 := sqg HB hg; have NB330_331 := sqn BK330 hg; have NB331_330 := sqm BK330 hg; replace BK330 := sqb BK330 hb; replace HB := sqs HB hb; clear hb hbox hg) | ((with_reducible refine gate_dst (N := 4) rfl ?_); refine sqx 4 #[.int .i64 0, .int .i64 0] 24 ?_; intro gb332 hg w20 hbox hb; have BK332 := Aside0.mk (hbox); have GW332 := sqg HB hg; have GE332 := sqg HB hg; have NB330_332 := sqn BK330 hg; have NB332_330 := sqm BK330 hg; have NB331_332 := sqn BK331 hg; have NB332_331 := sqm BK331 hg; replace BK330 := sqb BK330 hb; replace BK331 := sqb BK331 hb; replace HB := sqs HB hb; clear hb hbox hg; have hnb21 := NB331_330.out; have hnc21 := NB330_331.out; have hnb22 := NB331_332.out; have hnc22 := NB332_331.out; obtain ⟨hcz23_0, hcz23_1, hfz23_0, hfz23_1⟩ := sqc2 BK331; have hnb24 := NB330_332.out; have hnc24 := NB332_330.out; obtain ⟨hcz25_0, hcz25_1, hfz25_0, hfz25_1⟩ := sqc2 BK330) | ((with_reducible refine gate_callee (f := 133) rfl ?_); refine sqL (some 32) Try.func133 #[.int .i64 a0_0, .int .i64 (wrap64 (a0_1 - 1))] ?_; (with_reducible refine (spec_l8Cut.calls a0_0 (wrap64 (a0_1 - 1)) t335 t336 _ A17.out).mono ?_); rintro e w26 ⟨rfl, hb⟩; refine ⟨_, rfl, ?_⟩; replace BK330 := sqb BK330 hb; replace BK331 := sqb BK331 hb; replace BK332 := sqb BK332 hb; replace HB := sqs HB hb; (try clear hb); obtain ⟨hcz27_0, hcz27_1, hfz27_0, hfz27_1⟩ := sqc2 BK332))
        refine bodyPost_ret (results_cell_row rfl _ _ gb332 24 #[.int .i64 t335, .int .i64 t336] (0, 0) _ rfl (by refine sqt ?_; refine blk_put (cs := #[.int .i64 t335, .int .i64 0]) ?_ 1 _ rfl; refine sqt ?_; refine blk_put (cs := #[.int .i64 0, .int .i64 0]) ?_ 0 _ rfl; refine sqt ?_; exact BK332.out) Try.underlying24 rfl (by kernel_rfl)) rfl ?_
        exact sqe HB
      · rw [if_neg c16] at H
        have c16b0 : (a0_1 == a1_0) = false := beq_eq_false_iff_ne.mpr c16
        have c16b1 : (a0_1 != a1_0) = true := bne_iff_ne.mpr c16
        simp only [Option.some.injEq, Prod.mk.injEq] at H
        obtain ⟨rfl, rfl⟩ := H
        go_enter Try.func132, Try.ntmps132
        go_wp2_with (first | ((with_reducible refine gate_dst (N := 2) rfl ?_); refine sqx 2 #[.int .i64 a0_0, .int .i64 a0_1] 24 ?_; intro gb330 hg w28 hbox hb; have BK330 := Aside0.mk (hbox); have GW330 := sqg HB hg; have GE330 := sqg HB hg; replace HB := sqs HB hb; clear hb hbox hg) | ((with_reducible refine gate_dst (N := 3) rfl ?_); refine sqx 3 #[.int .i64 a1_0, .int .i64 a1_1] 24 ?_; intro gb331 hg w29 hbox hb; have BK331 := Aside0.mk (hbox); have GW331 := sqg HB hg; have GE331 := sqg HB hg; have NB330_331 := sqn BK330 hg; have NB331_330 := sqm BK330 hg; replace BK330 := sqb BK330 hb; replace HB := sqs HB hb; clear hb hbox hg) | ((with_reducible refine gate_dst (N := 4) rfl ?_); refine sqx 4 #[.int .i64 0, .int .i64 0] 24 ?_; intro gb332 hg w30 hbox hb; have BK332 := Aside0.mk (hbox); have GW332 := sqg HB hg; have GE332 := sqg HB hg; have NB330_332 := sqn BK330 hg; have NB332_330 := sqm BK330 hg; have NB331_332 := sqn BK331 hg; have NB332_331 := sqm BK331 hg; replace BK330 := sqb BK330 hb; replace BK331 := sqb BK331 hb; replace HB := sqs HB hb; clear hb hbox hg; have hnb31 := NB331_330.out; have hnc31 := NB330_331.out; have hnb32 := NB331_332.out; have hnc32 := NB332_331.out; obtain ⟨hcz33_0, hcz33_1, hfz33_0, hfz33_1⟩ := sqc2 BK331; have hnb34 := NB330_332.out; have hnc34 := NB332_330.out; obtain ⟨hcz35_0, hcz35_1, hfz35_0, hfz35_1⟩ := sqc2 BK330; obtain ⟨hcz36_0, hcz36_1, hfz36_0, hfz36_1⟩ := sqc2 BK332))
        refine bodyPost_ret (results_cell_row rfl _ _ gb332 24 #[.int .i64 a0_0, .int .i64 a0_1] (0, 0) _ rfl (by refine sqt ?_; refine blk_put (cs := #[.int .i64 a0_0, .int .i64 0]) ?_ 1 _ rfl; refine sqt ?_; refine blk_put (cs := #[.int .i64 0, .int .i64 0]) ?_ 0 _ rfl; refine sqt ?_; exact BK332.out) Try.underlying24 rfl (by kernel_rfl)) rfl ?_
        exact sqe HB
  · rw [if_neg c3] at H
    have c3b0 : (a1_0 == a1_1) = false := beq_eq_false_iff_ne.mpr c3
    have c3b1 : (a1_0 != a1_1) = true := bne_iff_ne.mpr c3
    simp only [Option.some.injEq, Prod.mk.injEq] at H
    obtain ⟨rfl, rfl⟩ := H
    go_enter Try.func132, Try.ntmps132
    go_wp2_with (first | ((with_reducible refine gate_dst (N := 2) rfl ?_); refine sqx 2 #[.int .i64 a0_0, .int .i64 a0_1] 24 ?_; intro gb330 hg w37 hbox hb; have BK330 := Aside0.mk (hbox); have GW330 := sqg HB hg; have GE330 := sqg HB hg; replace HB := sqs HB hb; clear hb hbox hg) | ((with_reducible refine gate_dst (N := 3) rfl ?_); refine sqx 3 #[.int .i64 a1_0, .int .i64 a1_1] 24 ?_; intro gb331 hg w38 hbox hb; have BK331 := Aside0.mk (hbox); have GW331 := sqg HB hg; have GE331 := sqg HB hg; have NB330_331 := sqn BK330 hg; have NB331_330 := sqm BK330 hg; replace BK330 := sqb BK330 hb; replace HB := sqs HB hb; clear hb hbox hg) | ((with_reducible refine gate_dst (N := 4) rfl ?_); refine sqx 4 #[.int .i64 0, .int .i64 0] 24 ?_; intro gb332 hg w39 hbox hb; have BK332 := Aside0.mk (hbox); have GW332 := sqg HB hg; have GE332 := sqg HB hg; have NB330_332 := sqn BK330 hg; have NB332_330 := sqm BK330 hg; have NB331_332 := sqn BK331 hg; have NB332_331 := sqm BK331 hg; replace BK330 := sqb BK330 hb; replace BK331 := sqb BK331 hb; replace HB := sqs HB hb; clear hb hbox hg; have hnb40 := NB331_330.out; have hnc40 := NB330_331.out; have hnb41 := NB331_332.out; have hnc41 := NB332_331.out; obtain ⟨hcz42_0, hcz42_1, hfz42_0, hfz42_1⟩ := sqc2 BK331; have hnb43 := NB330_332.out; have hnc43 := NB332_330.out; obtain ⟨hcz44_0, hcz44_1, hfz44_0, hfz44_1⟩ := sqc2 BK330; obtain ⟨hcz45_0, hcz45_1, hfz45_0, hfz45_1⟩ := sqc2 BK332))
    refine bodyPost_ret (results_cell_row rfl _ _ gb332 24 #[.int .i64 a0_0, .int .i64 a0_1] (0, 0) _ rfl (by refine sqt ?_; refine blk_put (cs := #[.int .i64 a0_0, .int .i64 0]) ?_ 1 _ rfl; refine sqt ?_; refine blk_put (cs := #[.int .i64 0, .int .i64 0]) ?_ 0 _ rfl; refine sqt ?_; exact BK332.out) Try.underlying24 rfl (by kernel_rfl)) rfl ?_
    exact sqe HB

/-! ### spec_CmpTurn: function 135 -/
set_option maxHeartbeats 8000000 in
set_option maxRecDepth 100000 in
theorem spec_CmpTurn.calls (a0 : Int) (r : Int) (w : World) (h : spec_CmpTurn.f a0 = some r) :
    Calls Try.prog 135 #[.int .i64 a0] w fun e w' => e = .returned (.int .i64 r) ∧ Drawn0 w w' := by
  have H : (if a0 = 3 then (some 5) else (if a0 = 4 then (some 6) else (if a0 = 5 then (some 3) else (if a0 = 6 then (some 4) else (if a0 = 1 then (some a0) else (if a0 = 2 then (some a0) else (some 0))))))) = some r := h
  clear h
  by_cases c2 : a0 = 3
  · rw [if_pos c2] at H
    have c2b0 : (a0 == 3) = true := beq_iff_eq.mpr c2
    have c2b1 : (a0 != 3) = false := bne_eq_false_iff_eq.mpr c2
    clear c2
    obtain rfl := Option.some.inj H
    go_enter Try.func135, Try.ntmps135
    go_wp2
    go_ret
    exact ⟨by first | rfl | (simp; done) | (simp [*]; done), by repeat (first | exact Drawn0.refl _ | apply Drawn0.step)⟩
  · rw [if_neg c2] at H
    have c2b0 : (a0 == 3) = false := beq_eq_false_iff_ne.mpr c2
    have c2b1 : (a0 != 3) = true := bne_iff_ne.mpr c2
    by_cases c3 : a0 = 4
    · rw [if_pos c3] at H
      have c3b0 : (a0 == 4) = true := beq_iff_eq.mpr c3
      have c3b1 : (a0 != 4) = false := bne_eq_false_iff_eq.mpr c3
      clear c3
      obtain rfl := Option.some.inj H
      go_enter Try.func135, Try.ntmps135
      go_wp2
      go_ret
      exact ⟨by first | rfl | (simp; done) | (simp [*]; done), by repeat (first | exact Drawn0.refl _ | apply Drawn0.step)⟩
    · rw [if_neg c3] at H
      have c3b0 : (a0 == 4) = false := beq_eq_false_iff_ne.mpr c3
      have c3b1 : (a0 != 4) = true := bne_iff_ne.mpr c3
      by_cases c4 : a0 = 5
      · rw [if_pos c4] at H
        have c4b0 : (a0 == 5) = true := beq_iff_eq.mpr c4
        have c4b1 : (a0 != 5) = false := bne_eq_false_iff_eq.mpr c4
        clear c4
        obtain rfl := Option.some.inj H
        go_enter Try.func135, Try.ntmps135
        go_wp2
        go_ret
        exact ⟨by first | rfl | (simp; done) | (simp [*]; done), by repeat (first | exact Drawn0.refl _ | apply Drawn0.step)⟩
      · rw [if_neg c4] at H
        have c4b0 : (a0 == 5) = false := beq_eq_false_iff_ne.mpr c4
        have c4b1 : (a0 != 5) = true := bne_iff_ne.mpr c4
        by_cases c5 : a0 = 6
        · rw [if_pos c5] at H
          have c5b0 : (a0 == 6) = true := beq_iff_eq.mpr c5
          have c5b1 : (a0 != 6) = false := bne_eq_false_iff_eq.mpr c5
          clear c5
          obtain rfl := Option.some.inj H
          go_enter Try.func135, Try.ntmps135
          go_wp2
          go_ret
          exact ⟨by first | rfl | (simp; done) | (simp [*]; done), by repeat (first | exact Drawn0.refl _ | apply Drawn0.step)⟩
        · rw [if_neg c5] at H
          have c5b0 : (a0 == 6) = false := beq_eq_false_iff_ne.mpr c5
          have c5b1 : (a0 != 6) = true := bne_iff_ne.mpr c5
          by_cases c6 : a0 = 1
          · rw [if_pos c6] at H
            have c6b0 : (a0 == 1) = true := beq_iff_eq.mpr c6
            have c6b1 : (a0 != 1) = false := bne_eq_false_iff_eq.mpr c6
            clear c6
            obtain rfl := Option.some.inj H
            go_enter Try.func135, Try.ntmps135
            go_wp2
            go_ret
            exact ⟨by first | rfl | (simp; done) | (simp [*]; done), by repeat (first | exact Drawn0.refl _ | apply Drawn0.step)⟩
          · rw [if_neg c6] at H
            have c6b0 : (a0 == 1) = false := beq_eq_false_iff_ne.mpr c6
            have c6b1 : (a0 != 1) = true := bne_iff_ne.mpr c6
            by_cases c7 : a0 = 2
            · rw [if_pos c7] at H
              have c7b0 : (a0 == 2) = true := beq_iff_eq.mpr c7
              have c7b1 : (a0 != 2) = false := bne_eq_false_iff_eq.mpr c7
              clear c7
              obtain rfl := Option.some.inj H
              go_enter Try.func135, Try.ntmps135
              go_wp2
              go_ret
              exact ⟨by first | rfl | (simp; done) | (simp [*]; done), by repeat (first | exact Drawn0.refl _ | apply Drawn0.step)⟩
            · rw [if_neg c7] at H
              have c7b0 : (a0 == 2) = false := beq_eq_false_iff_ne.mpr c7
              have c7b1 : (a0 != 2) = true := bne_iff_ne.mpr c7
              obtain rfl := Option.some.inj H
              go_enter Try.func135, Try.ntmps135
              go_wp2
              go_ret
              exact ⟨by first | rfl | (simp; done) | (simp [*]; done), by repeat (first | exact Drawn0.refl _ | apply Drawn0.step)⟩

end Go.Proofs.Ytkekcenlleebeaa.PFnRangeCmp
