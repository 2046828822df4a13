/- Functions of the program as plain Lean functions, and that calls of them come to what these tell. Conditions: those in each law. -/
import Derived.Test.YtmdcgkkkfncieaaSq
import Derived.Test.YtmdcgkkkfncieaaDFnRangeStill
import Derived.Test.YtmdcgkkkfncieaaQFnRangeStillx0
import Derived.Test.YtmdcgkkkfncieaaQFnRangeStillx8
namespace Go.Proofs.Ytmdcgkkkfncieaa.PFnRangeStill
open Go.RowKit Go.Proofs.Ytmdcgkkkfncieaa.Sq Go.Proofs.YtmdcgkkkfncieaaW.PrintWords Go.Proofs.YtmdcgkkkfncieaaW.PrintLast Go.Proofs.YtmdcgkkkfncieaaW.PrintMore
attribute [local go_sem] max2_int min2_int max_two min_two max_three min_three max_four min_four   -- for this text's walks alone
set_option linter.unusedVariables false
set_option linter.unusedSimpArgs false

/-! ### impl_RangeIn: function 45 -/
set_option maxHeartbeats 8000000 in
set_option maxRecDepth 100000 in
theorem impl_RangeIn.calls (a0_0 : Int) (a0_1 : Int) (a1_0 : Int) (a1_1 : Int) (r : Bool) (w : World) (h : impl_RangeIn.f a0_0 a0_1 a1_0 a1_1 = some r) :
    Calls Try.prog 45 #[.agg #[.int .i64 a0_0, .int .i64 a0_1], .agg #[.int .i64 a1_0, .int .i64 a1_1]] w fun e w' => e = .returned (.bool r) ∧ Below w.heap.size w w' := by
  have hu27 := Try.underlying27
  have HB := Aside0.mk (Below.refl w.heap.size w)
  have H : ((impl_RangeOk.f a0_0 a0_1).bind fun t300 => (if t300 = true then ((impl_RangeOk.f a1_0 a1_1).bind fun t301 => (if t301 = true then ((impl_Range_empty.f a0_0 a0_1).bind fun t302 => (if t302 = true then (some true) else (if a1_0 ≤ a0_0 then (some (decide (a0_1 ≤ a1_1))) else (some false)))) else (some false))) else (some false))) = some r := h
  clear h
  replace H := Option.bind_eq_some_iff.mp H
  obtain ⟨t300, A30, H⟩ := H
  replace H : (if t300 = true then ((impl_RangeOk.f a1_0 a1_1).bind fun t301 => (if t301 = true then ((impl_Range_empty.f a0_0 a0_1).bind fun t302 => (if t302 = true then (some true) else (if a1_0 ≤ a0_0 then (some (decide (a0_1 ≤ a1_1))) else (some false)))) else (some false))) else (some false)) = some r := H
  have A3 := Aside0.mk A30
  clear A30
  by_cases c4 : t300 = true
  · subst c4
    have H1 : ((impl_RangeOk.f a1_0 a1_1).bind fun t301 => (if t301 = true then ((impl_Range_empty.f a0_0 a0_1).bind fun t302 => (if t302 = true then (some true) else (if a1_0 ≤ a0_0 then (some (decide (a0_1 ≤ a1_1))) else (some false)))) else (some false))) = some r := by rw [if_pos rfl] at H; exact H
    clear H
    have H := H1
    clear H1
    replace H := Option.bind_eq_some_iff.mp H
    obtain ⟨t301, A50, H⟩ := H
    replace H : (if t301 = true then ((impl_Range_empty.f a0_0 a0_1).bind fun t302 => (if t302 = true then (some true) else (if a1_0 ≤ a0_0 then (some (decide (a0_1 ≤ a1_1))) else (some false)))) else (some false)) = some r := H
    have A5 := Aside0.mk A50
    clear A50
    by_cases c6 : t301 = true
    · subst c6
      have H1 : ((impl_Range_empty.f a0_0 a0_1).bind fun t302 => (if t302 = true then (some true) else (if a1_0 ≤ a0_0 then (some (decide (a0_1 ≤ a1_1))) else (some false)))) = some r := by rw [if_pos rfl] at H; exact H
      clear H
      have H := H1
      clear H1
      replace H := Option.bind_eq_some_iff.mp H
      obtain ⟨t302, A70, H⟩ := H
      replace H : (if t302 = true then (some true) else (if a1_0 ≤ a0_0 then (some (decide (a0_1 ≤ a1_1))) else (some false))) = some r := H
      have A7 := Aside0.mk A70
      clear A70
      by_cases c8 : t302 = true
      · subst c8
        have H1 : (some true) = some r := by rw [if_pos rfl] at H; exact H
        clear H
        have H := H1
        clear H1
        obtain rfl := Option.some.inj H
        go_enter Try.func45, Try.ntmps45
        go_wp2_with (first | ((with_reducible refine gate_dst (N := 2) rfl ?_); refine sqx 2 #[.int .i64 a0_0, .int .i64 a0_1] 27 ?_; intro gb298 hg w9 hbox hb; have BK298 := Aside0.mk (hbox); have GW298 := sqg HB hg; have GE298 := sqg HB hg; replace HB := sqs HB hb; clear hb hbox hg) | ((with_reducible refine gate_dst (N := 3) rfl ?_); refine sqx 3 #[.int .i64 a1_0, .int .i64 a1_1] 27 ?_; intro gb299 hg w10 hbox hb; have BK299 := Aside0.mk (hbox); have GW299 := sqg HB hg; have GE299 := sqg HB hg; have NB298_299 := sqn BK298 hg; have NB299_298 := sqm BK298 hg; replace BK298 := sqb BK298 hb; replace HB := sqs HB hb; clear hb hbox hg; have hnb11 := NB298_299.out; have hnc11 := NB299_298.out; obtain ⟨hcz12_0, hcz12_1, hfz12_0, hfz12_1⟩ := sqc2 BK298) | ((with_reducible refine gate_callee (f := 98) rfl ?_); refine sqL (some 6) Try.func98 #[.agg #[.int .i64 a0_0, .int .i64 a0_1]] ?_; (with_reducible refine (impl_RangeOk.calls a0_0 a0_1 true _ A3.out).mono ?_); rintro e w13 ⟨rfl, hb⟩; refine ⟨_, rfl, ?_⟩; replace BK298 := sqb BK298 hb; replace BK299 := sqb BK299 hb; replace HB := sqs HB hb; (try clear hb); obtain ⟨hcz14_0, hcz14_1, hfz14_0, hfz14_1⟩ := sqc2 BK299) | (go_at_call 98; (with_reducible refine (impl_RangeOk.calls a1_0 a1_1 true _ A5.out).mono ?_); rintro e w15 ⟨rfl, hb⟩; replace BK298 := sqb BK298 hb; replace BK299 := sqb BK299 hb; replace HB := sqs HB hb; (try clear hb); obtain ⟨hcz16_0, hcz16_1, hfz16_0, hfz16_1⟩ := sqc2 BK298) | ((with_reducible refine gate_callee (f := 99) rfl ?_); refine sqL (some 14) Try.func99 #[.agg #[.int .i64 a0_0, .int .i64 a0_1]] ?_; (with_reducible refine (impl_Range_empty.calls a0_0 a0_1 true _ A7.out).mono ?_); rintro e w17 ⟨rfl, hb⟩; refine ⟨_, rfl, ?_⟩; replace BK298 := sqb BK298 hb; replace BK299 := sqb BK299 hb; replace HB := sqs HB hb; (try clear hb)))
        go_ret
        exact sqe HB
      · replace c8 := Bool.eq_false_iff.mpr c8
        subst c8
        have H1 : (if a1_0 ≤ a0_0 then (some (decide (a0_1 ≤ a1_1))) else (some false)) = some r := by rw [if_neg (show ¬ (false = true) by decide)] at H; exact H
        clear H
        have H := H1
        clear H1
        by_cases c18 : a1_0 ≤ a0_0
        · rw [if_pos c18] at H
          have c18b0 : decide (a1_0 ≤ a0_0) = true := decide_eq_true c18
          clear c18
          obtain rfl := Option.some.inj H
          go_enter Try.func45, Try.ntmps45
          go_wp2_with (first | ((with_reducible refine gate_dst (N := 2) rfl ?_); refine sqx 2 #[.int .i64 a0_0, .int .i64 a0_1] 27 ?_; intro gb298 hg w19 hbox hb; have BK298 := Aside0.mk (hbox); have GW298 := sqg HB hg; have GE298 := sqg HB hg; replace HB := sqs HB hb; clear hb hbox hg) | ((with_reducible refine gate_dst (N := 3) rfl ?_); refine sqx 3 #[.int .i64 a1_0, .int .i64 a1_1] 27 ?_; intro gb299 hg w20 hbox hb; have BK299 := Aside0.mk (hbox); have GW299 := sqg HB hg; have GE299 := sqg HB hg; have NB298_299 := sqn BK298 hg; have NB299_298 := sqm BK298 hg; replace BK298 := sqb BK298 hb; replace HB := sqs HB hb; clear hb hbox hg; have hnb21 := NB298_299.out; have hnc21 := NB299_298.out; obtain ⟨hcz22_0, hcz22_1, hfz22_0, hfz22_1⟩ := sqc2 BK298) | ((with_reducible refine gate_callee (f := 98) rfl ?_); refine sqL (some 6) Try.func98 #[.agg #[.int .i64 a0_0, .int .i64 a0_1]] ?_; (with_reducible refine (impl_RangeOk.calls a0_0 a0_1 true _ A3.out).mono ?_); rintro e w23 ⟨rfl, hb⟩; refine ⟨_, rfl, ?_⟩; replace BK298 := sqb BK298 hb; replace BK299 := sqb BK299 hb; replace HB := sqs HB hb; (try clear hb); obtain ⟨hcz24_0, hcz24_1, hfz24_0, hfz24_1⟩ := sqc2 BK299) | (go_at_call 98; (with_reducible refine (impl_RangeOk.calls a1_0 a1_1 true _ A5.out).mono ?_); rintro e w25 ⟨rfl, hb⟩; replace BK298 := sqb BK298 hb; replace BK299 := sqb BK299 hb; replace HB := sqs HB hb; (try clear hb); obtain ⟨hcz26_0, hcz26_1, hfz26_0, hfz26_1⟩ := sqc2 BK298) | ((with_reducible refine gate_callee (f := 99) rfl ?_); refine sqL (some 14) Try.func99 #[.agg #[.int .i64 a0_0, .int .i64 a0_1]] ?_; (with_reducible refine (impl_Range_empty.calls a0_0 a0_1 false _ A7.out).mono ?_); rintro e w27 ⟨rfl, hb⟩; refine ⟨_, rfl, ?_⟩; replace BK298 := sqb BK298 hb; replace BK299 := sqb BK299 hb; replace HB := sqs HB hb; (try clear hb); obtain ⟨hcz28_0, hcz28_1, hfz28_0, hfz28_1⟩ := sqc2 BK299; obtain ⟨hcz29_0, hcz29_1, hfz29_0, hfz29_1⟩ := sqc2 BK298))
          go_ret
          exact sqe HB
        · rw [if_neg c18] at H
          have c18b0 : decide (a1_0 ≤ a0_0) = false := decide_eq_false c18
          clear c18
          obtain rfl := Option.some.inj H
          go_enter Try.func45, Try.ntmps45
          go_wp2_with (first | ((with_reducible refine gate_dst (N := 2) rfl ?_); refine sqx 2 #[.int .i64 a0_0, .int .i64 a0_1] 27 ?_; intro gb298 hg w30 hbox hb; have BK298 := Aside0.mk (hbox); have GW298 := sqg HB hg; have GE298 := sqg HB hg; replace HB := sqs HB hb; clear hb hbox hg) | ((with_reducible refine gate_dst (N := 3) rfl ?_); refine sqx 3 #[.int .i64 a1_0, .int .i64 a1_1] 27 ?_; intro gb299 hg w31 hbox hb; have BK299 := Aside0.mk (hbox); have GW299 := sqg HB hg; have GE299 := sqg HB hg; have NB298_299 := sqn BK298 hg; have NB299_298 := sqm BK298 hg; replace BK298 := sqb BK298 hb; replace HB := sqs HB hb; clear hb hbox hg; have hnb32 := NB298_299.out; have hnc32 := NB299_298.out; obtain ⟨hcz33_0, hcz33_1, hfz33_0, hfz33_1⟩ := sqc2 BK298) | ((with_reducible refine gate_callee (f := 98) rfl ?_); refine sqL (some 6) Try.func98 #[.agg #[.int .i64 a0_0, .int .i64 a0_1]] ?_; (with_reducible refine (impl_RangeOk.calls a0_0 a0_1 true _ A3.out).mono ?_); rintro e w34 ⟨rfl, hb⟩; refine ⟨_, rfl, ?_⟩; replace BK298 := sqb BK298 hb; replace BK299 := sqb BK299 hb; replace HB := sqs HB hb; (try clear hb); obtain ⟨hcz35_0, hcz35_1, hfz35_0, hfz35_1⟩ := sqc2 BK299) | (go_at_call 98; (with_reducible refine (impl_RangeOk.calls a1_0 a1_1 true _ A5.out).mono ?_); rintro e w36 ⟨rfl, hb⟩; replace BK298 := sqb BK298 hb; replace BK299 := sqb BK299 hb; replace HB := sqs HB hb; (try clear hb); obtain ⟨hcz37_0, hcz37_1, hfz37_0, hfz37_1⟩ := sqc2 BK298) | ((with_reducible refine gate_callee (f := 99) rfl ?_); refine sqL (some 14) Try.func99 #[.agg #[.int .i64 a0_0, .int .i64 a0_1]] ?_; (with_reducible refine (impl_Range_empty.calls a0_0 a0_1 false _ A7.out).mono ?_); rintro e w38 ⟨rfl, hb⟩; refine ⟨_, rfl, ?_⟩; replace BK298 := sqb BK298 hb; replace BK299 := sqb BK299 hb; replace HB := sqs HB hb; (try clear hb); obtain ⟨hcz39_0, hcz39_1, hfz39_0, hfz39_1⟩ := sqc2 BK299; obtain ⟨hcz40_0, hcz40_1, hfz40_0, hfz40_1⟩ := sqc2 BK298))
          go_ret
          exact sqe HB
    · replace c6 := Bool.eq_false_iff.mpr c6
      subst c6
      have H1 : (some false) = some r := by rw [if_neg (show ¬ (false = true) by decide)] at H; exact H
      clear H
      have H := H1
      clear H1
      obtain rfl := Option.some.inj H
      go_enter Try.func45, Try.ntmps45
      go_wp2_with (first | ((with_reducible refine gate_dst (N := 2) rfl ?_); refine sqx 2 #[.int .i64 a0_0, .int .i64 a0_1] 27 ?_; intro gb298 hg w41 hbox hb; have BK298 := Aside0.mk (hbox); have GW298 := sqg HB hg; have GE298 := sqg HB hg; replace HB := sqs HB hb; clear hb hbox hg) | ((with_reducible refine gate_dst (N := 3) rfl ?_); refine sqx 3 #[.int .i64 a1_0, .int .i64 a1_1] 27 ?_; intro gb299 hg w42 hbox hb; have BK299 := Aside0.mk (hbox); have GW299 := sqg HB hg; have GE299 := sqg HB hg; have NB298_299 := sqn BK298 hg; have NB299_298 := sqm BK298 hg; replace BK298 := sqb BK298 hb; replace HB := sqs HB hb; clear hb hbox hg; have hnb43 := NB298_299.out; have hnc43 := NB299_298.out; obtain ⟨hcz44_0, hcz44_1, hfz44_0, hfz44_1⟩ := sqc2 BK298) | ((with_reducible refine gate_callee (f := 98) rfl ?_); refine sqL (some 6) Try.func98 #[.agg #[.int .i64 a0_0, .int .i64 a0_1]] ?_; (with_reducible refine (impl_RangeOk.calls a0_0 a0_1 true _ A3.out).mono ?_); rintro e w45 ⟨rfl, hb⟩; refine ⟨_, rfl, ?_⟩; replace BK298 := sqb BK298 hb; replace BK299 := sqb BK299 hb; replace HB := sqs HB hb; (try clear hb); obtain ⟨hcz46_0, hcz46_1, hfz46_0, hfz46_1⟩ := sqc2 BK299) | (go_at_call 98; (with_reducible refine (impl_RangeOk.calls a1_0 a1_1 false _ A5.out).mono ?_); rintro e w47 ⟨rfl, hb⟩; replace BK298 := sqb BK298 hb; replace BK299 := sqb BK299 hb; replace HB := sqs HB hb; (try clear hb)))
      go_ret
      exact sqe HB
  · replace c4 := Bool.eq_false_iff.mpr c4
    subst c4
    have H1 : (some false) = some r := by rw [if_neg (show ¬ (false = true) by decide)] at H; exact H
    clear H
    have H := H1
    clear H1
    obtain rfl := Option.some.inj H
    go_enter Try.func45, Try.ntmps45
    go_wp2_with (first | ((with_reducible refine gate_dst (N := 2) rfl ?_); refine sqx 2 #[.int .i64 a0_0, .int .i64 a0_1] 27 ?_; intro gb298 hg w48 hbox hb; have BK298 := Aside0.mk (hbox); have GW298 := sqg HB hg; have GE298 := sqg HB hg; replace HB := sqs HB hb; clear hb hbox hg) | ((with_reducible refine gate_dst (N := 3) rfl ?_); refine sqx 3 #[.int .i64 a1_0, .int .i64 a1_1] 27 ?_; intro gb299 hg w49 hbox hb; have BK299 := Aside0.mk (hbox); have GW299 := sqg HB hg; have GE299 := sqg HB hg; have NB298_299 := sqn BK298 hg; have NB299_298 := sqm BK298 hg; replace BK298 := sqb BK298 hb; replace HB := sqs HB hb; clear hb hbox hg; have hnb50 := NB298_299.out; have hnc50 := NB299_298.out; obtain ⟨hcz51_0, hcz51_1, hfz51_0, hfz51_1⟩ := sqc2 BK298) | ((with_reducible refine gate_callee (f := 98) rfl ?_); refine sqL (some 6) Try.func98 #[.agg #[.int .i64 a0_0, .int .i64 a0_1]] ?_; (with_reducible refine (impl_RangeOk.calls a0_0 a0_1 false _ A3.out).mono ?_); rintro e w52 ⟨rfl, hb⟩; refine ⟨_, rfl, ?_⟩; replace BK298 := sqb BK298 hb; replace BK299 := sqb BK299 hb; replace HB := sqs HB hb; (try clear hb)))
    go_ret
    exact sqe HB

end Go.Proofs.Ytmdcgkkkfncieaa.PFnRangeStill
