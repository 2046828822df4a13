/- Functions of the program as plain Lean functions, and that calls of them come to what these tell. Conditions: those in each law. -/
import Derived.Test.YtmdcgkkkfncieaaSq
import Derived.Test.YtmdcgkkkfncieaaDFnRangeLattice
import Derived.Test.YtmdcgkkkfncieaaQFnRangeLatticex0
import Derived.Test.YtmdcgkkkfncieaaQFnRangeLatticex7
import Derived.Test.YtmdcgkkkfncieaaQFnRangeLatticex8
namespace Go.Proofs.Ytmdcgkkkfncieaa.PFnRangeLattice
open Go.RowKit Go.Proofs.Ytmdcgkkkfncieaa.Sq Go.Proofs.YtmdcgkkkfncieaaW.PrintWords Go.Proofs.YtmdcgkkkfncieaaW.PrintLast Go.Proofs.YtmdcgkkkfncieaaW.PrintMore
attribute [local go_sem] max2_int min2_int max_two min_two max_three min_three max_four min_four   -- for this text's walks alone
set_option linter.unusedVariables false
set_option linter.unusedSimpArgs false

/-! ### impl_RangeIn: function 45 -/
set_option maxHeartbeats 8000000 in
set_option maxRecDepth 100000 in
theorem impl_RangeIn.calls (a0_0 : Int) (a0_1 : Int) (a1_0 : Int) (a1_1 : Int) (r : Bool) (w : World) (h : impl_RangeIn.f a0_0 a0_1 a1_0 a1_1 = some r) :
    Calls Try.prog 45 #[.agg #[.int .i64 a0_0, .int .i64 a0_1], .agg #[.int .i64 a1_0, .int .i64 a1_1]] w fun e w' => e = .returned (.bool r) ∧ Below w.heap.size w w' := by
  have hu27 := Try.underlying27
  have HB := Aside0.mk (Below.refl w.heap.size w)
  have H : ((impl_RangeOk.f a0_0 a0_1).bind fun t293 => (if t293 = true then ((impl_RangeOk.f a1_0 a1_1).bind fun t294 => (if t294 = true then ((impl_Range_empty.f a0_0 a0_1).bind fun t295 => (if t295 = true then (some true) else (if a1_0 ≤ a0_0 then (some (decide (a0_1 ≤ a1_1))) else (some false)))) else (some false))) else (some false))) = some r := h
  clear h
  replace H := Option.bind_eq_some_iff.mp H
  obtain ⟨t293, A30, H⟩ := H
  replace H : (if t293 = true then ((impl_RangeOk.f a1_0 a1_1).bind fun t294 => (if t294 = true then ((impl_Range_empty.f a0_0 a0_1).bind fun t295 => (if t295 = true then (some true) else (if a1_0 ≤ a0_0 then (some (decide (a0_1 ≤ a1_1))) else (some false)))) else (some false))) else (some false)) = some r := H
  have A3 := Aside0.mk A30
  clear A30
  by_cases c4 : t293 = true
  · subst c4
    have H1 : ((impl_RangeOk.f a1_0 a1_1).bind fun t294 => (if t294 = true then ((impl_Range_empty.f a0_0 a0_1).bind fun t295 => (if t295 = true then (some true) else (if a1_0 ≤ a0_0 then (some (decide (a0_1 ≤ a1_1))) else (some false)))) else (some false))) = some r := by rw [if_pos rfl] at H; exact H
    clear H
    have H := H1
    clear H1
    replace H := Option.bind_eq_some_iff.mp H
    obtain ⟨t294, A50, H⟩ := H
    replace H : (if t294 = true then ((impl_Range_empty.f a0_0 a0_1).bind fun t295 => (if t295 = true then (some true) else (if a1_0 ≤ a0_0 then (some (decide (a0_1 ≤ a1_1))) else (some false)))) else (some false)) = some r := H
    have A5 := Aside0.mk A50
    clear A50
    by_cases c6 : t294 = true
    · subst c6
      have H1 : ((impl_Range_empty.f a0_0 a0_1).bind fun t295 => (if t295 = true then (some true) else (if a1_0 ≤ a0_0 then (some (decide (a0_1 ≤ a1_1))) else (some false)))) = some r := by rw [if_pos rfl] at H; exact H
      clear H
      have H := H1
      clear H1
      replace H := Option.bind_eq_some_iff.mp H
      obtain ⟨t295, A70, H⟩ := H
      replace H : (if t295 = true then (some true) else (if a1_0 ≤ a0_0 then (some (decide (a0_1 ≤ a1_1))) else (some false))) = some r := H
      have A7 := Aside0.mk A70
      clear A70
      by_cases c8 : t295 = true
      · subst c8
        have H1 : (some true) = some r := by rw [if_pos rfl] at H; exact H
        clear H
        have H := H1
        clear H1
        obtain rfl := Option.some.inj H
        go_enter Try.func45, Try.ntmps45
        go_wp2_with (first | ((with_reducible refine gate_dst (N := 2) rfl ?_); refine sqx 2 #[.int .i64 a0_0, .int .i64 a0_1] 27 ?_; intro gb291 hg w9 hbox hb; have BK291 := Aside0.mk (hbox); have GW291 := sqg HB hg; have GE291 := sqg HB hg; replace HB := sqs HB hb; clear hb hbox hg) | ((with_reducible refine gate_dst (N := 3) rfl ?_); refine sqx 3 #[.int .i64 a1_0, .int .i64 a1_1] 27 ?_; intro gb292 hg w10 hbox hb; have BK292 := Aside0.mk (hbox); have GW292 := sqg HB hg; have GE292 := sqg HB hg; have NB291_292 := sqn BK291 hg; have NB292_291 := sqm BK291 hg; replace BK291 := sqb BK291 hb; replace HB := sqs HB hb; clear hb hbox hg; have hnb11 := NB291_292.out; have hnc11 := NB292_291.out; obtain ⟨hcz12_0, hcz12_1, hfz12_0, hfz12_1⟩ := sqc2 BK291) | ((with_reducible refine gate_callee (f := 98) rfl ?_); refine sqL (some 6) Try.func98 #[.agg #[.int .i64 a0_0, .int .i64 a0_1]] ?_; (with_reducible refine (impl_RangeOk.calls a0_0 a0_1 true _ A3.out).mono ?_); rintro e w13 ⟨rfl, hb⟩; refine ⟨_, rfl, ?_⟩; replace BK291 := sqb BK291 hb; replace BK292 := sqb BK292 hb; replace HB := sqs HB hb; (try clear hb); obtain ⟨hcz14_0, hcz14_1, hfz14_0, hfz14_1⟩ := sqc2 BK292) | (go_at_call 98; (with_reducible refine (impl_RangeOk.calls a1_0 a1_1 true _ A5.out).mono ?_); rintro e w15 ⟨rfl, hb⟩; replace BK291 := sqb BK291 hb; replace BK292 := sqb BK292 hb; replace HB := sqs HB hb; (try clear hb); obtain ⟨hcz16_0, hcz16_1, hfz16_0, hfz16_1⟩ := sqc2 BK291) | ((with_reducible refine gate_callee (f := 99) rfl ?_); refine sqL (some 14) Try.func99 #[.agg #[.int .i64 a0_0, .int .i64 a0_1]] ?_; (with_reducible refine (impl_Range_empty.calls a0_0 a0_1 true _ A7.out).mono ?_); rintro e w17 ⟨rfl, hb⟩; refine ⟨_, rfl, ?_⟩; replace BK291 := sqb BK291 hb; replace BK292 := sqb BK292 hb; replace HB := sqs HB hb; (try clear hb)))
        go_ret
        exact sqe HB
      · replace c8 := Bool.eq_false_iff.mpr c8
        subst c8
        have H1 : (if a1_0 ≤ a0_0 then (some (decide (a0_1 ≤ a1_1))) else (some false)) = some r := by rw [if_neg (show ¬ (false = true) by decide)] at H; exact H
        clear H
        have H := H1
        clear H1
        by_cases c18 : a1_0 ≤ a0_0
        · rw [if_pos c18] at H
          have c18b0 : decide (a1_0 ≤ a0_0) = true := decide_eq_true c18
          clear c18
          obtain rfl := Option.some.inj H
          go_enter Try.func45, Try.ntmps45
          go_wp2_with (first | ((with_reducible refine gate_dst (N := 2) rfl ?_); refine sqx 2 #[.int .i64 a0_0, .int .i64 a0_1] 27 ?_; intro gb291 hg w19 hbox hb; have BK291 := Aside0.mk (hbox); have GW291 := sqg HB hg; have GE291 := sqg HB hg; replace HB := sqs HB hb; clear hb hbox hg) | ((with_reducible refine gate_dst (N := 3) rfl ?_); refine sqx 3 #[.int .i64 a1_0, .int .i64 a1_1] 27 ?_; intro gb292 hg w20 hbox hb; have BK292 := Aside0.mk (hbox); have GW292 := sqg HB hg; have GE292 := sqg HB hg; have NB291_292 := sqn BK291 hg; have NB292_291 := sqm BK291 hg; replace BK291 := sqb BK291 hb; replace HB := sqs HB hb; clear hb hbox hg; have hnb21 := NB291_292.out; have hnc21 := NB292_291.out; obtain ⟨hcz22_0, hcz22_1, hfz22_0, hfz22_1⟩ := sqc2 BK291) | ((with_reducible refine gate_callee (f := 98) rfl ?_); refine sqL (some 6) Try.func98 #[.agg #[.int .i64 a0_0, .int .i64 a0_1]] ?_; (with_reducible refine (impl_RangeOk.calls a0_0 a0_1 true _ A3.out).mono ?_); rintro e w23 ⟨rfl, hb⟩; refine ⟨_, rfl, ?_⟩; replace BK291 := sqb BK291 hb; replace BK292 := sqb BK292 hb; replace HB := sqs HB hb; (try clear hb); obtain ⟨hcz24_0, hcz24_1, hfz24_0, hfz24_1⟩ := sqc2 BK292) | (go_at_call 98; (with_reducible refine (impl_RangeOk.calls a1_0 a1_1 true _ A5.out).mono ?_); rintro e w25 ⟨rfl, hb⟩; replace BK291 := sqb BK291 hb; replace BK292 := sqb BK292 hb; replace HB := sqs HB hb; (try clear hb); obtain ⟨hcz26_0, hcz26_1, hfz26_0, hfz26_1⟩ := sqc2 BK291) | ((with_reducible refine gate_callee (f := 99) rfl ?_); refine sqL (some 14) Try.func99 #[.agg #[.int .i64 a0_0, .int .i64 a0_1]] ?_; (with_reducible refine (impl_Range_empty.calls a0_0 a0_1 false _ A7.out).mono ?_); rintro e w27 ⟨rfl, hb⟩; refine ⟨_, rfl, ?_⟩; replace BK291 := sqb BK291 hb; replace BK292 := sqb BK292 hb; replace HB := sqs HB hb; (try clear hb); obtain ⟨hcz28_0, hcz28_1, hfz28_0, hfz28_1⟩ := sqc2 BK292; obtain ⟨hcz29_0, hcz29_1, hfz29_0, hfz29_1⟩ := sqc2 BK291))
          go_ret
          exact sqe HB
        · rw [if_neg c18] at H
          have c18b0 : decide (a1_0 ≤ a0_0) = false := decide_eq_false c18
          clear c18
          obtain rfl := Option.some.inj H
          go_enter Try.func45, Try.ntmps45
          go_wp2_with (first | ((with_reducible refine gate_dst (N := 2) rfl ?_); refine sqx 2 #[.int .i64 a0_0, .int .i64 a0_1] 27 ?_; intro gb291 hg w30 hbox hb; have BK291 := Aside0.mk (hbox); have GW291 := sqg HB hg; have GE291 := sqg HB hg; replace HB := sqs HB hb; clear hb hbox hg) | ((with_reducible refine gate_dst (N := 3) rfl ?_); refine sqx 3 #[.int .i64 a1_0, .int .i64 a1_1] 27 ?_; intro gb292 hg w31 hbox hb; have BK292 := Aside0.mk (hbox); have GW292 := sqg HB hg; have GE292 := sqg HB hg; have NB291_292 := sqn BK291 hg; have NB292_291 := sqm BK291 hg; replace BK291 := sqb BK291 hb; replace HB := sqs HB hb; clear hb hbox hg; have hnb32 := NB291_292.out; have hnc32 := NB292_291.out; obtain ⟨hcz33_0, hcz33_1, hfz33_0, hfz33_1⟩ := sqc2 BK291) | ((with_reducible refine gate_callee (f := 98) rfl ?_); refine sqL (some 6) Try.func98 #[.agg #[.int .i64 a0_0, .int .i64 a0_1]] ?_; (with_reducible refine (impl_RangeOk.calls a0_0 a0_1 true _ A3.out).mono ?_); rintro e w34 ⟨rfl, hb⟩; refine ⟨_, rfl, ?_⟩; replace BK291 := sqb BK291 hb; replace BK292 := sqb BK292 hb; replace HB := sqs HB hb; (try clear hb); obtain ⟨hcz35_0, hcz35_1, hfz35_0, hfz35_1⟩ := sqc2 BK292) | (go_at_call 98; (with_reducible refine (impl_RangeOk.calls a1_0 a1_1 true _ A5.out).mono ?_); rintro e w36 ⟨rfl, hb⟩; replace BK291 := sqb BK291 hb; replace BK292 := sqb BK292 hb; replace HB := sqs HB hb; (try clear hb); obtain ⟨hcz37_0, hcz37_1, hfz37_0, hfz37_1⟩ := sqc2 BK291) | ((with_reducible refine gate_callee (f := 99) rfl ?_); refine sqL (some 14) Try.func99 #[.agg #[.int .i64 a0_0, .int .i64 a0_1]] ?_; (with_reducible refine (impl_Range_empty.calls a0_0 a0_1 false _ A7.out).mono ?_); rintro e w38 ⟨rfl, hb⟩; refine ⟨_, rfl, ?_⟩; replace BK291 := sqb BK291 hb; replace BK292 := sqb BK292 hb; replace HB := sqs HB hb; (try clear hb); obtain ⟨hcz39_0, hcz39_1, hfz39_0, hfz39_1⟩ := sqc2 BK292; obtain ⟨hcz40_0, hcz40_1, hfz40_0, hfz40_1⟩ := sqc2 BK291))
          go_ret
          exact sqe HB
    · replace c6 := Bool.eq_false_iff.mpr c6
      subst c6
      have H1 : (some false) = some r := by rw [if_neg (show ¬ (false = true) by decide)] at H; exact H
      clear H
      have H := H1
      clear H1
      obtain rfl := Option.some.inj H
      go_enter Try.func45, Try.ntmps45
      go_wp2_with (first | ((with_reducible refine gate_dst (N := 2) rfl ?_); refine sqx 2 #[.int .i64 a0_0, .int .i64 a0_1] 27 ?_; intro gb291 hg w41 hbox hb; have BK291 := Aside0.mk (hbox); have GW291 := sqg HB hg; have GE291 := sqg HB hg; replace HB := sqs HB hb; clear hb hbox hg) | ((with_reducible refine gate_dst (N := 3) rfl ?_); refine sqx 3 #[.int .i64 a1_0, .int .i64 a1_1] 27 ?_; intro gb292 hg w42 hbox hb; have BK292 := Aside0.mk (hbox); have GW292 := sqg HB hg; have GE292 := sqg HB hg; have NB291_292 := sqn BK291 hg; have NB292_291 := sqm BK291 hg; replace BK291 := sqb BK291 hb; replace HB := sqs HB hb; clear hb hbox hg; have hnb43 := NB291_292.out; have hnc43 := NB292_291.out; obtain ⟨hcz44_0, hcz44_1, hfz44_0, hfz44_1⟩ := sqc2 BK291) | ((with_reducible refine gate_callee (f := 98) rfl ?_); refine sqL (some 6) Try.func98 #[.agg #[.int .i64 a0_0, .int .i64 a0_1]] ?_; (with_reducible refine (impl_RangeOk.calls a0_0 a0_1 true _ A3.out).mono ?_); rintro e w45 ⟨rfl, hb⟩; refine ⟨_, rfl, ?_⟩; replace BK291 := sqb BK291 hb; replace BK292 := sqb BK292 hb; replace HB := sqs HB hb; (try clear hb); obtain ⟨hcz46_0, hcz46_1, hfz46_0, hfz46_1⟩ := sqc2 BK292) | (go_at_call 98; (with_reducible refine (impl_RangeOk.calls a1_0 a1_1 false _ A5.out).mono ?_); rintro e w47 ⟨rfl, hb⟩; replace BK291 := sqb BK291 hb; replace BK292 := sqb BK292 hb; replace HB := sqs HB hb; (try clear hb)))
      go_ret
      exact sqe HB
  · replace c4 := Bool.eq_false_iff.mpr c4
    subst c4
    have H1 : (some false) = some r := by rw [if_neg (show ¬ (false = true) by decide)] at H; exact H
    clear H
    have H := H1
    clear H1
    obtain rfl := Option.some.inj H
    go_enter Try.func45, Try.ntmps45
    go_wp2_with (first | ((with_reducible refine gate_dst (N := 2) rfl ?_); refine sqx 2 #[.int .i64 a0_0, .int .i64 a0_1] 27 ?_; intro gb291 hg w48 hbox hb; have BK291 := Aside0.mk (hbox); have GW291 := sqg HB hg; have GE291 := sqg HB hg; replace HB := sqs HB hb; clear hb hbox hg) | ((with_reducible refine gate_dst (N := 3) rfl ?_); refine sqx 3 #[.int .i64 a1_0, .int .i64 a1_1] 27 ?_; intro gb292 hg w49 hbox hb; have BK292 := Aside0.mk (hbox); have GW292 := sqg HB hg; have GE292 := sqg HB hg; have NB291_292 := sqn BK291 hg; have NB292_291 := sqm BK291 hg; replace BK291 := sqb BK291 hb; replace HB := sqs HB hb; clear hb hbox hg; have hnb50 := NB291_292.out; have hnc50 := NB292_291.out; obtain ⟨hcz51_0, hcz51_1, hfz51_0, hfz51_1⟩ := sqc2 BK291) | ((with_reducible refine gate_callee (f := 98) rfl ?_); refine sqL (some 6) Try.func98 #[.agg #[.int .i64 a0_0, .int .i64 a0_1]] ?_; (with_reducible refine (impl_RangeOk.calls a0_0 a0_1 false _ A3.out).mono ?_); rintro e w52 ⟨rfl, hb⟩; refine ⟨_, rfl, ?_⟩; replace BK291 := sqb BK291 hb; replace BK292 := sqb BK292 hb; replace HB := sqs HB hb; (try clear hb)))
    go_ret
    exact sqe HB

/-! ### impl_rangeFrom: function 74 -/
set_option maxHeartbeats 8000000 in
set_option maxRecDepth 100000 in
theorem impl_rangeFrom.calls (a0 : Int) (a1 : Int) (r1 : Int) (r2 : Int) (w : World) (h : impl_rangeFrom.f a0 a1 = some (r1, r2)) :
    Calls Try.prog 74 #[.int .i64 a0, .int .i64 a1] w fun e w' => e = .returned (.agg #[.int .i64 r1, .int .i64 r2]) ∧ Below w.heap.size w w' := by
  have hu27 := Try.underlying27
  have HB := Aside0.mk (Below.refl w.heap.size w)
  have H : (if (mx a0 (-2147483648)) > (mn a1 2147483647) then ((impl_rangeNone.f).bind fun bt298 => (some (bt298.1, bt298.2))) else (some (mx a0 (-2147483648), mn a1 2147483647))) = some (r1, r2) := h
  clear h
  obtain ⟨ji3, hji3⟩ : ∃ j_ : Int, (mx a0 (-2147483648)) = j_ := ⟨_, rfl⟩
  replace H : (if (ji3) > (mn a1 2147483647) then ((impl_rangeNone.f).bind fun bt298 => (some (bt298.1, bt298.2))) else (some (ji3, mn a1 2147483647))) = some (r1, r2) := by first | (rw [hji3] at H; exact H) | (simp only [hji3] at H ⊢; exact H)
  have hji3_ : (if a0 < (-2147483648) then (-2147483648) else a0) = ji3 := hji3
  obtain ⟨ji4, hji4⟩ : ∃ j_ : Int, (mn a1 2147483647) = j_ := ⟨_, rfl⟩
  replace H : (if (ji3) > (ji4) then ((impl_rangeNone.f).bind fun bt298 => (some (bt298.1, bt298.2))) else (some (ji3, ji4))) = some (r1, r2) := by first | (rw [hji4] at H; exact H) | (simp only [hji4] at H ⊢; exact H)
  (try (have hji4h : ji4 ≤ 2147483647 := by (rw [← hji4]; unfold mn; (repeat' split) <;> omega)))
  (try (have hji4g : ji4 ≤ 64 := by omega))
  have hji4_ : (if 2147483647 < a1 then 2147483647 else a1) = ji4 := hji4
  by_cases c5 : (ji3) > (ji4)
  · rw [if_pos c5] at H
    have c5b0 : decide ((ji4) < (ji3)) = true := decide_eq_true c5
    clear c5
    replace H := Option.bind_eq_some_iff.mp H
    obtain ⟨⟨t298, t299⟩, A60, H⟩ := H
    replace H : (some (t298, t299)) = some (r1, r2) := H
    have A6 := Aside0.mk A60
    clear A60
    simp only [Option.some.injEq, Prod.mk.injEq] at H
    obtain ⟨rfl, rfl⟩ := H
    go_enter Try.func74, Try.ntmps74
    go_wp2_with (first | ((with_reducible refine gate_dst (N := 4) rfl ?_); refine sqx 4 #[.int .i64 0, .int .i64 0] 27 ?_; intro gb296 hg w7 hbox hb; have BK296 := Aside0.mk (hbox); have GW296 := sqg HB hg; have GE296 := sqg HB hg; replace HB := sqs HB hb; clear hb hbox hg) | ((with_reducible refine gate_dst (N := 5) rfl ?_); refine sqx 5 #[.int .i64 0, .int .i64 0] 27 ?_; intro gb297 hg w8 hbox hb; have BK297 := Aside0.mk (hbox); have GW297 := sqg HB hg; have GE297 := sqg HB hg; have NB296_297 := sqn BK296 hg; have NB297_296 := sqm BK296 hg; replace BK296 := sqb BK296 hb; replace HB := sqs HB hb; clear hb hbox hg; have hnb9 := NB297_296.out; have hnc9 := NB296_297.out; obtain ⟨hcz10_0, hcz10_1, hfz10_0, hfz10_1⟩ := sqc2 BK297) | ((with_reducible refine gate_callee (f := 73) rfl ?_); refine sqL (some 16) Try.func73 #[] ?_; (with_reducible refine (impl_rangeNone.calls  t298 t299 _ A6.out).mono ?_); rintro e w11 ⟨rfl, hb⟩; refine ⟨_, rfl, ?_⟩; have n0_ := Aside0.mk (blk_below (g := gb296) (o := .cells #[.int .i64 0, .int .i64 0] 27 (0, 0)) (by refine sqt ?_; refine blk_far ?_ NB296_297.out _; refine sqt ?_; refine blk_far ?_ NB296_297.out _; refine sqt ?_; exact BK296.out) hb); have n1_ := Aside0.mk (blk_below (g := gb297) (o := .cells #[.int .i64 ji3, .int .i64 ji4] 27 (0, 0)) (by refine sqt ?_; refine blk_put (cs := #[.int .i64 ji3, .int .i64 0]) ?_ 1 _ rfl; refine sqt ?_; refine blk_put (cs := #[.int .i64 0, .int .i64 0]) ?_ 0 _ rfl; refine sqt ?_; exact BK297.out) hb); have n2_ := sqs HB hb; clear BK296; clear BK297; clear HB; have BK296 := n0_; have BK297 := n1_; have HB := n2_; clear n0_ n1_ n2_; (try clear hb); obtain ⟨hcz12_0, hcz12_1, hfz12_0, hfz12_1⟩ := sqc2 BK296))
    refine bodyPost_ret (results_cell_row rfl _ _ gb296 27 #[.int .i64 t298, .int .i64 t299] (0, 0) _ rfl (by refine sqt ?_; refine blk_put (cs := #[.int .i64 t298, .int .i64 0]) ?_ 1 _ rfl; refine sqt ?_; refine blk_put (cs := #[.int .i64 0, .int .i64 0]) ?_ 0 _ rfl; refine sqt ?_; exact BK296.out) Try.underlying27 rfl (by kernel_rfl)) rfl ?_
    exact ⟨by first | rfl | (simp [errW_none, errW_some] <;> rfl) | (simp only [← hji3, ← hji4]; first | rfl | (simp [errW_none, errW_some] <;> rfl)) | (simp [*, errW_none, errW_some] <;> rfl), by repeat (first | (with_reducible first | exact HB.out | apply below_alloc | apply pw_below_drewN | apply below_drew1 | refine below_set ?_ GE296.out | refine below_set ?_ GE297.out) | exact HB.out)⟩
  · rw [if_neg c5] at H
    have c5b0 : decide ((ji4) < (ji3)) = false := decide_eq_false c5
    clear c5
    simp only [Option.some.injEq, Prod.mk.injEq] at H
    obtain ⟨rfl, rfl⟩ := H
    go_enter Try.func74, Try.ntmps74
    go_wp2_with (first | ((with_reducible refine gate_dst (N := 4) rfl ?_); refine sqx 4 #[.int .i64 0, .int .i64 0] 27 ?_; intro gb296 hg w13 hbox hb; have BK296 := Aside0.mk (hbox); have GW296 := sqg HB hg; have GE296 := sqg HB hg; replace HB := sqs HB hb; clear hb hbox hg) | ((with_reducible refine gate_dst (N := 5) rfl ?_); refine sqx 5 #[.int .i64 0, .int .i64 0] 27 ?_; intro gb297 hg w14 hbox hb; have BK297 := Aside0.mk (hbox); have GW297 := sqg HB hg; have GE297 := sqg HB hg; have NB296_297 := sqn BK296 hg; have NB297_296 := sqm BK296 hg; replace BK296 := sqb BK296 hb; replace HB := sqs HB hb; clear hb hbox hg; have hnb15 := NB297_296.out; have hnc15 := NB296_297.out; obtain ⟨hcz16_0, hcz16_1, hfz16_0, hfz16_1⟩ := sqc2 BK297; obtain ⟨hcz17_0, hcz17_1, hfz17_0, hfz17_1⟩ := sqc2 BK296))
    refine bodyPost_ret (results_cell_row rfl _ _ gb296 27 #[.int .i64 ji3, .int .i64 ji4] (0, 0) _ rfl (by refine sqt ?_; refine blk_put (cs := #[.int .i64 ji3, .int .i64 0]) ?_ 1 _ rfl; refine sqt ?_; refine blk_put (cs := #[.int .i64 0, .int .i64 0]) ?_ 0 _ rfl; refine sqt ?_; refine blk_far ?_ NB296_297.out _; refine sqt ?_; refine blk_far ?_ NB296_297.out _; refine sqt ?_; exact BK296.out) Try.underlying27 rfl (by kernel_rfl)) rfl ?_
    exact ⟨by first | rfl | (simp [errW_none, errW_some] <;> rfl) | (simp only [← hji3, ← hji4]; first | rfl | (simp [errW_none, errW_some] <;> rfl)) | (simp [*, errW_none, errW_some] <;> rfl), by repeat (first | (with_reducible first | exact HB.out | apply below_alloc | apply pw_below_drewN | apply below_drew1 | refine below_set ?_ GE296.out | refine below_set ?_ GE297.out) | exact HB.out)⟩

/-! ### impl_RangeMeet: function 47 -/
theorem impl_RangeMeet.mono_l : ∀ k, (∀ y0 y1 y2 y3 y4, LeO (impl_RangeMeet.j0 k y0 y1 y2 y3 y4) (impl_RangeMeet.j0 (k + 1) y0 y1 y2 y3 y4))
  | 0 => fun _ _ _ _ _ r h => by simp [impl_RangeMeet.j0] at h
  | k + 1 => by
    have ih0 := impl_RangeMeet.mono_l k
    · intro y0 y1 y2 y3 y4
      unfold impl_RangeMeet.j0
      repeat' first
      | (with_reducible exact ih0 _ _ _ _ _)
      | (with_reducible exact LeO.refl _)
      | (with_reducible exact LeO.none _)
      | (with_reducible refine LeO.ite ?_ ?_)
      | (with_reducible refine LeO.bind ?_ (fun _ => ?_))
      | exact ih0 _ _ _ _ _
      | exact LeO.none _
      | refine LeO.ite ?_ ?_
      | refine LeO.bind ?_ (fun _ => ?_)
theorem impl_RangeMeet.mono : ∀ a0 a1 a2 a3 k, LeO (impl_RangeMeet.f k a0 a1 a2 a3) (impl_RangeMeet.f (k + 1) a0 a1 a2 a3) := by
  intro a0 a1 a2 a3 k
  have ih0 := impl_RangeMeet.mono_l k
  unfold impl_RangeMeet.f
  repeat' first
      | (with_reducible exact ih0 _ _ _ _ _)
      | (with_reducible exact LeO.refl _)
      | (with_reducible exact LeO.none _)
      | (with_reducible refine LeO.ite ?_ ?_)
      | (with_reducible refine LeO.bind ?_ (fun _ => ?_))
      | exact ih0 _ _ _ _ _
      | exact LeO.none _
      | refine LeO.ite ?_ ?_
      | refine LeO.bind ?_ (fun _ => ?_)
set_option maxHeartbeats 8000000 in
set_option maxRecDepth 100000 in
theorem impl_RangeMeet.calls (k : Nat) (a0_0 : Int) (a0_1 : Int) (a1_0 : Int) (a1_1 : Int) (r1 : Int) (r2 : Int) (w : World) (h : impl_RangeMeet.f k a0_0 a0_1 a1_0 a1_1 = some (r1, r2)) :
    Calls Try.prog 47 #[.agg #[.int .i64 a0_0, .int .i64 a0_1], .agg #[.int .i64 a1_0, .int .i64 a1_1]] w fun e w' => e = .returned (.agg #[.int .i64 r1, .int .i64 r2]) ∧ Below w.heap.size w w' := by
  have hu27 := Try.underlying27
  have HB := Aside0.mk (Below.refl w.heap.size w)
  have H : ((impl_RangeOk.f a0_0 a0_1).bind fun t303 => (if t303 = true then ((impl_RangeOk.f a1_0 a1_1).bind fun t304 => (if t304 = true then ((impl_Range_empty.f a0_0 a0_1).bind fun t305 => (if t305 = true then (impl_RangeMeet.j0 k true a0_0 a0_1 a1_0 a1_1) else ((impl_Range_empty.f a1_0 a1_1).bind fun t306 => (impl_RangeMeet.j0 k t306 a0_0 a0_1 a1_0 a1_1)))) else (impl_RangeMeet.j0 k true a0_0 a0_1 a1_0 a1_1))) else (impl_RangeMeet.j0 k true a0_0 a0_1 a1_0 a1_1))) = some (r1, r2) := h
  clear h
  have HC3 := Aside0.mk H
  clear H
  go_enter Try.func47, Try.ntmps47
  go_upto_region 1 with (first | ((with_reducible refine gate_dst (N := 2) rfl ?_); refine sqx 2 #[.int .i64 a0_0, .int .i64 a0_1] 27 ?_; intro gb300 hg w4 hbox hb; have BK300 := Aside0.mk (hbox); have GW300 := sqg HB hg; have GE300 := sqg HB hg; replace HB := sqs HB hb; clear hb hbox hg) | ((with_reducible refine gate_dst (N := 3) rfl ?_); refine sqx 3 #[.int .i64 a1_0, .int .i64 a1_1] 27 ?_; intro gb301 hg w5 hbox hb; have BK301 := Aside0.mk (hbox); have GW301 := sqg HB hg; have GE301 := sqg HB hg; have NB300_301 := sqn BK300 hg; have NB301_300 := sqm BK300 hg; replace BK300 := sqb BK300 hb; replace HB := sqs HB hb; clear hb hbox hg) | ((with_reducible refine gate_dst (N := 4) rfl ?_); refine sqx 4 #[.int .i64 0, .int .i64 0] 27 ?_; intro gb302 hg w6 hbox hb; have BK302 := Aside0.mk (hbox); have GW302 := sqg HB hg; have GE302 := sqg HB hg; have NB300_302 := sqn BK300 hg; have NB302_300 := sqm BK300 hg; have NB301_302 := sqn BK301 hg; have NB302_301 := sqm BK301 hg; replace BK300 := sqb BK300 hb; replace BK301 := sqb BK301 hb; replace HB := sqs HB hb; clear hb hbox hg))
  (try simp only [Act.put, List.setIfInBounds_toArray, List.set_cons_zero, List.set_cons_succ])
  go_cut [20] (fun v20 wc => ∃ (kq : Nat) (x20_2 : Bool), v20 = .bool x20_2 ∧ Aside0 (impl_RangeMeet.j0 kq x20_2 a0_0 a0_1 a1_0 a1_1 = some (r1, r2)) ∧ Aside0 (kq ≤ k) ∧ Aside0 (wc.heap[gb300]? = some (.cells #[.int .i64 a0_0, .int .i64 a0_1] 27 (0, 0))) ∧ Aside0 (wc.heap[gb301]? = some (.cells #[.int .i64 a1_0, .int .i64 a1_1] 27 (0, 0))) ∧ Aside0 (wc.heap[gb302]? = some (.cells #[.int .i64 0, .int .i64 0] 27 (0, 0))) ∧ Aside0 (Below w.heap.size w wc))
  case first =>
    have H := HC3.out
    clear HC3
    replace H := Option.bind_eq_some_iff.mp H
    obtain ⟨t303, A70, H⟩ := H
    replace H : (if t303 = true then ((impl_RangeOk.f a1_0 a1_1).bind fun t304 => (if t304 = true then ((impl_Range_empty.f a0_0 a0_1).bind fun t305 => (if t305 = true then (impl_RangeMeet.j0 k true a0_0 a0_1 a1_0 a1_1) else ((impl_Range_empty.f a1_0 a1_1).bind fun t306 => (impl_RangeMeet.j0 k t306 a0_0 a0_1 a1_0 a1_1)))) else (impl_RangeMeet.j0 k true a0_0 a0_1 a1_0 a1_1))) else (impl_RangeMeet.j0 k true a0_0 a0_1 a1_0 a1_1)) = some (r1, r2) := H
    have A7 := Aside0.mk A70
    clear A70
    by_cases c8 : t303 = true
    · subst c8
      have H1 : ((impl_RangeOk.f a1_0 a1_1).bind fun t304 => (if t304 = true then ((impl_Range_empty.f a0_0 a0_1).bind fun t305 => (if t305 = true then (impl_RangeMeet.j0 k true a0_0 a0_1 a1_0 a1_1) else ((impl_Range_empty.f a1_0 a1_1).bind fun t306 => (impl_RangeMeet.j0 k t306 a0_0 a0_1 a1_0 a1_1)))) else (impl_RangeMeet.j0 k true a0_0 a0_1 a1_0 a1_1))) = some (r1, r2) := by rw [if_pos rfl] at H; exact H
      clear H
      have H := H1
      clear H1
      replace H := Option.bind_eq_some_iff.mp H
      obtain ⟨t304, A90, H⟩ := H
      replace H : (if t304 = true then ((impl_Range_empty.f a0_0 a0_1).bind fun t305 => (if t305 = true then (impl_RangeMeet.j0 k true a0_0 a0_1 a1_0 a1_1) else ((impl_Range_empty.f a1_0 a1_1).bind fun t306 => (impl_RangeMeet.j0 k t306 a0_0 a0_1 a1_0 a1_1)))) else (impl_RangeMeet.j0 k true a0_0 a0_1 a1_0 a1_1)) = some (r1, r2) := H
      have A9 := Aside0.mk A90
      clear A90
      by_cases c10 : t304 = true
      · subst c10
        have H1 : ((impl_Range_empty.f a0_0 a0_1).bind fun t305 => (if t305 = true then (impl_RangeMeet.j0 k true a0_0 a0_1 a1_0 a1_1) else ((impl_Range_empty.f a1_0 a1_1).bind fun t306 => (impl_RangeMeet.j0 k t306 a0_0 a0_1 a1_0 a1_1)))) = some (r1, r2) := by rw [if_pos rfl] at H; exact H
        clear H
        have H := H1
        clear H1
        replace H := Option.bind_eq_some_iff.mp H
        obtain ⟨t305, A110, H⟩ := H
        replace H : (if t305 = true then (impl_RangeMeet.j0 k true a0_0 a0_1 a1_0 a1_1) else ((impl_Range_empty.f a1_0 a1_1).bind fun t306 => (impl_RangeMeet.j0 k t306 a0_0 a0_1 a1_0 a1_1))) = some (r1, r2) := H
        have A11 := Aside0.mk A110
        clear A110
        by_cases c12 : t305 = true
        · subst c12
          have H1 : (impl_RangeMeet.j0 k true a0_0 a0_1 a1_0 a1_1) = some (r1, r2) := by rw [if_pos rfl] at H; exact H
          clear H
          have H := H1
          clear H1
          have H' := Aside0.mk H
          clear H
          have hnb13 := NB300_301.out
          have hnc13 := NB301_300.out
          have hnb14 := NB300_302.out
          have hnc14 := NB302_300.out
          obtain ⟨hcz15_0, hcz15_1, hfz15_0, hfz15_1⟩ := sqc2 BK300
          go_wp2_with (first | ((with_reducible refine gate_callee (f := 98) rfl ?_); refine sqL (some 6) Try.func98 #[.agg #[.int .i64 a0_0, .int .i64 a0_1]] ?_; (with_reducible refine (impl_RangeOk.calls a0_0 a0_1 true _ A7.out).mono ?_); rintro e w16 ⟨rfl, hb⟩; refine ⟨_, rfl, ?_⟩; replace BK300 := sqb BK300 hb; replace BK301 := sqb BK301 hb; replace BK302 := sqb BK302 hb; replace HB := sqs HB hb; (try clear hb); have hnb17 := NB301_302.out; have hnc17 := NB302_301.out; obtain ⟨hcz18_0, hcz18_1, hfz18_0, hfz18_1⟩ := sqc2 BK301) | (go_at_call 98; (with_reducible refine (impl_RangeOk.calls a1_0 a1_1 true _ A9.out).mono ?_); rintro e w19 ⟨rfl, hb⟩; replace BK300 := sqb BK300 hb; replace BK301 := sqb BK301 hb; replace BK302 := sqb BK302 hb; replace HB := sqs HB hb; (try clear hb); obtain ⟨hcz20_0, hcz20_1, hfz20_0, hfz20_1⟩ := sqc2 BK300) | (go_at_call 99; (with_reducible refine (impl_Range_empty.calls a0_0 a0_1 true _ A11.out).mono ?_); rintro e w21 ⟨rfl, hb⟩; replace BK300 := sqb BK300 hb; replace BK301 := sqb BK301 hb; replace BK302 := sqb BK302 hb; replace HB := sqs HB hb; (try clear hb)))
          go_meet
          case rel => exact ⟨_, (true), (by first | rfl | (simp; done) | (simp [*]; done)), H', ⟨by first | omega | exact Nat.le_refl _⟩, sqk BK300, sqk BK301, sqk BK302, sqh HB⟩
        · replace c12 := Bool.eq_false_iff.mpr c12
          subst c12
          have H1 : ((impl_Range_empty.f a1_0 a1_1).bind fun t306 => (impl_RangeMeet.j0 k t306 a0_0 a0_1 a1_0 a1_1)) = some (r1, r2) := by rw [if_neg (show ¬ (false = true) by decide)] at H; exact H
          clear H
          have H := H1
          clear H1
          replace H := Option.bind_eq_some_iff.mp H
          obtain ⟨t306, A220, H⟩ := H
          replace H : (impl_RangeMeet.j0 k t306 a0_0 a0_1 a1_0 a1_1) = some (r1, r2) := H
          have A22 := Aside0.mk A220
          clear A220
          have H' := Aside0.mk H
          clear H
          have hnb23 := NB300_301.out
          have hnc23 := NB301_300.out
          have hnb24 := NB300_302.out
          have hnc24 := NB302_300.out
          obtain ⟨hcz25_0, hcz25_1, hfz25_0, hfz25_1⟩ := sqc2 BK300
          go_wp2_with (first | ((with_reducible refine gate_callee (f := 98) rfl ?_); refine sqL (some 6) Try.func98 #[.agg #[.int .i64 a0_0, .int .i64 a0_1]] ?_; (with_reducible refine (impl_RangeOk.calls a0_0 a0_1 true _ A7.out).mono ?_); rintro e w26 ⟨rfl, hb⟩; refine ⟨_, rfl, ?_⟩; replace BK300 := sqb BK300 hb; replace BK301 := sqb BK301 hb; replace BK302 := sqb BK302 hb; replace HB := sqs HB hb; (try clear hb); have hnb27 := NB301_302.out; have hnc27 := NB302_301.out; obtain ⟨hcz28_0, hcz28_1, hfz28_0, hfz28_1⟩ := sqc2 BK301) | (go_at_call 98; (with_reducible refine (impl_RangeOk.calls a1_0 a1_1 true _ A9.out).mono ?_); rintro e w29 ⟨rfl, hb⟩; replace BK300 := sqb BK300 hb; replace BK301 := sqb BK301 hb; replace BK302 := sqb BK302 hb; replace HB := sqs HB hb; (try clear hb); obtain ⟨hcz30_0, hcz30_1, hfz30_0, hfz30_1⟩ := sqc2 BK300) | (go_at_call 99; (with_reducible refine (impl_Range_empty.calls a0_0 a0_1 false _ A11.out).mono ?_); rintro e w31 ⟨rfl, hb⟩; replace BK300 := sqb BK300 hb; replace BK301 := sqb BK301 hb; replace BK302 := sqb BK302 hb; replace HB := sqs HB hb; (try clear hb); obtain ⟨hcz32_0, hcz32_1, hfz32_0, hfz32_1⟩ := sqc2 BK301) | (go_at_call 99; (with_reducible refine (impl_Range_empty.calls a1_0 a1_1 t306 _ A22.out).mono ?_); rintro e w33 ⟨rfl, hb⟩; replace BK300 := sqb BK300 hb; replace BK301 := sqb BK301 hb; replace BK302 := sqb BK302 hb; replace HB := sqs HB hb; (try clear hb)))
          go_meet
          case rel => exact ⟨_, (t306), (by first | rfl | (simp; done) | (simp [*]; done)), H', ⟨by first | omega | exact Nat.le_refl _⟩, sqk BK300, sqk BK301, sqk BK302, sqh HB⟩
      · replace c10 := Bool.eq_false_iff.mpr c10
        subst c10
        have H1 : (impl_RangeMeet.j0 k true a0_0 a0_1 a1_0 a1_1) = some (r1, r2) := by rw [if_neg (show ¬ (false = true) by decide)] at H; exact H
        clear H
        have H := H1
        clear H1
        have H' := Aside0.mk H
        clear H
        have hnb34 := NB300_301.out
        have hnc34 := NB301_300.out
        have hnb35 := NB300_302.out
        have hnc35 := NB302_300.out
        obtain ⟨hcz36_0, hcz36_1, hfz36_0, hfz36_1⟩ := sqc2 BK300
        go_wp2_with (first | ((with_reducible refine gate_callee (f := 98) rfl ?_); refine sqL (some 6) Try.func98 #[.agg #[.int .i64 a0_0, .int .i64 a0_1]] ?_; (with_reducible refine (impl_RangeOk.calls a0_0 a0_1 true _ A7.out).mono ?_); rintro e w37 ⟨rfl, hb⟩; refine ⟨_, rfl, ?_⟩; replace BK300 := sqb BK300 hb; replace BK301 := sqb BK301 hb; replace BK302 := sqb BK302 hb; replace HB := sqs HB hb; (try clear hb); have hnb38 := NB301_302.out; have hnc38 := NB302_301.out; obtain ⟨hcz39_0, hcz39_1, hfz39_0, hfz39_1⟩ := sqc2 BK301) | (go_at_call 98; (with_reducible refine (impl_RangeOk.calls a1_0 a1_1 false _ A9.out).mono ?_); rintro e w40 ⟨rfl, hb⟩; replace BK300 := sqb BK300 hb; replace BK301 := sqb BK301 hb; replace BK302 := sqb BK302 hb; replace HB := sqs HB hb; (try clear hb)))
        go_meet
        case rel => exact ⟨_, (true), (by first | rfl | (simp; done) | (simp [*]; done)), H', ⟨by first | omega | exact Nat.le_refl _⟩, sqk BK300, sqk BK301, sqk BK302, sqh HB⟩
    · replace c8 := Bool.eq_false_iff.mpr c8
      subst c8
      have H1 : (impl_RangeMeet.j0 k true a0_0 a0_1 a1_0 a1_1) = some (r1, r2) := by rw [if_neg (show ¬ (false = true) by decide)] at H; exact H
      clear H
      have H := H1
      clear H1
      have H' := Aside0.mk H
      clear H
      have hnb41 := NB300_301.out
      have hnc41 := NB301_300.out
      have hnb42 := NB300_302.out
      have hnc42 := NB302_300.out
      obtain ⟨hcz43_0, hcz43_1, hfz43_0, hfz43_1⟩ := sqc2 BK300
      go_wp2_with (first | ((with_reducible refine gate_callee (f := 98) rfl ?_); refine sqL (some 6) Try.func98 #[.agg #[.int .i64 a0_0, .int .i64 a0_1]] ?_; (with_reducible refine (impl_RangeOk.calls a0_0 a0_1 false _ A7.out).mono ?_); rintro e w44 ⟨rfl, hb⟩; refine ⟨_, rfl, ?_⟩; replace BK300 := sqb BK300 hb; replace BK301 := sqb BK301 hb; replace BK302 := sqb BK302 hb; replace HB := sqs HB hb; (try clear hb)))
      go_meet
      case rel => exact ⟨_, (true), (by first | rfl | (simp; done) | (simp [*]; done)), H', ⟨by first | omega | exact Nat.le_refl _⟩, sqk BK300, sqk BK301, sqk BK302, sqh HB⟩
  case rest =>
    clear HC3
    obtain ⟨kq, x20_2, rfl, HA, HJ2, BK300, BK301, BK302, HB⟩ := hcut
    cases kq with
    | zero => exact absurd HA.out (by simp [impl_RangeMeet.j0])
    | succ kj2 =>
      have H := HA.out
      clear HA
      simp only [impl_RangeMeet.j0] at H
      by_cases c45 : x20_2 = true
      · subst c45
        have H1 : ((impl_rangeNone.f).bind fun bt307 => (some (bt307.1, bt307.2))) = some (r1, r2) := by rw [if_pos rfl] at H; exact H
        clear H
        have H := H1
        clear H1
        replace H := Option.bind_eq_some_iff.mp H
        obtain ⟨⟨t307, t308⟩, A460, H⟩ := H
        replace H : (some (t307, t308)) = some (r1, r2) := H
        have A46 := Aside0.mk A460
        clear A460
        simp only [Option.some.injEq, Prod.mk.injEq] at H
        obtain ⟨rfl, rfl⟩ := H
        go_wp2_with (first | ((with_reducible refine gate_callee (f := 73) rfl ?_); refine sqL (some 21) Try.func73 #[] ?_; (with_reducible refine (impl_rangeNone.calls  t307 t308 _ A46.out).mono ?_); rintro e w47 ⟨rfl, hb⟩; refine ⟨_, rfl, ?_⟩; replace BK300 := sqb BK300 hb; replace BK301 := sqb BK301 hb; replace BK302 := sqb BK302 hb; replace HB := sqs HB hb; (try clear hb); have hnb48 := NB302_300.out; have hnc48 := NB300_302.out; have hnb49 := NB302_301.out; have hnc49 := NB301_302.out; obtain ⟨hcz50_0, hcz50_1, hfz50_0, hfz50_1⟩ := sqc2 BK302))
        refine bodyPost_ret (results_cell_row rfl _ _ gb302 27 #[.int .i64 t307, .int .i64 t308] (0, 0) _ rfl (by refine sqt ?_; refine blk_put (cs := #[.int .i64 t307, .int .i64 0]) ?_ 1 _ rfl; refine sqt ?_; refine blk_put (cs := #[.int .i64 0, .int .i64 0]) ?_ 0 _ rfl; refine sqt ?_; exact BK302.out) Try.underlying27 rfl (by kernel_rfl)) rfl ?_
        exact sqe HB
      · replace c45 := Bool.eq_false_iff.mpr c45
        subst c45
        have H1 : ((impl_rangeFrom.f (mx a0_0 a1_0) (mn a0_1 a1_1)).bind fun bt309 => (some (bt309.1, bt309.2))) = some (r1, r2) := by rw [if_neg (show ¬ (false = true) by decide)] at H; exact H
        clear H
        have H := H1
        clear H1
        obtain ⟨ji51, hji51⟩ : ∃ j_ : Int, (mx a0_0 a1_0) = j_ := ⟨_, rfl⟩
        replace H : ((impl_rangeFrom.f (ji51) (mn a0_1 a1_1)).bind fun bt309 => (some (bt309.1, bt309.2))) = some (r1, r2) := by first | (rw [hji51] at H; exact H) | (simp only [hji51] at H ⊢; exact H)
        have hji51_ : (if a0_0 < a1_0 then a1_0 else a0_0) = ji51 := hji51
        obtain ⟨ji52, hji52⟩ : ∃ j_ : Int, (mn a0_1 a1_1) = j_ := ⟨_, rfl⟩
        replace H : ((impl_rangeFrom.f (ji51) (ji52)).bind fun bt309 => (some (bt309.1, bt309.2))) = some (r1, r2) := by first | (rw [hji52] at H; exact H) | (simp only [hji52] at H ⊢; exact H)
        have hji52_ : (if a1_1 < a0_1 then a1_1 else a0_1) = ji52 := hji52
        replace H := Option.bind_eq_some_iff.mp H
        obtain ⟨⟨t309, t310⟩, A530, H⟩ := H
        replace H : (some (t309, t310)) = some (r1, r2) := H
        have A53 := Aside0.mk A530
        clear A530
        simp only [Option.some.injEq, Prod.mk.injEq] at H
        obtain ⟨rfl, rfl⟩ := H
        have hnb54 := NB300_301.out
        have hnc54 := NB301_300.out
        have hnb55 := NB300_302.out
        have hnc55 := NB302_300.out
        obtain ⟨hcz56_0, hcz56_1, hfz56_0, hfz56_1⟩ := sqc2 BK300
        have hnb57 := NB301_302.out
        have hnc57 := NB302_301.out
        obtain ⟨hcz58_0, hcz58_1, hfz58_0, hfz58_1⟩ := sqc2 BK301
        go_wp2_with (first | ((with_reducible refine gate_callee (f := 74) rfl ?_); refine goesL_ (some 32) rfl rfl Try.func74 (by kernel_rfl) rfl #[.int .i64 ji51, .int .i64 ji52] rfl (by (try simp only [List.map_toArray, List.map_cons, List.map_nil]); first | done | (simp only [hji51, hji52]; rfl) | rfl | (simp only [List.length_drop, List.length_take]; rfl)) ?_; (with_reducible refine (impl_rangeFrom.calls ji51 ji52 t309 t310 _ A53.out).mono ?_); rintro e w59 ⟨rfl, hb⟩; refine ⟨_, rfl, ?_⟩; replace BK300 := sqb BK300 hb; replace BK301 := sqb BK301 hb; replace BK302 := sqb BK302 hb; replace HB := sqs HB hb; (try clear hb); obtain ⟨hcz60_0, hcz60_1, hfz60_0, hfz60_1⟩ := sqc2 BK302))
        refine bodyPost_ret (results_cell_row rfl _ _ gb302 27 #[.int .i64 t309, .int .i64 t310] (0, 0) _ rfl (by refine sqt ?_; refine blk_put (cs := #[.int .i64 t309, .int .i64 0]) ?_ 1 _ rfl; refine sqt ?_; refine blk_put (cs := #[.int .i64 0, .int .i64 0]) ?_ 0 _ rfl; refine sqt ?_; exact BK302.out) Try.underlying27 rfl (by kernel_rfl)) rfl ?_
        exact ⟨by first | rfl | (simp [errW_none, errW_some] <;> rfl) | (simp only [← hji51, ← hji52]; first | rfl | (simp [errW_none, errW_some] <;> rfl)) | (simp [*, errW_none, errW_some] <;> rfl), by repeat (first | (with_reducible first | exact HB.out | apply below_alloc | apply pw_below_drewN | apply below_drew1 | refine below_set ?_ GE300.out | refine below_set ?_ GE301.out | refine below_set ?_ GE302.out) | exact HB.out)⟩

end Go.Proofs.Ytmdcgkkkfncieaa.PFnRangeLattice
