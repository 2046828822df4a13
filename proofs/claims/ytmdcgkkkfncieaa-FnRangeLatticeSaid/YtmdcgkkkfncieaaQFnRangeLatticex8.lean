/- Functions of the program as plain Lean functions, and that calls of them come to what these tell. Conditions: those in each law. -/
import Derived.Test.YtmdcgkkkfncieaaSq
import Derived.Test.YtmdcgkkkfncieaaDFnRangeLattice
import Derived.Test.YtmdcgkkkfncieaaQFnRangeLatticex0
import Derived.Test.YtmdcgkkkfncieaaQFnRangeLatticex1
import Derived.Test.YtmdcgkkkfncieaaQFnRangeLatticex7
namespace Go.Proofs.Ytmdcgkkkfncieaa.PFnRangeLattice
open Go.RowKit Go.Proofs.Ytmdcgkkkfncieaa.Sq Go.Proofs.YtmdcgkkkfncieaaW.PrintWords Go.Proofs.YtmdcgkkkfncieaaW.PrintLast Go.Proofs.YtmdcgkkkfncieaaW.PrintMore
attribute [local go_sem] max2_int min2_int max_two min_two max_three min_three max_four min_four   -- for this text's walks alone
set_option linter.unusedVariables false
set_option linter.unusedSimpArgs false

attribute [local go_sem high] eqA27
/-! ### impl_RangeOk: function 98 -/
def impl_RangeOk.T1 : Bool × List (List Nat × List Nat) := (true, [([], []), ([], []), ([0, 1], [0, 1]), ([2, 1], [2]), ([3], [3]), ([4, 3], [3, 4]), ([5, 3, 3], [3, 5]), ([6, 6, 3], [3, 6]), ([7], [7]), ([8, 7], [7, 8]), ([9, 7, 7], [7, 9]), ([7, 10, 3], [3, 7, 10]), ([11, 10, 3], [3, 11]), ([12], [12]), ([13, 12], [12, 13]), ([12], [12]), ([15, 12], [12, 15]), ([14, 16, 12], [12, 14, 16]), ([12, 17, 3], [3, 12, 17]), ([3, 18], [3, 18]), ([19, 12, 0, 1, 2, 3, 4, 5, 6, 7, 8, 9, 10, 11, 12, 13, 14, 15, 16, 17, 18, 19], [19])])
def impl_RangeOk.B1 : List Nat := [0, 0, 3, 7, 15, 31, 63, 127, 255, 511, 1023, 2047, 4095, 8191, 16383, 8191, 40959, 131071, 262143, 524287, 1048575]
theorem impl_RangeOk.tab1 : rtab .any (opsOf Try.f98 1) = impl_RangeOk.T1 := by kernel_rfl
theorem impl_RangeOk.bits1 : waitsOk impl_RangeOk.T1.2 impl_RangeOk.B1 = true := by kernel_rfl
set_option maxHeartbeats 8000000 in
set_option maxRecDepth 100000 in
theorem impl_RangeOk.calls (a0_0 : Int) (a0_1 : Int) (r : Bool) (w : World) (h : impl_RangeOk.f a0_0 a0_1 = some r) :
    Calls Try.prog 98 #[.agg #[.int .i64 a0_0, .int .i64 a0_1]] w fun e w' => e = .returned (.bool r) ∧ Below w.heap.size w w' := by
  have hu27 := Try.underlying27
  have HB := Aside0.mk (Below.refl w.heap.size w)
  have H : ((impl_rangeNone.f).bind fun bt229 => (if (a0_0 == bt229.1 && (a0_1 == bt229.2)) = true then (some true) else ((impl_NumOk.f a0_0).bind fun t231 => (if t231 = true then ((impl_NumOk.f a0_1).bind fun t232 => (if t232 = true then (some (decide (a0_0 ≤ a0_1))) else (some false))) else (some false))))) = some r := h
  clear h
  replace H := Option.bind_eq_some_iff.mp H
  obtain ⟨⟨t229, t230⟩, A20, H⟩ := H
  replace H : (if (a0_0 == t229 && (a0_1 == t230)) = true then (some true) else ((impl_NumOk.f a0_0).bind fun t231 => (if t231 = true then ((impl_NumOk.f a0_1).bind fun t232 => (if t232 = true then (some (decide (a0_0 ≤ a0_1))) else (some false))) else (some false)))) = some r := H
  have A2 := Aside0.mk A20
  clear A20
  by_cases c3 : (a0_0 == t229 && (a0_1 == t230)) = true
  · rw [if_pos c3] at H
    have c3b0 : (a0_0 == t229 && (a0_1 == t230)) = true := c3
    (try (have c3b1 : decide (a0_0 = t229 && (a0_1 == t230)) = true := by simpa using c3))
    (try (have c3b2 : (a0_0 == t229 && (a0_1 == t230)) = true := by simpa using c3))
    clear c3
    obtain rfl := Option.some.inj H
    go_enter Try.func98, Try.ntmps98
    try go_wp2_with (first | ((with_reducible refine gate_dst (N := 1) rfl ?_); refine sqx 1 #[.int .i64 a0_0, .int .i64 a0_1] 27 ?_; intro gb228 hg w4 hbox hb; have BK228 := Aside0.mk (hbox); have GW228 := sqg HB hg; have GE228 := sqg HB hg; replace HB := sqs HB hb; clear hb hbox hg))
    replace BK228 := Aside0.mk (blk_drew BK228.out)
    replace HB := Aside0.mk (below_drew1 HB.out)
    refine start_ (n := 21) (S := fun w' => w'.cell? ⟨gb228, 0, none⟩ = some (.int .i64 a0_0) ∧ w'.cell? ⟨gb228, 1, none⟩ = some (.int .i64 a0_1)) (ds := []) #[false, false, false, false, false, false, false, false, false, false, false, false, false, false, false, false, false, false, false, false, false] (by kernel_rfl) rfl rfl ⟨(blk_cell BK228.out 0).trans rfl, (blk_cell BK228.out 1).trans rfl⟩ (fun hHeld => ?_); refine with_tabW impl_RangeOk.tab1 impl_RangeOk.bits1 (fun HT_ HW_ => ?_)
    generalize w4.drew = w5 at BK228 HB hHeld ⊢
    refine sqw HT_ HW_ 0 3 hHeld ?_
    refine sqo HT_ 1 4 (fun K hK => ?_)
    refine sqG Try.func73 #[] ?_
    with_reducible refine (impl_rangeNone.calls  t229 t230 _ A2.out).mono ?_
    rintro e w6 ⟨rfl, hb⟩
    refine ⟨_, rfl, ?_⟩
    replace BK228 := sqb BK228 hb
    replace HB := sqs HB hb
    (try clear hb)
    refine hK.out _ _ sqz (fun hHeld => ?_)
    clear hK K
    refine sqnm ?_
    refine sqp HT_ 2 5 ?_
    refine sqp HT_ 3 6 ?_
    refine sqpu HT_ 4 7 ?_
    refine sqpu HT_ 5 8 ?_
    refine sqpu HT_ 6 9 ?_
    refine sqpu HT_ 7 10 ?_
    refine sqpu HT_ 8 11 ?_
    refine sqpu HT_ 9 12 ?_
    refine sqpu HT_ 10 13 ?_
    refine sqpu HT_ 11 14 ?_
    refine sqpu HT_ 12 15 ?_
    refine sqpu HT_ 13 16 ?_
    refine sqpu HT_ 14 17 ?_
    refine sqpu HT_ 15 18 ?_
    refine sqpu HT_ 16 19 ?_
    refine sqpu HT_ 17 20 ?_
    refine sqpu HT_ 18 21 ?_
    refine sqp HT_ 19 22 ?_
    refine sqp HT_ 20 2 ?_
    refine done_ (done_of HT_.out (by kernel_rfl)) ?_
    try go_wp2
    go_ret
    exact sqe HB
  · rw [if_neg c3] at H
    have c3b0 : (a0_0 == t229 && (a0_1 == t230)) = false := by simpa using c3
    (try (have c3b1 : decide (a0_0 = t229 && (a0_1 == t230)) = false := by simpa using c3))
    (try (have c3b2 : (a0_0 == t229 && (a0_1 == t230)) = false := by simpa using c3))
    (try (have c3b3 : ¬ (a0_0 = t229 && (a0_1 == t230)) := by simpa using c3))
    clear c3
    replace H := Option.bind_eq_some_iff.mp H
    obtain ⟨t231, A70, H⟩ := H
    replace H : (if t231 = true then ((impl_NumOk.f a0_1).bind fun t232 => (if t232 = true then (some (decide (a0_0 ≤ a0_1))) else (some false))) else (some false)) = some r := H
    have A7 := Aside0.mk A70
    clear A70
    by_cases c8 : t231 = true
    · subst c8
      have H1 : ((impl_NumOk.f a0_1).bind fun t232 => (if t232 = true then (some (decide (a0_0 ≤ a0_1))) else (some false))) = some r := by rw [if_pos rfl] at H; exact H
      clear H
      have H := H1
      clear H1
      replace H := Option.bind_eq_some_iff.mp H
      obtain ⟨t232, A90, H⟩ := H
      replace H : (if t232 = true then (some (decide (a0_0 ≤ a0_1))) else (some false)) = some r := H
      have A9 := Aside0.mk A90
      clear A90
      by_cases c10 : t232 = true
      · subst c10
        have H1 : (some (decide (a0_0 ≤ a0_1))) = some r := by rw [if_pos rfl] at H; exact H
        clear H
        have H := H1
        clear H1
        obtain rfl := Option.some.inj H
        go_enter Try.func98, Try.ntmps98
        try go_wp2_with (first | ((with_reducible refine gate_dst (N := 1) rfl ?_); refine sqx 1 #[.int .i64 a0_0, .int .i64 a0_1] 27 ?_; intro gb228 hg w11 hbox hb; have BK228 := Aside0.mk (hbox); have GW228 := sqg HB hg; have GE228 := sqg HB hg; replace HB := sqs HB hb; clear hb hbox hg))
        replace BK228 := Aside0.mk (blk_drew BK228.out)
        replace HB := Aside0.mk (below_drew1 HB.out)
        refine start_ (n := 21) (S := fun w' => w'.cell? ⟨gb228, 0, none⟩ = some (.int .i64 a0_0) ∧ w'.cell? ⟨gb228, 1, none⟩ = some (.int .i64 a0_1)) (ds := []) #[false, false, false, false, false, false, false, false, false, false, false, false, false, false, false, false, false, false, false, false, false] (by kernel_rfl) rfl rfl ⟨(blk_cell BK228.out 0).trans rfl, (blk_cell BK228.out 1).trans rfl⟩ (fun hHeld => ?_); refine with_tabW impl_RangeOk.tab1 impl_RangeOk.bits1 (fun HT_ HW_ => ?_)
        generalize w11.drew = w12 at BK228 HB hHeld ⊢
        refine sqw HT_ HW_ 0 3 hHeld ?_
        refine sqo HT_ 1 4 (fun K hK => ?_)
        refine sqG Try.func73 #[] ?_
        with_reducible refine (impl_rangeNone.calls  t229 t230 _ A2.out).mono ?_
        rintro e w13 ⟨rfl, hb⟩
        refine ⟨_, rfl, ?_⟩
        replace BK228 := sqb BK228 hb
        replace HB := sqs HB hb
        (try clear hb)
        refine hK.out _ _ sqz (fun hHeld => ?_)
        clear hK K
        refine sqnm ?_
        refine sqp HT_ 2 5 ?_
        refine sqp HT_ 3 6 ?_
        refine sqp HT_ 4 7 ?_
        refine sqw HT_ HW_ 5 8 hHeld ?_
        refine sqo HT_ 6 9 (fun K hK => ?_)
        refine sqG Try.func92 #[.int .i64 a0_0] ?_
        with_reducible refine (impl_NumOk.calls a0_0 true _ A7.out).mono ?_
        rintro e w' ⟨rfl, ⟨nd, rfl⟩⟩
        refine ⟨_, rfl, ?_⟩
        refine hK.out _ _ sqz (fun hHeld => ?_)
        clear hK K
        refine sqnm ?_
        refine sqp HT_ 7 10 ?_
        refine sqp HT_ 8 11 ?_
        refine sqw HT_ HW_ 9 12 hHeld ?_
        refine sqo HT_ 10 13 (fun K hK => ?_)
        refine sqG Try.func92 #[.int .i64 a0_1] ?_
        with_reducible refine (impl_NumOk.calls a0_1 true _ A9.out).mono ?_
        rintro e w' ⟨rfl, ⟨nd, rfl⟩⟩
        refine ⟨_, rfl, ?_⟩
        refine hK.out _ _ sqz (fun hHeld => ?_)
        clear hK K
        refine sqnm ?_
        refine sqp HT_ 11 14 ?_
        refine sqp HT_ 12 15 ?_
        refine sqp HT_ 13 16 ?_
        refine sqp HT_ 15 18 ?_
        refine sqw HT_ HW_ 14 17 hHeld ?_
        refine sqw HT_ HW_ 16 19 hHeld ?_
        refine sqp HT_ 17 20 ?_
        refine sqp HT_ 18 21 ?_
        refine sqp HT_ 19 22 ?_
        refine sqp HT_ 20 2 ?_
        refine done_ (done_of HT_.out (by kernel_rfl)) ?_
        try go_wp2
        go_ret
        exact sqe HB
      · replace c10 := Bool.eq_false_iff.mpr c10
        subst c10
        have H1 : (some false) = some r := by rw [if_neg (show ¬ (false = true) by decide)] at H; exact H
        clear H
        have H := H1
        clear H1
        obtain rfl := Option.some.inj H
        go_enter Try.func98, Try.ntmps98
        try go_wp2_with (first | ((with_reducible refine gate_dst (N := 1) rfl ?_); refine sqx 1 #[.int .i64 a0_0, .int .i64 a0_1] 27 ?_; intro gb228 hg w14 hbox hb; have BK228 := Aside0.mk (hbox); have GW228 := sqg HB hg; have GE228 := sqg HB hg; replace HB := sqs HB hb; clear hb hbox hg))
        replace BK228 := Aside0.mk (blk_drew BK228.out)
        replace HB := Aside0.mk (below_drew1 HB.out)
        refine start_ (n := 21) (S := fun w' => w'.cell? ⟨gb228, 0, none⟩ = some (.int .i64 a0_0) ∧ w'.cell? ⟨gb228, 1, none⟩ = some (.int .i64 a0_1)) (ds := []) #[false, false, false, false, false, false, false, false, false, false, false, false, false, false, false, false, false, false, false, false, false] (by kernel_rfl) rfl rfl ⟨(blk_cell BK228.out 0).trans rfl, (blk_cell BK228.out 1).trans rfl⟩ (fun hHeld => ?_); refine with_tabW impl_RangeOk.tab1 impl_RangeOk.bits1 (fun HT_ HW_ => ?_)
        generalize w14.drew = w15 at BK228 HB hHeld ⊢
        refine sqw HT_ HW_ 0 3 hHeld ?_
        refine sqo HT_ 1 4 (fun K hK => ?_)
        refine sqG Try.func73 #[] ?_
        with_reducible refine (impl_rangeNone.calls  t229 t230 _ A2.out).mono ?_
        rintro e w16 ⟨rfl, hb⟩
        refine ⟨_, rfl, ?_⟩
        replace BK228 := sqb BK228 hb
        replace HB := sqs HB hb
        (try clear hb)
        refine hK.out _ _ sqz (fun hHeld => ?_)
        clear hK K
        refine sqnm ?_
        refine sqp HT_ 2 5 ?_
        refine sqp HT_ 3 6 ?_
        refine sqp HT_ 4 7 ?_
        refine sqw HT_ HW_ 5 8 hHeld ?_
        refine sqo HT_ 6 9 (fun K hK => ?_)
        refine sqG Try.func92 #[.int .i64 a0_0] ?_
        with_reducible refine (impl_NumOk.calls a0_0 true _ A7.out).mono ?_
        rintro e w' ⟨rfl, ⟨nd, rfl⟩⟩
        refine ⟨_, rfl, ?_⟩
        refine hK.out _ _ sqz (fun hHeld => ?_)
        clear hK K
        refine sqnm ?_
        refine sqp HT_ 7 10 ?_
        refine sqp HT_ 8 11 ?_
        refine sqw HT_ HW_ 9 12 hHeld ?_
        refine sqo HT_ 10 13 (fun K hK => ?_)
        refine sqG Try.func92 #[.int .i64 a0_1] ?_
        with_reducible refine (impl_NumOk.calls a0_1 false _ A9.out).mono ?_
        rintro e w' ⟨rfl, ⟨nd, rfl⟩⟩
        refine ⟨_, rfl, ?_⟩
        refine hK.out _ _ sqz (fun hHeld => ?_)
        clear hK K
        refine sqnm ?_
        refine sqp HT_ 11 14 ?_
        refine sqp HT_ 12 15 ?_
        refine sqpu HT_ 13 16 ?_
        refine sqpu HT_ 14 17 ?_
        refine sqpu HT_ 15 18 ?_
        refine sqpu HT_ 16 19 ?_
        refine sqpu HT_ 17 20 ?_
        refine sqp HT_ 18 21 ?_
        refine sqp HT_ 19 22 ?_
        refine sqp HT_ 20 2 ?_
        refine done_ (done_of HT_.out (by kernel_rfl)) ?_
        try go_wp2
        go_ret
        exact sqe HB
    · replace c8 := Bool.eq_false_iff.mpr c8
      subst c8
      have H1 : (some false) = some r := by rw [if_neg (show ¬ (false = true) by decide)] at H; exact H
      clear H
      have H := H1
      clear H1
      obtain rfl := Option.some.inj H
      go_enter Try.func98, Try.ntmps98
      try go_wp2_with (first | ((with_reducible refine gate_dst (N := 1) rfl ?_); refine sqx 1 #[.int .i64 a0_0, .int .i64 a0_1] 27 ?_; intro gb228 hg w17 hbox hb; have BK228 := Aside0.mk (hbox); have GW228 := sqg HB hg; have GE228 := sqg HB hg; replace HB := sqs HB hb; clear hb hbox hg))
      replace BK228 := Aside0.mk (blk_drew BK228.out)
      replace HB := Aside0.mk (below_drew1 HB.out)
      refine start_ (n := 21) (S := fun w' => w'.cell? ⟨gb228, 0, none⟩ = some (.int .i64 a0_0) ∧ w'.cell? ⟨gb228, 1, none⟩ = some (.int .i64 a0_1)) (ds := []) #[false, false, false, false, false, false, false, false, false, false, false, false, false, false, false, false, false, false, false, false, false] (by kernel_rfl) rfl rfl ⟨(blk_cell BK228.out 0).trans rfl, (blk_cell BK228.out 1).trans rfl⟩ (fun hHeld => ?_); refine with_tabW impl_RangeOk.tab1 impl_RangeOk.bits1 (fun HT_ HW_ => ?_)
      generalize w17.drew = w18 at BK228 HB hHeld ⊢
      refine sqw HT_ HW_ 0 3 hHeld ?_
      refine sqo HT_ 1 4 (fun K hK => ?_)
      refine sqG Try.func73 #[] ?_
      with_reducible refine (impl_rangeNone.calls  t229 t230 _ A2.out).mono ?_
      rintro e w19 ⟨rfl, hb⟩
      refine ⟨_, rfl, ?_⟩
      replace BK228 := sqb BK228 hb
      replace HB := sqs HB hb
      (try clear hb)
      refine hK.out _ _ sqz (fun hHeld => ?_)
      clear hK K
      refine sqnm ?_
      refine sqp HT_ 2 5 ?_
      refine sqp HT_ 3 6 ?_
      refine sqp HT_ 4 7 ?_
      refine sqw HT_ HW_ 5 8 hHeld ?_
      refine sqo HT_ 6 9 (fun K hK => ?_)
      refine sqG Try.func92 #[.int .i64 a0_0] ?_
      with_reducible refine (impl_NumOk.calls a0_0 false _ A7.out).mono ?_
      rintro e w' ⟨rfl, ⟨nd, rfl⟩⟩
      refine ⟨_, rfl, ?_⟩
      refine hK.out _ _ sqz (fun hHeld => ?_)
      clear hK K
      refine sqnm ?_
      refine sqp HT_ 7 10 ?_
      refine sqpu HT_ 8 11 ?_
      refine sqpu HT_ 9 12 ?_
      refine sqpu HT_ 10 13 ?_
      refine sqp HT_ 11 14 ?_
      refine sqp HT_ 12 15 ?_
      refine sqpu HT_ 13 16 ?_
      refine sqpu HT_ 14 17 ?_
      refine sqpu HT_ 15 18 ?_
      refine sqpu HT_ 16 19 ?_
      refine sqpu HT_ 17 20 ?_
      refine sqp HT_ 18 21 ?_
      refine sqp HT_ 19 22 ?_
      refine sqp HT_ 20 2 ?_
      refine done_ (done_of HT_.out (by kernel_rfl)) ?_
      try go_wp2
      go_ret
      exact sqe HB

/-! ### impl_Range_empty: function 99 -/
set_option maxHeartbeats 8000000 in
set_option maxRecDepth 100000 in
theorem impl_Range_empty.calls (a0_0 : Int) (a0_1 : Int) (r : Bool) (w : World) (h : impl_Range_empty.f a0_0 a0_1 = some r) :
    Calls Try.prog 99 #[.agg #[.int .i64 a0_0, .int .i64 a0_1]] w fun e w' => e = .returned (.bool r) ∧ Below w.heap.size w w' := by
  have hu27 := Try.underlying27
  have HB := Aside0.mk (Below.refl w.heap.size w)
  have H : (some (decide (a0_0 > a0_1))) = some r := h
  clear h
  obtain rfl := Option.some.inj H
  go_enter Try.func99, Try.ntmps99
  go_wp2_with (first | ((with_reducible refine gate_dst (N := 1) rfl ?_); refine sqx 1 #[.int .i64 a0_0, .int .i64 a0_1] 27 ?_; intro gb233 hg w2 hbox hb; have BK233 := Aside0.mk (hbox); have GW233 := sqg HB hg; have GE233 := sqg HB hg; replace HB := sqs HB hb; clear hb hbox hg; obtain ⟨hcz3_0, hcz3_1, hfz3_0, hfz3_1⟩ := sqc2 BK233))
  go_ret
  exact sqe HB

end Go.Proofs.Ytmdcgkkkfncieaa.PFnRangeLattice
