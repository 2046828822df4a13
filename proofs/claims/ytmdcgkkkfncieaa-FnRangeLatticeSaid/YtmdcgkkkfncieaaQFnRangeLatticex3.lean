/- Functions of the program as plain Lean functions, and that calls of them come to what these tell. Conditions: those in each law. -/
import Derived.Test.YtmdcgkkkfncieaaSq
import Derived.Test.YtmdcgkkkfncieaaDFnRangeLattice
import Derived.Test.YtmdcgkkkfncieaaQFnRangeLatticex0
import Derived.Test.YtmdcgkkkfncieaaQFnRangeLatticex1
import Derived.Test.YtmdcgkkkfncieaaQFnRangeLatticex2
namespace Go.Proofs.Ytmdcgkkkfncieaa.PFnRangeLattice
open Go.RowKit Go.Proofs.Ytmdcgkkkfncieaa.Sq Go.Proofs.YtmdcgkkkfncieaaW.PrintWords Go.Proofs.YtmdcgkkkfncieaaW.PrintLast Go.Proofs.YtmdcgkkkfncieaaW.PrintMore
attribute [local go_sem] max2_int min2_int max_two min_two max_three min_three max_four min_four   -- for this text's walks alone
set_option linter.unusedVariables false
set_option linter.unusedSimpArgs false

attribute [local go_sem high] eqA27
/-! ### spec_RangeOk: function 40 -/
def spec_RangeOk.T1 : Bool × List (List Nat × List Nat) := (true, [([], []), ([], []), ([0, 1], [0, 1]), ([2, 1], [2]), ([3], [3]), ([4, 3], [3, 4]), ([5, 3, 3], [3, 5]), ([6, 6, 3], [3, 6]), ([7], [7]), ([8, 7], [7, 8]), ([9, 7, 7], [7, 9]), ([7, 10, 3], [3, 7, 10]), ([11, 10, 3], [3, 11]), ([12], [12]), ([13, 12], [12, 13]), ([12], [12]), ([15, 12], [12, 15]), ([14, 16, 12], [12, 14, 16]), ([12, 17, 3], [3, 12, 17]), ([3, 18], [3, 18]), ([19, 12, 0, 1, 2, 3, 4, 5, 6, 7, 8, 9, 10, 11, 12, 13, 14, 15, 16, 17, 18, 19], [19])])
def spec_RangeOk.B1 : List Nat := [0, 0, 3, 7, 15, 31, 63, 127, 255, 511, 1023, 2047, 4095, 8191, 16383, 8191, 40959, 131071, 262143, 524287, 1048575]
theorem spec_RangeOk.tab1 : rtab .any (opsOf Try.f40 1) = spec_RangeOk.T1 := by kernel_rfl
theorem spec_RangeOk.bits1 : waitsOk spec_RangeOk.T1.2 spec_RangeOk.B1 = true := by kernel_rfl
set_option maxHeartbeats 8000000 in
set_option maxRecDepth 100000 in
theorem spec_RangeOk.calls (a0_0 : Int) (a0_1 : Int) (r : Bool) (w : World) (h : spec_RangeOk.f a0_0 a0_1 = some r) :
    Calls Try.prog 40 #[.agg #[.int .i64 a0_0, .int .i64 a0_1]] w fun e w' => e = .returned (.bool r) ∧ Below w.heap.size w w' := by
  have hu27 := Try.underlying27
  have HB := Aside0.mk (Below.refl w.heap.size w)
  have H : ((spec_l8None.f).bind fun bt107 => (if (a0_0 == bt107.1 && (a0_1 == bt107.2)) = true then (some true) else ((spec_NumOk.f a0_0).bind fun t109 => (if t109 = true then ((spec_NumOk.f a0_1).bind fun t110 => (if t110 = true then (some (decide (a0_0 ≤ a0_1))) else (some false))) else (some false))))) = some r := h
  clear h
  replace H := Option.bind_eq_some_iff.mp H
  obtain ⟨⟨t107, t108⟩, A20, H⟩ := H
  replace H : (if (a0_0 == t107 && (a0_1 == t108)) = true then (some true) else ((spec_NumOk.f a0_0).bind fun t109 => (if t109 = true then ((spec_NumOk.f a0_1).bind fun t110 => (if t110 = true then (some (decide (a0_0 ≤ a0_1))) else (some false))) else (some false)))) = some r := H
  have A2 := Aside0.mk A20
  clear A20
  by_cases c3 : (a0_0 == t107 && (a0_1 == t108)) = true
  · rw [if_pos c3] at H
    have c3b0 : (a0_0 == t107 && (a0_1 == t108)) = true := c3
    (try (have c3b1 : decide (a0_0 = t107 && (a0_1 == t108)) = true := by simpa using c3))
    (try (have c3b2 : (a0_0 == t107 && (a0_1 == t108)) = true := by simpa using c3))
    clear c3
    obtain rfl := Option.some.inj H
    go_enter Try.func40, Try.ntmps40
    try go_wp2_with (first | ((with_reducible refine gate_dst (N := 1) rfl ?_); refine sqx 1 #[.int .i64 a0_0, .int .i64 a0_1] 27 ?_; intro gb106 hg w4 hbox hb; have BK106 := Aside0.mk (hbox); have GW106 := sqg HB hg; have GE106 := sqg HB hg; replace HB := sqs HB hb; clear hb hbox hg))
    replace BK106 := Aside0.mk (blk_drew BK106.out)
    replace HB := Aside0.mk (below_drew1 HB.out)
    refine start_ (n := 21) (S := fun w' => w'.cell? ⟨gb106, 0, none⟩ = some (.int .i64 a0_0) ∧ w'.cell? ⟨gb106, 1, none⟩ = some (.int .i64 a0_1)) (ds := []) #[false, false, false, false, false, false, false, false, false, false, false, false, false, false, false, false, false, false, false, false, false] (by kernel_rfl) rfl rfl ⟨(blk_cell BK106.out 0).trans rfl, (blk_cell BK106.out 1).trans rfl⟩ (fun hHeld => ?_); refine with_tabW spec_RangeOk.tab1 spec_RangeOk.bits1 (fun HT_ HW_ => ?_)
    generalize w4.drew = w5 at BK106 HB hHeld ⊢
    refine sqw HT_ HW_ 0 3 hHeld ?_
    refine sqo HT_ 1 4 (fun K hK => ?_)
    refine sqG Try.func68 #[] ?_
    with_reducible refine (spec_l8None.calls  t107 t108 _ A2.out).mono ?_
    rintro e w6 ⟨rfl, hb⟩
    refine ⟨_, rfl, ?_⟩
    replace BK106 := sqb BK106 hb
    replace HB := sqs HB hb
    (try clear hb)
    refine hK.out _ _ sqz (fun hHeld => ?_)
    clear hK K
    refine sqnm ?_
    refine sqp HT_ 2 5 ?_
    refine sqp HT_ 3 6 ?_
    refine sqpu HT_ 4 7 ?_
    refine sqpu HT_ 5 8 ?_
    refine sqpu HT_ 6 9 ?_
    refine sqpu HT_ 7 10 ?_
    refine sqpu HT_ 8 11 ?_
    refine sqpu HT_ 9 12 ?_
    refine sqpu HT_ 10 13 ?_
    refine sqpu HT_ 11 14 ?_
    refine sqpu HT_ 12 15 ?_
    refine sqpu HT_ 13 16 ?_
    refine sqpu HT_ 14 17 ?_
    refine sqpu HT_ 15 18 ?_
    refine sqpu HT_ 16 19 ?_
    refine sqpu HT_ 17 20 ?_
    refine sqpu HT_ 18 21 ?_
    refine sqp HT_ 19 22 ?_
    refine sqp HT_ 20 2 ?_
    refine done_ (done_of HT_.out (by kernel_rfl)) ?_
    try go_wp2
    go_ret
    exact sqe HB
  · rw [if_neg c3] at H
    have c3b0 : (a0_0 == t107 && (a0_1 == t108)) = false := by simpa using c3
    (try (have c3b1 : decide (a0_0 = t107 && (a0_1 == t108)) = false := by simpa using c3))
    (try (have c3b2 : (a0_0 == t107 && (a0_1 == t108)) = false := by simpa using c3))
    (try (have c3b3 : ¬ (a0_0 = t107 && (a0_1 == t108)) := by simpa using c3))
    clear c3
    replace H := Option.bind_eq_some_iff.mp H
    obtain ⟨t109, A70, H⟩ := H
    replace H : (if t109 = true then ((spec_NumOk.f a0_1).bind fun t110 => (if t110 = true then (some (decide (a0_0 ≤ a0_1))) else (some false))) else (some false)) = some r := H
    have A7 := Aside0.mk A70
    clear A70
    by_cases c8 : t109 = true
    · subst c8
      have H1 : ((spec_NumOk.f a0_1).bind fun t110 => (if t110 = true then (some (decide (a0_0 ≤ a0_1))) else (some false))) = some r := by rw [if_pos rfl] at H; exact H
      clear H
      have H := H1
      clear H1
      replace H := Option.bind_eq_some_iff.mp H
      obtain ⟨t110, A90, H⟩ := H
      replace H : (if t110 = true then (some (decide (a0_0 ≤ a0_1))) else (some false)) = some r := H
      have A9 := Aside0.mk A90
      clear A90
      by_cases c10 : t110 = true
      · subst c10
        have H1 : (some (decide (a0_0 ≤ a0_1))) = some r := by rw [if_pos rfl] at H; exact H
        clear H
        have H := H1
        clear H1
        obtain rfl := Option.some.inj H
        go_enter Try.func40, Try.ntmps40
        try go_wp2_with (first | ((with_reducible refine gate_dst (N := 1) rfl ?_); refine sqx 1 #[.int .i64 a0_0, .int .i64 a0_1] 27 ?_; intro gb106 hg w11 hbox hb; have BK106 := Aside0.mk (hbox); have GW106 := sqg HB hg; have GE106 := sqg HB hg; replace HB := sqs HB hb; clear hb hbox hg))
        replace BK106 := Aside0.mk (blk_drew BK106.out)
        replace HB := Aside0.mk (below_drew1 HB.out)
        refine start_ (n := 21) (S := fun w' => w'.cell? ⟨gb106, 0, none⟩ = some (.int .i64 a0_0) ∧ w'.cell? ⟨gb106, 1, none⟩ = some (.int .i64 a0_1)) (ds := []) #[false, false, false, false, false, false, false, false, false, false, false, false, false, false, false, false, false, false, false, false, false] (by kernel_rfl) rfl rfl ⟨(blk_cell BK106.out 0).trans rfl, (blk_cell BK106.out 1).trans rfl⟩ (fun hHeld => ?_); refine with_tabW spec_RangeOk.tab1 spec_RangeOk.bits1 (fun HT_ HW_ => ?_)
        generalize w11.drew = w12 at BK106 HB hHeld ⊢
        refine sqw HT_ HW_ 0 3 hHeld ?_
        refine sqo HT_ 1 4 (fun K hK => ?_)
        refine sqG Try.func68 #[] ?_
        with_reducible refine (spec_l8None.calls  t107 t108 _ A2.out).mono ?_
        rintro e w13 ⟨rfl, hb⟩
        refine ⟨_, rfl, ?_⟩
        replace BK106 := sqb BK106 hb
        replace HB := sqs HB hb
        (try clear hb)
        refine hK.out _ _ sqz (fun hHeld => ?_)
        clear hK K
        refine sqnm ?_
        refine sqp HT_ 2 5 ?_
        refine sqp HT_ 3 6 ?_
        refine sqp HT_ 4 7 ?_
        refine sqw HT_ HW_ 5 8 hHeld ?_
        refine sqo HT_ 6 9 (fun K hK => ?_)
        refine sqG Try.func37 #[.int .i64 a0_0] ?_
        with_reducible refine (spec_NumOk.calls a0_0 true _ A7.out).mono ?_
        rintro e w' ⟨rfl, ⟨nd, rfl⟩⟩
        refine ⟨_, rfl, ?_⟩
        refine hK.out _ _ sqz (fun hHeld => ?_)
        clear hK K
        refine sqnm ?_
        refine sqp HT_ 7 10 ?_
        refine sqp HT_ 8 11 ?_
        refine sqw HT_ HW_ 9 12 hHeld ?_
        refine sqo HT_ 10 13 (fun K hK => ?_)
        refine sqG Try.func37 #[.int .i64 a0_1] ?_
        with_reducible refine (spec_NumOk.calls a0_1 true _ A9.out).mono ?_
        rintro e w' ⟨rfl, ⟨nd, rfl⟩⟩
        refine ⟨_, rfl, ?_⟩
        refine hK.out _ _ sqz (fun hHeld => ?_)
        clear hK K
        refine sqnm ?_
        refine sqp HT_ 11 14 ?_
        refine sqp HT_ 12 15 ?_
        refine sqp HT_ 13 16 ?_
        refine sqp HT_ 15 18 ?_
        refine sqw HT_ HW_ 14 17 hHeld ?_
        refine sqw HT_ HW_ 16 19 hHeld ?_
        refine sqp HT_ 17 20 ?_
        refine sqp HT_ 18 21 ?_
        refine sqp HT_ 19 22 ?_
        refine sqp HT_ 20 2 ?_
        refine done_ (done_of HT_.out (by kernel_rfl)) ?_
        try go_wp2
        go_ret
        exact sqe HB
      · replace c10 := Bool.eq_false_iff.mpr c10
        subst c10
        have H1 : (some false) = some r := by rw [if_neg (show ¬ (false = true) by decide)] at H; exact H
        clear H
        have H := H1
        clear H1
        obtain rfl := Option.some.inj H
        go_enter Try.func40, Try.ntmps40
        try go_wp2_with (first | ((with_reducible refine gate_dst (N := 1) rfl ?_); refine sqx 1 #[.int .i64 a0_0, .int .i64 a0_1] 27 ?_; intro gb106 hg w14 hbox hb; have BK106 := Aside0.mk (hbox); have GW106 := sqg HB hg; have GE106 := sqg HB hg; replace HB := sqs HB hb; clear hb hbox hg))
        replace BK106 := Aside0.mk (blk_drew BK106.out)
        replace HB := Aside0.mk (below_drew1 HB.out)
        refine start_ (n := 21) (S := fun w' => w'.cell? ⟨gb106, 0, none⟩ = some (.int .i64 a0_0) ∧ w'.cell? ⟨gb106, 1, none⟩ = some (.int .i64 a0_1)) (ds := []) #[false, false, false, false, false, false, false, false, false, false, false, false, false, false, false, false, false, false, false, false, false] (by kernel_rfl) rfl rfl ⟨(blk_cell BK106.out 0).trans rfl, (blk_cell BK106.out 1).trans rfl⟩ (fun hHeld => ?_); refine with_tabW spec_RangeOk.tab1 spec_RangeOk.bits1 (fun HT_ HW_ => ?_)
        generalize w14.drew = w15 at BK106 HB hHeld ⊢
        refine sqw HT_ HW_ 0 3 hHeld ?_
        refine sqo HT_ 1 4 (fun K hK => ?_)
        refine sqG Try.func68 #[] ?_
        with_reducible refine (spec_l8None.calls  t107 t108 _ A2.out).mono ?_
        rintro e w16 ⟨rfl, hb⟩
        refine ⟨_, rfl, ?_⟩
        replace BK106 := sqb BK106 hb
        replace HB := sqs HB hb
        (try clear hb)
        refine hK.out _ _ sqz (fun hHeld => ?_)
        clear hK K
        refine sqnm ?_
        refine sqp HT_ 2 5 ?_
        refine sqp HT_ 3 6 ?_
        refine sqp HT_ 4 7 ?_
        refine sqw HT_ HW_ 5 8 hHeld ?_
        refine sqo HT_ 6 9 (fun K hK => ?_)
        refine sqG Try.func37 #[.int .i64 a0_0] ?_
        with_reducible refine (spec_NumOk.calls a0_0 true _ A7.out).mono ?_
        rintro e w' ⟨rfl, ⟨nd, rfl⟩⟩
        refine ⟨_, rfl, ?_⟩
        refine hK.out _ _ sqz (fun hHeld => ?_)
        clear hK K
        refine sqnm ?_
        refine sqp HT_ 7 10 ?_
        refine sqp HT_ 8 11 ?_
        refine sqw HT_ HW_ 9 12 hHeld ?_
        refine sqo HT_ 10 13 (fun K hK => ?_)
        refine sqG Try.func37 #[.int .i64 a0_1] ?_
        with_reducible refine (spec_NumOk.calls a0_1 false _ A9.out).mono ?_
        rintro e w' ⟨rfl, ⟨nd, rfl⟩⟩
        refine ⟨_, rfl, ?_⟩
        refine hK.out _ _ sqz (fun hHeld => ?_)
        clear hK K
        refine sqnm ?_
        refine sqp HT_ 11 14 ?_
        refine sqp HT_ 12 15 ?_
        refine sqpu HT_ 13 16 ?_
        refine sqpu HT_ 14 17 ?_
        refine sqpu HT_ 15 18 ?_
        refine sqpu HT_ 16 19 ?_
        refine sqpu HT_ 17 20 ?_
        refine sqp HT_ 18 21 ?_
        refine sqp HT_ 19 22 ?_
        refine sqp HT_ 20 2 ?_
        refine done_ (done_of HT_.out (by kernel_rfl)) ?_
        try go_wp2
        go_ret
        exact sqe HB
    · replace c8 := Bool.eq_false_iff.mpr c8
      subst c8
      have H1 : (some false) = some r := by rw [if_neg (show ¬ (false = true) by decide)] at H; exact H
      clear H
      have H := H1
      clear H1
      obtain rfl := Option.some.inj H
      go_enter Try.func40, Try.ntmps40
      try go_wp2_with (first | ((with_reducible refine gate_dst (N := 1) rfl ?_); refine sqx 1 #[.int .i64 a0_0, .int .i64 a0_1] 27 ?_; intro gb106 hg w17 hbox hb; have BK106 := Aside0.mk (hbox); have GW106 := sqg HB hg; have GE106 := sqg HB hg; replace HB := sqs HB hb; clear hb hbox hg))
      replace BK106 := Aside0.mk (blk_drew BK106.out)
      replace HB := Aside0.mk (below_drew1 HB.out)
      refine start_ (n := 21) (S := fun w' => w'.cell? ⟨gb106, 0, none⟩ = some (.int .i64 a0_0) ∧ w'.cell? ⟨gb106, 1, none⟩ = some (.int .i64 a0_1)) (ds := []) #[false, false, false, false, false, false, false, false, false, false, false, false, false, false, false, false, false, false, false, false, false] (by kernel_rfl) rfl rfl ⟨(blk_cell BK106.out 0).trans rfl, (blk_cell BK106.out 1).trans rfl⟩ (fun hHeld => ?_); refine with_tabW spec_RangeOk.tab1 spec_RangeOk.bits1 (fun HT_ HW_ => ?_)
      generalize w17.drew = w18 at BK106 HB hHeld ⊢
      refine sqw HT_ HW_ 0 3 hHeld ?_
      refine sqo HT_ 1 4 (fun K hK => ?_)
      refine sqG Try.func68 #[] ?_
      with_reducible refine (spec_l8None.calls  t107 t108 _ A2.out).mono ?_
      rintro e w19 ⟨rfl, hb⟩
      refine ⟨_, rfl, ?_⟩
      replace BK106 := sqb BK106 hb
      replace HB := sqs HB hb
      (try clear hb)
      refine hK.out _ _ sqz (fun hHeld => ?_)
      clear hK K
      refine sqnm ?_
      refine sqp HT_ 2 5 ?_
      refine sqp HT_ 3 6 ?_
      refine sqp HT_ 4 7 ?_
      refine sqw HT_ HW_ 5 8 hHeld ?_
      refine sqo HT_ 6 9 (fun K hK => ?_)
      refine sqG Try.func37 #[.int .i64 a0_0] ?_
      with_reducible refine (spec_NumOk.calls a0_0 false _ A7.out).mono ?_
      rintro e w' ⟨rfl, ⟨nd, rfl⟩⟩
      refine ⟨_, rfl, ?_⟩
      refine hK.out _ _ sqz (fun hHeld => ?_)
      clear hK K
      refine sqnm ?_
      refine sqp HT_ 7 10 ?_
      refine sqpu HT_ 8 11 ?_
      refine sqpu HT_ 9 12 ?_
      refine sqpu HT_ 10 13 ?_
      refine sqp HT_ 11 14 ?_
      refine sqp HT_ 12 15 ?_
      refine sqpu HT_ 13 16 ?_
      refine sqpu HT_ 14 17 ?_
      refine sqpu HT_ 15 18 ?_
      refine sqpu HT_ 16 19 ?_
      refine sqpu HT_ 17 20 ?_
      refine sqp HT_ 18 21 ?_
      refine sqp HT_ 19 22 ?_
      refine sqp HT_ 20 2 ?_
      refine done_ (done_of HT_.out (by kernel_rfl)) ?_
      try go_wp2
      go_ret
      exact sqe HB

/-! ### spec_l8Max: function 81 -/
set_option maxHeartbeats 8000000 in
set_option maxRecDepth 100000 in
theorem spec_l8Max.calls (a0 : Int) (a1 : Int) (r : Int) (w : World) (h : spec_l8Max.f a0 a1 = some r) :
    Calls Try.prog 81 #[.int .i64 a0, .int .i64 a1] w fun e w' => e = .returned (.int .i64 r) ∧ Drawn0 w w' := by
  have H : (if a0 > a1 then (some a0) else (some a1)) = some r := h
  clear h
  by_cases c3 : a0 > a1
  · rw [if_pos c3] at H
    have c3b0 : decide (a1 < a0) = true := decide_eq_true c3
    clear c3
    obtain rfl := Option.some.inj H
    go_enter Try.func81, Try.ntmps81
    go_wp2
    go_ret
    exact ⟨by first | rfl | (simp; done) | (simp [*]; done), by repeat (first | exact Drawn0.refl _ | apply Drawn0.step)⟩
  · rw [if_neg c3] at H
    have c3b0 : decide (a1 < a0) = false := decide_eq_false c3
    clear c3
    obtain rfl := Option.some.inj H
    go_enter Try.func81, Try.ntmps81
    go_wp2
    go_ret
    exact ⟨by first | rfl | (simp; done) | (simp [*]; done), by repeat (first | exact Drawn0.refl _ | apply Drawn0.step)⟩

/-! ### spec_l8Min: function 103 -/
set_option maxHeartbeats 8000000 in
set_option maxRecDepth 100000 in
theorem spec_l8Min.calls (a0 : Int) (a1 : Int) (r : Int) (w : World) (h : spec_l8Min.f a0 a1 = some r) :
    Calls Try.prog 103 #[.int .i64 a0, .int .i64 a1] w fun e w' => e = .returned (.int .i64 r) ∧ Drawn0 w w' := by
  have H : (if a0 < a1 then (some a0) else (some a1)) = some r := h
  clear h
  by_cases c3 : a0 < a1
  · rw [if_pos c3] at H
    have c3b0 : decide (a0 < a1) = true := decide_eq_true c3
    clear c3
    obtain rfl := Option.some.inj H
    go_enter Try.func103, Try.ntmps103
    go_wp2
    go_ret
    exact ⟨by first | rfl | (simp; done) | (simp [*]; done), by repeat (first | exact Drawn0.refl _ | apply Drawn0.step)⟩
  · rw [if_neg c3] at H
    have c3b0 : decide (a0 < a1) = false := decide_eq_false c3
    clear c3
    obtain rfl := Option.some.inj H
    go_enter Try.func103, Try.ntmps103
    go_wp2
    go_ret
    exact ⟨by first | rfl | (simp; done) | (simp [*]; done), by repeat (first | exact Drawn0.refl _ | apply Drawn0.step)⟩

/-! ### spec_l8Cut: function 69 -/
set_option maxHeartbeats 8000000 in
set_option maxRecDepth 100000 in
theorem spec_l8Cut.calls (a0 : Int) (a1 : Int) (r1 : Int) (r2 : Int) (w : World) (h : spec_l8Cut.f a0 a1 = some (r1, r2)) :
    Calls Try.prog 69 #[.int .i64 a0, .int .i64 a1] w fun e w' => e = .returned (.agg #[.int .i64 r1, .int .i64 r2]) ∧ Below w.heap.size w w' := by
  have hu27 := Try.underlying27
  have HB := Aside0.mk (Below.refl w.heap.size w)
  have H : ((spec_l8Max.f a0 (-2147483648)).bind fun t112 => ((spec_l8Min.f a1 2147483647).bind fun t113 => (if t112 > t113 then ((spec_l8None.f).bind fun bt114 => (some (bt114.1, bt114.2))) else (some (t112, t113))))) = some (r1, r2) := h
  clear h
  replace H := Option.bind_eq_some_iff.mp H
  obtain ⟨t112, A30, H⟩ := H
  replace H : ((spec_l8Min.f a1 2147483647).bind fun t113 => (if t112 > t113 then ((spec_l8None.f).bind fun bt114 => (some (bt114.1, bt114.2))) else (some (t112, t113)))) = some (r1, r2) := H
  have A3 := Aside0.mk A30
  clear A30
  replace H := Option.bind_eq_some_iff.mp H
  obtain ⟨t113, A40, H⟩ := H
  replace H : (if t112 > t113 then ((spec_l8None.f).bind fun bt114 => (some (bt114.1, bt114.2))) else (some (t112, t113))) = some (r1, r2) := H
  have A4 := Aside0.mk A40
  clear A40
  by_cases c5 : t112 > t113
  · rw [if_pos c5] at H
    have c5b0 : decide (t113 < t112) = true := decide_eq_true c5
    clear c5
    replace H := Option.bind_eq_some_iff.mp H
    obtain ⟨⟨t114, t115⟩, A60, H⟩ := H
    replace H : (some (t114, t115)) = some (r1, r2) := H
    have A6 := Aside0.mk A60
    clear A60
    simp only [Option.some.injEq, Prod.mk.injEq] at H
    obtain ⟨rfl, rfl⟩ := H
    go_enter Try.func69, Try.ntmps69
    go_wp2_with (first | ((with_reducible refine gate_dst (N := 4) rfl ?_); refine sqx 4 #[.int .i64 0, .int .i64 0] 27 ?_; intro gb111 hg w7 hbox hb; have BK111 := Aside0.mk (hbox); have GW111 := sqg HB hg; have GE111 := sqg HB hg; replace HB := sqs HB hb; clear hb hbox hg) | ((with_reducible refine gate_callee (f := 81) rfl ?_); refine sqL (some 8) Try.func81 #[.int .i64 a0, .int .i64 (-2147483648)] ?_; (with_reducible refine (spec_l8Max.calls a0 (-2147483648) t112 _ A3.out).mono ?_); rintro e w' ⟨rfl, ⟨nd, rfl⟩⟩; refine ⟨_, rfl, ?_⟩; (try (rw [drewN_self w7]; generalize hq_ : World.drewN w7 _ = w7; replace BK111 := sqq BK111 hq_; replace HB := sqr HB hq_; clear hq_; obtain ⟨hqz1_0, hqz1_1, hqf1_0, hqf1_1⟩ := sqc2 BK111))) | ((with_reducible refine gate_callee (f := 103) rfl ?_); refine sqL (some 10) Try.func103 #[.int .i64 a1, .int .i64 2147483647] ?_; (with_reducible refine (spec_l8Min.calls a1 2147483647 t113 _ A4.out).mono ?_); rintro e w' ⟨rfl, ⟨nd, rfl⟩⟩; refine ⟨_, rfl, ?_⟩; (try (rw [drewN_self w7]; generalize hq_ : World.drewN w7 _ = w7; replace BK111 := sqq BK111 hq_; replace HB := sqr HB hq_; clear hq_; obtain ⟨hqz2_0, hqz2_1, hqf2_0, hqf2_1⟩ := sqc2 BK111))) | ((with_reducible refine gate_callee (f := 68) rfl ?_); refine sqL (some 14) Try.func68 #[] ?_; (with_reducible refine (spec_l8None.calls  t114 t115 _ A6.out).mono ?_); rintro e w8 ⟨rfl, hb⟩; refine ⟨_, rfl, ?_⟩; replace BK111 := sqb BK111 hb; replace HB := sqs HB hb; (try clear hb); obtain ⟨hcz9_0, hcz9_1, hfz9_0, hfz9_1⟩ := sqc2 BK111))
    refine bodyPost_ret (results_cell_row rfl _ _ gb111 27 #[.int .i64 t114, .int .i64 t115] (0, 0) _ rfl (by refine sqt ?_; refine blk_put (cs := #[.int .i64 t114, .int .i64 0]) ?_ 1 _ rfl; refine sqt ?_; refine blk_put (cs := #[.int .i64 0, .int .i64 0]) ?_ 0 _ rfl; refine sqt ?_; exact BK111.out) Try.underlying27 rfl (by kernel_rfl)) rfl ?_
    exact sqe HB
  · rw [if_neg c5] at H
    have c5b0 : decide (t113 < t112) = false := decide_eq_false c5
    clear c5
    simp only [Option.some.injEq, Prod.mk.injEq] at H
    obtain ⟨rfl, rfl⟩ := H
    go_enter Try.func69, Try.ntmps69
    go_wp2_with (first | ((with_reducible refine gate_dst (N := 4) rfl ?_); refine sqx 4 #[.int .i64 0, .int .i64 0] 27 ?_; intro gb111 hg w10 hbox hb; have BK111 := Aside0.mk (hbox); have GW111 := sqg HB hg; have GE111 := sqg HB hg; replace HB := sqs HB hb; clear hb hbox hg) | ((with_reducible refine gate_callee (f := 81) rfl ?_); refine sqL (some 8) Try.func81 #[.int .i64 a0, .int .i64 (-2147483648)] ?_; (with_reducible refine (spec_l8Max.calls a0 (-2147483648) t112 _ A3.out).mono ?_); rintro e w' ⟨rfl, ⟨nd, rfl⟩⟩; refine ⟨_, rfl, ?_⟩; (try (rw [drewN_self w10]; generalize hq_ : World.drewN w10 _ = w10; replace BK111 := sqq BK111 hq_; replace HB := sqr HB hq_; clear hq_; obtain ⟨hqz3_0, hqz3_1, hqf3_0, hqf3_1⟩ := sqc2 BK111))) | ((with_reducible refine gate_callee (f := 103) rfl ?_); refine sqL (some 10) Try.func103 #[.int .i64 a1, .int .i64 2147483647] ?_; (with_reducible refine (spec_l8Min.calls a1 2147483647 t113 _ A4.out).mono ?_); rintro e w' ⟨rfl, ⟨nd, rfl⟩⟩; refine ⟨_, rfl, ?_⟩; (try (rw [drewN_self w10]; generalize hq_ : World.drewN w10 _ = w10; replace BK111 := sqq BK111 hq_; replace HB := sqr HB hq_; clear hq_; obtain ⟨hqz4_0, hqz4_1, hqf4_0, hqf4_1⟩ := sqc2 BK111)); obtain ⟨hcz11_0, hcz11_1, hfz11_0, hfz11_1⟩ := sqc2 BK111))
    refine bodyPost_ret (results_cell_row rfl _ _ gb111 27 #[.int .i64 t112, .int .i64 t113] (0, 0) _ rfl (by refine sqt ?_; refine blk_put (cs := #[.int .i64 t112, .int .i64 0]) ?_ 1 _ rfl; refine sqt ?_; refine blk_put (cs := #[.int .i64 0, .int .i64 0]) ?_ 0 _ rfl; refine sqt ?_; exact BK111.out) Try.underlying27 rfl (by kernel_rfl)) rfl ?_
    exact sqe HB

end Go.Proofs.Ytmdcgkkkfncieaa.PFnRangeLattice
