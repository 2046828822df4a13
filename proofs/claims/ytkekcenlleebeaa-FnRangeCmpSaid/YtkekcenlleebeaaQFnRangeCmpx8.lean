/- Functions of the program as plain Lean functions, and that calls of them come to what these tell. Conditions: those in each law. -/
import Derived.Test.YtkekcenlleebeaaSq
import Derived.Test.YtkekcenlleebeaaDFnRangeCmp
import Derived.Test.YtkekcenlleebeaaQFnRangeCmpx0
import Derived.Test.YtkekcenlleebeaaQFnRangeCmpx1
import Derived.Test.YtkekcenlleebeaaQFnRangeCmpx7
namespace Go.Proofs.Ytkekcenlleebeaa.PFnRangeCmp
open Go.RowKit Go.Proofs.Ytkekcenlleebeaa.Sq Go.Proofs.YtkekcenlleebeaaW.PrintWords Go.Proofs.YtkekcenlleebeaaW.PrintLast Go.Proofs.YtkekcenlleebeaaW.PrintMore
attribute [local go_sem] max2_int min2_int max_two min_two max_three min_three max_four min_four   -- for this text's walks alone
set_option linter.unusedVariables false
set_option linter.unusedSimpArgs false

attribute [local go_sem high] eqA24
/-! ### impl_RangeOk: function 76 -/
def impl_RangeOk.T1 : Bool × List (List Nat × List Nat) := (true, [([], []), ([], []), ([0, 1], [0, 1]), ([2, 1], [2]), ([3], [3]), ([4, 3], [3, 4]), ([5, 3, 3], [3, 5]), ([6, 6, 3], [3, 6]), ([7], [7]), ([8, 7], [7, 8]), ([9, 7, 7], [7, 9]), ([7, 10, 3], [3, 7, 10]), ([11, 10, 3], [3, 11]), ([12], [12]), ([13, 12], [12, 13]), ([12], [12]), ([15, 12], [12, 15]), ([14, 16, 12], [12, 14, 16]), ([12, 17, 3], [3, 12, 17]), ([3, 18], [3, 18]), ([19, 12, 0, 1, 2, 3, 4, 5, 6, 7, 8, 9, 10, 11, 12, 13, 14, 15, 16, 17, 18, 19], [19])])
def impl_RangeOk.B1 : List Nat := [0, 0, 3, 7, 15, 31, 63, 127, 255, 511, 1023, 2047, 4095, 8191, 16383, 8191, 40959, 131071, 262143, 524287, 1048575]
theorem impl_RangeOk.tab1 : rtab .any (opsOf Try.f76 1) = impl_RangeOk.T1 := by kernel_rfl
theorem impl_RangeOk.bits1 : waitsOk impl_RangeOk.T1.2 impl_RangeOk.B1 = true := by kernel_rfl
set_option maxHeartbeats 8000000 in
set_option maxRecDepth 100000 in
theorem impl_RangeOk.calls (a0_0 : Int) (a0_1 : Int) (r : Bool) (w : World) (h : impl_RangeOk.f a0_0 a0_1 = some r) :
    Calls Try.prog 76 #[.agg #[.int .i64 a0_0, .int .i64 a0_1]] w fun e w' => e = .returned (.bool r) ∧ Below w.heap.size w w' := by
  have hu24 := Try.underlying24
  have HB := Aside0.mk (Below.refl w.heap.size w)
  have H : ((impl_rangeNone.f).bind fun bt242 => (if (a0_0 == bt242.1 && (a0_1 == bt242.2)) = true then (some true) else ((impl_NumOk.f a0_0).bind fun t244 => (if t244 = true then ((impl_NumOk.f a0_1).bind fun t245 => (if t245 = true then (some (decide (a0_0 ≤ a0_1))) else (some false))) else (some false))))) = some r := h
  clear h
  replace H := Option.bind_eq_some_iff.mp H
  obtain ⟨⟨t242, t243⟩, A20, H⟩ := H
  replace H : (if (a0_0 == t242 && (a0_1 == t243)) = true then (some true) else ((impl_NumOk.f a0_0).bind fun t244 => (if t244 = true then ((impl_NumOk.f a0_1).bind fun t245 => (if t245 = true then (some (decide (a0_0 ≤ a0_1))) else (some false))) else (some false)))) = some r := H
  have A2 := Aside0.mk A20
  clear A20
  by_cases c3 : (a0_0 == t242 && (a0_1 == t243)) = true
  · rw [if_pos c3] at H
    have c3b0 : (a0_0 == t242 && (a0_1 == t243)) = true := c3
    (try (have c3b1 : decide (a0_0 = t242 && (a0_1 == t243)) = true := by simpa using c3))
    (try (have c3b2 : (a0_0 == t242 && (a0_1 == t243)) = true := by simpa using c3))
    clear c3
    obtain rfl := Option.some.inj H
    go_enter Try.func76, Try.ntmps76
    try go_wp2_with (first | ((with_reducible refine gate_dst (N := 1) rfl ?_); refine sqx 1 #[.int .i64 a0_0, .int .i64 a0_1] 24 ?_; intro gb241 hg w4 hbox hb; have BK241 := Aside0.mk (hbox); have GW241 := sqg HB hg; have GE241 := sqg HB hg; replace HB := sqs HB hb; clear hb hbox hg))
    replace BK241 := Aside0.mk (blk_drew BK241.out)
    replace HB := Aside0.mk (below_drew1 HB.out)
    refine start_ (n := 21) (S := fun w' => w'.cell? ⟨gb241, 0, none⟩ = some (.int .i64 a0_0) ∧ w'.cell? ⟨gb241, 1, none⟩ = some (.int .i64 a0_1)) (ds := []) #[false, false, false, false, false, false, false, false, false, false, false, false, false, false, false, false, false, false, false, false, false] (by kernel_rfl) rfl rfl ⟨(blk_cell BK241.out 0).trans rfl, (blk_cell BK241.out 1).trans rfl⟩ (fun hHeld => ?_); refine with_tabW impl_RangeOk.tab1 impl_RangeOk.bits1 (fun HT_ HW_ => ?_)
    generalize w4.drew = w5 at BK241 HB hHeld ⊢
    refine sqw HT_ HW_ 0 3 hHeld ?_
    refine sqo HT_ 1 4 (fun K hK => ?_)
    refine sqG Try.func126 #[] ?_
    with_reducible refine (impl_rangeNone.calls  t242 t243 _ A2.out).mono ?_
    rintro e w6 ⟨rfl, hb⟩
    refine ⟨_, rfl, ?_⟩
    replace BK241 := sqb BK241 hb
    replace HB := sqs HB hb
    (try clear hb)
    refine hK.out _ _ sqz (fun hHeld => ?_)
    clear hK K
    refine sqnm ?_
    refine sqp HT_ 2 5 ?_
    refine sqp HT_ 3 6 ?_
    refine sqpu HT_ 4 7 ?_
    refine sqpu HT_ 5 8 ?_
    refine sqpu HT_ 6 9 ?_
    refine sqpu HT_ 7 10 ?_
    refine sqpu HT_ 8 11 ?_
    refine sqpu HT_ 9 12 ?_
    refine sqpu HT_ 10 13 ?_
    refine sqpu HT_ 11 14 ?_
    refine sqpu HT_ 12 15 ?_
    refine sqpu HT_ 13 16 ?_
    refine sqpu HT_ 14 17 ?_
    refine sqpu HT_ 15 18 ?_
    refine sqpu HT_ 16 19 ?_
    refine sqpu HT_ 17 20 ?_
    refine sqpu HT_ 18 21 ?_
    refine sqp HT_ 19 22 ?_
    refine sqp HT_ 20 2 ?_
    refine done_ (done_of HT_.out (by kernel_rfl)) ?_
    try go_wp2
    go_ret
    exact sqe HB
  · rw [if_neg c3] at H
    have c3b0 : (a0_0 == t242 && (a0_1 == t243)) = false := by simpa using c3
    (try (have c3b1 : decide (a0_0 = t242 && (a0_1 == t243)) = false := by simpa using c3))
    (try (have c3b2 : (a0_0 == t242 && (a0_1 == t243)) = false := by simpa using c3))
    (try (have c3b3 : ¬ (a0_0 = t242 && (a0_1 == t243)) := by simpa using c3))
    clear c3
    replace H := Option.bind_eq_some_iff.mp H
    obtain ⟨t244, A70, H⟩ := H
    replace H : (if t244 = true then ((impl_NumOk.f a0_1).bind fun t245 => (if t245 = true then (some (decide (a0_0 ≤ a0_1))) else (some false))) else (some false)) = some r := H
    have A7 := Aside0.mk A70
    clear A70
    by_cases c8 : t244 = true
    · subst c8
      have H1 : ((impl_NumOk.f a0_1).bind fun t245 => (if t245 = true then (some (decide (a0_0 ≤ a0_1))) else (some false))) = some r := by rw [if_pos rfl] at H; exact H
      clear H
      have H := H1
      clear H1
      replace H := Option.bind_eq_some_iff.mp H
      obtain ⟨t245, A90, H⟩ := H
      replace H : (if t245 = true then (some (decide (a0_0 ≤ a0_1))) else (some false)) = some r := H
      have A9 := Aside0.mk A90
      clear A90
      by_cases c10 : t245 = true
      · subst c10
        have H1 : (some (decide (a0_0 ≤ a0_1))) = some r := by rw [if_pos rfl] at H; exact H
        clear H
        have H := H1
        clear H1
        obtain rfl := Option.some.inj H
        go_enter Try.func76, Try.ntmps76
        try go_wp2_with (first | ((with_reducible refine gate_dst (N := 1) rfl ?_); refine sqx 1 #[.int .i64 a0_0, .int .i64 a0_1] 24 ?_; intro gb241 hg w11 hbox hb; have BK241 := Aside0.mk (hbox); have GW241 := sqg HB hg; have GE241 := sqg HB hg; replace HB := sqs HB hb; clear hb hbox hg))
        replace BK241 := Aside0.mk (blk_drew BK241.out)
        replace HB := Aside0.mk (below_drew1 HB.out)
        refine start_ (n := 21) (S := fun w' => w'.cell? ⟨gb241, 0, none⟩ = some (.int .i64 a0_0) ∧ w'.cell? ⟨gb241, 1, none⟩ = some (.int .i64 a0_1)) (ds := []) #[false, false, false, false, false, false, false, false, false, false, false, false, false, false, false, false, false, false, false, false, false] (by kernel_rfl) rfl rfl ⟨(blk_cell BK241.out 0).trans rfl, (blk_cell BK241.out 1).trans rfl⟩ (fun hHeld => ?_); refine with_tabW impl_RangeOk.tab1 impl_RangeOk.bits1 (fun HT_ HW_ => ?_)
        generalize w11.drew = w12 at BK241 HB hHeld ⊢
        refine sqw HT_ HW_ 0 3 hHeld ?_
        refine sqo HT_ 1 4 (fun K hK => ?_)
        refine sqG Try.func126 #[] ?_
        with_reducible refine (impl_rangeNone.calls  t242 t243 _ A2.out).mono ?_
        rintro e w13 ⟨rfl, hb⟩
        refine ⟨_, rfl, ?_⟩
        replace BK241 := sqb BK241 hb
        replace HB := sqs HB hb
        (try clear hb)
        refine hK.out _ _ sqz (fun hHeld => ?_)
        clear hK K
        refine sqnm ?_
        refine sqp HT_ 2 5 ?_
        refine sqp HT_ 3 6 ?_
        refine sqp HT_ 4 7 ?_
        refine sqw HT_ HW_ 5 8 hHeld ?_
        refine sqo HT_ 6 9 (fun K hK => ?_)
        refine sqG Try.func117 #[.int .i64 a0_0] ?_
        with_reducible refine (impl_NumOk.calls a0_0 true _ A7.out).mono ?_
        rintro e w' ⟨rfl, ⟨nd, rfl⟩⟩
        refine ⟨_, rfl, ?_⟩
        refine hK.out _ _ sqz (fun hHeld => ?_)
        clear hK K
        refine sqnm ?_
        refine sqp HT_ 7 10 ?_
        refine sqp HT_ 8 11 ?_
        refine sqw HT_ HW_ 9 12 hHeld ?_
        refine sqo HT_ 10 13 (fun K hK => ?_)
        refine sqG Try.func117 #[.int .i64 a0_1] ?_
        with_reducible refine (impl_NumOk.calls a0_1 true _ A9.out).mono ?_
        rintro e w' ⟨rfl, ⟨nd, rfl⟩⟩
        refine ⟨_, rfl, ?_⟩
        refine hK.out _ _ sqz (fun hHeld => ?_)
        clear hK K
        refine sqnm ?_
        refine sqp HT_ 11 14 ?_
        refine sqp HT_ 12 15 ?_
        refine sqp HT_ 13 16 ?_
        refine sqp HT_ 15 18 ?_
        refine sqw HT_ HW_ 14 17 hHeld ?_
        refine sqw HT_ HW_ 16 19 hHeld ?_
        refine sqp HT_ 17 20 ?_
        refine sqp HT_ 18 21 ?_
        refine sqp HT_ 19 22 ?_
        refine sqp HT_ 20 2 ?_
        refine done_ (done_of HT_.out (by kernel_rfl)) ?_
        try go_wp2
        go_ret
        exact sqe HB
      · replace c10 := Bool.eq_false_iff.mpr c10
        subst c10
        have H1 : (some false) = some r := by rw [if_neg (show ¬ (false = true) by decide)] at H; exact H
        clear H
        have H := H1
        clear H1
        obtain rfl := Option.some.inj H
        go_enter Try.func76, Try.ntmps76
        try go_wp2_with (first | ((with_reducible refine gate_dst (N := 1) rfl ?_); refine sqx 1 #[.int .i64 a0_0, .int .i64 a0_1] 24 ?_; intro gb241 hg w14 hbox hb; have BK241 := Aside0.mk (hbox); have GW241 := sqg HB hg; have GE241 := sqg HB hg; replace HB := sqs HB hb; clear hb hbox hg))
        replace BK241 := Aside0.mk (blk_drew BK241.out)
        replace HB := Aside0.mk (below_drew1 HB.out)
        refine start_ (n := 21) (S := fun w' => w'.cell? ⟨gb241, 0, none⟩ = some (.int .i64 a0_0) ∧ w'.cell? ⟨gb241, 1, none⟩ = some (.int .i64 a0_1)) (ds := []) #[false, false, false, false, false, false, false, false, false, false, false, false, false, false, false, false, false, false, false, false, false] (by kernel_rfl) rfl rfl ⟨(blk_cell BK241.out 0).trans rfl, (blk_cell BK241.out 1).trans rfl⟩ (fun hHeld => ?_); refine with_tabW impl_RangeOk.tab1 impl_RangeOk.bits1 (fun HT_ HW_ => ?_)
        generalize w14.drew = w15 at BK241 HB hHeld ⊢
        refine sqw HT_ HW_ 0 3 hHeld ?_
        refine sqo HT_ 1 4 (fun K hK => ?_)
        refine sqG Try.func126 #[] ?_
        with_reducible refine (impl_rangeNone.calls  t242 t243 _ A2.out).mono ?_
        rintro e w16 ⟨rfl, hb⟩
        refine ⟨_, rfl, ?_⟩
        replace BK241 := sqb BK241 hb
        replace HB := sqs HB hb
        (try clear hb)
        refine hK.out _ _ sqz (fun hHeld => ?_)
        clear hK K
        refine sqnm ?_
        refine sqp HT_ 2 5 ?_
        refine sqp HT_ 3 6 ?_
        refine sqp HT_ 4 7 ?_
        refine sqw HT_ HW_ 5 8 hHeld ?_
        refine sqo HT_ 6 9 (fun K hK => ?_)
        refine sqG Try.func117 #[.int .i64 a0_0] ?_
        with_reducible refine (impl_NumOk.calls a0_0 true _ A7.out).mono ?_
        rintro e w' ⟨rfl, ⟨nd, rfl⟩⟩
        refine ⟨_, rfl, ?_⟩
        refine hK.out _ _ sqz (fun hHeld => ?_)
        clear hK K
        refine sqnm ?_
        refine sqp HT_ 7 10 ?_
        refine sqp HT_ 8 11 ?_
        refine sqw HT_ HW_ 9 12 hHeld ?_
        refine sqo HT_ 10 13 (fun K hK => ?_)
        refine sqG Try.func117 #[.int .i64 a0_1] ?_
        with_reducible refine (impl_NumOk.calls a0_1 false _ A9.out).mono ?_
        rintro e w' ⟨rfl, ⟨nd, rfl⟩⟩
        refine ⟨_, rfl, ?_⟩
        refine hK.out _ _ sqz (fun hHeld => ?_)
        clear hK K
        refine sqnm ?_
        refine sqp HT_ 11 14 ?_
        refine sqp HT_ 12 15 ?_
        refine sqpu HT_ 13 16 ?_
        refine sqpu HT_ 14 17 ?_
        refine sqpu HT_ 15 18 ?_
        refine sqpu HT_ 16 19 ?_
        refine sqpu HT_ 17 20 ?_
        refine sqp HT_ 18 21 ?_
        refine sqp HT_ 19 22 ?_
        refine sqp HT_ 20 2 ?_
        refine done_ (done_of HT_.out (by kernel_rfl)) ?_
        try go_wp2
        go_ret
        exact sqe HB
    · replace c8 := Bool.eq_false_iff.mpr c8
      subst c8
      have H1 : (some false) = some r := by rw [if_neg (show ¬ (false = true) by decide)] at H; exact H
      clear H
      have H := H1
      clear H1
      obtain rfl := Option.some.inj H
      go_enter Try.func76, Try.ntmps76
      try go_wp2_with (first | ((with_reducible refine gate_dst (N := 1) rfl ?_); refine sqx 1 #[.int .i64 a0_0, .int .i64 a0_1] 24 ?_; intro gb241 hg w17 hbox hb; have BK241 := Aside0.mk (hbox); have GW241 := sqg HB hg; have GE241 := sqg HB hg; replace HB := sqs HB hb; clear hb hbox hg))
      replace BK241 := Aside0.mk (blk_drew BK241.out)
      replace HB := Aside0.mk (below_drew1 HB.out)
      refine start_ (n := 21) (S := fun w' => w'.cell? ⟨gb241, 0, none⟩ = some (.int .i64 a0_0) ∧ w'.cell? ⟨gb241, 1, none⟩ = some (.int .i64 a0_1)) (ds := []) #[false, false, false, false, false, false, false, false, false, false, false, false, false, false, false, false, false, false, false, false, false] (by kernel_rfl) rfl rfl ⟨(blk_cell BK241.out 0).trans rfl, (blk_cell BK241.out 1).trans rfl⟩ (fun hHeld => ?_); refine with_tabW impl_RangeOk.tab1 impl_RangeOk.bits1 (fun HT_ HW_ => ?_)
      generalize w17.drew = w18 at BK241 HB hHeld ⊢
      refine sqw HT_ HW_ 0 3 hHeld ?_
      refine sqo HT_ 1 4 (fun K hK => ?_)
      refine sqG Try.func126 #[] ?_
      with_reducible refine (impl_rangeNone.calls  t242 t243 _ A2.out).mono ?_
      rintro e w19 ⟨rfl, hb⟩
      refine ⟨_, rfl, ?_⟩
      replace BK241 := sqb BK241 hb
      replace HB := sqs HB hb
      (try clear hb)
      refine hK.out _ _ sqz (fun hHeld => ?_)
      clear hK K
      refine sqnm ?_
      refine sqp HT_ 2 5 ?_
      refine sqp HT_ 3 6 ?_
      refine sqp HT_ 4 7 ?_
      refine sqw HT_ HW_ 5 8 hHeld ?_
      refine sqo HT_ 6 9 (fun K hK => ?_)
      refine sqG Try.func117 #[.int .i64 a0_0] ?_
      with_reducible refine (impl_NumOk.calls a0_0 false _ A7.out).mono ?_
      rintro e w' ⟨rfl, ⟨nd, rfl⟩⟩
      refine ⟨_, rfl, ?_⟩
      refine hK.out _ _ sqz (fun hHeld => ?_)
      clear hK K
      refine sqnm ?_
      refine sqp HT_ 7 10 ?_
      refine sqpu HT_ 8 11 ?_
      refine sqpu HT_ 9 12 ?_
      refine sqpu HT_ 10 13 ?_
      refine sqp HT_ 11 14 ?_
      refine sqp HT_ 12 15 ?_
      refine sqpu HT_ 13 16 ?_
      refine sqpu HT_ 14 17 ?_
      refine sqpu HT_ 15 18 ?_
      refine sqpu HT_ 16 19 ?_
      refine sqpu HT_ 17 20 ?_
      refine sqp HT_ 18 21 ?_
      refine sqp HT_ 19 22 ?_
      refine sqp HT_ 20 2 ?_
      refine done_ (done_of HT_.out (by kernel_rfl)) ?_
      try go_wp2
      go_ret
      exact sqe HB

/-! ### impl_Range_empty: function 95 -/
set_option maxHeartbeats 8000000 in
set_option maxRecDepth 100000 in
theorem impl_Range_empty.calls (a0_0 : Int) (a0_1 : Int) (r : Bool) (w : World) (h : impl_Range_empty.f a0_0 a0_1 = some r) :
    Calls Try.prog 95 #[.agg #[.int .i64 a0_0, .int .i64 a0_1]] w fun e w' => e = .returned (.bool r) ∧ Below w.heap.size w w' := by
  have hu24 := Try.underlying24
  have HB := Aside0.mk (Below.refl w.heap.size w)
  have H : (some (decide (a0_0 > a0_1))) = some r := h
  clear h
  obtain rfl := Option.some.inj H
  go_enter Try.func95, Try.ntmps95
  go_wp2_with (first | ((with_reducible refine gate_dst (N := 1) rfl ?_); refine sqx 1 #[.int .i64 a0_0, .int .i64 a0_1] 24 ?_; intro gb246 hg w2 hbox hb; have BK246 := Aside0.mk (hbox); have GW246 := sqg HB hg; have GE246 := sqg HB hg; replace HB := sqs HB hb; clear hb hbox hg; obtain ⟨hcz3_0, hcz3_1, hfz3_0, hfz3_1⟩ := sqc2 BK246))
  go_ret
  exact sqe HB

/-! ### impl_rangeFrom: function 129 -/
set_option maxHeartbeats 8000000 in
set_option maxRecDepth 100000 in
theorem impl_rangeFrom.calls (a0 : Int) (a1 : Int) (r1 : Int) (r2 : Int) (w : World) (h : impl_rangeFrom.f a0 a1 = some (r1, r2)) :
    Calls Try.prog 129 #[.int .i64 a0, .int .i64 a1] w fun e w' => e = .returned (.agg #[.int .i64 r1, .int .i64 r2]) ∧ Below w.heap.size w w' := by
  have hu24 := Try.underlying24
  have HB := Aside0.mk (Below.refl w.heap.size w)
  have H : (if (mx a0 (-2147483648)) > (mn a1 2147483647) then ((impl_rangeNone.f).bind fun bt249 => (some (bt249.1, bt249.2))) else (some (mx a0 (-2147483648), mn a1 2147483647))) = some (r1, r2) := h
  clear h
  obtain ⟨ji3, hji3⟩ : ∃ j_ : Int, (mx a0 (-2147483648)) = j_ := ⟨_, rfl⟩
  replace H : (if (ji3) > (mn a1 2147483647) then ((impl_rangeNone.f).bind fun bt249 => (some (bt249.1, bt249.2))) else (some (ji3, mn a1 2147483647))) = some (r1, r2) := by first | (rw [hji3] at H; exact H) | (simp only [hji3] at H ⊢; exact H)
  have hji3_ : (if a0 < (-2147483648) then (-2147483648) else a0) = ji3 := hji3
  obtain ⟨ji4, hji4⟩ : ∃ j_ : Int, (mn a1 2147483647) = j_ := ⟨_, rfl⟩
  replace H : (if (ji3) > (ji4) then ((impl_rangeNone.f).bind fun bt249 => (some (bt249.1, bt249.2))) else (some (ji3, ji4))) = some (r1, r2) := by first | (rw [hji4] at H; exact H) | (simp only [hji4] at H ⊢; exact H)
  (try (have hji4h : ji4 ≤ 2147483647 := by (rw [← hji4]; unfold mn; (repeat' split) <;> omega)))
  (try (have hji4g : ji4 ≤ 64 := by omega))
  have hji4_ : (if 2147483647 < a1 then 2147483647 else a1) = ji4 := hji4
  by_cases c5 : (ji3) > (ji4)
  · rw [if_pos c5] at H
    have c5b0 : decide ((ji4) < (ji3)) = true := decide_eq_true c5
    clear c5
    replace H := Option.bind_eq_some_iff.mp H
    obtain ⟨⟨t249, t250⟩, A60, H⟩ := H
    replace H : (some (t249, t250)) = some (r1, r2) := H
    have A6 := Aside0.mk A60
    clear A60
    simp only [Option.some.injEq, Prod.mk.injEq] at H
    obtain ⟨rfl, rfl⟩ := H
    go_enter Try.func129, Try.ntmps129
    go_wp2_with (first | ((with_reducible refine gate_dst (N := 4) rfl ?_); refine sqx 4 #[.int .i64 0, .int .i64 0] 24 ?_; intro gb247 hg w7 hbox hb; have BK247 := Aside0.mk (hbox); have GW247 := sqg HB hg; have GE247 := sqg HB hg; replace HB := sqs HB hb; clear hb hbox hg) | ((with_reducible refine gate_dst (N := 5) rfl ?_); refine sqx 5 #[.int .i64 0, .int .i64 0] 24 ?_; intro gb248 hg w8 hbox hb; have BK248 := Aside0.mk (hbox); have GW248 := sqg HB hg; have GE248 := sqg HB hg; have NB247_248 := sqn BK247 hg; have NB248_247 := sqm BK247 hg; replace BK247 := sqb BK247 hb; replace HB := sqs HB hb; clear hb hbox hg; have hnb9 := NB248_247.out; have hnc9 := NB247_248.out; obtain ⟨hcz10_0, hcz10_1, hfz10_0, hfz10_1⟩ := sqc2 BK248) | ((with_reducible refine gate_callee (f := 126) rfl ?_); refine sqL (some 16) Try.func126 #[] ?_; (with_reducible refine (impl_rangeNone.calls  t249 t250 _ A6.out).mono ?_); rintro e w11 ⟨rfl, hb⟩; refine ⟨_, rfl, ?_⟩; have n0_ := Aside0.mk (blk_below (g := gb247) (o := .cells #[.int .i64 0, .int .i64 0] 24 (0, 0)) (by refine sqt ?_; refine blk_far ?_ NB247_248.out _; refine sqt ?_; refine blk_far ?_ NB247_248.out _; refine sqt ?_; exact BK247.out) hb); have n1_ := Aside0.mk (blk_below (g := gb248) (o := .cells #[.int .i64 ji3, .int .i64 ji4] 24 (0, 0)) (by refine sqt ?_; refine blk_put (cs := #[.int .i64 ji3, .int .i64 0]) ?_ 1 _ rfl; refine sqt ?_; refine blk_put (cs := #[.int .i64 0, .int .i64 0]) ?_ 0 _ rfl; refine sqt ?_; exact BK248.out) hb); have n2_ := sqs HB hb; clear BK247; clear BK248; clear HB; have BK247 := n0_; have BK248 := n1_; have HB := n2_; clear n0_ n1_ n2_; (try clear hb); obtain ⟨hcz12_0, hcz12_1, hfz12_0, hfz12_1⟩ := sqc2 BK247))
    refine bodyPost_ret (results_cell_row rfl _ _ gb247 24 #[.int .i64 t249, .int .i64 t250] (0, 0) _ rfl (by refine sqt ?_; refine blk_put (cs := #[.int .i64 t249, .int .i64 0]) ?_ 1 _ rfl; refine sqt ?_; refine blk_put (cs := #[.int .i64 0, .int .i64 0]) ?_ 0 _ rfl; refine sqt ?_; exact BK247.out) Try.underlying24 rfl (by kernel_rfl)) rfl ?_
    exact ⟨by first | rfl | (simp [errW_none, errW_some] <;> rfl) | (simp only [← hji3, ← hji4]; first | rfl | (simp [errW_none, errW_some] <;> rfl)) | (simp [*, errW_none, errW_some] <;> rfl), by repeat (first | (with_reducible first | exact HB.out | apply below_alloc | apply pw_below_drewN | apply below_drew1 | refine below_set ?_ GE247.out | refine below_set ?_ GE248.out) | exact HB.out)⟩
  · rw [if_neg c5] at H
    have c5b0 : decide ((ji4) < (ji3)) = false := decide_eq_false c5
    clear c5
    simp only [Option.some.injEq, Prod.mk.injEq] at H
    obtain ⟨rfl, rfl⟩ := H
    go_enter Try.func129, Try.ntmps129
    go_wp2_with (first | ((with_reducible refine gate_dst (N := 4) rfl ?_); refine sqx 4 #[.int .i64 0, .int .i64 0] 24 ?_; intro gb247 hg w13 hbox hb; have BK247 := Aside0.mk (hbox); have GW247 := sqg HB hg; have GE247 := sqg HB hg; replace HB := sqs HB hb; clear hb hbox hg) | ((with_reducible refine gate_dst (N := 5) rfl ?_); refine sqx 5 #[.int .i64 0, .int .i64 0] 24 ?_; intro gb248 hg w14 hbox hb; have BK248 := Aside0.mk (hbox); have GW248 := sqg HB hg; have GE248 := sqg HB hg; have NB247_248 := sqn BK247 hg; have NB248_247 := sqm BK247 hg; replace BK247 := sqb BK247 hb; replace HB := sqs HB hb; clear hb hbox hg; have hnb15 := NB248_247.out; have hnc15 := NB247_248.out; obtain ⟨hcz16_0, hcz16_1, hfz16_0, hfz16_1⟩ := sqc2 BK248; obtain ⟨hcz17_0, hcz17_1, hfz17_0, hfz17_1⟩ := sqc2 BK247))
    refine bodyPost_ret (results_cell_row rfl _ _ gb247 24 #[.int .i64 ji3, .int .i64 ji4] (0, 0) _ rfl (by refine sqt ?_; refine blk_put (cs := #[.int .i64 ji3, .int .i64 0]) ?_ 1 _ rfl; refine sqt ?_; refine blk_put (cs := #[.int .i64 0, .int .i64 0]) ?_ 0 _ rfl; refine sqt ?_; refine blk_far ?_ NB247_248.out _; refine sqt ?_; refine blk_far ?_ NB247_248.out _; refine sqt ?_; exact BK247.out) Try.underlying24 rfl (by kernel_rfl)) rfl ?_
    exact ⟨by first | rfl | (simp [errW_none, errW_some] <;> rfl) | (simp only [← hji3, ← hji4]; first | rfl | (simp [errW_none, errW_some] <;> rfl)) | (simp [*, errW_none, errW_some] <;> rfl), by repeat (first | (with_reducible first | exact HB.out | apply below_alloc | apply pw_below_drewN | apply below_drew1 | refine below_set ?_ GE247.out | refine below_set ?_ GE248.out) | exact HB.out)⟩

end Go.Proofs.Ytkekcenlleebeaa.PFnRangeCmp
