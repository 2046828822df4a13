/- Functions of the program as plain Lean functions, and that calls of them come to what these tell. Conditions: those in each law. -/
import Derived.Test.YtkekcenlleebeaaSq
import Derived.Test.YtkekcenlleebeaaDFnRangeCmp
import Derived.Test.YtkekcenlleebeaaQFnRangeCmpx0
import Derived.Test.YtkekcenlleebeaaQFnRangeCmpx1
import Derived.Test.YtkekcenlleebeaaQFnRangeCmpx2
namespace Go.Proofs.Ytkekcenlleebeaa.PFnRangeCmp
open Go.RowKit Go.Proofs.Ytkekcenlleebeaa.Sq Go.Proofs.YtkekcenlleebeaaW.PrintWords Go.Proofs.YtkekcenlleebeaaW.PrintLast Go.Proofs.YtkekcenlleebeaaW.PrintMore
attribute [local go_sem] max2_int min2_int max_two min_two max_three min_three max_four min_four   -- for this text's walks alone
set_option linter.unusedVariables false
set_option linter.unusedSimpArgs false

attribute [local go_sem high] eqA24
/-! ### spec_RangeOk: function 45 -/
def spec_RangeOk.T1 : Bool × List (List Nat × List Nat) := (true, [([], []), ([], []), ([0, 1], [0, 1]), ([2, 1], [2]), ([3], [3]), ([4, 3], [3, 4]), ([5, 3, 3], [3, 5]), ([6, 6, 3], [3, 6]), ([7], [7]), ([8, 7], [7, 8]), ([9, 7, 7], [7, 9]), ([7, 10, 3], [3, 7, 10]), ([11, 10, 3], [3, 11]), ([12], [12]), ([13, 12], [12, 13]), ([12], [12]), ([15, 12], [12, 15]), ([14, 16, 12], [12, 14, 16]), ([12, 17, 3], [3, 12, 17]), ([3, 18], [3, 18]), ([19, 12, 0, 1, 2, 3, 4, 5, 6, 7, 8, 9, 10, 11, 12, 13, 14, 15, 16, 17, 18, 19], [19])])
def spec_RangeOk.B1 : List Nat := [0, 0, 3, 7, 15, 31, 63, 127, 255, 511, 1023, 2047, 4095, 8191, 16383, 8191, 40959, 131071, 262143, 524287, 1048575]
theorem spec_RangeOk.tab1 : rtab .any (opsOf Try.f45 1) = spec_RangeOk.T1 := by kernel_rfl
theorem spec_RangeOk.bits1 : waitsOk spec_RangeOk.T1.2 spec_RangeOk.B1 = true := by kernel_rfl
set_option maxHeartbeats 8000000 in
set_option maxRecDepth 100000 in
theorem spec_RangeOk.calls (a0_0 : Int) (a0_1 : Int) (r : Bool) (w : World) (h : spec_RangeOk.f a0_0 a0_1 = some r) :
    Calls Try.prog 45 #[.agg #[.int .i64 a0_0, .int .i64 a0_1]] w fun e w' => e = .returned (.bool r) ∧ Below w.heap.size w w' := by
  have hu24 := Try.underlying24
  have HB := Aside0.mk (Below.refl w.heap.size w)
  have H : ((spec_l8None.f).bind fun bt107 => (if (a0_0 == bt107.1 && (a0_1 == bt107.2)) = true then (some true) else ((spec_NumOk.f a0_0).bind fun t109 => (if t109 = true then ((spec_NumOk.f a0_1).bind fun t110 => (if t110 = true then (some (decide (a0_0 ≤ a0_1))) else (some false))) else (some false))))) = some r := h
  clear h
  replace H := Option.bind_eq_some_iff.mp H
  obtain ⟨⟨t107, t108⟩, A20, H⟩ := H
  replace H : (if (a0_0 == t107 && (a0_1 == t108)) = true then (some true) else ((spec_NumOk.f a0_0).bind fun t109 => (if t109 = true then ((spec_NumOk.f a0_1).bind fun t110 => (if t110 = true then (some (decide (a0_0 ≤ a0_1))) else (some false))) else (some false)))) = some r := H
  have A2 := Aside0.mk A20
  clear A20
  by_cases c3 : (a0_0 == t107 && (a0_1 == t108)) = true
  · rw [if_pos c3] at H
    have c3b0 : (a0_0 == t107 && (a0_1 == t108)) = true := c3
    (try (have c3b1 : decide (a0_0 = t107 && (a0_1 == t108)) = true := by simpa using c3))
    (try (have c3b2 : (a0_0 == t107 && (a0_1 == t108)) = true := by simpa using c3))
    clear c3
    obtain rfl := Option.some.inj H
    go_enter Try.func45, Try.ntmps45
    try go_wp2_with (first | ((with_reducible refine gate_dst (N := 1) rfl ?_); refine sqx 1 #[.int .i64 a0_0, .int .i64 a0_1] 24 ?_; intro gb106 hg w4 hbox hb; have BK106 := Aside0.mk (hbox); have GW106 := sqg HB hg; have GE106 := sqg HB hg; replace HB := sqs HB hb; clear hb hbox hg))
    replace BK106 := Aside0.mk (blk_drew BK106.out)
    replace HB := Aside0.mk (below_drew1 HB.out)
    refine start_ (n := 21) (S := fun w' => w'.cell? ⟨gb106, 0, none⟩ = some (.int .i64 a0_0) ∧ w'.cell? ⟨gb106, 1, none⟩ = some (.int .i64 a0_1)) (ds := []) #[false, false, false, false, false, false, false, false, false, false, false, false, false, false, false, false, false, false, false, false, false] (by kernel_rfl) rfl rfl ⟨(blk_cell BK106.out 0).trans rfl, (blk_cell BK106.out 1).trans rfl⟩ (fun hHeld => ?_); refine with_tabW spec_RangeOk.tab1 spec_RangeOk.bits1 (fun HT_ HW_ => ?_)
    generalize w4.drew = w5 at BK106 HB hHeld ⊢
    refine sqw HT_ HW_ 0 3 hHeld ?_
    refine sqo HT_ 1 4 (fun K hK => ?_)
    refine sqG Try.func99 #[] ?_
    with_reducible refine (spec_l8None.calls  t107 t108 _ A2.out).mono ?_
    rintro e w6 ⟨rfl, hb⟩
    refine ⟨_, rfl, ?_⟩
    replace BK106 := sqb BK106 hb
    replace HB := sqs HB hb
    (try clear hb)
    refine hK.out _ _ sqz (fun hHeld => ?_)
    clear hK K
    refine sqnm ?_
    refine sqp HT_ 2 5 ?_
    refine sqp HT_ 3 6 ?_
    refine sqpu HT_ 4 7 ?_
    refine sqpu HT_ 5 8 ?_
    refine sqpu HT_ 6 9 ?_
    refine sqpu HT_ 7 10 ?_
    refine sqpu HT_ 8 11 ?_
    refine sqpu HT_ 9 12 ?_
    refine sqpu HT_ 10 13 ?_
    refine sqpu HT_ 11 14 ?_
    refine sqpu HT_ 12 15 ?_
    refine sqpu HT_ 13 16 ?_
    refine sqpu HT_ 14 17 ?_
    refine sqpu HT_ 15 18 ?_
    refine sqpu HT_ 16 19 ?_
    refine sqpu HT_ 17 20 ?_
    refine sqpu HT_ 18 21 ?_
    refine sqp HT_ 19 22 ?_
    refine sqp HT_ 20 2 ?_
    refine done_ (done_of HT_.out (by kernel_rfl)) ?_
    try go_wp2
    go_ret
    exact sqe HB
  · rw [if_neg c3] at H
    have c3b0 : (a0_0 == t107 && (a0_1 == t108)) = false := by simpa using c3
    (try (have c3b1 : decide (a0_0 = t107 && (a0_1 == t108)) = false := by simpa using c3))
    (try (have c3b2 : (a0_0 == t107 && (a0_1 == t108)) = false := by simpa using c3))
    (try (have c3b3 : ¬ (a0_0 = t107 && (a0_1 == t108)) := by simpa using c3))
    clear c3
    replace H := Option.bind_eq_some_iff.mp H
    obtain ⟨t109, A70, H⟩ := H
    replace H : (if t109 = true then ((spec_NumOk.f a0_1).bind fun t110 => (if t110 = true then (some (decide (a0_0 ≤ a0_1))) else (some false))) else (some false)) = some r := H
    have A7 := Aside0.mk A70
    clear A70
    by_cases c8 : t109 = true
    · subst c8
      have H1 : ((spec_NumOk.f a0_1).bind fun t110 => (if t110 = true then (some (decide (a0_0 ≤ a0_1))) else (some false))) = some r := by rw [if_pos rfl] at H; exact H
      clear H
      have H := H1
      clear H1
      replace H := Option.bind_eq_some_iff.mp H
      obtain ⟨t110, A90, H⟩ := H
      replace H : (if t110 = true then (some (decide (a0_0 ≤ a0_1))) else (some false)) = some r := H
      have A9 := Aside0.mk A90
      clear A90
      by_cases c10 : t110 = true
      · subst c10
        have H1 : (some (decide (a0_0 ≤ a0_1))) = some r := by rw [if_pos rfl] at H; exact H
        clear H
        have H := H1
        clear H1
        obtain rfl := Option.some.inj H
        go_enter Try.func45, Try.ntmps45
        try go_wp2_with (first | ((with_reducible refine gate_dst (N := 1) rfl ?_); refine sqx 1 #[.int .i64 a0_0, .int .i64 a0_1] 24 ?_; intro gb106 hg w11 hbox hb; have BK106 := Aside0.mk (hbox); have GW106 := sqg HB hg; have GE106 := sqg HB hg; replace HB := sqs HB hb; clear hb hbox hg))
        replace BK106 := Aside0.mk (blk_drew BK106.out)
        replace HB := Aside0.mk (below_drew1 HB.out)
        refine start_ (n := 21) (S := fun w' => w'.cell? ⟨gb106, 0, none⟩ = some (.int .i64 a0_0) ∧ w'.cell? ⟨gb106, 1, none⟩ = some (.int .i64 a0_1)) (ds := []) #[false, false, false, false, false, false, false, false, false, false, false, false, false, false, false, false, false, false, false, false, false] (by kernel_rfl) rfl rfl ⟨(blk_cell BK106.out 0).trans rfl, (blk_cell BK106.out 1).trans rfl⟩ (fun hHeld => ?_); refine with_tabW spec_RangeOk.tab1 spec_RangeOk.bits1 (fun HT_ HW_ => ?_)
        generalize w11.drew = w12 at BK106 HB hHeld ⊢
        refine sqw HT_ HW_ 0 3 hHeld ?_
        refine sqo HT_ 1 4 (fun K hK => ?_)
        refine sqG Try.func99 #[] ?_
        with_reducible refine (spec_l8None.calls  t107 t108 _ A2.out).mono ?_
        rintro e w13 ⟨rfl, hb⟩
        refine ⟨_, rfl, ?_⟩
        replace BK106 := sqb BK106 hb
        replace HB := sqs HB hb
        (try clear hb)
        refine hK.out _ _ sqz (fun hHeld => ?_)
        clear hK K
        refine sqnm ?_
        refine sqp HT_ 2 5 ?_
        refine sqp HT_ 3 6 ?_
        refine sqp HT_ 4 7 ?_
        refine sqw HT_ HW_ 5 8 hHeld ?_
        refine sqo HT_ 6 9 (fun K hK => ?_)
        refine sqG Try.func56 #[.int .i64 a0_0] ?_
        with_reducible refine (spec_NumOk.calls a0_0 true _ A7.out).mono ?_
        rintro e w' ⟨rfl, ⟨nd, rfl⟩⟩
        refine ⟨_, rfl, ?_⟩
        refine hK.out _ _ sqz (fun hHeld => ?_)
        clear hK K
        refine sqnm ?_
        refine sqp HT_ 7 10 ?_
        refine sqp HT_ 8 11 ?_
        refine sqw HT_ HW_ 9 12 hHeld ?_
        refine sqo HT_ 10 13 (fun K hK => ?_)
        refine sqG Try.func56 #[.int .i64 a0_1] ?_
        with_reducible refine (spec_NumOk.calls a0_1 true _ A9.out).mono ?_
        rintro e w' ⟨rfl, ⟨nd, rfl⟩⟩
        refine ⟨_, rfl, ?_⟩
        refine hK.out _ _ sqz (fun hHeld => ?_)
        clear hK K
        refine sqnm ?_
        refine sqp HT_ 11 14 ?_
        refine sqp HT_ 12 15 ?_
        refine sqp HT_ 13 16 ?_
        refine sqp HT_ 15 18 ?_
        refine sqw HT_ HW_ 14 17 hHeld ?_
        refine sqw HT_ HW_ 16 19 hHeld ?_
        refine sqp HT_ 17 20 ?_
        refine sqp HT_ 18 21 ?_
        refine sqp HT_ 19 22 ?_
        refine sqp HT_ 20 2 ?_
        refine done_ (done_of HT_.out (by kernel_rfl)) ?_
        try go_wp2
        go_ret
        exact sqe HB
      · replace c10 := Bool.eq_false_iff.mpr c10
        subst c10
        have H1 : (some false) = some r := by rw [if_neg (show ¬ (false = true) by decide)] at H; exact H
        clear H
        have H := H1
        clear H1
        obtain rfl := Option.some.inj H
        go_enter Try.func45, Try.ntmps45
        try go_wp2_with (first | ((with_reducible refine gate_dst (N := 1) rfl ?_); refine sqx 1 #[.int .i64 a0_0, .int .i64 a0_1] 24 ?_; intro gb106 hg w14 hbox hb; have BK106 := Aside0.mk (hbox); have GW106 := sqg HB hg; have GE106 := sqg HB hg; replace HB := sqs HB hb; clear hb hbox hg))
        replace BK106 := Aside0.mk (blk_drew BK106.out)
        replace HB := Aside0.mk (below_drew1 HB.out)
        refine start_ (n := 21) (S := fun w' => w'.cell? ⟨gb106, 0, none⟩ = some (.int .i64 a0_0) ∧ w'.cell? ⟨gb106, 1, none⟩ = some (.int .i64 a0_1)) (ds := []) #[false, false, false, false, false, false, false, false, false, false, false, false, false, false, false, false, false, false, false, false, false] (by kernel_rfl) rfl rfl ⟨(blk_cell BK106.out 0).trans rfl, (blk_cell BK106.out 1).trans rfl⟩ (fun hHeld => ?_); refine with_tabW spec_RangeOk.tab1 spec_RangeOk.bits1 (fun HT_ HW_ => ?_)
        generalize w14.drew = w15 at BK106 HB hHeld ⊢
        refine sqw HT_ HW_ 0 3 hHeld ?_
        refine sqo HT_ 1 4 (fun K hK => ?_)
        refine sqG Try.func99 #[] ?_
        with_reducible refine (spec_l8None.calls  t107 t108 _ A2.out).mono ?_
        rintro e w16 ⟨rfl, hb⟩
        refine ⟨_, rfl, ?_⟩
        replace BK106 := sqb BK106 hb
        replace HB := sqs HB hb
        (try clear hb)
        refine hK.out _ _ sqz (fun hHeld => ?_)
        clear hK K
        refine sqnm ?_
        refine sqp HT_ 2 5 ?_
        refine sqp HT_ 3 6 ?_
        refine sqp HT_ 4 7 ?_
        refine sqw HT_ HW_ 5 8 hHeld ?_
        refine sqo HT_ 6 9 (fun K hK => ?_)
        refine sqG Try.func56 #[.int .i64 a0_0] ?_
        with_reducible refine (spec_NumOk.calls a0_0 true _ A7.out).mono ?_
        rintro e w' ⟨rfl, ⟨nd, rfl⟩⟩
        refine ⟨_, rfl, ?_⟩
        refine hK.out _ _ sqz (fun hHeld => ?_)
        clear hK K
        refine sqnm ?_
        refine sqp HT_ 7 10 ?_
        refine sqp HT_ 8 11 ?_
        refine sqw HT_ HW_ 9 12 hHeld ?_
        refine sqo HT_ 10 13 (fun K hK => ?_)
        refine sqG Try.func56 #[.int .i64 a0_1] ?_
        with_reducible refine (spec_NumOk.calls a0_1 false _ A9.out).mono ?_
        rintro e w' ⟨rfl, ⟨nd, rfl⟩⟩
        refine ⟨_, rfl, ?_⟩
        refine hK.out _ _ sqz (fun hHeld => ?_)
        clear hK K
        refine sqnm ?_
        refine sqp HT_ 11 14 ?_
        refine sqp HT_ 12 15 ?_
        refine sqpu HT_ 13 16 ?_
        refine sqpu HT_ 14 17 ?_
        refine sqpu HT_ 15 18 ?_
        refine sqpu HT_ 16 19 ?_
        refine sqpu HT_ 17 20 ?_
        refine sqp HT_ 18 21 ?_
        refine sqp HT_ 19 22 ?_
        refine sqp HT_ 20 2 ?_
        refine done_ (done_of HT_.out (by kernel_rfl)) ?_
        try go_wp2
        go_ret
        exact sqe HB
    · replace c8 := Bool.eq_false_iff.mpr c8
      subst c8
      have H1 : (some false) = some r := by rw [if_neg (show ¬ (false = true) by decide)] at H; exact H
      clear H
      have H := H1
      clear H1
      obtain rfl := Option.some.inj H
      go_enter Try.func45, Try.ntmps45
      try go_wp2_with (first | ((with_reducible refine gate_dst (N := 1) rfl ?_); refine sqx 1 #[.int .i64 a0_0, .int .i64 a0_1] 24 ?_; intro gb106 hg w17 hbox hb; have BK106 := Aside0.mk (hbox); have GW106 := sqg HB hg; have GE106 := sqg HB hg; replace HB := sqs HB hb; clear hb hbox hg))
      replace BK106 := Aside0.mk (blk_drew BK106.out)
      replace HB := Aside0.mk (below_drew1 HB.out)
      refine start_ (n := 21) (S := fun w' => w'.cell? ⟨gb106, 0, none⟩ = some (.int .i64 a0_0) ∧ w'.cell? ⟨gb106, 1, none⟩ = some (.int .i64 a0_1)) (ds := []) #[false, false, false, false, false, false, false, false, false, false, false, false, false, false, false, false, false, false, false, false, false] (by kernel_rfl) rfl rfl ⟨(blk_cell BK106.out 0).trans rfl, (blk_cell BK106.out 1).trans rfl⟩ (fun hHeld => ?_); refine with_tabW spec_RangeOk.tab1 spec_RangeOk.bits1 (fun HT_ HW_ => ?_)
      generalize w17.drew = w18 at BK106 HB hHeld ⊢
      refine sqw HT_ HW_ 0 3 hHeld ?_
      refine sqo HT_ 1 4 (fun K hK => ?_)
      refine sqG Try.func99 #[] ?_
      with_reducible refine (spec_l8None.calls  t107 t108 _ A2.out).mono ?_
      rintro e w19 ⟨rfl, hb⟩
      refine ⟨_, rfl, ?_⟩
      replace BK106 := sqb BK106 hb
      replace HB := sqs HB hb
      (try clear hb)
      refine hK.out _ _ sqz (fun hHeld => ?_)
      clear hK K
      refine sqnm ?_
      refine sqp HT_ 2 5 ?_
      refine sqp HT_ 3 6 ?_
      refine sqp HT_ 4 7 ?_
      refine sqw HT_ HW_ 5 8 hHeld ?_
      refine sqo HT_ 6 9 (fun K hK => ?_)
      refine sqG Try.func56 #[.int .i64 a0_0] ?_
      with_reducible refine (spec_NumOk.calls a0_0 false _ A7.out).mono ?_
      rintro e w' ⟨rfl, ⟨nd, rfl⟩⟩
      refine ⟨_, rfl, ?_⟩
      refine hK.out _ _ sqz (fun hHeld => ?_)
      clear hK K
      refine sqnm ?_
      refine sqp HT_ 7 10 ?_
      refine sqpu HT_ 8 11 ?_
      refine sqpu HT_ 9 12 ?_
      refine sqpu HT_ 10 13 ?_
      refine sqp HT_ 11 14 ?_
      refine sqp HT_ 12 15 ?_
      refine sqpu HT_ 13 16 ?_
      refine sqpu HT_ 14 17 ?_
      refine sqpu HT_ 15 18 ?_
      refine sqpu HT_ 16 19 ?_
      refine sqpu HT_ 17 20 ?_
      refine sqp HT_ 18 21 ?_
      refine sqp HT_ 19 22 ?_
      refine sqp HT_ 20 2 ?_
      refine done_ (done_of HT_.out (by kernel_rfl)) ?_
      try go_wp2
      go_ret
      exact sqe HB

/-! ### laws_wide: function 55 -/
set_option maxHeartbeats 8000000 in
set_option maxRecDepth 100000 in
theorem laws_wide.calls (A0 : Option Addr) (c0 : Nat) (l0 : List Int) (a1 : Int) (r : Int) (w : World) (hr0 : Kd.C (Kd.int .u8) w A0 l0.length l0) (hc0 : l0.length ≤ c0) (h : laws_wide.f l0 a1 = some r) :
    Calls Try.prog 55 #[.slice A0 l0.length c0, .int .i64 a1] w fun e w' => e = .returned (.int .i64 r) ∧ Drawn0 w w' := by
  have HR0 := Aside0.mk hr0
  have HC0 := Aside0.mk hc0
  clear hr0 hc0
  have H : ((laws_at.f l0 a1).bind fun t111 => ((laws_at.f l0 (wrap64 (a1 + 1))).bind fun t112 => ((laws_at.f l0 (wrap64 (a1 + 2))).bind fun t113 => ((laws_at.f l0 (wrap64 (a1 + 3))).bind fun t114 => (some (Go.bits .or .i64 (Go.bits .or .i64 (Go.bits .or .i64 (wrap64 ((wrap64 (t111)) * 16777216)) (wrap64 ((wrap64 (t112)) * 65536))) (wrap64 ((wrap64 (t113)) * 256))) (wrap64 (t114)))))))) = some r := h
  clear h
  replace H := Option.bind_eq_some_iff.mp H
  obtain ⟨t111, A30, H⟩ := H
  replace H : ((laws_at.f l0 (wrap64 (a1 + 1))).bind fun t112 => ((laws_at.f l0 (wrap64 (a1 + 2))).bind fun t113 => ((laws_at.f l0 (wrap64 (a1 + 3))).bind fun t114 => (some (Go.bits .or .i64 (Go.bits .or .i64 (Go.bits .or .i64 (wrap64 ((wrap64 (t111)) * 16777216)) (wrap64 ((wrap64 (t112)) * 65536))) (wrap64 ((wrap64 (t113)) * 256))) (wrap64 (t114))))))) = some r := H
  have A3 := Aside0.mk A30
  clear A30
  replace H := Option.bind_eq_some_iff.mp H
  obtain ⟨t112, A40, H⟩ := H
  replace H : ((laws_at.f l0 (wrap64 (a1 + 2))).bind fun t113 => ((laws_at.f l0 (wrap64 (a1 + 3))).bind fun t114 => (some (Go.bits .or .i64 (Go.bits .or .i64 (Go.bits .or .i64 (wrap64 ((wrap64 (t111)) * 16777216)) (wrap64 ((wrap64 (t112)) * 65536))) (wrap64 ((wrap64 (t113)) * 256))) (wrap64 (t114)))))) = some r := H
  have A4 := Aside0.mk A40
  clear A40
  replace H := Option.bind_eq_some_iff.mp H
  obtain ⟨t113, A50, H⟩ := H
  replace H : ((laws_at.f l0 (wrap64 (a1 + 3))).bind fun t114 => (some (Go.bits .or .i64 (Go.bits .or .i64 (Go.bits .or .i64 (wrap64 ((wrap64 (t111)) * 16777216)) (wrap64 ((wrap64 (t112)) * 65536))) (wrap64 ((wrap64 (t113)) * 256))) (wrap64 (t114))))) = some r := H
  have A5 := Aside0.mk A50
  clear A50
  replace H := Option.bind_eq_some_iff.mp H
  obtain ⟨t114, A60, H⟩ := H
  replace H : (some (Go.bits .or .i64 (Go.bits .or .i64 (Go.bits .or .i64 (wrap64 ((wrap64 (t111)) * 16777216)) (wrap64 ((wrap64 (t112)) * 65536))) (wrap64 ((wrap64 (t113)) * 256))) (wrap64 (t114)))) = some r := H
  have A6 := Aside0.mk A60
  clear A60
  obtain rfl := Option.some.inj H
  go_enter Try.func55, Try.ntmps55
  go_wp2_with (first | ((with_reducible refine gate_callee (f := 33) rfl ?_); refine sqL (some 7) Try.func33 #[.slice A0 l0.length c0, .int .i64 a1] ?_; (with_reducible refine (laws_at.calls _ _ l0 a1 t111 _ ?side1 ?side2 A3.out).mono ?_); (case side1 => repeat (first | exact HR0.out | (with_reducible refine Kd.C_alloc ?_ _) | (with_reducible refine Kd.C_drewN ?_ _) | (with_reducible refine Kd.C_drew ?_))); (case side2 => exact HC0.out); rintro e w' ⟨rfl, ⟨nd, rfl⟩⟩; refine ⟨_, rfl, ?_⟩) | ((with_reducible refine gate_callee (f := 33) rfl ?_); refine sqL (some 13) Try.func33 #[.slice A0 l0.length c0, .int .i64 (wrap64 (a1 + 1))] ?_; (with_reducible refine (laws_at.calls _ _ l0 (wrap64 (a1 + 1)) t112 _ ?side1 ?side2 A4.out).mono ?_); (case side1 => repeat (first | exact HR0.out | (with_reducible refine Kd.C_alloc ?_ _) | (with_reducible refine Kd.C_drewN ?_ _) | (with_reducible refine Kd.C_drew ?_))); (case side2 => exact HC0.out); rintro e w' ⟨rfl, ⟨nd, rfl⟩⟩; refine ⟨_, rfl, ?_⟩) | ((with_reducible refine gate_callee (f := 33) rfl ?_); refine sqL (some 20) Try.func33 #[.slice A0 l0.length c0, .int .i64 (wrap64 (a1 + 2))] ?_; (with_reducible refine (laws_at.calls _ _ l0 (wrap64 (a1 + 2)) t113 _ ?side1 ?side2 A5.out).mono ?_); (case side1 => repeat (first | exact HR0.out | (with_reducible refine Kd.C_alloc ?_ _) | (with_reducible refine Kd.C_drewN ?_ _) | (with_reducible refine Kd.C_drew ?_))); (case side2 => exact HC0.out); rintro e w' ⟨rfl, ⟨nd, rfl⟩⟩; refine ⟨_, rfl, ?_⟩) | ((with_reducible refine gate_callee (f := 33) rfl ?_); refine sqL (some 27) Try.func33 #[.slice A0 l0.length c0, .int .i64 (wrap64 (a1 + 3))] ?_; (with_reducible refine (laws_at.calls _ _ l0 (wrap64 (a1 + 3)) t114 _ ?side1 ?side2 A6.out).mono ?_); (case side1 => repeat (first | exact HR0.out | (with_reducible refine Kd.C_alloc ?_ _) | (with_reducible refine Kd.C_drewN ?_ _) | (with_reducible refine Kd.C_drew ?_))); (case side2 => exact HC0.out); rintro e w' ⟨rfl, ⟨nd, rfl⟩⟩; refine ⟨_, rfl, ?_⟩))
  go_ret
  exact ⟨by first | rfl | (simp; done) | (simp [*]; done), by repeat (first | exact Drawn0.refl _ | apply Drawn0.step)⟩

end Go.Proofs.Ytkekcenlleebeaa.PFnRangeCmp
