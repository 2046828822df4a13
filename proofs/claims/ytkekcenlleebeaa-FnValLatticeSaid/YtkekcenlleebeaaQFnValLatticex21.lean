/- Functions of the program as plain Lean functions, and that calls of them come to what these tell. Conditions: those in each law. -/
import Derived.Test.YtkekcenlleebeaaSq
import Derived.Test.YtkekcenlleebeaaDFnValLattice
import Derived.Test.YtkekcenlleebeaaQFnValLatticex0
import Derived.Test.YtkekcenlleebeaaQFnValLatticex4
import Derived.Test.YtkekcenlleebeaaQFnValLatticex5
import Derived.Test.YtkekcenlleebeaaQFnValLatticex12
import Derived.Test.YtkekcenlleebeaaQFnValLatticex19
import Derived.Test.YtkekcenlleebeaaQFnValLatticex20
namespace Go.Proofs.Ytkekcenlleebeaa.PFnValLattice
open Go.RowKit Go.Proofs.Ytkekcenlleebeaa.Sq Go.Proofs.YtkekcenlleebeaaW.PrintWords Go.Proofs.YtkekcenlleebeaaW.PrintLast Go.Proofs.YtkekcenlleebeaaW.PrintMore
attribute [local go_sem] max2_int min2_int max_two min_two max_three min_three max_four min_four   -- for this text's walks alone
set_option linter.unusedVariables false
set_option linter.unusedSimpArgs false

/-! ### impl_ValJoin: function 86 -/
def impl_ValJoin.T7 : Bool × List (List Nat × List Nat) := (true, [([], []), ([0], [0]), ([], []), ([2, 1], [2]), ([1, 3, 3], [1, 3]), ([], []), ([5, 4], [5]), ([], []), ([7, 6], [7]), ([6, 8, 8], [6, 8]), ([4, 9, 9], [4, 9]), ([10, 10, 0, 1, 2, 3, 4, 5, 6, 7, 8, 9, 10], [10])])
def impl_ValJoin.B7 : List Nat := [0, 1, 0, 7, 15, 0, 63, 0, 255, 511, 1023, 2047]
theorem impl_ValJoin.tab7 : rtab .any (opsOf Try.f86 7) = impl_ValJoin.T7 := by kernel_rfl
theorem impl_ValJoin.bits7 : waitsOk impl_ValJoin.T7.2 impl_ValJoin.B7 = true := by kernel_rfl
set_option maxHeartbeats 8000000 in
set_option maxRecDepth 100000 in
theorem impl_ValJoin.calls (k : Nat) (a0_0 : Int) (a0_1 : Int) (a0_2 : Int) (a0_3 : Int) (a1_0 : Int) (a1_1 : Int) (a1_2 : Int) (a1_3 : Int) (r1 : Int) (r2 : Int) (r3 : Int) (r4 : Int) (w : World) (h : impl_ValJoin.f k a0_0 a0_1 a0_2 a0_3 a1_0 a1_1 a1_2 a1_3 = some (r1, r2, r3, r4)) :
  Calls Try.prog 86 #[.agg #[.int .i64 a0_0, .int .i64 a0_1, .int .i64 a0_2, .int .i64 a0_3], .agg #[.int .i64 a1_0, .int .i64 a1_1, .int .i64 a1_2, .int .i64 a1_3]] w fun e w' => e = .returned (.agg #[.int .i64 r1, .int .i64 r2, .int .i64 r3, .int .i64 r4]) ∧ Below w.heap.size w w' := by
 have hu30 := Try.underlying30
 have HB := Aside0.mk (Below.refl w.heap.size w)
 have H := h
 unfold impl_ValJoin.f at H
 clear h
 have HC3 := Aside0.mk H
 clear H
 go_enter Try.func86, Try.ntmps86
 go_upto_region 1 with (first | ((with_reducible refine gate_dst (N := 2) rfl ?_); refine sqx 2 #[.int .i64 a0_0, .int .i64 a0_1, .int .i64 a0_2, .int .i64 a0_3] 30 ?_; intro gb533 hg w4 hbox hb; have BK533 := Aside0.mk hbox; have GW533 := sqg HB hg; replace HB := sqs HB hb; clear hb hbox hg) | ((with_reducible refine gate_dst (N := 3) rfl ?_); refine sqx 3 #[.int .i64 a1_0, .int .i64 a1_1, .int .i64 a1_2, .int .i64 a1_3] 30 ?_; intro gb534 hg w5 hbox hb; have BK534 := Aside0.mk hbox; have GW534 := sqg HB hg; have NB533_534 := sqn BK533 hg; have NB534_533 := sqm BK533 hg; replace BK533 := sqb BK533 hb; replace HB := sqs HB hb; clear hb hbox hg) | ((with_reducible refine gate_dst (N := 4) rfl ?_); refine sqx 4 #[.int .i64 0, .int .i64 0, .int .i64 0, .int .i64 0] 30 ?_; intro gb535 hg w6 hbox hb; have BK535 := Aside0.mk hbox; have GW535 := sqg HB hg; have NB533_535 := sqn BK533 hg; have NB535_533 := sqm BK533 hg; have NB534_535 := sqn BK534 hg; have NB535_534 := sqm BK534 hg; refine sqM2 BK533 BK534 hb ?_; clear BK533 BK534; intro BK533 BK534; replace HB := sqs HB hb; clear hb hbox hg))
 (try simp only [Act.put, List.setIfInBounds_toArray, List.set_cons_zero, List.set_cons_succ])
 go_cut [5] (fun v5 wc => ∃ (kq : Nat) (x5_2 : Bool), v5 = .bool x5_2 ∧ Aside0 (impl_ValJoin.j0 kq x5_2 a0_0 a0_1 a0_2 a0_3 a1_0 a1_1 a1_2 a1_3 = some (r1, r2, r3, r4)) ∧ Aside0 (kq ≤ k) ∧ Aside0 (wc.heap[gb533]? = some (.cells #[.int .i64 a0_0, .int .i64 a0_1, .int .i64 a0_2, .int .i64 a0_3] 30 (0, 0))) ∧ Aside0 (wc.heap[gb534]? = some (.cells #[.int .i64 a1_0, .int .i64 a1_1, .int .i64 a1_2, .int .i64 a1_3] 30 (0, 0))) ∧ Aside0 (wc.heap[gb535]? = some (.cells #[.int .i64 0, .int .i64 0, .int .i64 0, .int .i64 0] 30 (0, 0))) ∧ Aside0 (Below w.heap.size w wc))
 case first =>
  have H := HC3.out
  clear HC3
  replace H := sqbi H
  obtain ⟨t536, A7, H⟩ := H
  try dsimp only at H
  rcases sqI (t536 = true) with c8 | c8
  ·replace c8 := Bool.eq_false_iff.mpr c8
   subst c8
   have H1 : (impl_ValJoin.j0 k true a0_0 a0_1 a0_2 a0_3 a1_0 a1_1 a1_2 a1_3) = some (r1, r2, r3, r4) := by rw [if_neg (show ¬ (false = true) by decide)] at H; exact H
   clear H
   have H := H1
   clear H1
   have H' := Aside0.mk H
   clear H
   obtain ⟨_, _, _, _⟩ := sqN2 NB533_534 NB533_535
   obtain ⟨_, _, _, _, _, _, _, _⟩ := sqc4 BK533
   go_wp2_with (first | ((with_reducible refine gate_callee (f := 18) rfl ?_); refine sqL (some 7) Try.func18 #[.agg #[.int .i64 a0_0, .int .i64 a0_1, .int .i64 a0_2, .int .i64 a0_3]] ?_; (with_reducible refine (impl_ValOk.calls k a0_0 a0_1 a0_2 a0_3 false _ A7.out).mono ?_); rintro e w20 ⟨rfl, hb⟩; refine ⟨_, rfl, ?_⟩; refine sqM3 BK533 BK534 BK535 hb ?_; clear BK533 BK534 BK535; intro BK533 BK534 BK535; replace HB := sqs HB hb; (try clear hb)))
   go_meet
   case rel => exact ⟨_, (true), (by first | rfl | (simp; done) | (simp [*]; done)), H', ⟨by first | omega | exact Nat.le_refl _⟩, sqk BK533, sqk BK534, sqk BK535, sqh HB⟩
  subst c8
  have H1 : ((impl_ValOk.f k a1_0 a1_1 a1_2 a1_3).bind fun t537 => (impl_ValJoin.j0 k (!t537) a0_0 a0_1 a0_2 a0_3 a1_0 a1_1 a1_2 a1_3)) = some (r1, r2, r3, r4) := by rw [if_pos rfl] at H; exact H
  clear H
  have H := H1
  clear H1
  replace H := sqbi H
  obtain ⟨t537, A9, H⟩ := H
  try dsimp only at H
  have H' := Aside0.mk H
  clear H
  obtain ⟨_, _, _, _⟩ := sqN2 NB533_534 NB533_535
  obtain ⟨_, _, _, _, _, _, _, _⟩ := sqc4 BK533
  go_wp2_with (first | ((with_reducible refine gate_callee (f := 18) rfl ?_); refine sqL (some 7) Try.func18 #[.agg #[.int .i64 a0_0, .int .i64 a0_1, .int .i64 a0_2, .int .i64 a0_3]] ?_; (with_reducible refine (impl_ValOk.calls k a0_0 a0_1 a0_2 a0_3 true _ A7.out).mono ?_); rintro e w13 ⟨rfl, hb⟩; refine ⟨_, rfl, ?_⟩; refine sqM3 BK533 BK534 BK535 hb ?_; clear BK533 BK534 BK535; intro BK533 BK534 BK535; replace HB := sqs HB hb; (try clear hb); obtain ⟨_, _⟩ := sqN1 NB534_535; obtain ⟨_, _, _, _, _, _, _, _⟩ := sqc4 BK534) | (go_at_call 18; (with_reducible refine (impl_ValOk.calls k a1_0 a1_1 a1_2 a1_3 t537 _ A9.out).mono ?_); rintro e w16 ⟨rfl, hb⟩; refine sqM3 BK533 BK534 BK535 hb ?_; clear BK533 BK534 BK535; intro BK533 BK534 BK535; replace HB := sqs HB hb; (try clear hb)))
  go_meet
  case rel => exact ⟨_, (!t537), (by first | rfl | (simp; done) | (simp [*]; done)), H', ⟨by first | omega | exact Nat.le_refl _⟩, sqk BK533, sqk BK534, sqk BK535, sqh HB⟩
 case rest =>
  clear HC3
  obtain ⟨kq, x5_2, rfl, HA, HJ2, BK533, BK534, BK535, HB⟩ := hcut
  cases kq with
  | zero => exact absurd HA.out (by simp [impl_ValJoin.j0])
  | succ kj2 =>
   have H := HA.out
   clear HA
   simp only [impl_ValJoin.j0] at H
   by_cases c21 : x5_2 = true
   ·subst c21
    have H1 : ((impl_valNone.f).bind fun bt538 => (some (bt538.1, bt538.2.1, bt538.2.2.1, bt538.2.2.2))) = some (r1, r2, r3, r4) := by rw [if_pos rfl] at H; exact H
    clear H
    have H := H1
    clear H1
    replace H := sqbi H
    obtain ⟨⟨t538, t539, t540, t541⟩, A22, H⟩ := H
    try dsimp only at H
    simp only [Option.some.injEq, Prod.mk.injEq] at H
    obtain ⟨rfl, rfl, rfl, rfl⟩ := H
    go_wp2_with (first | ((with_reducible refine gate_callee (f := 96) rfl ?_); refine sqL (some 14) Try.func96 #[] ?_; (with_reducible refine (impl_valNone.calls  t538 t539 t540 t541 _ A22.out).mono ?_); rintro e w23 ⟨rfl, hb⟩; refine ⟨_, rfl, ?_⟩; refine sqM3 BK533 BK534 BK535 hb ?_; clear BK533 BK534 BK535; intro BK533 BK534 BK535; replace HB := sqs HB hb; (try clear hb); obtain ⟨_, _, _, _⟩ := sqN2 NB535_533 NB535_534; obtain ⟨_, _, _, _, _, _, _, _⟩ := sqc4 BK535))
    refine bodyPost_ret (results_cell_row rfl _ _ gb535 30 #[.int .i64 t538, .int .i64 t539, .int .i64 t540, .int .i64 t541] (0, 0) _ rfl (sqP BK535) Try.underlying30 rfl (by kernel_rfl)) rfl ?_
    exact sqe HB
   replace c21 := Bool.eq_false_iff.mpr c21
   subst c21
   have H1 : ((impl_Val_none.f a0_0 a0_1 a0_2 a0_3).bind fun t542 => (if t542 = true then (some (a1_0, a1_1, a1_2, a1_3)) else ((impl_Val_none.f a1_0 a1_1 a1_2 a1_3).bind fun t543 => (if t543 = true then (some (a0_0, a0_1, a0_2, a0_3)) else ((impl_Val_span.f a0_0 a0_1 a0_2 a0_3).bind fun bt544 => ((impl_Val_span.f a1_0 a1_1 a1_2 a1_3).bind fun bt546 => ((impl_RangeJoin.f kj2 bt544.1 bt544.2 bt546.1 bt546.2).bind fun bt548 => ((impl_Val_rest.f a0_0 a0_1 a0_2 a0_3).bind fun bt550 => ((impl_Val_rest.f a1_0 a1_1 a1_2 a1_3).bind fun bt552 => ((impl_RestJoin.f kj2 bt550.1 bt550.2 bt552.1 bt552.2).bind fun bt554 => ((impl_ValMake.f kj2 bt548.1 bt548.2 bt554.1 bt554.2).bind fun bt556 => (some (bt556.1, bt556.2.1, bt556.2.2.1, bt556.2.2.2))))))))))))) = some (r1, r2, r3, r4) := by rw [if_neg (show ¬ (false = true) by decide)] at H; exact H
   clear H
   have H := H1
   clear H1
   replace H := sqbi H
   obtain ⟨t542, A27, H⟩ := H
   try dsimp only at H
   by_cases c28 : t542 = true
   ·subst c28
    have H1 : (some (a1_0, a1_1, a1_2, a1_3)) = some (r1, r2, r3, r4) := by rw [if_pos rfl] at H; exact H
    clear H
    have H := H1
    clear H1
    simp only [Option.some.injEq, Prod.mk.injEq] at H
    obtain ⟨rfl, rfl, rfl, rfl⟩ := H
    obtain ⟨_, _, _, _⟩ := sqN2 NB533_534 NB533_535
    obtain ⟨_, _, _, _, _, _, _, _⟩ := sqc4 BK533
    go_wp2_with (first | ((with_reducible refine gate_callee (f := 144) rfl ?_); refine sqL (some 17) Try.func144 #[.agg #[.int .i64 a0_0, .int .i64 a0_1, .int .i64 a0_2, .int .i64 a0_3]] ?_; (with_reducible refine (impl_Val_none.calls a0_0 a0_1 a0_2 a0_3 true _ A27.out).mono ?_); rintro e w32 ⟨rfl, hb⟩; refine ⟨_, rfl, ?_⟩; refine sqM3 BK533 BK534 BK535 hb ?_; clear BK533 BK534 BK535; intro BK533 BK534 BK535; replace HB := sqs HB hb; (try clear hb); obtain ⟨_, _⟩ := sqN1 NB534_535; obtain ⟨_, _, _, _, _, _, _, _⟩ := sqc4 BK534; obtain ⟨_, _, _, _, _, _, _, _⟩ := sqc4 BK535))
    refine bodyPost_ret (results_cell_row rfl _ _ gb535 30 #[.int .i64 a1_0, .int .i64 a1_1, .int .i64 a1_2, .int .i64 a1_3] (0, 0) _ rfl (sqP BK535) Try.underlying30 rfl (by kernel_rfl)) rfl ?_
    exact sqe HB
   replace c28 := Bool.eq_false_iff.mpr c28
   subst c28
   have H1 : ((impl_Val_none.f a1_0 a1_1 a1_2 a1_3).bind fun t543 => (if t543 = true then (some (a0_0, a0_1, a0_2, a0_3)) else ((impl_Val_span.f a0_0 a0_1 a0_2 a0_3).bind fun bt544 => ((impl_Val_span.f a1_0 a1_1 a1_2 a1_3).bind fun bt546 => ((impl_RangeJoin.f kj2 bt544.1 bt544.2 bt546.1 bt546.2).bind fun bt548 => ((impl_Val_rest.f a0_0 a0_1 a0_2 a0_3).bind fun bt550 => ((impl_Val_rest.f a1_0 a1_1 a1_2 a1_3).bind fun bt552 => ((impl_RestJoin.f kj2 bt550.1 bt550.2 bt552.1 bt552.2).bind fun bt554 => ((impl_ValMake.f kj2 bt548.1 bt548.2 bt554.1 bt554.2).bind fun bt556 => (some (bt556.1, bt556.2.1, bt556.2.2.1, bt556.2.2.2))))))))))) = some (r1, r2, r3, r4) := by rw [if_neg (show ¬ (false = true) by decide)] at H; exact H
   clear H
   have H := H1
   clear H1
   replace H := sqbi H
   obtain ⟨t543, A36, H⟩ := H
   try dsimp only at H
   by_cases c37 : t543 = true
   ·subst c37
    have H1 : (some (a0_0, a0_1, a0_2, a0_3)) = some (r1, r2, r3, r4) := by rw [if_pos rfl] at H; exact H
    clear H
    have H := H1
    clear H1
    simp only [Option.some.injEq, Prod.mk.injEq] at H
    obtain ⟨rfl, rfl, rfl, rfl⟩ := H
    obtain ⟨_, _, _, _⟩ := sqN2 NB533_534 NB533_535
    obtain ⟨_, _, _, _, _, _, _, _⟩ := sqc4 BK533
    go_wp2_with (first | ((with_reducible refine gate_callee (f := 144) rfl ?_); refine sqL (some 17) Try.func144 #[.agg #[.int .i64 a0_0, .int .i64 a0_1, .int .i64 a0_2, .int .i64 a0_3]] ?_; (with_reducible refine (impl_Val_none.calls a0_0 a0_1 a0_2 a0_3 false _ A27.out).mono ?_); rintro e w41 ⟨rfl, hb⟩; refine ⟨_, rfl, ?_⟩; refine sqM3 BK533 BK534 BK535 hb ?_; clear BK533 BK534 BK535; intro BK533 BK534 BK535; replace HB := sqs HB hb; (try clear hb); obtain ⟨_, _⟩ := sqN1 NB534_535; obtain ⟨_, _, _, _, _, _, _, _⟩ := sqc4 BK534) | ((with_reducible refine gate_callee (f := 144) rfl ?_); refine sqL (some 21) Try.func144 #[.agg #[.int .i64 a1_0, .int .i64 a1_1, .int .i64 a1_2, .int .i64 a1_3]] ?_; (with_reducible refine (impl_Val_none.calls a1_0 a1_1 a1_2 a1_3 true _ A36.out).mono ?_); rintro e w44 ⟨rfl, hb⟩; refine ⟨_, rfl, ?_⟩; refine sqM3 BK533 BK534 BK535 hb ?_; clear BK533 BK534 BK535; intro BK533 BK534 BK535; replace HB := sqs HB hb; (try clear hb); obtain ⟨_, _, _, _, _, _, _, _⟩ := sqc4 BK533; obtain ⟨_, _, _, _, _, _, _, _⟩ := sqc4 BK535))
    refine bodyPost_ret (results_cell_row rfl _ _ gb535 30 #[.int .i64 a0_0, .int .i64 a0_1, .int .i64 a0_2, .int .i64 a0_3] (0, 0) _ rfl (sqP BK535) Try.underlying30 rfl (by kernel_rfl)) rfl ?_
    exact sqe HB
   replace c37 := Bool.eq_false_iff.mpr c37
   subst c37
   have H1 : ((impl_Val_span.f a0_0 a0_1 a0_2 a0_3).bind fun bt544 => ((impl_Val_span.f a1_0 a1_1 a1_2 a1_3).bind fun bt546 => ((impl_RangeJoin.f kj2 bt544.1 bt544.2 bt546.1 bt546.2).bind fun bt548 => ((impl_Val_rest.f a0_0 a0_1 a0_2 a0_3).bind fun bt550 => ((impl_Val_rest.f a1_0 a1_1 a1_2 a1_3).bind fun bt552 => ((impl_RestJoin.f kj2 bt550.1 bt550.2 bt552.1 bt552.2).bind fun bt554 => ((impl_ValMake.f kj2 bt548.1 bt548.2 bt554.1 bt554.2).bind fun bt556 => (some (bt556.1, bt556.2.1, bt556.2.2.1, bt556.2.2.2))))))))) = some (r1, r2, r3, r4) := by rw [if_neg (show ¬ (false = true) by decide)] at H; exact H
   clear H
   have H := H1
   clear H1
   replace H := sqbi H
   obtain ⟨⟨t544, t545⟩, A47, H⟩ := H
   try dsimp only at H
   replace H := sqbi H
   obtain ⟨⟨t546, t547⟩, A48, H⟩ := H
   try dsimp only at H
   replace H := sqbi H
   obtain ⟨⟨t548, t549⟩, A49, H⟩ := H
   try dsimp only at H
   replace H := sqbi H
   obtain ⟨⟨t550, t551⟩, A50, H⟩ := H
   try dsimp only at H
   replace H := sqbi H
   obtain ⟨⟨t552, t553⟩, A51, H⟩ := H
   try dsimp only at H
   replace H := sqbi H
   obtain ⟨⟨t554, t555⟩, A52, H⟩ := H
   try dsimp only at H
   replace H := sqbi H
   obtain ⟨⟨t556, t557, t558, t559⟩, A53, H⟩ := H
   try dsimp only at H
   simp only [Option.some.injEq, Prod.mk.injEq] at H
   obtain ⟨rfl, rfl, rfl, rfl⟩ := H
   obtain ⟨_, _, _, _⟩ := sqN2 NB533_534 NB533_535
   obtain ⟨_, _, _, _, _, _, _, _⟩ := sqc4 BK533
   try go_wp2_with (first | ((with_reducible refine gate_callee (f := 144) rfl ?_); refine sqL (some 17) Try.func144 #[.agg #[.int .i64 a0_0, .int .i64 a0_1, .int .i64 a0_2, .int .i64 a0_3]] ?_; (with_reducible refine (impl_Val_none.calls a0_0 a0_1 a0_2 a0_3 false _ A27.out).mono ?_); rintro e w57 ⟨rfl, hb⟩; refine ⟨_, rfl, ?_⟩; refine sqM3 BK533 BK534 BK535 hb ?_; clear BK533 BK534 BK535; intro BK533 BK534 BK535; replace HB := sqs HB hb; (try clear hb); obtain ⟨_, _⟩ := sqN1 NB534_535; obtain ⟨_, _, _, _, _, _, _, _⟩ := sqc4 BK534) | ((with_reducible refine gate_callee (f := 144) rfl ?_); refine sqL (some 21) Try.func144 #[.agg #[.int .i64 a1_0, .int .i64 a1_1, .int .i64 a1_2, .int .i64 a1_3]] ?_; (with_reducible refine (impl_Val_none.calls a1_0 a1_1 a1_2 a1_3 false _ A36.out).mono ?_); rintro e w60 ⟨rfl, hb⟩; refine ⟨_, rfl, ?_⟩; refine sqM3 BK533 BK534 BK535 hb ?_; clear BK533 BK534 BK535; intro BK533 BK534 BK535; replace HB := sqs HB hb; (try clear hb)))
   replace BK533 := sqdr BK533
   replace BK534 := sqdr BK534
   replace BK535 := sqdr BK535
   replace HB := sqdB HB
   refine sqst 12 (fun w' => w'.cell? ⟨gb533, 0, none⟩ = some (.int .i64 a0_0) ∧ w'.cell? ⟨gb533, 1, none⟩ = some (.int .i64 a0_1) ∧ w'.cell? ⟨gb533, 2, none⟩ = some (.int .i64 a0_2) ∧ w'.cell? ⟨gb533, 3, none⟩ = some (.int .i64 a0_3) ∧ w'.cell? ⟨gb534, 0, none⟩ = some (.int .i64 a1_0) ∧ w'.cell? ⟨gb534, 1, none⟩ = some (.int .i64 a1_1) ∧ w'.cell? ⟨gb534, 2, none⟩ = some (.int .i64 a1_2) ∧ w'.cell? ⟨gb534, 3, none⟩ = some (.int .i64 a1_3)) sqz (fun hHeld => ?_); refine with_tabW impl_ValJoin.tab7 impl_ValJoin.bits7 (fun HT_ HW_ => ?_)
   generalize w60.drew = w61 at BK533 BK534 BK535 HB hHeld ⊢
   refine sqw HT_ HW_ 0 23 hHeld ?_
   refine sqw HT_ HW_ 2 25 hHeld ?_
   refine sqw HT_ HW_ 5 28 hHeld ?_
   refine sqw HT_ HW_ 7 30 hHeld ?_
   refine sqo HT_ 1 24 (fun K hK => ?_)
   refine sqG Try.func103 #[.agg #[.int .i64 a0_0, .int .i64 a0_1, .int .i64 a0_2, .int .i64 a0_3]] ?_
   with_reducible refine (impl_Val_span.calls a0_0 a0_1 a0_2 a0_3 t544 t545 _ A47.out).mono ?_
   rintro e w62 ⟨rfl, hb⟩
   refine ⟨_, rfl, ?_⟩
   refine sqM3 BK533 BK534 BK535 hb ?_; clear BK533 BK534 BK535; intro BK533 BK534 BK535
   replace HB := sqs HB hb
   (try clear hb)
   refine hK.out _ _ sqz (fun hHeld => ?_)
   clear hK K
   refine sqnm ?_
   refine sqo HT_ 3 26 (fun K hK => ?_)
   refine sqG Try.func103 #[.agg #[.int .i64 a1_0, .int .i64 a1_1, .int .i64 a1_2, .int .i64 a1_3]] ?_
   with_reducible refine (impl_Val_span.calls a1_0 a1_1 a1_2 a1_3 t546 t547 _ A48.out).mono ?_
   rintro e w63 ⟨rfl, hb⟩
   refine ⟨_, rfl, ?_⟩
   refine sqM3 BK533 BK534 BK535 hb ?_; clear BK533 BK534 BK535; intro BK533 BK534 BK535
   replace HB := sqs HB hb
   (try clear hb)
   refine hK.out _ _ sqz (fun hHeld => ?_)
   clear hK K
   refine sqnm ?_
   refine sqo HT_ 4 27 (fun K hK => ?_)
   refine sqG Try.func184 #[.agg #[.int .i64 t544, .int .i64 t545], .agg #[.int .i64 t546, .int .i64 t547]] ?_
   with_reducible refine (impl_RangeJoin.calls kj2 t544 t545 t546 t547 t548 t549 _ A49.out).mono ?_
   rintro e w64 ⟨rfl, hb⟩
   refine ⟨_, rfl, ?_⟩
   refine sqM3 BK533 BK534 BK535 hb ?_; clear BK533 BK534 BK535; intro BK533 BK534 BK535
   replace HB := sqs HB hb
   (try clear hb)
   refine hK.out _ _ sqz (fun hHeld => ?_)
   clear hK K
   refine sqnm ?_
   refine sqo HT_ 6 29 (fun K hK => ?_)
   refine sqG Try.func104 #[.agg #[.int .i64 a0_0, .int .i64 a0_1, .int .i64 a0_2, .int .i64 a0_3]] ?_
   with_reducible refine (impl_Val_rest.calls a0_0 a0_1 a0_2 a0_3 t550 t551 _ A50.out).mono ?_
   rintro e w65 ⟨rfl, hb⟩
   refine ⟨_, rfl, ?_⟩
   refine sqM3 BK533 BK534 BK535 hb ?_; clear BK533 BK534 BK535; intro BK533 BK534 BK535
   replace HB := sqs HB hb
   (try clear hb)
   refine hK.out _ _ sqz (fun hHeld => ?_)
   clear hK K
   refine sqnm ?_
   refine sqo HT_ 8 31 (fun K hK => ?_)
   refine sqG Try.func104 #[.agg #[.int .i64 a1_0, .int .i64 a1_1, .int .i64 a1_2, .int .i64 a1_3]] ?_
   with_reducible refine (impl_Val_rest.calls a1_0 a1_1 a1_2 a1_3 t552 t553 _ A51.out).mono ?_
   rintro e w66 ⟨rfl, hb⟩
   refine ⟨_, rfl, ?_⟩
   refine sqM3 BK533 BK534 BK535 hb ?_; clear BK533 BK534 BK535; intro BK533 BK534 BK535
   replace HB := sqs HB hb
   (try clear hb)
   refine hK.out _ _ sqz (fun hHeld => ?_)
   clear hK K
   refine sqnm ?_
   refine sqo HT_ 9 32 (fun K hK => ?_)
   refine sqG Try.func185 #[.agg #[.int .i64 t550, .int .i64 t551], .agg #[.int .i64 t552, .int .i64 t553]] ?_
   with_reducible refine (impl_RestJoin.calls kj2 t550 t551 t552 t553 t554 t555 _ A52.out).mono ?_
   rintro e w67 ⟨rfl, hb⟩
   refine ⟨_, rfl, ?_⟩
   refine sqM3 BK533 BK534 BK535 hb ?_; clear BK533 BK534 BK535; intro BK533 BK534 BK535
   replace HB := sqs HB hb
   (try clear hb)
   refine hK.out _ _ sqz (fun hHeld => ?_)
   clear hK K
   refine sqnm ?_
   refine sqo HT_ 10 33 (fun K hK => ?_)
   refine sqG Try.func16 #[.agg #[.int .i64 t548, .int .i64 t549], .agg #[.int .i64 t554, .int .i64 t555]] ?_
   with_reducible refine (impl_ValMake.calls kj2 t548 t549 t554 t555 t556 t557 t558 t559 _ A53.out).mono ?_
   rintro e w68 ⟨rfl, hb⟩
   refine ⟨_, rfl, ?_⟩
   refine sqM3 BK533 BK534 BK535 hb ?_; clear BK533 BK534 BK535; intro BK533 BK534 BK535
   replace HB := sqs HB hb
   (try clear hb)
   refine hK.out _ _ sqz (fun hHeld => ?_)
   clear hK K
   refine sqnm ?_
   refine one_ (i := 11) (N := none) #[true, true, true, true, true, true, true, true, true, true, true, true] rfl rfl (one_of HT_.out (by kernel_rfl)) (by decide) (fun K hK => ?_)
   have hs69 : w68.cell? ⟨gb535, 0, none⟩ = some (.int .i64 0) := (blk_cell BK535.out 0).trans rfl
   have hfs69 := blk_frozen BK535.out 0
   have hns69_0 := NB533_535.out
   have hns69_1 := NB534_535.out
   have hms69_0 := NB535_533.out
   have hms69_1 := NB535_534.out
   have hs70 : w68.cell? ⟨gb535, 1, none⟩ = some (.int .i64 0) := (blk_cell BK535.out 1).trans rfl
   have hfs70 := blk_frozen BK535.out 1
   have hns70_0 := NB533_535.out
   have hns70_1 := NB534_535.out
   have hms70_0 := NB535_533.out
   have hms70_1 := NB535_534.out
   have hs71 : w68.cell? ⟨gb535, 2, none⟩ = some (.int .i64 0) := (blk_cell BK535.out 2).trans rfl
   have hfs71 := blk_frozen BK535.out 2
   have hns71_0 := NB533_535.out
   have hns71_1 := NB534_535.out
   have hms71_0 := NB535_533.out
   have hms71_1 := NB535_534.out
   have hs72 : w68.cell? ⟨gb535, 3, none⟩ = some (.int .i64 0) := (blk_cell BK535.out 3).trans rfl
   have hfs72 := blk_frozen BK535.out 3
   have hns72_0 := NB533_535.out
   have hns72_1 := NB534_535.out
   have hms72_0 := NB535_533.out
   have hms72_1 := NB535_534.out
   refine skip_ (w1 := ?_) (by rfl) rfl ?_ ?_
   rotate_left
   ·go_simp
    rfl
   refine hK.out _ _ ⟨(sqfa NB533_535 ((sqfa NB533_535 ((sqfa NB533_535 ((sqfa NB533_535 (hHeld.1)))))))), (sqfa NB533_535 ((sqfa NB533_535 ((sqfa NB533_535 ((sqfa NB533_535 (hHeld.2.1)))))))), (sqfa NB533_535 ((sqfa NB533_535 ((sqfa NB533_535 ((sqfa NB533_535 (hHeld.2.2.1)))))))), (sqfa NB533_535 ((sqfa NB533_535 ((sqfa NB533_535 ((sqfa NB533_535 (hHeld.2.2.2.1)))))))), (sqfa NB534_535 ((sqfa NB534_535 ((sqfa NB534_535 ((sqfa NB534_535 (hHeld.2.2.2.2.1)))))))), (sqfa NB534_535 ((sqfa NB534_535 ((sqfa NB534_535 ((sqfa NB534_535 (hHeld.2.2.2.2.2.1)))))))), (sqfa NB534_535 ((sqfa NB534_535 ((sqfa NB534_535 ((sqfa NB534_535 (hHeld.2.2.2.2.2.2.1)))))))), (sqfa NB534_535 ((sqfa NB534_535 ((sqfa NB534_535 ((sqfa NB534_535 (hHeld.2.2.2.2.2.2.2))))))))⟩ (fun hHeld => ?_)
   clear hK K
   refine done_ (done_of HT_.out (by kernel_rfl)) ?_
   try go_wp2
   refine bodyPost_ret (results_cell_row rfl _ _ gb535 30 #[.int .i64 t556, .int .i64 t557, .int .i64 t558, .int .i64 t559] (0, 0) _ rfl (sqP BK535) Try.underlying30 rfl (by kernel_rfl)) rfl ?_
   exact sqe HB

/-! ### impl_rangeFrom: function 129 -/
set_option maxHeartbeats 8000000 in
set_option maxRecDepth 100000 in
theorem impl_rangeFrom.calls (a0 : Int) (a1 : Int) (r1 : Int) (r2 : Int) (w : World) (h : impl_rangeFrom.f a0 a1 = some (r1, r2)) :
  Calls Try.prog 129 #[.int .i64 a0, .int .i64 a1] w fun e w' => e = .returned (.agg #[.int .i64 r1, .int .i64 r2]) ∧ Below w.heap.size w w' := by
 have hu24 := Try.underlying24
 have HB := Aside0.mk (Below.refl w.heap.size w)
 have H := h
 unfold impl_rangeFrom.f at H
 clear h
 obtain ⟨ji3, hji3⟩ : ∃ j_ : Int, (mx a0 (-2147483648)) = j_ := ⟨_, rfl⟩
 replace H : (if (ji3) > (mn a1 2147483647) then ((impl_rangeNone.f).bind fun bt562 => (some (bt562.1, bt562.2))) else (some (ji3, mn a1 2147483647))) = some (r1, r2) := by first | (rw [hji3] at H; exact H) | (simp only [hji3] at H ⊢; exact H)
 have hji3_ : (if a0 < (-2147483648) then (-2147483648) else a0) = ji3 := hji3
 obtain ⟨ji4, hji4⟩ : ∃ j_ : Int, (mn a1 2147483647) = j_ := ⟨_, rfl⟩
 replace H : (if (ji3) > (ji4) then ((impl_rangeNone.f).bind fun bt562 => (some (bt562.1, bt562.2))) else (some (ji3, ji4))) = some (r1, r2) := by first | (rw [hji4] at H; exact H) | (simp only [hji4] at H ⊢; exact H)
 (try (have hji4h : ji4 ≤ 2147483647 := by (rw [← hji4]; unfold mn; (repeat' split) <;> omega)))
 (try (have hji4g : ji4 ≤ 64 := by omega))
 have hji4_ : (if 2147483647 < a1 then 2147483647 else a1) = ji4 := hji4
 replace H := sqi H
 rcases H with ⟨c5, H⟩ | ⟨c5, H⟩
 ·have c5b0 : decide ((ji4) < (ji3)) = false := decide_eq_false c5
  clear c5
  simp only [Option.some.injEq, Prod.mk.injEq] at H
  obtain ⟨rfl, rfl⟩ := H
  go_enter Try.func129, Try.ntmps129
  go_wp2_with (first | ((with_reducible refine gate_dst (N := 4) rfl ?_); refine sqx 4 #[.int .i64 0, .int .i64 0] 24 ?_; intro gb560 hg w13 hbox hb; have BK560 := Aside0.mk hbox; have GW560 := sqg HB hg; replace HB := sqs HB hb; clear hb hbox hg) | ((with_reducible refine gate_dst (N := 5) rfl ?_); refine sqx 5 #[.int .i64 0, .int .i64 0] 24 ?_; intro gb561 hg w14 hbox hb; have BK561 := Aside0.mk hbox; have GW561 := sqg HB hg; have NB560_561 := sqn BK560 hg; have NB561_560 := sqm BK560 hg; replace BK560 := sqb BK560 hb; replace HB := sqs HB hb; clear hb hbox hg; obtain ⟨_, _⟩ := sqN1 NB561_560; obtain ⟨_, _, _, _⟩ := sqc2 BK561; obtain ⟨_, _, _, _⟩ := sqc2 BK560))
  refine bodyPost_ret (results_cell_row rfl _ _ gb560 24 #[.int .i64 ji3, .int .i64 ji4] (0, 0) _ rfl (sqP BK560) Try.underlying24 rfl (by kernel_rfl)) rfl ?_
  exact ⟨by first | rfl | (simp [errW_none, errW_some] <;> rfl) | (simp only [← hji3, ← hji4]; first | rfl | (simp [errW_none, errW_some] <;> rfl)) | (simp [*, errW_none, errW_some] <;> rfl), sqB HB⟩
 have c5b0 : decide ((ji4) < (ji3)) = true := decide_eq_true c5
 clear c5
 replace H := sqbi H
 obtain ⟨⟨t562, t563⟩, A6, H⟩ := H
 try dsimp only at H
 simp only [Option.some.injEq, Prod.mk.injEq] at H
 obtain ⟨rfl, rfl⟩ := H
 go_enter Try.func129, Try.ntmps129
 go_wp2_with (first | ((with_reducible refine gate_dst (N := 4) rfl ?_); refine sqx 4 #[.int .i64 0, .int .i64 0] 24 ?_; intro gb560 hg w7 hbox hb; have BK560 := Aside0.mk hbox; have GW560 := sqg HB hg; replace HB := sqs HB hb; clear hb hbox hg) | ((with_reducible refine gate_dst (N := 5) rfl ?_); refine sqx 5 #[.int .i64 0, .int .i64 0] 24 ?_; intro gb561 hg w8 hbox hb; have BK561 := Aside0.mk hbox; have GW561 := sqg HB hg; have NB560_561 := sqn BK560 hg; have NB561_560 := sqm BK560 hg; replace BK560 := sqb BK560 hb; replace HB := sqs HB hb; clear hb hbox hg; obtain ⟨_, _⟩ := sqN1 NB561_560; obtain ⟨_, _, _, _⟩ := sqc2 BK561) | ((with_reducible refine gate_callee (f := 126) rfl ?_); refine sqL (some 16) Try.func126 #[] ?_; (with_reducible refine (impl_rangeNone.calls  t562 t563 _ A6.out).mono ?_); rintro e w11 ⟨rfl, hb⟩; refine ⟨_, rfl, ?_⟩; replace BK560 := sqbb BK560 hb; replace BK561 := Aside0.mk (blk_below (g := gb561) (o := .cells #[.int .i64 ji3, .int .i64 ji4] 24 (0, 0)) (sqP BK561) hb); replace HB := sqs HB hb; (try clear hb); obtain ⟨_, _, _, _⟩ := sqc2 BK560))
 refine bodyPost_ret (results_cell_row rfl _ _ gb560 24 #[.int .i64 t562, .int .i64 t563] (0, 0) _ rfl (sqP BK560) Try.underlying24 rfl (by kernel_rfl)) rfl ?_
 exact ⟨by first | rfl | (simp [errW_none, errW_some] <;> rfl) | (simp only [← hji3, ← hji4]; first | rfl | (simp [errW_none, errW_some] <;> rfl)) | (simp [*, errW_none, errW_some] <;> rfl), sqB HB⟩

end Go.Proofs.Ytkekcenlleebeaa.PFnValLattice
