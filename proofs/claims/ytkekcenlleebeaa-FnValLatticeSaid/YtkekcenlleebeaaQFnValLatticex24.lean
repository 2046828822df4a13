/- Functions of the program as plain Lean functions, and that calls of them come to what these tell. Conditions: those in each law. -/
import Derived.Test.YtkekcenlleebeaaSq
import Derived.Test.YtkekcenlleebeaaDFnValLattice
import Derived.Test.YtkekcenlleebeaaQFnValLatticex0
import Derived.Test.YtkekcenlleebeaaQFnValLatticex5
import Derived.Test.YtkekcenlleebeaaQFnValLatticex12
import Derived.Test.YtkekcenlleebeaaQFnValLatticex22
import Derived.Test.YtkekcenlleebeaaQFnValLatticex23
namespace Go.Proofs.Ytkekcenlleebeaa.PFnValLattice
open Go.RowKit Go.Proofs.Ytkekcenlleebeaa.Sq Go.Proofs.YtkekcenlleebeaaW.PrintWords Go.Proofs.YtkekcenlleebeaaW.PrintLast Go.Proofs.YtkekcenlleebeaaW.PrintMore
attribute [local go_sem] max2_int min2_int max_two min_two max_three min_three max_four min_four   -- for this text's walks alone
set_option linter.unusedVariables false
set_option linter.unusedSimpArgs false

/-! ### impl_ValMeet: function 87 -/
def impl_ValMeet.T3 : Bool × List (List Nat × List Nat) := (true, [([], []), ([0], [0]), ([], []), ([2, 1], [2]), ([1, 3, 3], [1, 3]), ([4], [4]), ([5], [5]), ([5], [5]), ([], []), ([8, 6, 4, 0, 1, 2, 3, 4, 5, 6, 8], [6, 8]), ([7, 9, 0, 1, 2, 3, 4, 5, 6, 7, 8, 9], [7])])
def impl_ValMeet.B3 : List Nat := [0, 1, 0, 7, 15, 31, 63, 63, 0, 383, 1023]
theorem impl_ValMeet.tab3 : rtab .any (opsOf Try.f87 3) = impl_ValMeet.T3 := by kernel_rfl
theorem impl_ValMeet.bits3 : waitsOk impl_ValMeet.T3.2 impl_ValMeet.B3 = true := by kernel_rfl
def impl_ValMeet.T6 : Bool × List (List Nat × List Nat) := (true, [([], []), ([0], [0]), ([], []), ([2, 1], [2]), ([1, 3, 3], [1, 3]), ([], []), ([4, 5, 4], [4, 5]), ([6, 6, 0, 1, 2, 3, 4, 5, 6], [6])])
def impl_ValMeet.B6 : List Nat := [0, 1, 0, 7, 15, 0, 63, 127]
theorem impl_ValMeet.tab6 : rtab .any (opsOf Try.f87 6) = impl_ValMeet.T6 := by kernel_rfl
theorem impl_ValMeet.bits6 : waitsOk impl_ValMeet.T6.2 impl_ValMeet.B6 = true := by kernel_rfl
set_option maxHeartbeats 8000000 in
set_option maxRecDepth 100000 in
theorem impl_ValMeet.calls (k : Nat) (a0_0 : Int) (a0_1 : Int) (a0_2 : Int) (a0_3 : Int) (a1_0 : Int) (a1_1 : Int) (a1_2 : Int) (a1_3 : Int) (r1 : Int) (r2 : Int) (r3 : Int) (r4 : Int) (w : World) (h : impl_ValMeet.f k a0_0 a0_1 a0_2 a0_3 a1_0 a1_1 a1_2 a1_3 = some (r1, r2, r3, r4)) :
  Calls Try.prog 87 #[.agg #[.int .i64 a0_0, .int .i64 a0_1, .int .i64 a0_2, .int .i64 a0_3], .agg #[.int .i64 a1_0, .int .i64 a1_1, .int .i64 a1_2, .int .i64 a1_3]] w fun e w' => e = .returned (.agg #[.int .i64 r1, .int .i64 r2, .int .i64 r3, .int .i64 r4]) ∧ Below w.heap.size w w' := by
 have hu30 := Try.underlying30
 have hu26 := Try.underlying26
 have HB := Aside0.mk (Below.refl w.heap.size w)
 have H := h
 unfold impl_ValMeet.f at H
 clear h
 have HC3 := Aside0.mk H
 clear H
 go_enter Try.func87, Try.ntmps87
 go_upto_region 1 with (first | ((with_reducible refine gate_dst (N := 2) rfl ?_); refine sqx 2 #[.int .i64 a0_0, .int .i64 a0_1, .int .i64 a0_2, .int .i64 a0_3] 30 ?_; intro gb587 hg w4 hbox hb; have BK587 := Aside0.mk hbox; have GW587 := sqg HB hg; replace HB := sqs HB hb; clear hb hbox hg) | ((with_reducible refine gate_dst (N := 3) rfl ?_); refine sqx 3 #[.int .i64 a1_0, .int .i64 a1_1, .int .i64 a1_2, .int .i64 a1_3] 30 ?_; intro gb588 hg w5 hbox hb; have BK588 := Aside0.mk hbox; have GW588 := sqg HB hg; have NB587_588 := sqn BK587 hg; have NB588_587 := sqm BK587 hg; replace BK587 := sqb BK587 hb; replace HB := sqs HB hb; clear hb hbox hg) | ((with_reducible refine gate_dst (N := 4) rfl ?_); refine sqx 4 #[.int .i64 0, .int .i64 0, .int .i64 0, .int .i64 0] 30 ?_; intro gb589 hg w6 hbox hb; have BK589 := Aside0.mk hbox; have GW589 := sqg HB hg; have NB587_589 := sqn BK587 hg; have NB589_587 := sqm BK587 hg; have NB588_589 := sqn BK588 hg; have NB589_588 := sqm BK588 hg; refine sqM2 BK587 BK588 hb ?_; clear BK587 BK588; intro BK587 BK588; replace HB := sqs HB hb; clear hb hbox hg))
 (try simp only [Act.put, List.setIfInBounds_toArray, List.set_cons_zero, List.set_cons_succ])
 go_cut [22] (fun v22 wc => ∃ (kq : Nat) (x22_2 : Bool), v22 = .bool x22_2 ∧ Aside0 (impl_ValMeet.j0 kq x22_2 a0_0 a0_1 a0_2 a0_3 a1_0 a1_1 a1_2 a1_3 = some (r1, r2, r3, r4)) ∧ Aside0 (kq ≤ k) ∧ Aside0 (wc.heap[gb587]? = some (.cells #[.int .i64 a0_0, .int .i64 a0_1, .int .i64 a0_2, .int .i64 a0_3] 30 (0, 0))) ∧ Aside0 (wc.heap[gb588]? = some (.cells #[.int .i64 a1_0, .int .i64 a1_1, .int .i64 a1_2, .int .i64 a1_3] 30 (0, 0))) ∧ Aside0 (wc.heap[gb589]? = some (.cells #[.int .i64 0, .int .i64 0, .int .i64 0, .int .i64 0] 30 (0, 0))) ∧ Aside0 (Below w.heap.size w wc))
 case first =>
  have H := HC3.out
  clear HC3
  replace H := sqbi H
  obtain ⟨t590, A7, H⟩ := H
  try dsimp only at H
  rcases sqI (t590 = true) with c8 | c8
  ·replace c8 := Bool.eq_false_iff.mpr c8
   subst c8
   have H1 : (impl_ValMeet.j0 k true a0_0 a0_1 a0_2 a0_3 a1_0 a1_1 a1_2 a1_3) = some (r1, r2, r3, r4) := by rw [if_neg (show ¬ (false = true) by decide)] at H; exact H
   clear H
   have H := H1
   clear H1
   have H' := Aside0.mk H
   clear H
   obtain ⟨_, _, _, _⟩ := sqN2 NB587_588 NB587_589
   obtain ⟨_, _, _, _, _, _, _, _⟩ := sqc4 BK587
   go_wp2_with (first | ((with_reducible refine gate_callee (f := 18) rfl ?_); refine sqL (some 8) Try.func18 #[.agg #[.int .i64 a0_0, .int .i64 a0_1, .int .i64 a0_2, .int .i64 a0_3]] ?_; (with_reducible refine (impl_ValOk.calls k a0_0 a0_1 a0_2 a0_3 false _ A7.out).mono ?_); rintro e w44 ⟨rfl, hb⟩; refine ⟨_, rfl, ?_⟩; refine sqM3 BK587 BK588 BK589 hb ?_; clear BK587 BK588 BK589; intro BK587 BK588 BK589; replace HB := sqs HB hb; (try clear hb)))
   go_meet
   case rel => exact ⟨_, (true), (by first | rfl | (simp; done) | (simp [*]; done)), H', ⟨by first | omega | exact Nat.le_refl _⟩, sqk BK587, sqk BK588, sqk BK589, sqh HB⟩
  subst c8
  have H1 : ((impl_ValOk.f k a1_0 a1_1 a1_2 a1_3).bind fun t591 => (if t591 = true then ((impl_Val_none.f a0_0 a0_1 a0_2 a0_3).bind fun t592 => (if t592 = true then (impl_ValMeet.j0 k true a0_0 a0_1 a0_2 a0_3 a1_0 a1_1 a1_2 a1_3) else ((impl_Val_none.f a1_0 a1_1 a1_2 a1_3).bind fun t593 => (impl_ValMeet.j0 k t593 a0_0 a0_1 a0_2 a0_3 a1_0 a1_1 a1_2 a1_3)))) else (impl_ValMeet.j0 k true a0_0 a0_1 a0_2 a0_3 a1_0 a1_1 a1_2 a1_3))) = some (r1, r2, r3, r4) := by rw [if_pos rfl] at H; exact H
  clear H
  have H := H1
  clear H1
  replace H := sqbi H
  obtain ⟨t591, A9, H⟩ := H
  try dsimp only at H
  rcases sqI (t591 = true) with c10 | c10
  ·replace c10 := Bool.eq_false_iff.mpr c10
   subst c10
   have H1 : (impl_ValMeet.j0 k true a0_0 a0_1 a0_2 a0_3 a1_0 a1_1 a1_2 a1_3) = some (r1, r2, r3, r4) := by rw [if_neg (show ¬ (false = true) by decide)] at H; exact H
   clear H
   have H := H1
   clear H1
   have H' := Aside0.mk H
   clear H
   obtain ⟨_, _, _, _⟩ := sqN2 NB587_588 NB587_589
   obtain ⟨_, _, _, _, _, _, _, _⟩ := sqc4 BK587
   go_wp2_with (first | ((with_reducible refine gate_callee (f := 18) rfl ?_); refine sqL (some 8) Try.func18 #[.agg #[.int .i64 a0_0, .int .i64 a0_1, .int .i64 a0_2, .int .i64 a0_3]] ?_; (with_reducible refine (impl_ValOk.calls k a0_0 a0_1 a0_2 a0_3 true _ A7.out).mono ?_); rintro e w37 ⟨rfl, hb⟩; refine ⟨_, rfl, ?_⟩; refine sqM3 BK587 BK588 BK589 hb ?_; clear BK587 BK588 BK589; intro BK587 BK588 BK589; replace HB := sqs HB hb; (try clear hb); obtain ⟨_, _⟩ := sqN1 NB588_589; obtain ⟨_, _, _, _, _, _, _, _⟩ := sqc4 BK588) | (go_at_call 18; (with_reducible refine (impl_ValOk.calls k a1_0 a1_1 a1_2 a1_3 false _ A9.out).mono ?_); rintro e w40 ⟨rfl, hb⟩; refine sqM3 BK587 BK588 BK589 hb ?_; clear BK587 BK588 BK589; intro BK587 BK588 BK589; replace HB := sqs HB hb; (try clear hb)))
   go_meet
   case rel => exact ⟨_, (true), (by first | rfl | (simp; done) | (simp [*]; done)), H', ⟨by first | omega | exact Nat.le_refl _⟩, sqk BK587, sqk BK588, sqk BK589, sqh HB⟩
  subst c10
  have H1 : ((impl_Val_none.f a0_0 a0_1 a0_2 a0_3).bind fun t592 => (if t592 = true then (impl_ValMeet.j0 k true a0_0 a0_1 a0_2 a0_3 a1_0 a1_1 a1_2 a1_3) else ((impl_Val_none.f a1_0 a1_1 a1_2 a1_3).bind fun t593 => (impl_ValMeet.j0 k t593 a0_0 a0_1 a0_2 a0_3 a1_0 a1_1 a1_2 a1_3)))) = some (r1, r2, r3, r4) := by rw [if_pos rfl] at H; exact H
  clear H
  have H := H1
  clear H1
  replace H := sqbi H
  obtain ⟨t592, A11, H⟩ := H
  try dsimp only at H
  by_cases c12 : t592 = true
  ·subst c12
   have H1 : (impl_ValMeet.j0 k true a0_0 a0_1 a0_2 a0_3 a1_0 a1_1 a1_2 a1_3) = some (r1, r2, r3, r4) := by rw [if_pos rfl] at H; exact H
   clear H
   have H := H1
   clear H1
   have H' := Aside0.mk H
   clear H
   obtain ⟨_, _, _, _⟩ := sqN2 NB587_588 NB587_589
   obtain ⟨_, _, _, _, _, _, _, _⟩ := sqc4 BK587
   go_wp2_with (first | ((with_reducible refine gate_callee (f := 18) rfl ?_); refine sqL (some 8) Try.func18 #[.agg #[.int .i64 a0_0, .int .i64 a0_1, .int .i64 a0_2, .int .i64 a0_3]] ?_; (with_reducible refine (impl_ValOk.calls k a0_0 a0_1 a0_2 a0_3 true _ A7.out).mono ?_); rintro e w16 ⟨rfl, hb⟩; refine ⟨_, rfl, ?_⟩; refine sqM3 BK587 BK588 BK589 hb ?_; clear BK587 BK588 BK589; intro BK587 BK588 BK589; replace HB := sqs HB hb; (try clear hb); obtain ⟨_, _⟩ := sqN1 NB588_589; obtain ⟨_, _, _, _, _, _, _, _⟩ := sqc4 BK588) | (go_at_call 18; (with_reducible refine (impl_ValOk.calls k a1_0 a1_1 a1_2 a1_3 true _ A9.out).mono ?_); rintro e w19 ⟨rfl, hb⟩; refine sqM3 BK587 BK588 BK589 hb ?_; clear BK587 BK588 BK589; intro BK587 BK588 BK589; replace HB := sqs HB hb; (try clear hb); obtain ⟨_, _, _, _, _, _, _, _⟩ := sqc4 BK587) | (go_at_call 144; (with_reducible refine (impl_Val_none.calls a0_0 a0_1 a0_2 a0_3 true _ A11.out).mono ?_); rintro e w21 ⟨rfl, hb⟩; refine sqM3 BK587 BK588 BK589 hb ?_; clear BK587 BK588 BK589; intro BK587 BK588 BK589; replace HB := sqs HB hb; (try clear hb)))
   go_meet
   case rel => exact ⟨_, (true), (by first | rfl | (simp; done) | (simp [*]; done)), H', ⟨by first | omega | exact Nat.le_refl _⟩, sqk BK587, sqk BK588, sqk BK589, sqh HB⟩
  replace c12 := Bool.eq_false_iff.mpr c12
  subst c12
  have H1 : ((impl_Val_none.f a1_0 a1_1 a1_2 a1_3).bind fun t593 => (impl_ValMeet.j0 k t593 a0_0 a0_1 a0_2 a0_3 a1_0 a1_1 a1_2 a1_3)) = some (r1, r2, r3, r4) := by rw [if_neg (show ¬ (false = true) by decide)] at H; exact H
  clear H
  have H := H1
  clear H1
  replace H := sqbi H
  obtain ⟨t593, A22, H⟩ := H
  try dsimp only at H
  have H' := Aside0.mk H
  clear H
  obtain ⟨_, _, _, _⟩ := sqN2 NB587_588 NB587_589
  obtain ⟨_, _, _, _, _, _, _, _⟩ := sqc4 BK587
  go_wp2_with (first | ((with_reducible refine gate_callee (f := 18) rfl ?_); refine sqL (some 8) Try.func18 #[.agg #[.int .i64 a0_0, .int .i64 a0_1, .int .i64 a0_2, .int .i64 a0_3]] ?_; (with_reducible refine (impl_ValOk.calls k a0_0 a0_1 a0_2 a0_3 true _ A7.out).mono ?_); rintro e w26 ⟨rfl, hb⟩; refine ⟨_, rfl, ?_⟩; refine sqM3 BK587 BK588 BK589 hb ?_; clear BK587 BK588 BK589; intro BK587 BK588 BK589; replace HB := sqs HB hb; (try clear hb); obtain ⟨_, _⟩ := sqN1 NB588_589; obtain ⟨_, _, _, _, _, _, _, _⟩ := sqc4 BK588) | (go_at_call 18; (with_reducible refine (impl_ValOk.calls k a1_0 a1_1 a1_2 a1_3 true _ A9.out).mono ?_); rintro e w29 ⟨rfl, hb⟩; refine sqM3 BK587 BK588 BK589 hb ?_; clear BK587 BK588 BK589; intro BK587 BK588 BK589; replace HB := sqs HB hb; (try clear hb); obtain ⟨_, _, _, _, _, _, _, _⟩ := sqc4 BK587) | (go_at_call 144; (with_reducible refine (impl_Val_none.calls a0_0 a0_1 a0_2 a0_3 false _ A11.out).mono ?_); rintro e w31 ⟨rfl, hb⟩; refine sqM3 BK587 BK588 BK589 hb ?_; clear BK587 BK588 BK589; intro BK587 BK588 BK589; replace HB := sqs HB hb; (try clear hb); obtain ⟨_, _, _, _, _, _, _, _⟩ := sqc4 BK588) | (go_at_call 144; (with_reducible refine (impl_Val_none.calls a1_0 a1_1 a1_2 a1_3 t593 _ A22.out).mono ?_); rintro e w33 ⟨rfl, hb⟩; refine sqM3 BK587 BK588 BK589 hb ?_; clear BK587 BK588 BK589; intro BK587 BK588 BK589; replace HB := sqs HB hb; (try clear hb)))
  go_meet
  case rel => exact ⟨_, (t593), (by first | rfl | (simp; done) | (simp [*]; done)), H', ⟨by first | omega | exact Nat.le_refl _⟩, sqk BK587, sqk BK588, sqk BK589, sqh HB⟩
 case rest =>
  clear HC3
  obtain ⟨kq, x22_2, rfl, HA, HJ2, BK587, BK588, BK589, HB⟩ := hcut
  cases kq with
  | zero => exact absurd HA.out (by simp [impl_ValMeet.j0])
  | succ kj2 =>
   have H := HA.out
   clear HA
   simp only [impl_ValMeet.j0] at H
   by_cases c45 : x22_2 = true
   ·subst c45
    have H1 : ((impl_valNone.f).bind fun bt594 => (some (bt594.1, bt594.2.1, bt594.2.2.1, bt594.2.2.2))) = some (r1, r2, r3, r4) := by rw [if_pos rfl] at H; exact H
    clear H
    have H := H1
    clear H1
    replace H := sqbi H
    obtain ⟨⟨t594, t595, t596, t597⟩, A46, H⟩ := H
    try dsimp only at H
    simp only [Option.some.injEq, Prod.mk.injEq] at H
    obtain ⟨rfl, rfl, rfl, rfl⟩ := H
    go_wp2_with (first | ((with_reducible refine gate_callee (f := 96) rfl ?_); refine sqL (some 23) Try.func96 #[] ?_; (with_reducible refine (impl_valNone.calls  t594 t595 t596 t597 _ A46.out).mono ?_); rintro e w47 ⟨rfl, hb⟩; refine ⟨_, rfl, ?_⟩; refine sqM3 BK587 BK588 BK589 hb ?_; clear BK587 BK588 BK589; intro BK587 BK588 BK589; replace HB := sqs HB hb; (try clear hb); obtain ⟨_, _, _, _⟩ := sqN2 NB589_587 NB589_588; obtain ⟨_, _, _, _, _, _, _, _⟩ := sqc4 BK589))
    refine bodyPost_ret (results_cell_row rfl _ _ gb589 30 #[.int .i64 t594, .int .i64 t595, .int .i64 t596, .int .i64 t597] (0, 0) _ rfl (sqP BK589) Try.underlying30 rfl (by kernel_rfl)) rfl ?_
    exact sqe HB
   replace c45 := Bool.eq_false_iff.mpr c45
   subst c45
   have H1 : ((impl_Val_rest.f a0_0 a0_1 a0_2 a0_3).bind fun bt598 => ((impl_Val_rest.f a1_0 a1_1 a1_2 a1_3).bind fun bt600 => ((impl_RestMeet.f kj2 bt598.1 bt598.2 bt600.1 bt600.2).bind fun bt602 => (if bt602.2.2 = true then ((impl_Val_span.f a0_0 a0_1 a0_2 a0_3).bind fun bt610 => ((impl_Val_span.f a1_0 a1_1 a1_2 a1_3).bind fun bt612 => ((impl_RangeMeet.f kj2 bt610.1 bt610.2 bt612.1 bt612.2).bind fun bt614 => ((impl_ValMake.f kj2 bt614.1 bt614.2 bt602.1 bt602.2.1).bind fun bt616 => (some (bt616.1, bt616.2.1, bt616.2.2.1, bt616.2.2.2)))))) else ((impl_valNone.f).bind fun bt606 => (some (bt606.1, bt606.2.1, bt606.2.2.1, bt606.2.2.2))))))) = some (r1, r2, r3, r4) := by rw [if_neg (show ¬ (false = true) by decide)] at H; exact H
   clear H
   have H := H1
   clear H1
   replace H := sqbi H
   obtain ⟨⟨t598, t599⟩, A51, H⟩ := H
   try dsimp only at H
   replace H := sqbi H
   obtain ⟨⟨t600, t601⟩, A52, H⟩ := H
   try dsimp only at H
   replace H := sqbi H
   obtain ⟨⟨t602, t603, t604⟩, A53, H⟩ := H
   try dsimp only at H
   rcases sqI (t604 = true) with c54 | c54
   ·replace c54 := Bool.eq_false_iff.mpr c54
    subst c54
    have H1 : ((impl_valNone.f).bind fun bt606 => (some (bt606.1, bt606.2.1, bt606.2.2.1, bt606.2.2.2))) = some (r1, r2, r3, r4) := by rw [if_neg (show ¬ (false = true) by decide)] at H; exact H
    clear H
    have H := H1
    clear H1
    replace H := sqbi H
    obtain ⟨⟨t606, t607, t608, t609⟩, A77, H⟩ := H
    try dsimp only at H
    simp only [Option.some.injEq, Prod.mk.injEq] at H
    obtain ⟨rfl, rfl, rfl, rfl⟩ := H
    try go_wp2
    replace BK587 := sqdr BK587
    replace BK588 := sqdr BK588
    replace BK589 := sqdr BK589
    replace HB := sqdB HB
    refine sqst 11 (fun w' => w'.cell? ⟨gb587, 0, none⟩ = some (.int .i64 a0_0) ∧ w'.cell? ⟨gb587, 1, none⟩ = some (.int .i64 a0_1) ∧ w'.cell? ⟨gb587, 2, none⟩ = some (.int .i64 a0_2) ∧ w'.cell? ⟨gb587, 3, none⟩ = some (.int .i64 a0_3) ∧ w'.cell? ⟨gb588, 0, none⟩ = some (.int .i64 a1_0) ∧ w'.cell? ⟨gb588, 1, none⟩ = some (.int .i64 a1_1) ∧ w'.cell? ⟨gb588, 2, none⟩ = some (.int .i64 a1_2) ∧ w'.cell? ⟨gb588, 3, none⟩ = some (.int .i64 a1_3)) sqz (fun hHeld => ?_); refine with_tabW impl_ValMeet.tab3 impl_ValMeet.bits3 (fun HT_ HW_ => ?_)
    generalize wc.drew = w78 at BK587 BK588 BK589 HB hHeld ⊢
    refine sqw HT_ HW_ 0 25 hHeld ?_
    refine sqw HT_ HW_ 2 27 hHeld ?_
    refine join_ (σ := Nat) 2 #[true, true, true, true, true, true, true, true, true, false, false] (fun s_ => [(26, .agg #[.int .i64 t598, .int .i64 t599]), (28, .agg #[.int .i64 t600, .int .i64 t601]), (29, .tuple #[.agg #[.int .i64 t602, .int .i64 t603], .bool false]), (5, .pointer (some ⟨s_, 0, none⟩)), (24, .tuple #[.agg #[.int .i64 t602, .int .i64 t603], .bool false]), (30, .agg #[.int .i64 t602, .int .i64 t603]), (31, .bool false)]) (fun s_ w' => (w'.cell? ⟨gb587, 0, none⟩ = some (.int .i64 a0_0) ∧ w'.cell? ⟨gb587, 1, none⟩ = some (.int .i64 a0_1) ∧ w'.cell? ⟨gb587, 2, none⟩ = some (.int .i64 a0_2) ∧ w'.cell? ⟨gb587, 3, none⟩ = some (.int .i64 a0_3) ∧ w'.cell? ⟨gb588, 0, none⟩ = some (.int .i64 a1_0) ∧ w'.cell? ⟨gb588, 1, none⟩ = some (.int .i64 a1_1) ∧ w'.cell? ⟨gb588, 2, none⟩ = some (.int .i64 a1_2) ∧ w'.cell? ⟨gb588, 3, none⟩ = some (.int .i64 a1_3)) ∧ (w'.heap[gb587]? = some (.cells #[.int .i64 a0_0, .int .i64 a0_1, .int .i64 a0_2, .int .i64 a0_3] 30 (0, 0))) ∧ (w'.heap[gb588]? = some (.cells #[.int .i64 a1_0, .int .i64 a1_1, .int .i64 a1_2, .int .i64 a1_3] 30 (0, 0))) ∧ (w'.heap[gb589]? = some (.cells #[.int .i64 0, .int .i64 0, .int .i64 0, .int .i64 0] 30 (0, 0))) ∧ (w'.heap[s_]? = some (.cells #[.int .i64 0, .int .i64 0] 26 (0, 0))) ∧ (w.heap.size ≤ s_) ∧ (w.heap.size ≤ s_) ∧ (gb587 ≠ s_) ∧ (s_ ≠ gb587) ∧ (gb588 ≠ s_) ∧ (s_ ≠ gb588) ∧ (gb589 ≠ s_) ∧ (s_ ≠ gb589) ∧ (Below w.heap.size w w')) ?_ ?_
    rotate_left
    ·intro hCont
     refine two_ (i := 1) (j := 8) (Ni := some 26) (Nj := some 5) #[true, true, true, false, false, false, false, false, false, false, false] #[true, false, true, false, false, false, false, false, true, false, false] rfl rfl rfl rfl (two_of HT_.out (by kernel_rfl)) (by decide) (by decide) (fun K hK => ?_) (fun K hK => ?_)
     ·skip
      refine sqG Try.func104 #[.agg #[.int .i64 a0_0, .int .i64 a0_1, .int .i64 a0_2, .int .i64 a0_3]] ?_
      with_reducible refine (impl_Val_rest.calls a0_0 a0_1 a0_2 a0_3 t598 t599 _ A51.out).mono ?_
      rintro e w79 ⟨rfl, hb⟩
      refine ⟨_, rfl, ?_⟩
      refine sqM3 BK587 BK588 BK589 hb ?_; clear BK587 BK588 BK589; intro BK587 BK588 BK589
      replace HB := sqs HB hb
      (try clear hb)
      refine hK.out _ _ sqz (fun hHeld => ?_)
      clear hK K
      refine sqnm ?_
      refine two_ (i := 3) (j := 8) (Ni := some 28) (Nj := some 5) #[true, true, true, true, false, false, false, false, false, false, false] #[true, true, true, false, false, false, false, false, true, false, false] rfl rfl rfl rfl (two_of HT_.out (by kernel_rfl)) (by decide) (by decide) (fun K hK => ?_) (fun K hK => ?_)
      ·skip
       refine sqG Try.func104 #[.agg #[.int .i64 a1_0, .int .i64 a1_1, .int .i64 a1_2, .int .i64 a1_3]] ?_
       with_reducible refine (impl_Val_rest.calls a1_0 a1_1 a1_2 a1_3 t600 t601 _ A52.out).mono ?_
       rintro e w80 ⟨rfl, hb⟩
       refine ⟨_, rfl, ?_⟩
       refine sqM3 BK587 BK588 BK589 hb ?_; clear BK587 BK588 BK589; intro BK587 BK588 BK589
       replace HB := sqs HB hb
       (try clear hb)
       refine hK.out _ _ sqz (fun hHeld => ?_)
       clear hK K
       refine sqnm ?_
       refine two_ (i := 4) (j := 8) (Ni := some 29) (Nj := some 5) #[true, true, true, true, true, false, false, false, false, false, false] #[true, true, true, true, false, false, false, false, true, false, false] rfl rfl rfl rfl (two_of HT_.out (by kernel_rfl)) (by decide) (by decide) (fun K hK => ?_) (fun K hK => ?_)
       ·skip
        refine sqG Try.func186 #[.agg #[.int .i64 t598, .int .i64 t599], .agg #[.int .i64 t600, .int .i64 t601]] ?_
        with_reducible refine (impl_RestMeet.calls kj2 t598 t599 t600 t601 t602 t603 false _ A53.out).mono ?_
        rintro e w81 ⟨rfl, hb⟩
        refine ⟨_, rfl, ?_⟩
        refine sqM3 BK587 BK588 BK589 hb ?_; clear BK587 BK588 BK589; intro BK587 BK588 BK589
        replace HB := sqs HB hb
        (try clear hb)
        refine hK.out _ _ sqz (fun hHeld => ?_)
        clear hK K
        refine sqnm ?_
        refine sqp HT_ 5 24 ?_
        refine sqp HT_ 6 30 ?_
        refine sqp HT_ 7 31 ?_
        refine sqo HT_ 8 5 (fun K hK => ?_)
        refine box_step ?hg (N := 5) ?hd (cs := #[.int .i64 0, .int .i64 0]) (t := 26) ?hr ?_; (case hd => rfl); (case hg => rfl); (case hr => first | (go_simp; done) | (go_simp; rfl))
        intro gb605 hg w82 hbox hb
        have BK605 := Aside0.mk (hbox)
        have GW605 := sqg HB hg
        have GE605 := sqg HB hg
        have NB587_605 := sqn BK587 hg
        have NB605_587 := sqm BK587 hg
        have NB588_605 := sqn BK588 hg
        have NB605_588 := sqm BK588 hg
        have NB589_605 := sqn BK589 hg
        have NB605_589 := sqm BK589 hg
        refine sqM3 BK587 BK588 BK589 hb ?_; clear BK587 BK588 BK589; intro BK587 BK588 BK589
        replace HB := sqs HB hb
        clear hb hbox hg
        refine hK.out _ _ sqz (fun hHeld => ?_)
        clear hK K
        refine sqnm ?_
        exact norm_ sqnn (hCont (gb605) _ ⟨hHeld, (sqt BK587.out), (sqt BK588.out), (sqt BK589.out), (sqt BK605.out), GW605.out, GE605.out, NB587_605.out, NB605_587.out, NB588_605.out, NB605_588.out, NB589_605.out, NB605_589.out, (sqB HB)⟩)
       ·skip
        refine box_step ?hg (N := 5) ?hd (cs := #[.int .i64 0, .int .i64 0]) (t := 26) ?hr ?_; (case hd => rfl); (case hg => rfl); (case hr => first | (go_simp; done) | (go_simp; rfl))
        intro gb605 hg w81 hbox hb
        have BK605 := Aside0.mk (hbox)
        have GW605 := sqg HB hg
        have GE605 := sqg HB hg
        have NB587_605 := sqn BK587 hg
        have NB605_587 := sqm BK587 hg
        have NB588_605 := sqn BK588 hg
        have NB605_588 := sqm BK588 hg
        have NB589_605 := sqn BK589 hg
        have NB605_589 := sqm BK589 hg
        refine sqM3 BK587 BK588 BK589 hb ?_; clear BK587 BK588 BK589; intro BK587 BK588 BK589
        replace HB := sqs HB hb
        clear hb hbox hg
        refine hK.out _ _ sqz (fun hHeld => ?_)
        clear hK K
        refine sqnm ?_
        refine sqo HT_ 4 29 (fun K hK => ?_)
        refine sqG Try.func186 #[.agg #[.int .i64 t598, .int .i64 t599], .agg #[.int .i64 t600, .int .i64 t601]] ?_
        with_reducible refine (impl_RestMeet.calls kj2 t598 t599 t600 t601 t602 t603 false _ A53.out).mono ?_
        rintro e w82 ⟨rfl, hb⟩
        refine ⟨_, rfl, ?_⟩
        refine sqM4 BK587 BK588 BK589 BK605 hb ?_; clear BK587 BK588 BK589 BK605; intro BK587 BK588 BK589 BK605
        replace HB := sqs HB hb
        (try clear hb)
        refine hK.out _ _ sqz (fun hHeld => ?_)
        clear hK K
        refine sqnm ?_
        refine sqp HT_ 5 24 ?_
        refine sqp HT_ 6 30 ?_
        refine sqp HT_ 7 31 ?_
        exact norm_ sqnn (hCont (gb605) _ ⟨hHeld, (sqt BK587.out), (sqt BK588.out), (sqt BK589.out), (sqt BK605.out), GW605.out, GE605.out, NB587_605.out, NB605_587.out, NB588_605.out, NB605_588.out, NB589_605.out, NB605_589.out, (sqB HB)⟩)
      ·skip
       refine box_step ?hg (N := 5) ?hd (cs := #[.int .i64 0, .int .i64 0]) (t := 26) ?hr ?_; (case hd => rfl); (case hg => rfl); (case hr => first | (go_simp; done) | (go_simp; rfl))
       intro gb605 hg w80 hbox hb
       have BK605 := Aside0.mk (hbox)
       have GW605 := sqg HB hg
       have GE605 := sqg HB hg
       have NB587_605 := sqn BK587 hg
       have NB605_587 := sqm BK587 hg
       have NB588_605 := sqn BK588 hg
       have NB605_588 := sqm BK588 hg
       have NB589_605 := sqn BK589 hg
       have NB605_589 := sqm BK589 hg
       refine sqM3 BK587 BK588 BK589 hb ?_; clear BK587 BK588 BK589; intro BK587 BK588 BK589
       replace HB := sqs HB hb
       clear hb hbox hg
       refine hK.out _ _ sqz (fun hHeld => ?_)
       clear hK K
       refine sqnm ?_
       refine sqo HT_ 3 28 (fun K hK => ?_)
       refine sqG Try.func104 #[.agg #[.int .i64 a1_0, .int .i64 a1_1, .int .i64 a1_2, .int .i64 a1_3]] ?_
       with_reducible refine (impl_Val_rest.calls a1_0 a1_1 a1_2 a1_3 t600 t601 _ A52.out).mono ?_
       rintro e w81 ⟨rfl, hb⟩
       refine ⟨_, rfl, ?_⟩
       refine sqM4 BK587 BK588 BK589 BK605 hb ?_; clear BK587 BK588 BK589 BK605; intro BK587 BK588 BK589 BK605
       replace HB := sqs HB hb
       (try clear hb)
       refine hK.out _ _ sqz (fun hHeld => ?_)
       clear hK K
       refine sqnm ?_
       refine sqo HT_ 4 29 (fun K hK => ?_)
       refine sqG Try.func186 #[.agg #[.int .i64 t598, .int .i64 t599], .agg #[.int .i64 t600, .int .i64 t601]] ?_
       with_reducible refine (impl_RestMeet.calls kj2 t598 t599 t600 t601 t602 t603 false _ A53.out).mono ?_
       rintro e w82 ⟨rfl, hb⟩
       refine ⟨_, rfl, ?_⟩
       refine sqM4 BK587 BK588 BK589 BK605 hb ?_; clear BK587 BK588 BK589 BK605; intro BK587 BK588 BK589 BK605
       replace HB := sqs HB hb
       (try clear hb)
       refine hK.out _ _ sqz (fun hHeld => ?_)
       clear hK K
       refine sqnm ?_
       refine sqp HT_ 5 24 ?_
       refine sqp HT_ 6 30 ?_
       refine sqp HT_ 7 31 ?_
       exact norm_ sqnn (hCont (gb605) _ ⟨hHeld, (sqt BK587.out), (sqt BK588.out), (sqt BK589.out), (sqt BK605.out), GW605.out, GE605.out, NB587_605.out, NB605_587.out, NB588_605.out, NB605_588.out, NB589_605.out, NB605_589.out, (sqB HB)⟩)
     ·skip
      refine box_step ?hg (N := 5) ?hd (cs := #[.int .i64 0, .int .i64 0]) (t := 26) ?hr ?_; (case hd => rfl); (case hg => rfl); (case hr => first | (go_simp; done) | (go_simp; rfl))
      intro gb605 hg w79 hbox hb
      have BK605 := Aside0.mk (hbox)
      have GW605 := sqg HB hg
      have GE605 := sqg HB hg
      have NB587_605 := sqn BK587 hg
      have NB605_587 := sqm BK587 hg
      have NB588_605 := sqn BK588 hg
      have NB605_588 := sqm BK588 hg
      have NB589_605 := sqn BK589 hg
      have NB605_589 := sqm BK589 hg
      refine sqM3 BK587 BK588 BK589 hb ?_; clear BK587 BK588 BK589; intro BK587 BK588 BK589
      replace HB := sqs HB hb
      clear hb hbox hg
      refine hK.out _ _ sqz (fun hHeld => ?_)
      clear hK K
      refine sqnm ?_
      refine sqo HT_ 1 26 (fun K hK => ?_)
      refine sqG Try.func104 #[.agg #[.int .i64 a0_0, .int .i64 a0_1, .int .i64 a0_2, .int .i64 a0_3]] ?_
      with_reducible refine (impl_Val_rest.calls a0_0 a0_1 a0_2 a0_3 t598 t599 _ A51.out).mono ?_
      rintro e w80 ⟨rfl, hb⟩
      refine ⟨_, rfl, ?_⟩
      refine sqM4 BK587 BK588 BK589 BK605 hb ?_; clear BK587 BK588 BK589 BK605; intro BK587 BK588 BK589 BK605
      replace HB := sqs HB hb
      (try clear hb)
      refine hK.out _ _ sqz (fun hHeld => ?_)
      clear hK K
      refine sqnm ?_
      refine sqo HT_ 3 28 (fun K hK => ?_)
      refine sqG Try.func104 #[.agg #[.int .i64 a1_0, .int .i64 a1_1, .int .i64 a1_2, .int .i64 a1_3]] ?_
      with_reducible refine (impl_Val_rest.calls a1_0 a1_1 a1_2 a1_3 t600 t601 _ A52.out).mono ?_
      rintro e w81 ⟨rfl, hb⟩
      refine ⟨_, rfl, ?_⟩
      refine sqM4 BK587 BK588 BK589 BK605 hb ?_; clear BK587 BK588 BK589 BK605; intro BK587 BK588 BK589 BK605
      replace HB := sqs HB hb
      (try clear hb)
      refine hK.out _ _ sqz (fun hHeld => ?_)
      clear hK K
      refine sqnm ?_
      refine sqo HT_ 4 29 (fun K hK => ?_)
      refine sqG Try.func186 #[.agg #[.int .i64 t598, .int .i64 t599], .agg #[.int .i64 t600, .int .i64 t601]] ?_
      with_reducible refine (impl_RestMeet.calls kj2 t598 t599 t600 t601 t602 t603 false _ A53.out).mono ?_
      rintro e w82 ⟨rfl, hb⟩
      refine ⟨_, rfl, ?_⟩
      refine sqM4 BK587 BK588 BK589 BK605 hb ?_; clear BK587 BK588 BK589 BK605; intro BK587 BK588 BK589 BK605
      replace HB := sqs HB hb
      (try clear hb)
      refine hK.out _ _ sqz (fun hHeld => ?_)
      clear hK K
      refine sqnm ?_
      refine sqp HT_ 5 24 ?_
      refine sqp HT_ 6 30 ?_
      refine sqp HT_ 7 31 ?_
      exact norm_ sqnn (hCont (gb605) _ ⟨hHeld, (sqt BK587.out), (sqt BK588.out), (sqt BK589.out), (sqt BK605.out), GW605.out, GE605.out, NB587_605.out, NB605_587.out, NB588_605.out, NB605_588.out, NB589_605.out, NB605_589.out, (sqB HB)⟩)
    rintro gb605 w83 ⟨hS_, h0_, h1_, h2_, h3_, h4_, h5_, h6_, h7_, h8_, h9_, h10_, h11_, h12_⟩
    replace BK587 := Aside0.mk h0_; replace BK588 := Aside0.mk h1_; replace BK589 := Aside0.mk h2_; have BK605 := Aside0.mk h3_; have GW605 := Aside0.mk h4_; have GE605 := Aside0.mk h5_; have NB587_605 := Aside0.mk h6_; have NB605_587 := Aside0.mk h7_; have NB588_605 := Aside0.mk h8_; have NB605_588 := Aside0.mk h9_; have NB589_605 := Aside0.mk h10_; have NB605_589 := Aside0.mk h11_; replace HB := Aside0.mk h12_; clear h0_ h1_ h2_ h3_ h4_ h5_ h6_ h7_ h8_ h9_ h10_ h11_ h12_
    have hHeld : w83.cell? ⟨gb587, 0, none⟩ = some (.int .i64 a0_0) ∧ w83.cell? ⟨gb587, 1, none⟩ = some (.int .i64 a0_1) ∧ w83.cell? ⟨gb587, 2, none⟩ = some (.int .i64 a0_2) ∧ w83.cell? ⟨gb587, 3, none⟩ = some (.int .i64 a0_3) ∧ w83.cell? ⟨gb588, 0, none⟩ = some (.int .i64 a1_0) ∧ w83.cell? ⟨gb588, 1, none⟩ = some (.int .i64 a1_1) ∧ w83.cell? ⟨gb588, 2, none⟩ = some (.int .i64 a1_2) ∧ w83.cell? ⟨gb588, 3, none⟩ = some (.int .i64 a1_3) := hS_
    refine norm_ (a' := ?_) ?_ ?_
    rotate_left
    ·simp only [putAll, Act.put, List.setIfInBounds_toArray, List.set_cons_zero, List.set_cons_succ]
     rfl
    refine one_ (i := 9) (N := none) #[true, true, true, true, true, true, true, true, true, true, false] rfl rfl (one_of HT_.out (by kernel_rfl)) (by decide) (fun K hK => ?_)
    have hs84 : w83.cell? ⟨gb605, 0, none⟩ = some (.int .i64 0) := (blk_cell BK605.out 0).trans rfl
    have hfs84 := blk_frozen BK605.out 0
    have hns84_0 := NB587_605.out
    have hns84_1 := NB588_605.out
    have hns84_2 := NB589_605.out
    have hms84_0 := NB605_587.out
    have hms84_1 := NB605_588.out
    have hms84_2 := NB605_589.out
    have hs85 : w83.cell? ⟨gb605, 1, none⟩ = some (.int .i64 0) := (blk_cell BK605.out 1).trans rfl
    have hfs85 := blk_frozen BK605.out 1
    have hns85_0 := NB587_605.out
    have hns85_1 := NB588_605.out
    have hns85_2 := NB589_605.out
    have hms85_0 := NB605_587.out
    have hms85_1 := NB605_588.out
    have hms85_2 := NB605_589.out
    refine skip_ (w1 := ?_) (by rfl) rfl ?_ ?_
    rotate_left
    ·go_simp
     rfl
    refine hK.out _ _ ⟨(sqfa NB587_605 ((sqfa NB587_605 (hHeld.1)))), (sqfa NB587_605 ((sqfa NB587_605 (hHeld.2.1)))), (sqfa NB587_605 ((sqfa NB587_605 (hHeld.2.2.1)))), (sqfa NB587_605 ((sqfa NB587_605 (hHeld.2.2.2.1)))), (sqfa NB588_605 ((sqfa NB588_605 (hHeld.2.2.2.2.1)))), (sqfa NB588_605 ((sqfa NB588_605 (hHeld.2.2.2.2.2.1)))), (sqfa NB588_605 ((sqfa NB588_605 (hHeld.2.2.2.2.2.2.1)))), (sqfa NB588_605 ((sqfa NB588_605 (hHeld.2.2.2.2.2.2.2))))⟩ (fun hHeld => ?_)
    clear hK K
    refine sqp HT_ 10 6 ?_
    refine done_ (done_of HT_.out (by kernel_rfl)) ?_
    try go_wp2_with (first | ((with_reducible refine gate_callee (f := 96) rfl ?_); refine sqL (some 34) Try.func96 #[] ?_; (with_reducible refine (impl_valNone.calls  t606 t607 t608 t609 _ A77.out).mono ?_); rintro e w86 ⟨rfl, hb⟩; refine ⟨_, rfl, ?_⟩; replace BK587 := sqbb BK587 hb; replace BK588 := sqbb BK588 hb; replace BK589 := sqbb BK589 hb; replace BK605 := Aside0.mk (blk_below (g := gb605) (o := .cells #[.int .i64 t602, .int .i64 t603] 26 (0, 0)) (sqP BK605) hb); replace HB := sqs HB hb; (try clear hb); obtain ⟨_, _, _, _, _, _⟩ := sqN3 NB589_587 NB589_588 NB589_605; obtain ⟨_, _, _, _, _, _, _, _⟩ := sqc4 BK589))
    refine bodyPost_ret (results_cell_row rfl _ _ gb589 30 #[.int .i64 t606, .int .i64 t607, .int .i64 t608, .int .i64 t609] (0, 0) _ rfl (sqP BK589) Try.underlying30 rfl (by kernel_rfl)) rfl ?_
    exact sqe HB
   subst c54
   have H1 : ((impl_Val_span.f a0_0 a0_1 a0_2 a0_3).bind fun bt610 => ((impl_Val_span.f a1_0 a1_1 a1_2 a1_3).bind fun bt612 => ((impl_RangeMeet.f kj2 bt610.1 bt610.2 bt612.1 bt612.2).bind fun bt614 => ((impl_ValMake.f kj2 bt614.1 bt614.2 t602 t603).bind fun bt616 => (some (bt616.1, bt616.2.1, bt616.2.2.1, bt616.2.2.2)))))) = some (r1, r2, r3, r4) := by rw [if_pos rfl] at H; exact H
   clear H
   have H := H1
   clear H1
   replace H := sqbi H
   obtain ⟨⟨t610, t611⟩, A55, H⟩ := H
   try dsimp only at H
   replace H := sqbi H
   obtain ⟨⟨t612, t613⟩, A56, H⟩ := H
   try dsimp only at H
   replace H := sqbi H
   obtain ⟨⟨t614, t615⟩, A57, H⟩ := H
   try dsimp only at H
   replace H := sqbi H
   obtain ⟨⟨t616, t617, t618, t619⟩, A58, H⟩ := H
   try dsimp only at H
   simp only [Option.some.injEq, Prod.mk.injEq] at H
   obtain ⟨rfl, rfl, rfl, rfl⟩ := H
   try go_wp2
   replace BK587 := sqdr BK587
   replace BK588 := sqdr BK588
   replace BK589 := sqdr BK589
   replace HB := sqdB HB
   refine sqst 11 (fun w' => w'.cell? ⟨gb587, 0, none⟩ = some (.int .i64 a0_0) ∧ w'.cell? ⟨gb587, 1, none⟩ = some (.int .i64 a0_1) ∧ w'.cell? ⟨gb587, 2, none⟩ = some (.int .i64 a0_2) ∧ w'.cell? ⟨gb587, 3, none⟩ = some (.int .i64 a0_3) ∧ w'.cell? ⟨gb588, 0, none⟩ = some (.int .i64 a1_0) ∧ w'.cell? ⟨gb588, 1, none⟩ = some (.int .i64 a1_1) ∧ w'.cell? ⟨gb588, 2, none⟩ = some (.int .i64 a1_2) ∧ w'.cell? ⟨gb588, 3, none⟩ = some (.int .i64 a1_3)) sqz (fun hHeld => ?_); refine with_tabW impl_ValMeet.tab3 impl_ValMeet.bits3 (fun HT_ HW_ => ?_)
   generalize wc.drew = w59 at BK587 BK588 BK589 HB hHeld ⊢
   refine sqw HT_ HW_ 0 25 hHeld ?_
   refine sqw HT_ HW_ 2 27 hHeld ?_
   refine join_ (σ := Nat) 2 #[true, true, true, true, true, true, true, true, true, false, false] (fun s_ => [(26, .agg #[.int .i64 t598, .int .i64 t599]), (28, .agg #[.int .i64 t600, .int .i64 t601]), (29, .tuple #[.agg #[.int .i64 t602, .int .i64 t603], .bool true]), (5, .pointer (some ⟨s_, 0, none⟩)), (24, .tuple #[.agg #[.int .i64 t602, .int .i64 t603], .bool true]), (30, .agg #[.int .i64 t602, .int .i64 t603]), (31, .bool true)]) (fun s_ w' => (w'.cell? ⟨gb587, 0, none⟩ = some (.int .i64 a0_0) ∧ w'.cell? ⟨gb587, 1, none⟩ = some (.int .i64 a0_1) ∧ w'.cell? ⟨gb587, 2, none⟩ = some (.int .i64 a0_2) ∧ w'.cell? ⟨gb587, 3, none⟩ = some (.int .i64 a0_3) ∧ w'.cell? ⟨gb588, 0, none⟩ = some (.int .i64 a1_0) ∧ w'.cell? ⟨gb588, 1, none⟩ = some (.int .i64 a1_1) ∧ w'.cell? ⟨gb588, 2, none⟩ = some (.int .i64 a1_2) ∧ w'.cell? ⟨gb588, 3, none⟩ = some (.int .i64 a1_3)) ∧ (w'.heap[gb587]? = some (.cells #[.int .i64 a0_0, .int .i64 a0_1, .int .i64 a0_2, .int .i64 a0_3] 30 (0, 0))) ∧ (w'.heap[gb588]? = some (.cells #[.int .i64 a1_0, .int .i64 a1_1, .int .i64 a1_2, .int .i64 a1_3] 30 (0, 0))) ∧ (w'.heap[gb589]? = some (.cells #[.int .i64 0, .int .i64 0, .int .i64 0, .int .i64 0] 30 (0, 0))) ∧ (w'.heap[s_]? = some (.cells #[.int .i64 0, .int .i64 0] 26 (0, 0))) ∧ (w.heap.size ≤ s_) ∧ (w.heap.size ≤ s_) ∧ (gb587 ≠ s_) ∧ (s_ ≠ gb587) ∧ (gb588 ≠ s_) ∧ (s_ ≠ gb588) ∧ (gb589 ≠ s_) ∧ (s_ ≠ gb589) ∧ (Below w.heap.size w w')) ?_ ?_
   rotate_left
   ·intro hCont
    refine two_ (i := 1) (j := 8) (Ni := some 26) (Nj := some 5) #[true, true, true, false, false, false, false, false, false, false, false] #[true, false, true, false, false, false, false, false, true, false, false] rfl rfl rfl rfl (two_of HT_.out (by kernel_rfl)) (by decide) (by decide) (fun K hK => ?_) (fun K hK => ?_)
    ·skip
     refine sqG Try.func104 #[.agg #[.int .i64 a0_0, .int .i64 a0_1, .int .i64 a0_2, .int .i64 a0_3]] ?_
     with_reducible refine (impl_Val_rest.calls a0_0 a0_1 a0_2 a0_3 t598 t599 _ A51.out).mono ?_
     rintro e w60 ⟨rfl, hb⟩
     refine ⟨_, rfl, ?_⟩
     refine sqM3 BK587 BK588 BK589 hb ?_; clear BK587 BK588 BK589; intro BK587 BK588 BK589
     replace HB := sqs HB hb
     (try clear hb)
     refine hK.out _ _ sqz (fun hHeld => ?_)
     clear hK K
     refine sqnm ?_
     refine two_ (i := 3) (j := 8) (Ni := some 28) (Nj := some 5) #[true, true, true, true, false, false, false, false, false, false, false] #[true, true, true, false, false, false, false, false, true, false, false] rfl rfl rfl rfl (two_of HT_.out (by kernel_rfl)) (by decide) (by decide) (fun K hK => ?_) (fun K hK => ?_)
     ·skip
      refine sqG Try.func104 #[.agg #[.int .i64 a1_0, .int .i64 a1_1, .int .i64 a1_2, .int .i64 a1_3]] ?_
      with_reducible refine (impl_Val_rest.calls a1_0 a1_1 a1_2 a1_3 t600 t601 _ A52.out).mono ?_
      rintro e w61 ⟨rfl, hb⟩
      refine ⟨_, rfl, ?_⟩
      refine sqM3 BK587 BK588 BK589 hb ?_; clear BK587 BK588 BK589; intro BK587 BK588 BK589
      replace HB := sqs HB hb
      (try clear hb)
      refine hK.out _ _ sqz (fun hHeld => ?_)
      clear hK K
      refine sqnm ?_
      refine two_ (i := 4) (j := 8) (Ni := some 29) (Nj := some 5) #[true, true, true, true, true, false, false, false, false, false, false] #[true, true, true, true, false, false, false, false, true, false, false] rfl rfl rfl rfl (two_of HT_.out (by kernel_rfl)) (by decide) (by decide) (fun K hK => ?_) (fun K hK => ?_)
      ·skip
       refine sqG Try.func186 #[.agg #[.int .i64 t598, .int .i64 t599], .agg #[.int .i64 t600, .int .i64 t601]] ?_
       with_reducible refine (impl_RestMeet.calls kj2 t598 t599 t600 t601 t602 t603 true _ A53.out).mono ?_
       rintro e w62 ⟨rfl, hb⟩
       refine ⟨_, rfl, ?_⟩
       refine sqM3 BK587 BK588 BK589 hb ?_; clear BK587 BK588 BK589; intro BK587 BK588 BK589
       replace HB := sqs HB hb
       (try clear hb)
       refine hK.out _ _ sqz (fun hHeld => ?_)
       clear hK K
       refine sqnm ?_
       refine sqp HT_ 5 24 ?_
       refine sqp HT_ 6 30 ?_
       refine sqp HT_ 7 31 ?_
       refine sqo HT_ 8 5 (fun K hK => ?_)
       refine box_step ?hg (N := 5) ?hd (cs := #[.int .i64 0, .int .i64 0]) (t := 26) ?hr ?_; (case hd => rfl); (case hg => rfl); (case hr => first | (go_simp; done) | (go_simp; rfl))
       intro gb605 hg w63 hbox hb
       have BK605 := Aside0.mk (hbox)
       have GW605 := sqg HB hg
       have GE605 := sqg HB hg
       have NB587_605 := sqn BK587 hg
       have NB605_587 := sqm BK587 hg
       have NB588_605 := sqn BK588 hg
       have NB605_588 := sqm BK588 hg
       have NB589_605 := sqn BK589 hg
       have NB605_589 := sqm BK589 hg
       refine sqM3 BK587 BK588 BK589 hb ?_; clear BK587 BK588 BK589; intro BK587 BK588 BK589
       replace HB := sqs HB hb
       clear hb hbox hg
       refine hK.out _ _ sqz (fun hHeld => ?_)
       clear hK K
       refine sqnm ?_
       exact norm_ sqnn (hCont (gb605) _ ⟨hHeld, (sqt BK587.out), (sqt BK588.out), (sqt BK589.out), (sqt BK605.out), GW605.out, GE605.out, NB587_605.out, NB605_587.out, NB588_605.out, NB605_588.out, NB589_605.out, NB605_589.out, (sqB HB)⟩)
      ·skip
       refine box_step ?hg (N := 5) ?hd (cs := #[.int .i64 0, .int .i64 0]) (t := 26) ?hr ?_; (case hd => rfl); (case hg => rfl); (case hr => first | (go_simp; done) | (go_simp; rfl))
       intro gb605 hg w62 hbox hb
       have BK605 := Aside0.mk (hbox)
       have GW605 := sqg HB hg
       have GE605 := sqg HB hg
       have NB587_605 := sqn BK587 hg
       have NB605_587 := sqm BK587 hg
       have NB588_605 := sqn BK588 hg
       have NB605_588 := sqm BK588 hg
       have NB589_605 := sqn BK589 hg
       have NB605_589 := sqm BK589 hg
       refine sqM3 BK587 BK588 BK589 hb ?_; clear BK587 BK588 BK589; intro BK587 BK588 BK589
       replace HB := sqs HB hb
       clear hb hbox hg
       refine hK.out _ _ sqz (fun hHeld => ?_)
       clear hK K
       refine sqnm ?_
       refine sqo HT_ 4 29 (fun K hK => ?_)
       refine sqG Try.func186 #[.agg #[.int .i64 t598, .int .i64 t599], .agg #[.int .i64 t600, .int .i64 t601]] ?_
       with_reducible refine (impl_RestMeet.calls kj2 t598 t599 t600 t601 t602 t603 true _ A53.out).mono ?_
       rintro e w63 ⟨rfl, hb⟩
       refine ⟨_, rfl, ?_⟩
       refine sqM4 BK587 BK588 BK589 BK605 hb ?_; clear BK587 BK588 BK589 BK605; intro BK587 BK588 BK589 BK605
       replace HB := sqs HB hb
       (try clear hb)
       refine hK.out _ _ sqz (fun hHeld => ?_)
       clear hK K
       refine sqnm ?_
       refine sqp HT_ 5 24 ?_
       refine sqp HT_ 6 30 ?_
       refine sqp HT_ 7 31 ?_
       exact norm_ sqnn (hCont (gb605) _ ⟨hHeld, (sqt BK587.out), (sqt BK588.out), (sqt BK589.out), (sqt BK605.out), GW605.out, GE605.out, NB587_605.out, NB605_587.out, NB588_605.out, NB605_588.out, NB589_605.out, NB605_589.out, (sqB HB)⟩)
     ·skip
      refine box_step ?hg (N := 5) ?hd (cs := #[.int .i64 0, .int .i64 0]) (t := 26) ?hr ?_; (case hd => rfl); (case hg => rfl); (case hr => first | (go_simp; done) | (go_simp; rfl))
      intro gb605 hg w61 hbox hb
      have BK605 := Aside0.mk (hbox)
      have GW605 := sqg HB hg
      have GE605 := sqg HB hg
      have NB587_605 := sqn BK587 hg
      have NB605_587 := sqm BK587 hg
      have NB588_605 := sqn BK588 hg
      have NB605_588 := sqm BK588 hg
      have NB589_605 := sqn BK589 hg
      have NB605_589 := sqm BK589 hg
      refine sqM3 BK587 BK588 BK589 hb ?_; clear BK587 BK588 BK589; intro BK587 BK588 BK589
      replace HB := sqs HB hb
      clear hb hbox hg
      refine hK.out _ _ sqz (fun hHeld => ?_)
      clear hK K
      refine sqnm ?_
      refine sqo HT_ 3 28 (fun K hK => ?_)
      refine sqG Try.func104 #[.agg #[.int .i64 a1_0, .int .i64 a1_1, .int .i64 a1_2, .int .i64 a1_3]] ?_
      with_reducible refine (impl_Val_rest.calls a1_0 a1_1 a1_2 a1_3 t600 t601 _ A52.out).mono ?_
      rintro e w62 ⟨rfl, hb⟩
      refine ⟨_, rfl, ?_⟩
      refine sqM4 BK587 BK588 BK589 BK605 hb ?_; clear BK587 BK588 BK589 BK605; intro BK587 BK588 BK589 BK605
      replace HB := sqs HB hb
      (try clear hb)
      refine hK.out _ _ sqz (fun hHeld => ?_)
      clear hK K
      refine sqnm ?_
      refine sqo HT_ 4 29 (fun K hK => ?_)
      refine sqG Try.func186 #[.agg #[.int .i64 t598, .int .i64 t599], .agg #[.int .i64 t600, .int .i64 t601]] ?_
      with_reducible refine (impl_RestMeet.calls kj2 t598 t599 t600 t601 t602 t603 true _ A53.out).mono ?_
      rintro e w63 ⟨rfl, hb⟩
      refine ⟨_, rfl, ?_⟩
      refine sqM4 BK587 BK588 BK589 BK605 hb ?_; clear BK587 BK588 BK589 BK605; intro BK587 BK588 BK589 BK605
      replace HB := sqs HB hb
      (try clear hb)
      refine hK.out _ _ sqz (fun hHeld => ?_)
      clear hK K
      refine sqnm ?_
      refine sqp HT_ 5 24 ?_
      refine sqp HT_ 6 30 ?_
      refine sqp HT_ 7 31 ?_
      exact norm_ sqnn (hCont (gb605) _ ⟨hHeld, (sqt BK587.out), (sqt BK588.out), (sqt BK589.out), (sqt BK605.out), GW605.out, GE605.out, NB587_605.out, NB605_587.out, NB588_605.out, NB605_588.out, NB589_605.out, NB605_589.out, (sqB HB)⟩)
    ·skip
     refine box_step ?hg (N := 5) ?hd (cs := #[.int .i64 0, .int .i64 0]) (t := 26) ?hr ?_; (case hd => rfl); (case hg => rfl); (case hr => first | (go_simp; done) | (go_simp; rfl))
     intro gb605 hg w60 hbox hb
     have BK605 := Aside0.mk (hbox)
     have GW605 := sqg HB hg
     have GE605 := sqg HB hg
     have NB587_605 := sqn BK587 hg
     have NB605_587 := sqm BK587 hg
     have NB588_605 := sqn BK588 hg
     have NB605_588 := sqm BK588 hg
     have NB589_605 := sqn BK589 hg
     have NB605_589 := sqm BK589 hg
     refine sqM3 BK587 BK588 BK589 hb ?_; clear BK587 BK588 BK589; intro BK587 BK588 BK589
     replace HB := sqs HB hb
     clear hb hbox hg
     refine hK.out _ _ sqz (fun hHeld => ?_)
     clear hK K
     refine sqnm ?_
     refine sqo HT_ 1 26 (fun K hK => ?_)
     refine sqG Try.func104 #[.agg #[.int .i64 a0_0, .int .i64 a0_1, .int .i64 a0_2, .int .i64 a0_3]] ?_
     with_reducible refine (impl_Val_rest.calls a0_0 a0_1 a0_2 a0_3 t598 t599 _ A51.out).mono ?_
     rintro e w61 ⟨rfl, hb⟩
     refine ⟨_, rfl, ?_⟩
     refine sqM4 BK587 BK588 BK589 BK605 hb ?_; clear BK587 BK588 BK589 BK605; intro BK587 BK588 BK589 BK605
     replace HB := sqs HB hb
     (try clear hb)
     refine hK.out _ _ sqz (fun hHeld => ?_)
     clear hK K
     refine sqnm ?_
     refine sqo HT_ 3 28 (fun K hK => ?_)
     refine sqG Try.func104 #[.agg #[.int .i64 a1_0, .int .i64 a1_1, .int .i64 a1_2, .int .i64 a1_3]] ?_
     with_reducible refine (impl_Val_rest.calls a1_0 a1_1 a1_2 a1_3 t600 t601 _ A52.out).mono ?_
     rintro e w62 ⟨rfl, hb⟩
     refine ⟨_, rfl, ?_⟩
     refine sqM4 BK587 BK588 BK589 BK605 hb ?_; clear BK587 BK588 BK589 BK605; intro BK587 BK588 BK589 BK605
     replace HB := sqs HB hb
     (try clear hb)
     refine hK.out _ _ sqz (fun hHeld => ?_)
     clear hK K
     refine sqnm ?_
     refine sqo HT_ 4 29 (fun K hK => ?_)
     refine sqG Try.func186 #[.agg #[.int .i64 t598, .int .i64 t599], .agg #[.int .i64 t600, .int .i64 t601]] ?_
     with_reducible refine (impl_RestMeet.calls kj2 t598 t599 t600 t601 t602 t603 true _ A53.out).mono ?_
     rintro e w63 ⟨rfl, hb⟩
     refine ⟨_, rfl, ?_⟩
     refine sqM4 BK587 BK588 BK589 BK605 hb ?_; clear BK587 BK588 BK589 BK605; intro BK587 BK588 BK589 BK605
     replace HB := sqs HB hb
     (try clear hb)
     refine hK.out _ _ sqz (fun hHeld => ?_)
     clear hK K
     refine sqnm ?_
     refine sqp HT_ 5 24 ?_
     refine sqp HT_ 6 30 ?_
     refine sqp HT_ 7 31 ?_
     exact norm_ sqnn (hCont (gb605) _ ⟨hHeld, (sqt BK587.out), (sqt BK588.out), (sqt BK589.out), (sqt BK605.out), GW605.out, GE605.out, NB587_605.out, NB605_587.out, NB588_605.out, NB605_588.out, NB589_605.out, NB605_589.out, (sqB HB)⟩)
   rintro gb605 w64 ⟨hS_, h0_, h1_, h2_, h3_, h4_, h5_, h6_, h7_, h8_, h9_, h10_, h11_, h12_⟩
   replace BK587 := Aside0.mk h0_; replace BK588 := Aside0.mk h1_; replace BK589 := Aside0.mk h2_; have BK605 := Aside0.mk h3_; have GW605 := Aside0.mk h4_; have GE605 := Aside0.mk h5_; have NB587_605 := Aside0.mk h6_; have NB605_587 := Aside0.mk h7_; have NB588_605 := Aside0.mk h8_; have NB605_588 := Aside0.mk h9_; have NB589_605 := Aside0.mk h10_; have NB605_589 := Aside0.mk h11_; replace HB := Aside0.mk h12_; clear h0_ h1_ h2_ h3_ h4_ h5_ h6_ h7_ h8_ h9_ h10_ h11_ h12_
   have hHeld : w64.cell? ⟨gb587, 0, none⟩ = some (.int .i64 a0_0) ∧ w64.cell? ⟨gb587, 1, none⟩ = some (.int .i64 a0_1) ∧ w64.cell? ⟨gb587, 2, none⟩ = some (.int .i64 a0_2) ∧ w64.cell? ⟨gb587, 3, none⟩ = some (.int .i64 a0_3) ∧ w64.cell? ⟨gb588, 0, none⟩ = some (.int .i64 a1_0) ∧ w64.cell? ⟨gb588, 1, none⟩ = some (.int .i64 a1_1) ∧ w64.cell? ⟨gb588, 2, none⟩ = some (.int .i64 a1_2) ∧ w64.cell? ⟨gb588, 3, none⟩ = some (.int .i64 a1_3) := hS_
   refine norm_ (a' := ?_) ?_ ?_
   rotate_left
   ·simp only [putAll, Act.put, List.setIfInBounds_toArray, List.set_cons_zero, List.set_cons_succ]
    rfl
   refine one_ (i := 9) (N := none) #[true, true, true, true, true, true, true, true, true, true, false] rfl rfl (one_of HT_.out (by kernel_rfl)) (by decide) (fun K hK => ?_)
   have hs65 : w64.cell? ⟨gb605, 0, none⟩ = some (.int .i64 0) := (blk_cell BK605.out 0).trans rfl
   have hfs65 := blk_frozen BK605.out 0
   have hns65_0 := NB587_605.out
   have hns65_1 := NB588_605.out
   have hns65_2 := NB589_605.out
   have hms65_0 := NB605_587.out
   have hms65_1 := NB605_588.out
   have hms65_2 := NB605_589.out
   have hs66 : w64.cell? ⟨gb605, 1, none⟩ = some (.int .i64 0) := (blk_cell BK605.out 1).trans rfl
   have hfs66 := blk_frozen BK605.out 1
   have hns66_0 := NB587_605.out
   have hns66_1 := NB588_605.out
   have hns66_2 := NB589_605.out
   have hms66_0 := NB605_587.out
   have hms66_1 := NB605_588.out
   have hms66_2 := NB605_589.out
   refine skip_ (w1 := ?_) (by rfl) rfl ?_ ?_
   rotate_left
   ·go_simp
    rfl
   refine hK.out _ _ ⟨(sqfa NB587_605 ((sqfa NB587_605 (hHeld.1)))), (sqfa NB587_605 ((sqfa NB587_605 (hHeld.2.1)))), (sqfa NB587_605 ((sqfa NB587_605 (hHeld.2.2.1)))), (sqfa NB587_605 ((sqfa NB587_605 (hHeld.2.2.2.1)))), (sqfa NB588_605 ((sqfa NB588_605 (hHeld.2.2.2.2.1)))), (sqfa NB588_605 ((sqfa NB588_605 (hHeld.2.2.2.2.2.1)))), (sqfa NB588_605 ((sqfa NB588_605 (hHeld.2.2.2.2.2.2.1)))), (sqfa NB588_605 ((sqfa NB588_605 (hHeld.2.2.2.2.2.2.2))))⟩ (fun hHeld => ?_)
   clear hK K
   refine sqp HT_ 10 6 ?_
   refine done_ (done_of HT_.out (by kernel_rfl)) ?_
   try go_wp2
   obtain ⟨w67, hw_⟩ : ∃ w_, w_ = ((w64.setCell ⟨gb605, 0, none⟩ (.int .i64 t602)).setCell ⟨gb605, 1, none⟩ (.int .i64 t603)) := ⟨_, rfl⟩
   replace BK587 := sqTe hw_ BK587
   replace BK588 := sqTe hw_ BK588
   replace BK589 := sqTe hw_ BK589
   replace BK605 : Aside0 (w67.heap[gb605]? = some (.cells #[.int .i64 t602, .int .i64 t603] 26 (0, 0))) := by rw [hw_]; exact ⟨sqP BK605⟩
   replace HB : Aside0 (Below w.heap.size w w67) := by rw [hw_]; exact sqh HB
   rw [← hw_]
   clear hw_
   replace BK587 := sqdr BK587
   replace BK588 := sqdr BK588
   replace BK589 := sqdr BK589
   replace BK605 := sqdr BK605
   replace HB := sqdB HB
   refine sqst 8 (fun w' => w'.cell? ⟨gb587, 0, none⟩ = some (.int .i64 a0_0) ∧ w'.cell? ⟨gb587, 1, none⟩ = some (.int .i64 a0_1) ∧ w'.cell? ⟨gb587, 2, none⟩ = some (.int .i64 a0_2) ∧ w'.cell? ⟨gb587, 3, none⟩ = some (.int .i64 a0_3) ∧ w'.cell? ⟨gb588, 0, none⟩ = some (.int .i64 a1_0) ∧ w'.cell? ⟨gb588, 1, none⟩ = some (.int .i64 a1_1) ∧ w'.cell? ⟨gb588, 2, none⟩ = some (.int .i64 a1_2) ∧ w'.cell? ⟨gb588, 3, none⟩ = some (.int .i64 a1_3) ∧ w'.cell? ⟨gb605, 0, none⟩ = some (.int .i64 t602) ∧ w'.cell? ⟨gb605, 1, none⟩ = some (.int .i64 t603)) sqz (fun hHeld => ?_); refine with_tabW impl_ValMeet.tab6 impl_ValMeet.bits6 (fun HT_ HW_ => ?_)
   generalize w67.drew = w68 at BK587 BK588 BK589 BK605 HB hHeld ⊢
   refine sqw HT_ HW_ 0 35 hHeld ?_
   refine sqw HT_ HW_ 2 37 hHeld ?_
   refine sqw HT_ HW_ 5 40 hHeld ?_
   refine sqo HT_ 1 36 (fun K hK => ?_)
   refine sqG Try.func103 #[.agg #[.int .i64 a0_0, .int .i64 a0_1, .int .i64 a0_2, .int .i64 a0_3]] ?_
   with_reducible refine (impl_Val_span.calls a0_0 a0_1 a0_2 a0_3 t610 t611 _ A55.out).mono ?_
   rintro e w69 ⟨rfl, hb⟩
   refine ⟨_, rfl, ?_⟩
   refine sqM4 BK587 BK588 BK589 BK605 hb ?_; clear BK587 BK588 BK589 BK605; intro BK587 BK588 BK589 BK605
   replace HB := sqs HB hb
   (try clear hb)
   refine hK.out _ _ sqz (fun hHeld => ?_)
   clear hK K
   refine sqnm ?_
   refine sqo HT_ 3 38 (fun K hK => ?_)
   refine sqG Try.func103 #[.agg #[.int .i64 a1_0, .int .i64 a1_1, .int .i64 a1_2, .int .i64 a1_3]] ?_
   with_reducible refine (impl_Val_span.calls a1_0 a1_1 a1_2 a1_3 t612 t613 _ A56.out).mono ?_
   rintro e w70 ⟨rfl, hb⟩
   refine ⟨_, rfl, ?_⟩
   refine sqM4 BK587 BK588 BK589 BK605 hb ?_; clear BK587 BK588 BK589 BK605; intro BK587 BK588 BK589 BK605
   replace HB := sqs HB hb
   (try clear hb)
   refine hK.out _ _ sqz (fun hHeld => ?_)
   clear hK K
   refine sqnm ?_
   refine sqo HT_ 4 39 (fun K hK => ?_)
   refine sqG Try.func127 #[.agg #[.int .i64 t610, .int .i64 t611], .agg #[.int .i64 t612, .int .i64 t613]] ?_
   with_reducible refine (impl_RangeMeet.calls kj2 t610 t611 t612 t613 t614 t615 _ A57.out).mono ?_
   rintro e w71 ⟨rfl, hb⟩
   refine ⟨_, rfl, ?_⟩
   refine sqM4 BK587 BK588 BK589 BK605 hb ?_; clear BK587 BK588 BK589 BK605; intro BK587 BK588 BK589 BK605
   replace HB := sqs HB hb
   (try clear hb)
   refine hK.out _ _ sqz (fun hHeld => ?_)
   clear hK K
   refine sqnm ?_
   refine sqo HT_ 6 41 (fun K hK => ?_)
   refine sqG Try.func16 #[.agg #[.int .i64 t614, .int .i64 t615], .agg #[.int .i64 t602, .int .i64 t603]] ?_
   with_reducible refine (impl_ValMake.calls kj2 t614 t615 t602 t603 t616 t617 t618 t619 _ A58.out).mono ?_
   rintro e w72 ⟨rfl, hb⟩
   refine ⟨_, rfl, ?_⟩
   refine sqM4 BK587 BK588 BK589 BK605 hb ?_; clear BK587 BK588 BK589 BK605; intro BK587 BK588 BK589 BK605
   replace HB := sqs HB hb
   (try clear hb)
   refine hK.out _ _ sqz (fun hHeld => ?_)
   clear hK K
   refine sqnm ?_
   refine one_ (i := 7) (N := none) #[true, true, true, true, true, true, true, true] rfl rfl (one_of HT_.out (by kernel_rfl)) (by decide) (fun K hK => ?_)
   have hs73 : w72.cell? ⟨gb589, 0, none⟩ = some (.int .i64 0) := (blk_cell BK589.out 0).trans rfl
   have hfs73 := blk_frozen BK589.out 0
   have hns73_0 := NB587_589.out
   have hns73_1 := NB588_589.out
   have hns73_3 := NB605_589.out
   have hms73_0 := NB589_587.out
   have hms73_1 := NB589_588.out
   have hms73_3 := NB589_605.out
   have hs74 : w72.cell? ⟨gb589, 1, none⟩ = some (.int .i64 0) := (blk_cell BK589.out 1).trans rfl
   have hfs74 := blk_frozen BK589.out 1
   have hns74_0 := NB587_589.out
   have hns74_1 := NB588_589.out
   have hns74_3 := NB605_589.out
   have hms74_0 := NB589_587.out
   have hms74_1 := NB589_588.out
   have hms74_3 := NB589_605.out
   have hs75 : w72.cell? ⟨gb589, 2, none⟩ = some (.int .i64 0) := (blk_cell BK589.out 2).trans rfl
   have hfs75 := blk_frozen BK589.out 2
   have hns75_0 := NB587_589.out
   have hns75_1 := NB588_589.out
   have hns75_3 := NB605_589.out
   have hms75_0 := NB589_587.out
   have hms75_1 := NB589_588.out
   have hms75_3 := NB589_605.out
   have hs76 : w72.cell? ⟨gb589, 3, none⟩ = some (.int .i64 0) := (blk_cell BK589.out 3).trans rfl
   have hfs76 := blk_frozen BK589.out 3
   have hns76_0 := NB587_589.out
   have hns76_1 := NB588_589.out
   have hns76_3 := NB605_589.out
   have hms76_0 := NB589_587.out
   have hms76_1 := NB589_588.out
   have hms76_3 := NB589_605.out
   refine skip_ (w1 := ?_) (by rfl) rfl ?_ ?_
   rotate_left
   ·go_simp
    rfl
   refine hK.out _ _ ⟨(sqfa NB587_589 ((sqfa NB587_589 ((sqfa NB587_589 ((sqfa NB587_589 (hHeld.1)))))))), (sqfa NB587_589 ((sqfa NB587_589 ((sqfa NB587_589 ((sqfa NB587_589 (hHeld.2.1)))))))), (sqfa NB587_589 ((sqfa NB587_589 ((sqfa NB587_589 ((sqfa NB587_589 (hHeld.2.2.1)))))))), (sqfa NB587_589 ((sqfa NB587_589 ((sqfa NB587_589 ((sqfa NB587_589 (hHeld.2.2.2.1)))))))), (sqfa NB588_589 ((sqfa NB588_589 ((sqfa NB588_589 ((sqfa NB588_589 (hHeld.2.2.2.2.1)))))))), (sqfa NB588_589 ((sqfa NB588_589 ((sqfa NB588_589 ((sqfa NB588_589 (hHeld.2.2.2.2.2.1)))))))), (sqfa NB588_589 ((sqfa NB588_589 ((sqfa NB588_589 ((sqfa NB588_589 (hHeld.2.2.2.2.2.2.1)))))))), (sqfa NB588_589 ((sqfa NB588_589 ((sqfa NB588_589 ((sqfa NB588_589 (hHeld.2.2.2.2.2.2.2.1)))))))), (sqfa NB605_589 ((sqfa NB605_589 ((sqfa NB605_589 ((sqfa NB605_589 (hHeld.2.2.2.2.2.2.2.2.1)))))))), (sqfa NB605_589 ((sqfa NB605_589 ((sqfa NB605_589 ((sqfa NB605_589 (hHeld.2.2.2.2.2.2.2.2.2))))))))⟩ (fun hHeld => ?_)
   clear hK K
   refine done_ (done_of HT_.out (by kernel_rfl)) ?_
   try go_wp2
   refine bodyPost_ret (results_cell_row rfl _ _ gb589 30 #[.int .i64 t616, .int .i64 t617, .int .i64 t618, .int .i64 t619] (0, 0) _ rfl (sqP BK589) Try.underlying30 rfl (by kernel_rfl)) rfl ?_
   exact sqe HB

end Go.Proofs.Ytkekcenlleebeaa.PFnValLattice
