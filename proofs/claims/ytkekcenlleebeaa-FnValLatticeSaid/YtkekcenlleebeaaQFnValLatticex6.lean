/- Functions of the program as plain Lean functions, and that calls of them come to what these tell. Conditions: those in each law. -/
import Derived.Test.YtkekcenlleebeaaSq
import Derived.Test.YtkekcenlleebeaaDFnValLattice
import Derived.Test.YtkekcenlleebeaaQFnValLatticex0
import Derived.Test.YtkekcenlleebeaaQFnValLatticex4
import Derived.Test.YtkekcenlleebeaaQFnValLatticex5
namespace Go.Proofs.Ytkekcenlleebeaa.PFnValLattice
open Go.RowKit Go.Proofs.Ytkekcenlleebeaa.Sq Go.Proofs.YtkekcenlleebeaaW.PrintWords Go.Proofs.YtkekcenlleebeaaW.PrintLast Go.Proofs.YtkekcenlleebeaaW.PrintMore
attribute [local go_sem] max2_int min2_int max_two min_two max_three min_three max_four min_four   -- for this text's walks alone
set_option linter.unusedVariables false
set_option linter.unusedSimpArgs false

/-! ### impl_ValHas: function 19 -/
set_option maxHeartbeats 8000000 in
set_option maxRecDepth 100000 in
theorem impl_ValHas.calls (k : Nat) (a0_0 : Int) (a0_1 : Int) (a0_2 : Int) (a0_3 : Int) (a1 : Int) (r : Bool) (w : World) (h : impl_ValHas.f k a0_0 a0_1 a0_2 a0_3 a1 = some r) :
  Calls Try.prog 19 #[.agg #[.int .i64 a0_0, .int .i64 a0_1, .int .i64 a0_2, .int .i64 a0_3], .int .i64 a1] w fun e w' => e = .returned (.bool r) ∧ Below w.heap.size w w' := by
 have hu30 := Try.underlying30
 have HB := Aside0.mk (Below.refl w.heap.size w)
 have H := h
 unfold impl_ValHas.f at H
 clear h
 replace H := sqbi H
 obtain ⟨t161, A3, H⟩ := H
 try dsimp only at H
 rcases sqI (t161 = true) with c4 | c4
 ·replace c4 := Bool.eq_false_iff.mpr c4
  subst c4
  have H1 : (some false) = some r := by rw [if_neg (show ¬ (false = true) by decide)] at H; exact H
  clear H
  have H := H1
  clear H1
  obtain rfl := Option.some.inj H
  go_enter Try.func19, Try.ntmps19
  go_wp2_with (first | ((with_reducible refine gate_dst (N := 2) rfl ?_); refine sqx 2 #[.int .i64 a0_0, .int .i64 a0_1, .int .i64 a0_2, .int .i64 a0_3] 30 ?_; intro gb160 hg w25 hbox hb; have BK160 := Aside0.mk hbox; have GW160 := sqg HB hg; replace HB := sqs HB hb; clear hb hbox hg; obtain ⟨_, _, _, _, _, _, _, _⟩ := sqc4 BK160) | ((with_reducible refine gate_callee (f := 18) rfl ?_); refine sqL (some 6) Try.func18 #[.agg #[.int .i64 a0_0, .int .i64 a0_1, .int .i64 a0_2, .int .i64 a0_3]] ?_; (with_reducible refine (impl_ValOk.calls k a0_0 a0_1 a0_2 a0_3 false _ A3.out).mono ?_); rintro e w27 ⟨rfl, hb⟩; refine ⟨_, rfl, ?_⟩; replace BK160 := sqb BK160 hb; replace HB := sqs HB hb; (try clear hb)))
  go_ret
  exact sqe HB
 subst c4
 have H1 : ((impl_Val_span.f a0_0 a0_1 a0_2 a0_3).bind fun bt162 => ((impl_RangeHas.f bt162.1 bt162.2 a1).bind fun t164 => (if t164 = true then ((impl_Val_rest.f a0_0 a0_1 a0_2 a0_3).bind fun bt165 => ((impl_RestHas.f k bt165.1 bt165.2 a1).bind fun t167 => (some t167))) else (some false)))) = some r := by rw [if_pos rfl] at H; exact H
 clear H
 have H := H1
 clear H1
 replace H := sqbi H
 obtain ⟨⟨t162, t163⟩, A5, H⟩ := H
 try dsimp only at H
 replace H := sqbi H
 obtain ⟨t164, A6, H⟩ := H
 try dsimp only at H
 rcases sqI (t164 = true) with c7 | c7
 ·replace c7 := Bool.eq_false_iff.mpr c7
  subst c7
  have H1 : (some false) = some r := by rw [if_neg (show ¬ (false = true) by decide)] at H; exact H
  clear H
  have H := H1
  clear H1
  obtain rfl := Option.some.inj H
  go_enter Try.func19, Try.ntmps19
  go_wp2_with (first | ((with_reducible refine gate_dst (N := 2) rfl ?_); refine sqx 2 #[.int .i64 a0_0, .int .i64 a0_1, .int .i64 a0_2, .int .i64 a0_3] 30 ?_; intro gb160 hg w19 hbox hb; have BK160 := Aside0.mk hbox; have GW160 := sqg HB hg; replace HB := sqs HB hb; clear hb hbox hg; obtain ⟨_, _, _, _, _, _, _, _⟩ := sqc4 BK160) | ((with_reducible refine gate_callee (f := 18) rfl ?_); refine sqL (some 6) Try.func18 #[.agg #[.int .i64 a0_0, .int .i64 a0_1, .int .i64 a0_2, .int .i64 a0_3]] ?_; (with_reducible refine (impl_ValOk.calls k a0_0 a0_1 a0_2 a0_3 true _ A3.out).mono ?_); rintro e w21 ⟨rfl, hb⟩; refine ⟨_, rfl, ?_⟩; replace BK160 := sqb BK160 hb; replace HB := sqs HB hb; (try clear hb); obtain ⟨_, _, _, _, _, _, _, _⟩ := sqc4 BK160) | (go_at_call 103; (with_reducible refine (impl_Val_span.calls a0_0 a0_1 a0_2 a0_3 t162 t163 _ A5.out).mono ?_); rintro e w23 ⟨rfl, hb⟩; replace BK160 := sqb BK160 hb; replace HB := sqs HB hb; (try clear hb)) | (go_at_call 48; (with_reducible refine (impl_RangeHas.calls t162 t163 a1 false _ A6.out).mono ?_); rintro e w24 ⟨rfl, hb⟩; replace BK160 := sqb BK160 hb; replace HB := sqs HB hb; (try clear hb)))
  go_ret
  exact sqe HB
 subst c7
 have H1 : ((impl_Val_rest.f a0_0 a0_1 a0_2 a0_3).bind fun bt165 => ((impl_RestHas.f k bt165.1 bt165.2 a1).bind fun t167 => (some t167))) = some r := by rw [if_pos rfl] at H; exact H
 clear H
 have H := H1
 clear H1
 replace H := sqbi H
 obtain ⟨⟨t165, t166⟩, A8, H⟩ := H
 try dsimp only at H
 replace H := sqbi H
 obtain ⟨t167, A9, H⟩ := H
 try dsimp only at H
 obtain rfl := Option.some.inj H
 go_enter Try.func19, Try.ntmps19
 go_wp2_with (first | ((with_reducible refine gate_dst (N := 2) rfl ?_); refine sqx 2 #[.int .i64 a0_0, .int .i64 a0_1, .int .i64 a0_2, .int .i64 a0_3] 30 ?_; intro gb160 hg w10 hbox hb; have BK160 := Aside0.mk hbox; have GW160 := sqg HB hg; replace HB := sqs HB hb; clear hb hbox hg; obtain ⟨_, _, _, _, _, _, _, _⟩ := sqc4 BK160) | ((with_reducible refine gate_callee (f := 18) rfl ?_); refine sqL (some 6) Try.func18 #[.agg #[.int .i64 a0_0, .int .i64 a0_1, .int .i64 a0_2, .int .i64 a0_3]] ?_; (with_reducible refine (impl_ValOk.calls k a0_0 a0_1 a0_2 a0_3 true _ A3.out).mono ?_); rintro e w12 ⟨rfl, hb⟩; refine ⟨_, rfl, ?_⟩; replace BK160 := sqb BK160 hb; replace HB := sqs HB hb; (try clear hb); obtain ⟨_, _, _, _, _, _, _, _⟩ := sqc4 BK160) | (go_at_call 103; (with_reducible refine (impl_Val_span.calls a0_0 a0_1 a0_2 a0_3 t162 t163 _ A5.out).mono ?_); rintro e w14 ⟨rfl, hb⟩; replace BK160 := sqb BK160 hb; replace HB := sqs HB hb; (try clear hb)) | (go_at_call 48; (with_reducible refine (impl_RangeHas.calls t162 t163 a1 true _ A6.out).mono ?_); rintro e w15 ⟨rfl, hb⟩; replace BK160 := sqb BK160 hb; replace HB := sqs HB hb; (try clear hb); obtain ⟨_, _, _, _, _, _, _, _⟩ := sqc4 BK160) | (go_at_call 104; (with_reducible refine (impl_Val_rest.calls a0_0 a0_1 a0_2 a0_3 t165 t166 _ A8.out).mono ?_); rintro e w17 ⟨rfl, hb⟩; replace BK160 := sqb BK160 hb; replace HB := sqs HB hb; (try clear hb)) | (go_at_call 68; (with_reducible refine (impl_RestHas.calls k t165 t166 a1 t167 _ A9.out).mono ?_); rintro e w18 ⟨rfl, hb⟩; replace BK160 := sqb BK160 hb; replace HB := sqs HB hb; (try clear hb)))
 go_ret
 exact sqe HB

/-! ### spec_l1In: function 105 -/
set_option maxHeartbeats 8000000 in
set_option maxRecDepth 100000 in
theorem spec_l1In.calls (a0 : Int) (a1 : Int) (a2 : Int) (r : Bool) (w : World) (h : spec_l1In.f a0 a1 a2 = some r) :
  Calls Try.prog 105 #[.int .i64 a0, .int .i64 a1, .int .i64 a2] w fun e w' => e = .returned (.bool r) ∧ Drawn0 w w' := by
 have H := h
 unfold spec_l1In.f at H
 clear h
 replace H := sqj H
 rcases H with ⟨c4, H⟩ | ⟨c4, H⟩
 ·have c4b0 : decide (a1 ≤ a0) = true := decide_eq_true c4
  clear c4
  obtain rfl := Option.some.inj H
  go_enter Try.func105, Try.ntmps105
  go_wp2
  go_ret
  exact ⟨by first | rfl | (simp; done) | (simp [*]; done), by repeat (first | exact Drawn0.refl _ | apply Drawn0.step)⟩
 have c4b0 : decide (a1 ≤ a0) = false := decide_eq_false c4
 clear c4
 obtain rfl := Option.some.inj H
 go_enter Try.func105, Try.ntmps105
 go_wp2
 go_ret
 exact ⟨by first | rfl | (simp; done) | (simp [*]; done), by repeat (first | exact Drawn0.refl _ | apply Drawn0.step)⟩

/-! ### spec_NumOk: function 56 -/
set_option maxHeartbeats 8000000 in
set_option maxRecDepth 100000 in
theorem spec_NumOk.calls (a0 : Int) (r : Bool) (w : World) (h : spec_NumOk.f a0 = some r) :
  Calls Try.prog 56 #[.int .i64 a0] w fun e w' => e = .returned (.bool r) ∧ Drawn0 w w' := by
 have H := h
 unfold spec_NumOk.f at H
 clear h
 replace H := sqbi H
 obtain ⟨t168, A2, H⟩ := H
 try dsimp only at H
 obtain rfl := Option.some.inj H
 go_enter Try.func56, Try.ntmps56
 go_wp2_with (first | ((with_reducible refine gate_callee (f := 105) rfl ?_); refine sqL (some 4) Try.func105 #[.int .i64 a0, .int .i64 (-2147483648), .int .i64 2147483647] ?_; (with_reducible refine (spec_l1In.calls a0 (-2147483648) 2147483647 t168 _ A2.out).mono ?_); rintro e w' ⟨rfl, ⟨nd, rfl⟩⟩; refine ⟨_, rfl, ?_⟩))
 go_ret
 exact ⟨by first | rfl | (simp; done) | (simp [*]; done), by repeat (first | exact Drawn0.refl _ | apply Drawn0.step)⟩

/-! ### spec_l8None: function 99 -/
set_option maxHeartbeats 8000000 in
set_option maxRecDepth 100000 in
theorem spec_l8None.calls  (r1 : Int) (r2 : Int) (w : World) (h : spec_l8None.f  = some (r1, r2)) :
  Calls Try.prog 99 #[] w fun e w' => e = .returned (.agg #[.int .i64 r1, .int .i64 r2]) ∧ Below w.heap.size w w' := by
 have hu24 := Try.underlying24
 have HB := Aside0.mk (Below.refl w.heap.size w)
 have H := h
 unfold spec_l8None.f at H
 clear h
 simp only [Option.some.injEq, Prod.mk.injEq] at H
 obtain ⟨rfl, rfl⟩ := H
 go_enter Try.func99, Try.ntmps99
 go_wp2_with (first | ((with_reducible refine gate_dst (N := 0) rfl ?_); refine sqx 0 #[.int .i64 0, .int .i64 0] 24 ?_; intro gb169 hg w1 hbox hb; have BK169 := Aside0.mk hbox; have GW169 := sqg HB hg; replace HB := sqs HB hb; clear hb hbox hg; obtain ⟨_, _, _, _⟩ := sqc2 BK169))
 refine bodyPost_ret (results_cell_row rfl _ _ gb169 24 #[.int .i64 1, .int .i64 0] (0, 0) _ rfl (sqP BK169) Try.underlying24 rfl (by kernel_rfl)) rfl ?_
 exact sqe HB

end Go.Proofs.Ytkekcenlleebeaa.PFnValLattice
