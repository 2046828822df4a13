/- Functions of the program as plain Lean functions, and that calls of them come to what these tell. Conditions: those in each law. -/
import Derived.Test.YtnmgckdgmplddaaSq
import Derived.Test.YtnmgckdgmplddaaDFnExactAbsHas
import Derived.Test.YtnmgckdgmplddaaQFnExactAbsHasx0
import Derived.Test.YtnmgckdgmplddaaQFnExactAbsHasx16
import Derived.Test.YtnmgckdgmplddaaQFnExactAbsHasx17
import Derived.Test.YtnmgckdgmplddaaQFnExactAbsHasx18
namespace Go.Proofs.Ytnmgckdgmplddaa.PFnExactAbsHas
open Go.RowKit Go.Proofs.Ytnmgckdgmplddaa.Sq Go.Proofs.YtnmgckdgmplddaaW.PrintWords Go.Proofs.YtnmgckdgmplddaaW.PrintLast Go.Proofs.YtnmgckdgmplddaaW.PrintMore
attribute [local go_sem] max2_int min2_int max_two min_two max_three min_three max_four min_four   -- for this text's walks alone
set_option linter.unusedVariables false
set_option linter.unusedSimpArgs false

/-! ### impl_RestHas: function 62 -/
set_option maxHeartbeats 8000000 in
set_option maxRecDepth 100000 in
theorem impl_RestHas.calls (k : Nat) (a0_0 : Int) (a0_1 : Int) (a1 : Int) (r : Bool) (w : World) (h : impl_RestHas.f k a0_0 a0_1 a1 = some r) :
  Calls Try.prog 62 #[.agg #[.int .i64 a0_0, .int .i64 a0_1], .int .i64 a1] w fun e w' => e = .returned (.bool r) ∧ Below w.heap.size w w' := by
 have hu96 := Try.underlying96
 have HB := Aside0.mk (Below.refl w.heap.size w)
 have H := h
 unfold impl_RestHas.f at H
 clear h
 have HC3 := Aside0.mk H
 clear H
 go_enter Try.func62, Try.ntmps62
 go_upto_region 1 with (first | ((with_reducible refine gate_dst (N := 2) rfl ?_); refine sqx 2 #[.int .i64 a0_0, .int .i64 a0_1] 96 ?_; intro gb424 hg w4 hbox hb; have BK424 := Aside0.mk hbox; have GW424 := sqg HB hg; have GE424 := sqg HB hg; replace HB := sqs HB hb; clear hb hbox hg))
 repeat (go_quiet (first | ((with_reducible refine gate_dst (N := 2) rfl ?_); refine sqx 2 #[.int .i64 a0_0, .int .i64 a0_1] 96 ?_; intro gb424 hg w4 hbox hb; have BK424 := Aside0.mk hbox; have GW424 := sqg HB hg; have GE424 := sqg HB hg; replace HB := sqs HB hb; clear hb hbox hg)); go_upto_region 1 with (first | ((with_reducible refine gate_dst (N := 2) rfl ?_); refine sqx 2 #[.int .i64 a0_0, .int .i64 a0_1] 96 ?_; intro gb424 hg w4 hbox hb; have BK424 := Aside0.mk hbox; have GW424 := sqg HB hg; have GE424 := sqg HB hg; replace HB := sqs HB hb; clear hb hbox hg)))
 (try simp only [Act.put, List.setIfInBounds_toArray, List.set_cons_zero, List.set_cons_succ])
 go_cut [12] (fun v12 wc => ∃ (kq : Nat) (x12_2 : Bool), v12 = .bool x12_2 ∧ Aside0 (impl_RestHas.j0 kq a1 x12_2 a0_0 a0_1 = some r) ∧ Aside0 (kq ≤ k) ∧ Aside0 (wc.heap[gb424]? = some (.cells #[.int .i64 a0_0, .int .i64 a0_1] 96 (0, 0))) ∧ Aside0 (Below w.heap.size w wc))
 case first =>
  have H := HC3.out
  clear HC3
  replace H := Option.bind_eq_some_iff.mp H
  obtain ⟨t425, A50, H⟩ := H
  try dsimp only at H
  have A5 := Aside0.mk A50
  clear A50
  rcases sqI (t425 = true) with c6 | c6
  ·replace c6 := Bool.eq_false_iff.mpr c6
   subst c6
   have H1 : (impl_RestHas.j0 k a1 true a0_0 a0_1) = some r := by rw [if_neg (show ¬ (false = true) by decide)] at H; exact H
   clear H
   have H := H1
   clear H1
   have H' := Aside0.mk H
   clear H
   obtain ⟨hcz10_0, hcz10_1, hfz10_0, hfz10_1⟩ := sqc2 BK424
   go_wp2_with (first | (go_at_call 76; (with_reducible refine (impl_RestOk.calls a0_0 a0_1 false _ A5.out).mono ?_); rintro e w11 ⟨rfl, hb⟩; replace BK424 := sqb BK424 hb; replace HB := sqs HB hb; (try clear hb)))
   repeat (go_quiet (first | (go_at_call 76; (with_reducible refine (impl_RestOk.calls a0_0 a0_1 false _ A5.out).mono ?_); rintro e w11 ⟨rfl, hb⟩; replace BK424 := sqb BK424 hb; replace HB := sqs HB hb; (try clear hb))); try go_wp2_with (first | (go_at_call 76; (with_reducible refine (impl_RestOk.calls a0_0 a0_1 false _ A5.out).mono ?_); rintro e w11 ⟨rfl, hb⟩; replace BK424 := sqb BK424 hb; replace HB := sqs HB hb; (try clear hb))))
   go_meet
   case rel => exact ⟨_, (true), (by first | rfl | (simp; done) | (simp [*]; done)), H', ⟨by first | omega | exact Nat.le_refl _⟩, sqk BK424, sqh HB⟩
  subst c6
  have H1 : ((impl_NumOk.f a1).bind fun t426 => (impl_RestHas.j0 k a1 (!t426) a0_0 a0_1)) = some r := by rw [if_pos rfl] at H; exact H
  clear H
  have H := H1
  clear H1
  replace H := Option.bind_eq_some_iff.mp H
  obtain ⟨t426, A70, H⟩ := H
  try dsimp only at H
  have A7 := Aside0.mk A70
  clear A70
  have H' := Aside0.mk H
  clear H
  obtain ⟨hcz8_0, hcz8_1, hfz8_0, hfz8_1⟩ := sqc2 BK424
  go_wp2_with (first | (go_at_call 76; (with_reducible refine (impl_RestOk.calls a0_0 a0_1 true _ A5.out).mono ?_); rintro e w9 ⟨rfl, hb⟩; replace BK424 := sqb BK424 hb; replace HB := sqs HB hb; (try clear hb)) | (go_at_call 64; (with_reducible refine (impl_NumOk.calls a1 t426 _ A7.out).mono ?_); rintro e w' ⟨rfl, ⟨nd, rfl⟩⟩; (try first | exact ⟨rfl, _, World.drewN_drewN _ _ _⟩ | exact ⟨rfl, _, Eq.trans (World.drewN_drewN _ _ _) (congrArg (World.drewN _) (Nat.add_assoc _ _ _))⟩)))
  repeat (go_quiet (first | (go_at_call 76; (with_reducible refine (impl_RestOk.calls a0_0 a0_1 true _ A5.out).mono ?_); rintro e w9 ⟨rfl, hb⟩; replace BK424 := sqb BK424 hb; replace HB := sqs HB hb; (try clear hb)) | (go_at_call 64; (with_reducible refine (impl_NumOk.calls a1 t426 _ A7.out).mono ?_); rintro e w' ⟨rfl, ⟨nd, rfl⟩⟩; (try first | exact ⟨rfl, _, World.drewN_drewN _ _ _⟩ | exact ⟨rfl, _, Eq.trans (World.drewN_drewN _ _ _) (congrArg (World.drewN _) (Nat.add_assoc _ _ _))⟩))); try go_wp2_with (first | (go_at_call 76; (with_reducible refine (impl_RestOk.calls a0_0 a0_1 true _ A5.out).mono ?_); rintro e w9 ⟨rfl, hb⟩; replace BK424 := sqb BK424 hb; replace HB := sqs HB hb; (try clear hb)) | (go_at_call 64; (with_reducible refine (impl_NumOk.calls a1 t426 _ A7.out).mono ?_); rintro e w' ⟨rfl, ⟨nd, rfl⟩⟩; (try first | exact ⟨rfl, _, World.drewN_drewN _ _ _⟩ | exact ⟨rfl, _, Eq.trans (World.drewN_drewN _ _ _) (congrArg (World.drewN _) (Nat.add_assoc _ _ _))⟩))))
  go_meet
  case rel => exact ⟨_, (!t426), (by first | rfl | (simp; done) | (simp [*]; done)), H', ⟨by first | omega | exact Nat.le_refl _⟩, sqk BK424, sqh HB⟩
 case rest =>
  clear HC3
  obtain ⟨kq, x12_2, rfl, HA, HJ2, BK424, HB⟩ := hcut
  cases kq with
  | zero => exact absurd HA.out (by simp [impl_RestHas.j0])
  | succ kj2 =>
   have H := HA.out
   clear HA
   simp only [impl_RestHas.j0] at H
   by_cases c12 : x12_2 = true
   ·subst c12
    have H1 : (some false) = some r := by rw [if_pos rfl] at H; exact H
    clear H
    have H := H1
    clear H1
    obtain rfl := Option.some.inj H
    go_wp2
    repeat (go_quiet (fail); try go_wp2)
    go_ret
    exact sqe HB
   replace c12 := Bool.eq_false_iff.mpr c12
   subst c12
   have H1 : (if a0_0 = 0 then (some (a1 == a0_1)) else ((impl_restMod.f a1 a0_0).bind fun t427 => (some (t427 == a0_1)))) = some r := by rw [if_neg (show ¬ (false = true) by decide)] at H; exact H
   clear H
   have H := H1
   clear H1
   replace H := sqj H
   rcases H with ⟨c13, H⟩ | ⟨c13, H⟩
   ·have c13b0 : (a0_0 == 0) = true := beq_iff_eq.mpr c13
    have c13b1 : (a0_0 != 0) = false := bne_eq_false_iff_eq.mpr c13
    clear c13
    obtain rfl := Option.some.inj H
    obtain ⟨hcz14_0, hcz14_1, hfz14_0, hfz14_1⟩ := sqc2 BK424
    go_wp2
    repeat (go_quiet (fail); try go_wp2)
    go_ret
    exact sqe HB
   have c13b0 : (a0_0 == 0) = false := beq_eq_false_iff_ne.mpr c13
   have c13b1 : (a0_0 != 0) = true := bne_iff_ne.mpr c13
   replace H := Option.bind_eq_some_iff.mp H
   obtain ⟨t427, A150, H⟩ := H
   try dsimp only at H
   have A15 := Aside0.mk A150
   clear A150
   obtain rfl := Option.some.inj H
   obtain ⟨hcz16_0, hcz16_1, hfz16_0, hfz16_1⟩ := sqc2 BK424
   go_wp2_with (first | (go_at_call 77; (with_reducible refine (impl_restMod.calls a1 a0_0 t427 _ A15.out).mono ?_); rintro e w' ⟨rfl, ⟨nd, rfl⟩⟩; (try first | exact ⟨rfl, _, World.drewN_drewN _ _ _⟩ | exact ⟨rfl, _, Eq.trans (World.drewN_drewN _ _ _) (congrArg (World.drewN _) (Nat.add_assoc _ _ _))⟩)))
   repeat (go_quiet (first | (go_at_call 77; (with_reducible refine (impl_restMod.calls a1 a0_0 t427 _ A15.out).mono ?_); rintro e w' ⟨rfl, ⟨nd, rfl⟩⟩; (try first | exact ⟨rfl, _, World.drewN_drewN _ _ _⟩ | exact ⟨rfl, _, Eq.trans (World.drewN_drewN _ _ _) (congrArg (World.drewN _) (Nat.add_assoc _ _ _))⟩))); try go_wp2_with (first | (go_at_call 77; (with_reducible refine (impl_restMod.calls a1 a0_0 t427 _ A15.out).mono ?_); rintro e w' ⟨rfl, ⟨nd, rfl⟩⟩; (try first | exact ⟨rfl, _, World.drewN_drewN _ _ _⟩ | exact ⟨rfl, _, Eq.trans (World.drewN_drewN _ _ _) (congrArg (World.drewN _) (Nat.add_assoc _ _ _))⟩))))
   go_ret
   exact sqe HB

/-! ### impl_ValHas: function 31 -/
set_option maxHeartbeats 8000000 in
set_option maxRecDepth 100000 in
theorem impl_ValHas.calls (k : Nat) (a0_0 : Int) (a0_1 : Int) (a0_2 : Int) (a0_3 : Int) (a1 : Int) (r : Bool) (w : World) (h : impl_ValHas.f k a0_0 a0_1 a0_2 a0_3 a1 = some r) :
  Calls Try.prog 31 #[.agg #[.int .i64 a0_0, .int .i64 a0_1, .int .i64 a0_2, .int .i64 a0_3], .int .i64 a1] w fun e w' => e = .returned (.bool r) ∧ Below w.heap.size w w' := by
 have hu60 := Try.underlying60
 have HB := Aside0.mk (Below.refl w.heap.size w)
 have H := h
 unfold impl_ValHas.f at H
 clear h
 replace H := Option.bind_eq_some_iff.mp H
 obtain ⟨t429, A30, H⟩ := H
 try dsimp only at H
 have A3 := Aside0.mk A30
 clear A30
 rcases sqI (t429 = true) with c4 | c4
 ·replace c4 := Bool.eq_false_iff.mpr c4
  subst c4
  have H1 : (some false) = some r := by rw [if_neg (show ¬ (false = true) by decide)] at H; exact H
  clear H
  have H := H1
  clear H1
  obtain rfl := Option.some.inj H
  go_enter Try.func31, Try.ntmps31
  go_wp2_with (first | ((with_reducible refine gate_dst (N := 2) rfl ?_); refine sqx 2 #[.int .i64 a0_0, .int .i64 a0_1, .int .i64 a0_2, .int .i64 a0_3] 60 ?_; intro gb428 hg w25 hbox hb; have BK428 := Aside0.mk hbox; have GW428 := sqg HB hg; have GE428 := sqg HB hg; replace HB := sqs HB hb; clear hb hbox hg; obtain ⟨hcz26_0, hcz26_1, hcz26_2, hcz26_3, hfz26_0, hfz26_1, hfz26_2, hfz26_3⟩ := sqc4 BK428) | ((with_reducible refine gate_callee (f := 57) rfl ?_); refine sqL (some 6) Try.func57 #[.agg #[.int .i64 a0_0, .int .i64 a0_1, .int .i64 a0_2, .int .i64 a0_3]] ?_; (with_reducible refine (impl_ValOk.calls k a0_0 a0_1 a0_2 a0_3 false _ A3.out).mono ?_); rintro e w27 ⟨rfl, hb⟩; refine ⟨_, rfl, ?_⟩; replace BK428 := sqb BK428 hb; replace HB := sqs HB hb; (try clear hb)))
  go_ret
  exact sqe HB
 subst c4
 have H1 : ((impl_Val_span.f a0_0 a0_1 a0_2 a0_3).bind fun bt430 => ((impl_RangeHas.f bt430.1 bt430.2 a1).bind fun t432 => (if t432 = true then ((impl_Val_rest.f a0_0 a0_1 a0_2 a0_3).bind fun bt433 => ((impl_RestHas.f k bt433.1 bt433.2 a1).bind fun t435 => (some t435))) else (some false)))) = some r := by rw [if_pos rfl] at H; exact H
 clear H
 have H := H1
 clear H1
 replace H := Option.bind_eq_some_iff.mp H
 obtain ⟨⟨t430, t431⟩, A50, H⟩ := H
 try dsimp only at H
 have A5 := Aside0.mk A50
 clear A50
 replace H := Option.bind_eq_some_iff.mp H
 obtain ⟨t432, A60, H⟩ := H
 try dsimp only at H
 have A6 := Aside0.mk A60
 clear A60
 rcases sqI (t432 = true) with c7 | c7
 ·replace c7 := Bool.eq_false_iff.mpr c7
  subst c7
  have H1 : (some false) = some r := by rw [if_neg (show ¬ (false = true) by decide)] at H; exact H
  clear H
  have H := H1
  clear H1
  obtain rfl := Option.some.inj H
  go_enter Try.func31, Try.ntmps31
  go_wp2_with (first | ((with_reducible refine gate_dst (N := 2) rfl ?_); refine sqx 2 #[.int .i64 a0_0, .int .i64 a0_1, .int .i64 a0_2, .int .i64 a0_3] 60 ?_; intro gb428 hg w19 hbox hb; have BK428 := Aside0.mk hbox; have GW428 := sqg HB hg; have GE428 := sqg HB hg; replace HB := sqs HB hb; clear hb hbox hg; obtain ⟨hcz20_0, hcz20_1, hcz20_2, hcz20_3, hfz20_0, hfz20_1, hfz20_2, hfz20_3⟩ := sqc4 BK428) | ((with_reducible refine gate_callee (f := 57) rfl ?_); refine sqL (some 6) Try.func57 #[.agg #[.int .i64 a0_0, .int .i64 a0_1, .int .i64 a0_2, .int .i64 a0_3]] ?_; (with_reducible refine (impl_ValOk.calls k a0_0 a0_1 a0_2 a0_3 true _ A3.out).mono ?_); rintro e w21 ⟨rfl, hb⟩; refine ⟨_, rfl, ?_⟩; replace BK428 := sqb BK428 hb; replace HB := sqs HB hb; (try clear hb); obtain ⟨hcz22_0, hcz22_1, hcz22_2, hcz22_3, hfz22_0, hfz22_1, hfz22_2, hfz22_3⟩ := sqc4 BK428) | (go_at_call 61; (with_reducible refine (impl_Val_span.calls a0_0 a0_1 a0_2 a0_3 t430 t431 _ A5.out).mono ?_); rintro e w23 ⟨rfl, hb⟩; replace BK428 := sqb BK428 hb; replace HB := sqs HB hb; (try clear hb)) | (go_at_call 60; (with_reducible refine (impl_RangeHas.calls t430 t431 a1 false _ A6.out).mono ?_); rintro e w24 ⟨rfl, hb⟩; replace BK428 := sqb BK428 hb; replace HB := sqs HB hb; (try clear hb)))
  go_ret
  exact sqe HB
 subst c7
 have H1 : ((impl_Val_rest.f a0_0 a0_1 a0_2 a0_3).bind fun bt433 => ((impl_RestHas.f k bt433.1 bt433.2 a1).bind fun t435 => (some t435))) = some r := by rw [if_pos rfl] at H; exact H
 clear H
 have H := H1
 clear H1
 replace H := Option.bind_eq_some_iff.mp H
 obtain ⟨⟨t433, t434⟩, A80, H⟩ := H
 try dsimp only at H
 have A8 := Aside0.mk A80
 clear A80
 replace H := Option.bind_eq_some_iff.mp H
 obtain ⟨t435, A90, H⟩ := H
 try dsimp only at H
 have A9 := Aside0.mk A90
 clear A90
 obtain rfl := Option.some.inj H
 go_enter Try.func31, Try.ntmps31
 go_wp2_with (first | ((with_reducible refine gate_dst (N := 2) rfl ?_); refine sqx 2 #[.int .i64 a0_0, .int .i64 a0_1, .int .i64 a0_2, .int .i64 a0_3] 60 ?_; intro gb428 hg w10 hbox hb; have BK428 := Aside0.mk hbox; have GW428 := sqg HB hg; have GE428 := sqg HB hg; replace HB := sqs HB hb; clear hb hbox hg; obtain ⟨hcz11_0, hcz11_1, hcz11_2, hcz11_3, hfz11_0, hfz11_1, hfz11_2, hfz11_3⟩ := sqc4 BK428) | ((with_reducible refine gate_callee (f := 57) rfl ?_); refine sqL (some 6) Try.func57 #[.agg #[.int .i64 a0_0, .int .i64 a0_1, .int .i64 a0_2, .int .i64 a0_3]] ?_; (with_reducible refine (impl_ValOk.calls k a0_0 a0_1 a0_2 a0_3 true _ A3.out).mono ?_); rintro e w12 ⟨rfl, hb⟩; refine ⟨_, rfl, ?_⟩; replace BK428 := sqb BK428 hb; replace HB := sqs HB hb; (try clear hb); obtain ⟨hcz13_0, hcz13_1, hcz13_2, hcz13_3, hfz13_0, hfz13_1, hfz13_2, hfz13_3⟩ := sqc4 BK428) | (go_at_call 61; (with_reducible refine (impl_Val_span.calls a0_0 a0_1 a0_2 a0_3 t430 t431 _ A5.out).mono ?_); rintro e w14 ⟨rfl, hb⟩; replace BK428 := sqb BK428 hb; replace HB := sqs HB hb; (try clear hb)) | (go_at_call 60; (with_reducible refine (impl_RangeHas.calls t430 t431 a1 true _ A6.out).mono ?_); rintro e w15 ⟨rfl, hb⟩; replace BK428 := sqb BK428 hb; replace HB := sqs HB hb; (try clear hb); obtain ⟨hcz16_0, hcz16_1, hcz16_2, hcz16_3, hfz16_0, hfz16_1, hfz16_2, hfz16_3⟩ := sqc4 BK428) | (go_at_call 63; (with_reducible refine (impl_Val_rest.calls a0_0 a0_1 a0_2 a0_3 t433 t434 _ A8.out).mono ?_); rintro e w17 ⟨rfl, hb⟩; replace BK428 := sqb BK428 hb; replace HB := sqs HB hb; (try clear hb)) | (go_at_call 62; (with_reducible refine (impl_RestHas.calls k t433 t434 a1 t435 _ A9.out).mono ?_); rintro e w18 ⟨rfl, hb⟩; replace BK428 := sqb BK428 hb; replace HB := sqs HB hb; (try clear hb)))
 go_ret
 exact sqe HB

/-! ### impl_absHasArray: function 32 -/
set_option maxHeartbeats 8000000 in
set_option maxRecDepth 100000 in
theorem impl_absHasArray.calls (k : Nat) (A0 : Option Addr) (c0 : Nat) (l0 : List Int) (a1 : Int) (r : Bool) (w : World) (hr0 : Kd.C (Kd.int .i64) w A0 l0.length l0) (hc0 : l0.length ≤ c0) (h : impl_absHasArray.f k l0 a1 = some r) :
  Calls Try.prog 32 #[.slice A0 l0.length c0, .int .i64 a1] w fun e w' => e = .returned (.bool r) ∧ Drawn0 w w' := by
 have HR0 := Aside0.mk hr0
 have HC0 := Aside0.mk hc0
 clear hr0 hc0
 have H := h
 unfold impl_absHasArray.f at H
 clear h
 have H' := Aside0.mk H
 clear H
 go_enter Try.func32, Try.ntmps32
 go_wp2
 go_loopg [9] k (fun kq v9 w' => ∃ (x9_1 : Int), v9 = .int .i64 x9_1 ∧ Aside0 (impl_absHasArray.l0 kq a1 l0 (l0.length : Int) x9_1 = some r) ∧ Aside0 (kq ≤ k) ∧ Drawn0 w w')
 case atStart => exact ⟨(0), (by first | rfl | (simp; done) | (simp [*]; done)), H', ⟨Nat.le_refl _⟩, by repeat (first | exact Drawn0.refl _ | apply Drawn0.step)⟩
 case round =>
  clear H'
  obtain ⟨x9_1, rfl, HA, HK1, ⟨m1, rfl⟩⟩ := hrel
  cases gk with
  | zero => exact absurd HA.out (by simp [impl_absHasArray.l0])
  | succ k1 =>
   have H := HA.out
   clear HA
   simp only [impl_absHasArray.l0] at H
   replace H := sqi H
   rcases H with ⟨c3, H⟩ | ⟨c3, H⟩
   ·have c3b0 := decide_eq_false c3
    clear c3
    obtain rfl := Option.some.inj H
    go_wp2
    go_ret
    exact ⟨by first | rfl | (simp; done) | (simp [*]; done), by repeat (first | exact Drawn0.refl _ | apply Drawn0.step)⟩
   have c3b0 := decide_eq_true c3
   clear c3
   replace H := sqi H
   rcases H with ⟨c4, H⟩ | ⟨c4, H⟩
   ·exact absurd H (by simp)
   have c4b0 := decide_eq_true c4
   clear c4
   replace H := sqi H
   rcases H with ⟨c5, H⟩ | ⟨c5, H⟩
   ·exact absurd H (by simp)
   have c5b0 := decide_eq_true c5
   clear c5
   replace H := sqj H
   rcases H with ⟨c6, H⟩ | ⟨c6, H⟩
   ·have c6b0 : ((rd l0 x9_1) == a1) = true := beq_iff_eq.mpr c6
    have c6b1 : ((rd l0 x9_1) != a1) = false := bne_eq_false_iff_eq.mpr c6
    clear c6
    obtain rfl := Option.some.inj H
    have p436 : 0 ≤ (x9_1 : Int) := sqd
    have q436 : x9_1 < (l0.length : Int) := sqd
    obtain ⟨ad436, e436, hx436_0⟩ := Kd.at_int HR0.out x9_1 p436 q436
    cases e436
    replace p436 := eq_true p436
    replace q436 := eq_true q436
    go_wp2
    go_ret
    exact ⟨by first | rfl | (simp; done) | (simp [*]; done), by repeat (first | exact Drawn0.refl _ | apply Drawn0.step)⟩
   have c6b0 : ((rd l0 x9_1) == a1) = false := beq_eq_false_iff_ne.mpr c6
   have c6b1 : ((rd l0 x9_1) != a1) = true := bne_iff_ne.mpr c6
   have H' := Aside0.mk H
   clear H
   have p436 : 0 ≤ (x9_1 : Int) := sqd
   have q436 : x9_1 < (l0.length : Int) := sqd
   obtain ⟨ad436, e436, hx436_0⟩ := Kd.at_int HR0.out x9_1 p436 q436
   cases e436
   replace p436 := eq_true p436
   replace q436 := eq_true q436
   go_wp2
   go_roundg k1
   case measure => have := HK1.out; omega
   case rel => exact ⟨(wrap64 (x9_1 + 1)), (by first | rfl | (simp; done) | (simp [*]; done)), H', ⟨by have := HK1.out; omega⟩, by repeat (first | exact Drawn0.refl _ | apply Drawn0.step)⟩

end Go.Proofs.Ytnmgckdgmplddaa.PFnExactAbsHas
