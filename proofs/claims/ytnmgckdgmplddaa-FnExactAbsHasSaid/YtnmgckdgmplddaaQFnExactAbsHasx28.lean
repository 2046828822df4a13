/- Functions of the program as plain Lean functions, and that calls of them come to what these tell. Conditions: those in each law. -/
import Derived.Test.YtnmgckdgmplddaaSq
import Derived.Test.YtnmgckdgmplddaaDFnExactAbsHas
import Derived.Test.YtnmgckdgmplddaaQFnExactAbsHasx0
import Derived.Test.YtnmgckdgmplddaaQFnExactAbsHasx3
import Derived.Test.YtnmgckdgmplddaaQFnExactAbsHasx14
import Derived.Test.YtnmgckdgmplddaaQFnExactAbsHasx15
import Derived.Test.YtnmgckdgmplddaaQFnExactAbsHasx16
import Derived.Test.YtnmgckdgmplddaaQFnExactAbsHasx24
import Derived.Test.YtnmgckdgmplddaaQFnExactAbsHasx25
import Derived.Test.YtnmgckdgmplddaaQFnExactAbsHasx26
import Derived.Test.YtnmgckdgmplddaaQFnExactAbsHasx27
namespace Go.Proofs.Ytnmgckdgmplddaa.PFnExactAbsHas
open Go.RowKit Go.Proofs.Ytnmgckdgmplddaa.Sq Go.Proofs.YtnmgckdgmplddaaW.PrintWords Go.Proofs.YtnmgckdgmplddaaW.PrintLast Go.Proofs.YtnmgckdgmplddaaW.PrintMore
attribute [local go_sem] max2_int min2_int max_two min_two max_three min_three max_four min_four   -- for this text's walks alone
set_option linter.unusedVariables false
set_option linter.unusedSimpArgs false

/-! ### laws_FnExactAbsHas: function 3 -/
set_option maxHeartbeats 8000000 in
set_option maxRecDepth 100000 in
theorem laws_FnExactAbsHas.calls (k : Nat) (a0_0 : Bool) (A0_1 : Option Addr) (c0_1 : Nat) (l0_1 : List (S81)) (A0_2 : Option Addr) (c0_2 : Nat) (l0_2 : List (S83)) (A0_3 : Option Addr) (c0_3 : Nat) (l0_3 : List (S81)) (a0_4 : Int) (A0_5 : Option Addr) (c0_5 : Nat) (l0_5 : List Int) (A1 : Option Addr) (c1 : Nat) (l1 : List Int) (A2 : Option Addr) (c2 : Nat) (l2 : List (S72)) (A3 : Option Addr) (c3 : Nat) (l3 : List (S56)) (r : Bool) (w : World) (hr0_1 : Kd.C k81 w A0_1 l0_1.length l0_1) (hc0_1 : l0_1.length ≤ c0_1) (hr0_2 : Kd.C k83 w A0_2 l0_2.length l0_2) (hc0_2 : l0_2.length ≤ c0_2) (hr0_3 : Kd.C k81 w A0_3 l0_3.length l0_3) (hc0_3 : l0_3.length ≤ c0_3) (hr0_5 : Kd.C (Kd.int .i64) w A0_5 l0_5.length l0_5) (hc0_5 : l0_5.length ≤ c0_5) (hr1 : Kd.C (Kd.int .i64) w A1 l1.length l1) (hc1 : l1.length ≤ c1) (hr2 : Kd.C k72 w A2 l2.length l2) (hc2 : l2.length ≤ c2) (hr3 : Kd.C k56 w A3 l3.length l3) (hc3 : l3.length ≤ c3) (h : laws_FnExactAbsHas.f k a0_0 l0_1 l0_2 l0_3 a0_4 l0_5 l1 l2 l3 = some r) (hr_ : r = true := by rfl) :
  Calls Try.prog 3 #[.agg #[.bool a0_0, .slice A0_1 l0_1.length c0_1, .slice A0_2 l0_2.length c0_2, .slice A0_3 l0_3.length c0_3, .int .i64 a0_4, .slice A0_5 l0_5.length c0_5], .slice A1 l1.length c1, .slice A2 l2.length c2, .slice A3 l3.length c3] w fun e w' => e = .returned (.bool r) ∧ Below w.heap.size w w' := by
 subst hr_
 have hu28 := Try.underlying28
 have hu39 := Try.underlying39
 have HR0_1 := Aside0.mk hr0_1
 have HC0_1 := Aside0.mk hc0_1
 clear hr0_1 hc0_1
 have HR0_2 := Aside0.mk hr0_2
 have HC0_2 := Aside0.mk hc0_2
 clear hr0_2 hc0_2
 have HR0_3 := Aside0.mk hr0_3
 have HC0_3 := Aside0.mk hc0_3
 clear hr0_3 hc0_3
 have HR0_5 := Aside0.mk hr0_5
 have HC0_5 := Aside0.mk hc0_5
 clear hr0_5 hc0_5
 have HR1 := Aside0.mk hr1
 have HC1 := Aside0.mk hc1
 clear hr1 hc1
 have HR2 := Aside0.mk hr2
 have HC2 := Aside0.mk hc2
 clear hr2 hc2
 have HR3 := Aside0.mk hr3
 have HC3 := Aside0.mk hc3
 clear hr3 hc3
 have HB := Aside0.mk (Below.refl w.heap.size w)
 have H := h
 unfold laws_FnExactAbsHas.f at H
 clear h
 replace H := sqj H
 rcases H with ⟨c5, H⟩ | ⟨c5, H⟩
 ·have c5b0 : decide (1048576 < (l1.length : Int)) = true := decide_eq_true c5
  have c5b1 : decide (1048576 < l1.length) = true := decide_eq_true (by omega)
  clear c5
  clear H
  go_enter Try.func3, Try.ntmps3
  go_wp2_with (first | ((with_reducible refine gate_dst (N := 4) rfl ?_); refine sqx 4 #[.bool a0_0, .slice A0_1 l0_1.length c0_1, .slice A0_2 l0_2.length c0_2, .slice A0_3 l0_3.length c0_3, .int .i64 a0_4, .slice A0_5 l0_5.length c0_5] 28 ?_; intro gb505 hg w6 hbox hb; have BK505 := Aside0.mk hbox; have GW505 := sqg HB hg; have GE505 := sqg HB hg; replace HB := sqs HB hb; clear hb hbox hg))
  go_ret
  exact sqe HB
 have c5b0 : decide (1048576 < (l1.length : Int)) = false := decide_eq_false c5
 have c5b1 : decide (1048576 < l1.length) = false := decide_eq_false (by omega)
 clear c5
 replace H := Option.bind_eq_some_iff.mp H
 obtain ⟨t506, A70, H⟩ := H
 try dsimp only at H
 have A7 := Aside0.mk A70
 clear A70
 replace H := sqj H
 rcases H with ⟨c8, H⟩ | ⟨c8, H⟩
 ·have c8b0 := decide_eq_true c8
  clear c8
  clear H
  go_enter Try.func3, Try.ntmps3
  go_wp2_with (first | ((with_reducible refine gate_dst (N := 4) rfl ?_); refine sqx 4 #[.bool a0_0, .slice A0_1 l0_1.length c0_1, .slice A0_2 l0_2.length c0_2, .slice A0_3 l0_3.length c0_3, .int .i64 a0_4, .slice A0_5 l0_5.length c0_5] 28 ?_; intro gb505 hg w9 hbox hb; have BK505 := Aside0.mk hbox; have GW505 := sqg HB hg; have GE505 := sqg HB hg; replace HB := sqs HB hb; clear hb hbox hg; obtain ⟨hcz10_0, hcz10_1, hcz10_2, hcz10_3, hcz10_4, hcz10_5, hfz10_0, hfz10_1, hfz10_2, hfz10_3, hfz10_4, hfz10_5⟩ := sqc6 BK505) | ((with_reducible refine gate_callee (f := 4) rfl ?_); refine sqL (some 21) Try.func4 #[.agg #[.bool a0_0, .slice A0_1 l0_1.length c0_1, .slice A0_2 l0_2.length c0_2, .slice A0_3 l0_3.length c0_3, .int .i64 a0_4, .slice A0_5 l0_5.length c0_5], .int .i64 1048576] ?_; (with_reducible refine (laws_szAbs.calls k a0_0 _ _ l0_1 _ _ l0_2 _ _ l0_3 a0_4 _ _ l0_5 1048576 t506 _ ?side1 ?side2 ?side3 ?side4 ?side5 ?side6 ?side7 ?side8 A7.out).mono ?_); (case side1 => exact sqC (Kd.C_below HR0_1.out HB.out)); (case side2 => exact HC0_1.out); (case side3 => exact sqC (Kd.C_below HR0_2.out HB.out)); (case side4 => exact HC0_2.out); (case side5 => exact sqC (Kd.C_below HR0_3.out HB.out)); (case side6 => exact HC0_3.out); (case side7 => exact sqC (Kd.C_below HR0_5.out HB.out)); (case side8 => exact HC0_5.out); rintro e w11 ⟨rfl, hb⟩; refine ⟨_, rfl, ?_⟩; replace BK505 := sqb BK505 hb; replace HB := sqs HB hb; (try clear hb)))
  go_ret
  exact sqe HB
 have c8b0 := decide_eq_false c8
 clear c8
 replace H := Option.bind_eq_some_iff.mp H
 obtain ⟨t507, A120, H⟩ := H
 try dsimp only at H
 have A12 := Aside0.mk A120
 clear A120
 replace H := sqj H
 rcases H with ⟨c13, H⟩ | ⟨c13, H⟩
 ·have c13b0 := decide_eq_true c13
  clear c13
  clear H
  go_enter Try.func3, Try.ntmps3
  go_wp2_with (first | ((with_reducible refine gate_dst (N := 4) rfl ?_); refine sqx 4 #[.bool a0_0, .slice A0_1 l0_1.length c0_1, .slice A0_2 l0_2.length c0_2, .slice A0_3 l0_3.length c0_3, .int .i64 a0_4, .slice A0_5 l0_5.length c0_5] 28 ?_; intro gb505 hg w14 hbox hb; have BK505 := Aside0.mk hbox; have GW505 := sqg HB hg; have GE505 := sqg HB hg; replace HB := sqs HB hb; clear hb hbox hg; obtain ⟨hcz15_0, hcz15_1, hcz15_2, hcz15_3, hcz15_4, hcz15_5, hfz15_0, hfz15_1, hfz15_2, hfz15_3, hfz15_4, hfz15_5⟩ := sqc6 BK505) | ((with_reducible refine gate_callee (f := 4) rfl ?_); refine sqL (some 21) Try.func4 #[.agg #[.bool a0_0, .slice A0_1 l0_1.length c0_1, .slice A0_2 l0_2.length c0_2, .slice A0_3 l0_3.length c0_3, .int .i64 a0_4, .slice A0_5 l0_5.length c0_5], .int .i64 1048576] ?_; (with_reducible refine (laws_szAbs.calls k a0_0 _ _ l0_1 _ _ l0_2 _ _ l0_3 a0_4 _ _ l0_5 1048576 t506 _ ?side1 ?side2 ?side3 ?side4 ?side5 ?side6 ?side7 ?side8 A7.out).mono ?_); (case side1 => exact sqC (Kd.C_below HR0_1.out HB.out)); (case side2 => exact HC0_1.out); (case side3 => exact sqC (Kd.C_below HR0_2.out HB.out)); (case side4 => exact HC0_2.out); (case side5 => exact sqC (Kd.C_below HR0_3.out HB.out)); (case side6 => exact HC0_3.out); (case side7 => exact sqC (Kd.C_below HR0_5.out HB.out)); (case side8 => exact HC0_5.out); rintro e w16 ⟨rfl, hb⟩; refine ⟨_, rfl, ?_⟩; replace BK505 := sqb BK505 hb; replace HB := sqs HB hb; (try clear hb)) | ((with_reducible refine gate_callee (f := 5) rfl ?_); refine sqL (some 26) Try.func5 #[.slice A2 l2.length c2, .int .i64 t506] ?_; (with_reducible refine (laws_szRefS.calls _ _ l2 t506 t507 _ ?side1 ?side2 A12.out).mono ?_); (case side1 => exact sqC (Kd.C_below HR2.out HB.out)); (case side2 => exact HC2.out); rintro e w' ⟨rfl, ⟨nd, rfl⟩⟩; refine ⟨_, rfl, ?_⟩))
  go_ret
  exact sqe HB
 have c13b0 := decide_eq_false c13
 clear c13
 replace H := Option.bind_eq_some_iff.mp H
 obtain ⟨t508, A170, H⟩ := H
 try dsimp only at H
 have A17 := Aside0.mk A170
 clear A170
 replace H := sqj H
 rcases H with ⟨c18, H⟩ | ⟨c18, H⟩
 ·have c18b0 := decide_eq_true c18
  clear c18
  clear H
  go_enter Try.func3, Try.ntmps3
  go_wp2_with (first | ((with_reducible refine gate_dst (N := 4) rfl ?_); refine sqx 4 #[.bool a0_0, .slice A0_1 l0_1.length c0_1, .slice A0_2 l0_2.length c0_2, .slice A0_3 l0_3.length c0_3, .int .i64 a0_4, .slice A0_5 l0_5.length c0_5] 28 ?_; intro gb505 hg w19 hbox hb; have BK505 := Aside0.mk hbox; have GW505 := sqg HB hg; have GE505 := sqg HB hg; replace HB := sqs HB hb; clear hb hbox hg; obtain ⟨hcz20_0, hcz20_1, hcz20_2, hcz20_3, hcz20_4, hcz20_5, hfz20_0, hfz20_1, hfz20_2, hfz20_3, hfz20_4, hfz20_5⟩ := sqc6 BK505) | ((with_reducible refine gate_callee (f := 4) rfl ?_); refine sqL (some 21) Try.func4 #[.agg #[.bool a0_0, .slice A0_1 l0_1.length c0_1, .slice A0_2 l0_2.length c0_2, .slice A0_3 l0_3.length c0_3, .int .i64 a0_4, .slice A0_5 l0_5.length c0_5], .int .i64 1048576] ?_; (with_reducible refine (laws_szAbs.calls k a0_0 _ _ l0_1 _ _ l0_2 _ _ l0_3 a0_4 _ _ l0_5 1048576 t506 _ ?side1 ?side2 ?side3 ?side4 ?side5 ?side6 ?side7 ?side8 A7.out).mono ?_); (case side1 => exact sqC (Kd.C_below HR0_1.out HB.out)); (case side2 => exact HC0_1.out); (case side3 => exact sqC (Kd.C_below HR0_2.out HB.out)); (case side4 => exact HC0_2.out); (case side5 => exact sqC (Kd.C_below HR0_3.out HB.out)); (case side6 => exact HC0_3.out); (case side7 => exact sqC (Kd.C_below HR0_5.out HB.out)); (case side8 => exact HC0_5.out); rintro e w21 ⟨rfl, hb⟩; refine ⟨_, rfl, ?_⟩; replace BK505 := sqb BK505 hb; replace HB := sqs HB hb; (try clear hb)) | ((with_reducible refine gate_callee (f := 5) rfl ?_); refine sqL (some 26) Try.func5 #[.slice A2 l2.length c2, .int .i64 t506] ?_; (with_reducible refine (laws_szRefS.calls _ _ l2 t506 t507 _ ?side1 ?side2 A12.out).mono ?_); (case side1 => exact sqC (Kd.C_below HR2.out HB.out)); (case side2 => exact HC2.out); rintro e w' ⟨rfl, ⟨nd, rfl⟩⟩; refine ⟨_, rfl, ?_⟩) | ((with_reducible refine gate_callee (f := 6) rfl ?_); refine sqL (some 31) Try.func6 #[.slice A3 l3.length c3, .int .i64 t507] ?_; (with_reducible refine (laws_szCellsS.calls k _ _ l3 t507 t508 _ ?side1 ?side2 A17.out).mono ?_); (case side1 => exact sqC (Kd.C_below HR3.out (sqB HB))); (case side2 => exact HC3.out); rintro e w22 ⟨rfl, hb⟩; refine ⟨_, rfl, ?_⟩; replace BK505 := sqb BK505 hb; replace HB := sqs HB hb; (try clear hb)))
  go_ret
  exact sqe HB
 have c18b0 := decide_eq_false c18
 clear c18
 replace H := Option.bind_eq_some_iff.mp H
 obtain ⟨⟨t509, t510, t513, t516, t519, t520⟩, A230, H⟩ := H
 try dsimp only at H
 have A23 := Aside0.mk A230
 clear A230
 replace H := Option.bind_eq_some_iff.mp H
 obtain ⟨t523, A240, H⟩ := H
 try dsimp only at H
 have A24 := Aside0.mk A240
 clear A240
 replace H := Option.bind_eq_some_iff.mp H
 obtain ⟨t526, A250, H⟩ := H
 try dsimp only at H
 have A25 := Aside0.mk A250
 clear A250
 replace H := Option.bind_eq_some_iff.mp H
 obtain ⟨t529, A260, H⟩ := H
 try dsimp only at H
 have A26 := Aside0.mk A260
 clear A260
 replace H := Option.bind_eq_some_iff.mp H
 obtain ⟨t532, A270, H⟩ := H
 try dsimp only at H
 have A27 := Aside0.mk A270
 clear A270
 replace H := Option.bind_eq_some_iff.mp H
 obtain ⟨⟨t533, t534, t537, t540, t543, t544⟩, A280, H⟩ := H
 try dsimp only at H
 have A28 := Aside0.mk A280
 clear A280
 replace H := Option.bind_eq_some_iff.mp H
 obtain ⟨t548, A290, H⟩ := H
 try dsimp only at H
 have A29 := Aside0.mk A290
 clear A290
 replace H := Option.bind_eq_some_iff.mp H
 obtain ⟨t551, A300, H⟩ := H
 try dsimp only at H
 have A30 := Aside0.mk A300
 clear A300
 replace H := Option.bind_eq_some_iff.mp H
 obtain ⟨t554, A310, H⟩ := H
 try dsimp only at H
 have A31 := Aside0.mk A310
 clear A310
 replace H := Option.bind_eq_some_iff.mp H
 obtain ⟨t557, A320, H⟩ := H
 try dsimp only at H
 have A32 := Aside0.mk A320
 clear A320
 replace H := sqj H
 rcases H with ⟨c33, H⟩ | ⟨c33, H⟩
 ·have c33b0 : (t557 != t532) = true := c33
  (try (have c33b1 : decide (t557 = t532) = false := by simpa using c33))
  (try (have c33b2 : (t557 == t532) = false := by simpa using c33))
  (try (have c33b3 : ¬ (t557 = t532) := by simpa using c33))
  clear c33
  exact absurd (Option.some.inj H) (by decide)
 have c33b0 : (t557 != t532) = false := by simpa using c33
 (try (have c33b1 : decide (t557 = t532) = true := by simpa using c33))
 (try (have c33b2 : (t557 == t532) = true := by simpa using c33))
 clear c33
 replace H := Option.bind_eq_some_iff.mp H
 obtain ⟨⟨t558, t559, t562, t565, t568, t569⟩, A680, H⟩ := H
 try dsimp only at H
 have A68 := Aside0.mk A680
 clear A680
 replace H := Option.bind_eq_some_iff.mp H
 obtain ⟨t572, A690, H⟩ := H
 try dsimp only at H
 have A69 := Aside0.mk A690
 clear A690
 rcases sqI (t572 = true) with c70 | c70
 ·replace c70 := Bool.eq_false_iff.mpr c70
  subst c70
  have H1 : (some false) = some true := by rw [if_neg (show ¬ (false = true) by decide)] at H; exact H
  clear H
  have H := H1
  clear H1
  exact absurd (Option.some.inj H) (by decide)
 subst c70
 have H1 : ((laws_toIntS.f k l1).bind fun t573 => ((laws_eqIntS.f k t548 t573).bind fun t576 => (if t576 = true then ((laws_toRefS.f k l2).bind fun t577 => ((laws_eqRefS.f k t551 t577).bind fun t580 => (if t580 = true then ((laws_toCellsS.f k l3).bind fun t581 => ((laws_eqCellsS.f k t554 t581).bind fun t584 => (if t584 = true then (some true) else (some false)))) else (some false)))) else (some false)))) = some true := by rw [if_pos rfl] at H; exact H
 clear H
 have H := H1
 clear H1
 replace H := Option.bind_eq_some_iff.mp H
 obtain ⟨t573, A710, H⟩ := H
 try dsimp only at H
 have A71 := Aside0.mk A710
 clear A710
 replace H := Option.bind_eq_some_iff.mp H
 obtain ⟨t576, A720, H⟩ := H
 try dsimp only at H
 have A72 := Aside0.mk A720
 clear A720
 rcases sqI (t576 = true) with c73 | c73
 ·replace c73 := Bool.eq_false_iff.mpr c73
  subst c73
  have H1 : (some false) = some true := by rw [if_neg (show ¬ (false = true) by decide)] at H; exact H
  clear H
  have H := H1
  clear H1
  exact absurd (Option.some.inj H) (by decide)
 subst c73
 have H1 : ((laws_toRefS.f k l2).bind fun t577 => ((laws_eqRefS.f k t551 t577).bind fun t580 => (if t580 = true then ((laws_toCellsS.f k l3).bind fun t581 => ((laws_eqCellsS.f k t554 t581).bind fun t584 => (if t584 = true then (some true) else (some false)))) else (some false)))) = some true := by rw [if_pos rfl] at H; exact H
 clear H
 have H := H1
 clear H1
 replace H := Option.bind_eq_some_iff.mp H
 obtain ⟨t577, A740, H⟩ := H
 try dsimp only at H
 have A74 := Aside0.mk A740
 clear A740
 replace H := Option.bind_eq_some_iff.mp H
 obtain ⟨t580, A750, H⟩ := H
 try dsimp only at H
 have A75 := Aside0.mk A750
 clear A750
 rcases sqI (t580 = true) with c76 | c76
 ·replace c76 := Bool.eq_false_iff.mpr c76
  subst c76
  have H1 : (some false) = some true := by rw [if_neg (show ¬ (false = true) by decide)] at H; exact H
  clear H
  have H := H1
  clear H1
  exact absurd (Option.some.inj H) (by decide)
 subst c76
 have H1 : ((laws_toCellsS.f k l3).bind fun t581 => ((laws_eqCellsS.f k t554 t581).bind fun t584 => (if t584 = true then (some true) else (some false)))) = some true := by rw [if_pos rfl] at H; exact H
 clear H
 have H := H1
 clear H1
 replace H := Option.bind_eq_some_iff.mp H
 obtain ⟨t581, A770, H⟩ := H
 try dsimp only at H
 have A77 := Aside0.mk A770
 clear A770
 replace H := Option.bind_eq_some_iff.mp H
 obtain ⟨t584, A780, H⟩ := H
 try dsimp only at H
 have A78 := Aside0.mk A780
 clear A780
 rcases sqI (t584 = true) with c79 | c79
 ·replace c79 := Bool.eq_false_iff.mpr c79
  subst c79
  have H1 : (some false) = some true := by rw [if_neg (show ¬ (false = true) by decide)] at H; exact H
  clear H
  have H := H1
  clear H1
  exact absurd (Option.some.inj H) (by decide)
 subst c79
 have H1 : (some true) = some true := rfl
 clear H
 have H := H1
 clear H1
 clear H
 go_enter Try.func3, Try.ntmps3
 try go_wp2_with (first | ((with_reducible refine gate_dst (N := 4) rfl ?_); refine sqx 4 #[.bool a0_0, .slice A0_1 l0_1.length c0_1, .slice A0_2 l0_2.length c0_2, .slice A0_3 l0_3.length c0_3, .int .i64 a0_4, .slice A0_5 l0_5.length c0_5] 28 ?_; intro gb505 hg w80 hbox hb; have BK505 := Aside0.mk hbox; have GW505 := sqg HB hg; have GE505 := sqg HB hg; replace HB := sqs HB hb; clear hb hbox hg; obtain ⟨hcz81_0, hcz81_1, hcz81_2, hcz81_3, hcz81_4, hcz81_5, hfz81_0, hfz81_1, hfz81_2, hfz81_3, hfz81_4, hfz81_5⟩ := sqc6 BK505) | ((with_reducible refine gate_callee (f := 4) rfl ?_); refine sqL (some 21) Try.func4 #[.agg #[.bool a0_0, .slice A0_1 l0_1.length c0_1, .slice A0_2 l0_2.length c0_2, .slice A0_3 l0_3.length c0_3, .int .i64 a0_4, .slice A0_5 l0_5.length c0_5], .int .i64 1048576] ?_; (with_reducible refine (laws_szAbs.calls k a0_0 _ _ l0_1 _ _ l0_2 _ _ l0_3 a0_4 _ _ l0_5 1048576 t506 _ ?side1 ?side2 ?side3 ?side4 ?side5 ?side6 ?side7 ?side8 A7.out).mono ?_); (case side1 => exact sqC (Kd.C_below HR0_1.out HB.out)); (case side2 => exact HC0_1.out); (case side3 => exact sqC (Kd.C_below HR0_2.out HB.out)); (case side4 => exact HC0_2.out); (case side5 => exact sqC (Kd.C_below HR0_3.out HB.out)); (case side6 => exact HC0_3.out); (case side7 => exact sqC (Kd.C_below HR0_5.out HB.out)); (case side8 => exact HC0_5.out); rintro e w82 ⟨rfl, hb⟩; refine ⟨_, rfl, ?_⟩; replace BK505 := sqb BK505 hb; replace HB := sqs HB hb; (try clear hb)) | ((with_reducible refine gate_callee (f := 5) rfl ?_); refine sqL (some 26) Try.func5 #[.slice A2 l2.length c2, .int .i64 t506] ?_; (with_reducible refine (laws_szRefS.calls _ _ l2 t506 t507 _ ?side1 ?side2 A12.out).mono ?_); (case side1 => exact sqC (Kd.C_below HR2.out HB.out)); (case side2 => exact HC2.out); rintro e w' ⟨rfl, ⟨nd, rfl⟩⟩; refine ⟨_, rfl, ?_⟩; (try (rw [drewN_self w82]; generalize hq_ : World.drewN w82 _ = w82; replace BK505 := sqq BK505 hq_; replace HB := sqr HB hq_; clear hq_; ))) | ((with_reducible refine gate_callee (f := 6) rfl ?_); refine sqL (some 31) Try.func6 #[.slice A3 l3.length c3, .int .i64 t507] ?_; (with_reducible refine (laws_szCellsS.calls k _ _ l3 t507 t508 _ ?side1 ?side2 A17.out).mono ?_); (case side1 => exact sqC (Kd.C_below HR3.out HB.out)); (case side2 => exact HC3.out); rintro e w83 ⟨rfl, hb⟩; refine ⟨_, rfl, ?_⟩; replace BK505 := sqb BK505 hb; replace HB := sqs HB hb; (try clear hb); obtain ⟨hcz84_0, hcz84_1, hcz84_2, hcz84_3, hcz84_4, hcz84_5, hfz84_0, hfz84_1, hfz84_2, hfz84_3, hfz84_4, hfz84_5⟩ := sqc6 BK505) | ((with_reducible refine gate_callee (f := 8) rfl ?_); refine sqL (some 35) Try.func8 #[.agg #[.bool a0_0, .slice A0_1 l0_1.length c0_1, .slice A0_2 l0_2.length c0_2, .slice A0_3 l0_3.length c0_3, .int .i64 a0_4, .slice A0_5 l0_5.length c0_5]] ?_; (with_reducible refine (laws_toAbs.calls k a0_0 _ _ l0_1 _ _ l0_2 _ _ l0_3 a0_4 _ _ l0_5 t509 t510 t513 t516 t519 t520 _ ?side1 ?side2 ?side3 ?side4 ?side5 ?side6 ?side7 ?side8 A23.out).mono ?_); (case side1 => exact sqC (Kd.C_below HR0_1.out HB.out)); (case side2 => exact HC0_1.out); (case side3 => exact sqC (Kd.C_below HR0_2.out HB.out)); (case side4 => exact HC0_2.out); (case side5 => exact sqC (Kd.C_below HR0_3.out HB.out)); (case side6 => exact HC0_3.out); (case side7 => exact sqC (Kd.C_below HR0_5.out HB.out)); (case side8 => exact HC0_5.out); rintro e w85 ⟨v511, v514, v517, v521, rfl, ho0, ho1, ho2, ho3, hb⟩; refine ⟨_, rfl, ?_⟩; have HO512 := Aside0.mk (Kd.R_lower ho0 (below_size (sqB HB))); have HO515 := Aside0.mk (Kd.S_lower ho1 (below_size (sqB HB))); have HO518 := Aside0.mk (Kd.R_lower ho2 (below_size (sqB HB))); have HO522 := Aside0.mk (Kd.R_lower ho3 (below_size (sqB HB))); replace BK505 := sqb BK505 hb; replace HB := sqs HB hb; (try clear hb); (try clear hb2); (try clear hk); (try clear hi); (try clear ho0); (try clear ho1); (try clear ho2); (try clear ho3)) | ((with_reducible refine gate_callee (f := 9) rfl ?_); refine sqL (some 37) Try.func9 #[.slice A1 l1.length c1] ?_; (with_reducible refine (laws_toIntS.calls k _ _ l1 t523 _ ?side1 ?side2 A24.out).mono ?_); (case side1 => exact sqC (Kd.C_below HR1.out HB.out)); (case side2 => exact HC1.out); rintro e w86 ⟨v524, rfl, ho0, hb⟩; refine ⟨_, rfl, ?_⟩; have n0_ := Aside0.mk (Kd.R_below (sqy HO512.out) hb); have n1_ := Aside0.mk (Kd.S_elder' (by (with_reducible repeat (first | apply Kd.S_alloc | apply Kd.S_drewN | apply Kd.S_drew)); exact HO515.out) (Kd.R_base ho0) hb); have n2_ := Aside0.mk (Kd.R_below (sqy HO518.out) hb); have n3_ := Aside0.mk (Kd.R_elder' (sqy HO522.out) (Kd.R_base ho0) hb); have n4_ := Aside0.mk (Kd.R_lower (Kd.R_new' ho0 (Kd.R_lt (sqy HO522.out))) (below_size (sqB HB))); have n5_ := sqb BK505 hb; have n6_ := sqs HB hb; clear HO512; clear HO515; clear HO518; clear HO522; clear BK505; clear HB; have HO512 := n0_; have HO515 := n1_; have HO518 := n2_; have HO522 := n3_; have HO525 := n4_; have BK505 := n5_; have HB := n6_; clear n0_ n1_ n2_ n3_ n4_ n5_ n6_; (try clear hb); (try clear hb2); (try clear hk); (try clear hi); (try clear ho0)) | ((with_reducible refine gate_callee (f := 10) rfl ?_); refine sqL (some 39) Try.func10 #[.slice A2 l2.length c2] ?_; (with_reducible refine (laws_toRefS.calls k _ _ l2 t526 _ ?side1 ?side2 A25.out).mono ?_); (case side1 => exact sqC (Kd.C_below HR2.out HB.out)); (case side2 => exact HC2.out); rintro e w87 ⟨v527, rfl, ho0, hb⟩; refine ⟨_, rfl, ?_⟩; have n0_ := Aside0.mk (Kd.R_below (sqy HO512.out) hb); have n1_ := Aside0.mk (Kd.S_below (by (with_reducible repeat (first | apply Kd.S_alloc | apply Kd.S_drewN | apply Kd.S_drew)); exact HO515.out) hb); have n2_ := Aside0.mk (Kd.R_below (sqy HO518.out) hb); have n3_ := Aside0.mk (Kd.R_below (sqy HO522.out) hb); have n4_ := Aside0.mk (Kd.R_below (sqy HO525.out) hb); have n5_ := Aside0.mk (Kd.R_lower ho0 (below_size (sqB HB))); have n6_ := sqb BK505 hb; have n7_ := sqs HB hb; clear HO512; clear HO515; clear HO518; clear HO522; clear HO525; clear BK505; clear HB; have HO512 := n0_; have HO515 := n1_; have HO518 := n2_; have HO522 := n3_; have HO525 := n4_; have HO528 := n5_; have BK505 := n6_; have HB := n7_; clear n0_ n1_ n2_ n3_ n4_ n5_ n6_ n7_; (try clear hb); (try clear hb2); (try clear hk); (try clear hi); (try clear ho0)) | ((with_reducible refine gate_callee (f := 11) rfl ?_); refine sqL (some 41) Try.func11 #[.slice A3 l3.length c3] ?_; (with_reducible refine (laws_toCellsS.calls k _ _ l3 t529 _ ?side1 ?side2 A26.out).mono ?_); (case side1 => exact sqC (Kd.C_below HR3.out HB.out)); (case side2 => exact HC3.out); rintro e w88 ⟨v530, rfl, ho0, hb⟩; refine ⟨_, rfl, ?_⟩; have n0_ := Aside0.mk (Kd.R_below (sqy HO512.out) hb); have n1_ := Aside0.mk (Kd.S_below (by (with_reducible repeat (first | apply Kd.S_alloc | apply Kd.S_drewN | apply Kd.S_drew)); exact HO515.out) hb); have n2_ := Aside0.mk (Kd.R_below (sqy HO518.out) hb); have n3_ := Aside0.mk (Kd.R_below (sqy HO522.out) hb); have n4_ := Aside0.mk (Kd.R_below (sqy HO525.out) hb); have n5_ := Aside0.mk (Kd.R_below (sqy HO528.out) hb); have n6_ := Aside0.mk (Kd.S_lower (Kd.S_new' (Kd.S_new' ho0 (Kd.R_lt (sqy HO522.out))) (Kd.R_lt (sqy HO525.out))) (below_size (sqB HB))); have n7_ := sqb BK505 hb; have n8_ := sqs HB hb; clear HO512; clear HO515; clear HO518; clear HO522; clear HO525; clear HO528; clear BK505; clear HB; have HO512 := n0_; have HO515 := n1_; have HO518 := n2_; have HO522 := n3_; have HO525 := n4_; have HO528 := n5_; have HO531 := n6_; have BK505 := n7_; have HB := n8_; clear n0_ n1_ n2_ n3_ n4_ n5_ n6_ n7_ n8_; (try clear hb); (try clear hb2); (try clear hk); (try clear hi); (try clear ho0); obtain ⟨Ao89, co89, eo89⟩ := Kd.R_slice HO512.out; subst eo89; obtain ⟨Ao90, co90, eo90⟩ := Kd.S_slice HO515.out; subst eo90; obtain ⟨Ao91, co91, eo91⟩ := Kd.R_slice HO518.out; subst eo91; obtain ⟨Ao92, co92, eo92⟩ := Kd.R_slice HO522.out; subst eo92; obtain ⟨Ao93, co93, eo93⟩ := Kd.R_slice HO525.out; subst eo93; obtain ⟨Ao94, co94, eo94⟩ := Kd.R_slice HO528.out; subst eo94; obtain ⟨Ao95, co95, eo95⟩ := Kd.S_slice HO531.out; subst eo95) | ((with_reducible refine gate_callee (f := 7) rfl ?_); refine sqL (some 42) Try.func7 #[.agg #[.bool t509, .slice Ao89 t510.length co89, .slice Ao90 t513.length co90, .slice Ao91 t516.length co91, .int .i64 t519, .slice Ao92 t520.length co92], .slice Ao93 t523.length co93, .slice Ao94 t526.length co94, .slice Ao95 t529.length co95] ?_; (with_reducible refine (spec_AbsHas.calls k t509 _ _ t510 _ _ t513 _ _ t516 t519 _ _ t520 _ _ t523 _ _ t526 _ _ t529 t532 _ ?side1 ?side2 ?side3 ?side4 ?side5 ?side6 ?side7 ?side8 ?side9 ?side10 ?side11 ?side12 ?side13 ?side14 A27.out).mono ?_); (case side1 => exact sqC (Kd.R_reads' HO512.out).2.2); (case side2 => exact (Kd.R_reads' HO512.out).2.1); (case side3 => repeat (first | exact (Kd.S_reads' HO515.out).2.2 | (with_reducible refine Kd.C_alloc ?_ _) | (with_reducible refine Kd.C_drewN ?_ _) | (with_reducible refine Kd.C_drew ?_))); (case side4 => exact (Kd.S_reads' HO515.out).2.1); (case side5 => exact sqC (Kd.R_reads' HO518.out).2.2); (case side6 => exact (Kd.R_reads' HO518.out).2.1); (case side7 => exact sqC (Kd.R_reads' HO522.out).2.2); (case side8 => exact (Kd.R_reads' HO522.out).2.1); (case side9 => exact sqC (Kd.R_reads' HO525.out).2.2); (case side10 => exact (Kd.R_reads' HO525.out).2.1); (case side11 => exact sqC (Kd.R_reads' HO528.out).2.2); (case side12 => exact (Kd.R_reads' HO528.out).2.1); (case side13 => repeat (first | exact (Kd.S_reads' HO531.out).2.2 | (with_reducible refine Kd.C_alloc ?_ _) | (with_reducible refine Kd.C_drewN ?_ _) | (with_reducible refine Kd.C_drew ?_))); (case side14 => exact (Kd.S_reads' HO531.out).2.1); rintro e w96 ⟨rfl, hb⟩; refine ⟨_, rfl, ?_⟩; have n0_ := Aside0.mk (Kd.R_below (sqy HO512.out) hb); have n1_ := Aside0.mk (Kd.S_below (by (with_reducible repeat (first | apply Kd.S_alloc | apply Kd.S_drewN | apply Kd.S_drew)); exact HO515.out) hb); have n2_ := Aside0.mk (Kd.R_below (sqy HO518.out) hb); have n3_ := Aside0.mk (Kd.R_below (sqy HO522.out) hb); have n4_ := Aside0.mk (Kd.R_below (sqy HO525.out) hb); have n5_ := Aside0.mk (Kd.R_below (sqy HO528.out) hb); have n6_ := Aside0.mk (Kd.S_below (by (with_reducible repeat (first | apply Kd.S_alloc | apply Kd.S_drewN | apply Kd.S_drew)); exact HO531.out) hb); have n7_ := sqb BK505 hb; have n8_ := sqs HB hb; clear HO512; clear HO515; clear HO518; clear HO522; clear HO525; clear HO528; clear HO531; clear BK505; clear HB; have HO512 := n0_; have HO515 := n1_; have HO518 := n2_; have HO522 := n3_; have HO525 := n4_; have HO528 := n5_; have HO531 := n6_; have BK505 := n7_; have HB := n8_; clear n0_ n1_ n2_ n3_ n4_ n5_ n6_ n7_ n8_; (try clear hb); obtain ⟨hcz97_0, hcz97_1, hcz97_2, hcz97_3, hcz97_4, hcz97_5, hfz97_0, hfz97_1, hfz97_2, hfz97_3, hfz97_4, hfz97_5⟩ := sqc6 BK505) | ((with_reducible refine gate_callee (f := 8) rfl ?_); refine sqL (some 44) Try.func8 #[.agg #[.bool a0_0, .slice A0_1 l0_1.length c0_1, .slice A0_2 l0_2.length c0_2, .slice A0_3 l0_3.length c0_3, .int .i64 a0_4, .slice A0_5 l0_5.length c0_5]] ?_; (with_reducible refine (laws_toAbs.calls k a0_0 _ _ l0_1 _ _ l0_2 _ _ l0_3 a0_4 _ _ l0_5 t533 t534 t537 t540 t543 t544 _ ?side1 ?side2 ?side3 ?side4 ?side5 ?side6 ?side7 ?side8 A28.out).mono ?_); (case side1 => exact sqC (Kd.C_below HR0_1.out HB.out)); (case side2 => exact HC0_1.out); (case side3 => exact sqC (Kd.C_below HR0_2.out HB.out)); (case side4 => exact HC0_2.out); (case side5 => exact sqC (Kd.C_below HR0_3.out HB.out)); (case side6 => exact HC0_3.out); (case side7 => exact sqC (Kd.C_below HR0_5.out HB.out)); (case side8 => exact HC0_5.out); rintro e w98 ⟨v535, v538, v541, v545, rfl, ho0, ho1, ho2, ho3, hb⟩; refine ⟨_, rfl, ?_⟩; have n0_ := Aside0.mk (Kd.R_mono (Kd.R_told (Kd.R_told (Kd.R_old (sqy HO512.out) hb) (Kd.R_base ho0)) (Kd.R_base ho2)) (fun _ h_ => h_.1)); have n1_ := Aside0.mk (Kd.S_mono (Kd.S_told (Kd.S_told (Kd.S_old (by (with_reducible repeat (first | apply Kd.S_alloc | apply Kd.S_drewN | apply Kd.S_drew)); exact HO515.out) hb) (Kd.S_base ho1)) (Kd.R_base ho3)) (fun _ h_ => h_.1)); have n2_ := Aside0.mk (Kd.R_mono (Kd.R_told (Kd.R_told (Kd.R_old (sqy HO518.out) hb) (Kd.R_base ho0)) (Kd.R_base ho2)) (fun _ h_ => h_.1)); have n3_ := Aside0.mk (Kd.R_elder' (sqy HO522.out) (Kd.R_base ho3) hb); have n4_ := Aside0.mk (Kd.R_elder' (sqy HO525.out) (Kd.R_base ho3) hb); have n5_ := Aside0.mk (Kd.R_below (sqy HO528.out) hb); have n6_ := Aside0.mk (Kd.S_elder' (by (with_reducible repeat (first | apply Kd.S_alloc | apply Kd.S_drewN | apply Kd.S_drew)); exact HO531.out) (Kd.R_base ho3) hb); have n7_ := Aside0.mk (Kd.R_lower (Kd.R_new' (Kd.R_new' ho0 (Kd.R_lt (sqy HO512.out))) (Kd.R_lt (sqy HO518.out))) (below_size (sqB HB))); have n8_ := Aside0.mk (Kd.S_lower (Kd.S_new' (Kd.S_new' (Kd.S_new' ho1 (Kd.S_lt (by (with_reducible repeat (first | apply Kd.S_alloc | apply Kd.S_drewN | apply Kd.S_drew)); exact HO515.out))) (Kd.R_lt (sqy HO522.out))) (Kd.R_lt (sqy HO525.out))) (below_size (sqB HB))); have n9_ := Aside0.mk (Kd.R_lower (Kd.R_new' (Kd.R_new' ho2 (Kd.R_lt (sqy HO512.out))) (Kd.R_lt (sqy HO518.out))) (below_size (sqB HB))); have n10_ := Aside0.mk (Kd.R_lower (Kd.R_new' (Kd.R_new' ho3 (Kd.R_lt (sqy HO522.out))) (Kd.R_lt (sqy HO525.out))) (below_size (sqB HB))); have n11_ := sqb BK505 hb; have n12_ := sqs HB hb; clear HO512; clear HO515; clear HO518; clear HO522; clear HO525; clear HO528; clear HO531; clear BK505; clear HB; have HO512 := n0_; have HO515 := n1_; have HO518 := n2_; have HO522 := n3_; have HO525 := n4_; have HO528 := n5_; have HO531 := n6_; have HO536 := n7_; have HO539 := n8_; have HO542 := n9_; have HO546 := n10_; have BK505 := n11_; have HB := n12_; clear n0_ n1_ n2_ n3_ n4_ n5_ n6_ n7_ n8_ n9_ n10_ n11_ n12_; (try clear hb); (try clear hb2); (try clear hk); (try clear hi); (try clear ho0); (try clear ho1); (try clear ho2); (try clear ho3)) | ((with_reducible refine gate_dst (N := 11) rfl ?_); refine sqx 11 #[.bool false, .slice none 0 0, .slice none 0 0, .slice none 0 0, .int .i64 0, .slice none 0 0] 39 ?_; intro gb547 hg w99 hbox hb; have n0_ := Aside0.mk (Kd.R_below (sqy HO512.out) hb); have n1_ := Aside0.mk (Kd.S_below (by (with_reducible repeat (first | apply Kd.S_alloc | apply Kd.S_drewN | apply Kd.S_drew)); exact HO515.out) hb); have n2_ := Aside0.mk (Kd.R_below (sqy HO518.out) hb); have n3_ := Aside0.mk (Kd.R_below (sqy HO522.out) hb); have n4_ := Aside0.mk (Kd.R_below (sqy HO525.out) hb); have n5_ := Aside0.mk (Kd.R_below (sqy HO528.out) hb); have n6_ := Aside0.mk (Kd.S_below (by (with_reducible repeat (first | apply Kd.S_alloc | apply Kd.S_drewN | apply Kd.S_drew)); exact HO531.out) hb); have n7_ := Aside0.mk (Kd.R_below (sqy HO536.out) hb); have n8_ := Aside0.mk (Kd.S_below (by (with_reducible repeat (first | apply Kd.S_alloc | apply Kd.S_drewN | apply Kd.S_drew)); exact HO539.out) hb); have n9_ := Aside0.mk (Kd.R_below (sqy HO542.out) hb); have n10_ := Aside0.mk (Kd.R_below (sqy HO546.out) hb); have n11_ := sqb BK505 hb; have n12_ := sqs HB hb; have n13_ := Aside0.mk (hbox); have n14_ := sqg HB hg; have n15_ := sqg HB hg; have n16_ := sqn BK505 hg; have n17_ := sqm BK505 hg; clear HO512; clear HO515; clear HO518; clear HO522; clear HO525; clear HO528; clear HO531; clear HO536; clear HO539; clear HO542; clear HO546; clear BK505; clear HB; have HO512 := n0_; have HO515 := n1_; have HO518 := n2_; have HO522 := n3_; have HO525 := n4_; have HO528 := n5_; have HO531 := n6_; have HO536 := n7_; have HO539 := n8_; have HO542 := n9_; have HO546 := n10_; have BK505 := n11_; have HB := n12_; have BK547 := n13_; have GW547 := n14_; have GE547 := n15_; have NB505_547 := n16_; have NB547_505 := n17_; clear n0_ n1_ n2_ n3_ n4_ n5_ n6_ n7_ n8_ n9_ n10_ n11_ n12_ n13_ n14_ n15_ n16_ n17_; clear hb hbox hg; have hnb100 := NB547_505.out; have hnc100 := NB505_547.out; obtain ⟨hcz101_0, hcz101_1, hcz101_2, hcz101_3, hcz101_4, hcz101_5, hfz101_0, hfz101_1, hfz101_2, hfz101_3, hfz101_4, hfz101_5⟩ := sqc6 BK547; obtain ⟨Ao102, co102, eo102⟩ := Kd.R_slice HO536.out; subst eo102; obtain ⟨Ao103, co103, eo103⟩ := Kd.S_slice HO539.out; subst eo103; obtain ⟨Ao104, co104, eo104⟩ := Kd.R_slice HO542.out; subst eo104; obtain ⟨Ao105, co105, eo105⟩ := Kd.R_slice HO546.out; subst eo105) | ((with_reducible refine gate_callee (f := 9) rfl ?_); refine sqL (some 46) Try.func9 #[.slice A1 l1.length c1] ?_; (with_reducible refine (laws_toIntS.calls k _ _ l1 t548 _ ?side1 ?side2 A29.out).mono ?_); (case side1 => exact Kd.C_below HR1.out (sqB HB)); (case side2 => exact HC1.out); rintro e w106 ⟨v549, rfl, ho0, hb⟩; refine ⟨_, rfl, ?_⟩; have n0_ := Aside0.mk (Kd.R_below (by (with_reducible repeat (first | apply Kd.R_alloc | apply Kd.R_drewN | apply Kd.R_drew)); exact (Kd.R_mono (Kd.R_far (p := ⟨gb547, 5, none⟩) (Kd.R_far (p := ⟨gb547, 4, none⟩) (Kd.R_far (p := ⟨gb547, 3, none⟩) (Kd.R_far (p := ⟨gb547, 2, none⟩) (Kd.R_far (p := ⟨gb547, 1, none⟩) (Kd.R_far (p := ⟨gb547, 0, none⟩) (Kd.R_types HO512.out BK547.out (by decide)) (fun _ hk => hk.2) (.bool t533)) (fun _ hk => hk.2) (.slice Ao102 t534.length co102)) (fun _ hk => hk.2) (.slice Ao103 t537.length co103)) (fun _ hk => hk.2) (.slice Ao104 t540.length co104)) (fun _ hk => hk.2) (.int .i64 t543)) (fun _ hk => hk.2) (.slice Ao105 t544.length co105)) (fun _ h_ => h_.1))) hb); have n1_ := Aside0.mk (Kd.S_elder' (by (with_reducible repeat (first | apply Kd.S_alloc | apply Kd.S_drewN | apply Kd.S_drew)); exact (Kd.S_mono (Kd.S_far (p := ⟨gb547, 5, none⟩) (Kd.S_far (p := ⟨gb547, 4, none⟩) (Kd.S_far (p := ⟨gb547, 3, none⟩) (Kd.S_far (p := ⟨gb547, 2, none⟩) (Kd.S_far (p := ⟨gb547, 1, none⟩) (Kd.S_far (p := ⟨gb547, 0, none⟩) (Kd.S_types HO515.out BK547.out (by decide)) (fun _ hk => hk.2) (.bool t533)) (fun _ hk => hk.2) (.slice Ao102 t534.length co102)) (fun _ hk => hk.2) (.slice Ao103 t537.length co103)) (fun _ hk => hk.2) (.slice Ao104 t540.length co104)) (fun _ hk => hk.2) (.int .i64 t543)) (fun _ hk => hk.2) (.slice Ao105 t544.length co105)) (fun _ h_ => h_.1))) (Kd.R_base ho0) hb); have n2_ := Aside0.mk (Kd.R_below (by (with_reducible repeat (first | apply Kd.R_alloc | apply Kd.R_drewN | apply Kd.R_drew)); exact (Kd.R_mono (Kd.R_far (p := ⟨gb547, 5, none⟩) (Kd.R_far (p := ⟨gb547, 4, none⟩) (Kd.R_far (p := ⟨gb547, 3, none⟩) (Kd.R_far (p := ⟨gb547, 2, none⟩) (Kd.R_far (p := ⟨gb547, 1, none⟩) (Kd.R_far (p := ⟨gb547, 0, none⟩) (Kd.R_types HO518.out BK547.out (by decide)) (fun _ hk => hk.2) (.bool t533)) (fun _ hk => hk.2) (.slice Ao102 t534.length co102)) (fun _ hk => hk.2) (.slice Ao103 t537.length co103)) (fun _ hk => hk.2) (.slice Ao104 t540.length co104)) (fun _ hk => hk.2) (.int .i64 t543)) (fun _ hk => hk.2) (.slice Ao105 t544.length co105)) (fun _ h_ => h_.1))) hb); have n3_ := Aside0.mk (Kd.R_elder' (by (with_reducible repeat (first | apply Kd.R_alloc | apply Kd.R_drewN | apply Kd.R_drew)); exact (Kd.R_mono (Kd.R_far (p := ⟨gb547, 5, none⟩) (Kd.R_far (p := ⟨gb547, 4, none⟩) (Kd.R_far (p := ⟨gb547, 3, none⟩) (Kd.R_far (p := ⟨gb547, 2, none⟩) (Kd.R_far (p := ⟨gb547, 1, none⟩) (Kd.R_far (p := ⟨gb547, 0, none⟩) (Kd.R_types HO522.out BK547.out (by decide)) (fun _ hk => hk.2) (.bool t533)) (fun _ hk => hk.2) (.slice Ao102 t534.length co102)) (fun _ hk => hk.2) (.slice Ao103 t537.length co103)) (fun _ hk => hk.2) (.slice Ao104 t540.length co104)) (fun _ hk => hk.2) (.int .i64 t543)) (fun _ hk => hk.2) (.slice Ao105 t544.length co105)) (fun _ h_ => h_.1))) (Kd.R_base ho0) hb); have n4_ := Aside0.mk (Kd.R_elder' (by (with_reducible repeat (first | apply Kd.R_alloc | apply Kd.R_drewN | apply Kd.R_drew)); exact (Kd.R_mono (Kd.R_far (p := ⟨gb547, 5, none⟩) (Kd.R_far (p := ⟨gb547, 4, none⟩) (Kd.R_far (p := ⟨gb547, 3, none⟩) (Kd.R_far (p := ⟨gb547, 2, none⟩) (Kd.R_far (p := ⟨gb547, 1, none⟩) (Kd.R_far (p := ⟨gb547, 0, none⟩) (Kd.R_types HO525.out BK547.out (by decide)) (fun _ hk => hk.2) (.bool t533)) (fun _ hk => hk.2) (.slice Ao102 t534.length co102)) (fun _ hk => hk.2) (.slice Ao103 t537.length co103)) (fun _ hk => hk.2) (.slice Ao104 t540.length co104)) (fun _ hk => hk.2) (.int .i64 t543)) (fun _ hk => hk.2) (.slice Ao105 t544.length co105)) (fun _ h_ => h_.1))) (Kd.R_base ho0) hb); have n5_ := Aside0.mk (Kd.R_below (by (with_reducible repeat (first | apply Kd.R_alloc | apply Kd.R_drewN | apply Kd.R_drew)); exact (Kd.R_mono (Kd.R_far (p := ⟨gb547, 5, none⟩) (Kd.R_far (p := ⟨gb547, 4, none⟩) (Kd.R_far (p := ⟨gb547, 3, none⟩) (Kd.R_far (p := ⟨gb547, 2, none⟩) (Kd.R_far (p := ⟨gb547, 1, none⟩) (Kd.R_far (p := ⟨gb547, 0, none⟩) (Kd.R_types HO528.out BK547.out (by decide)) (fun _ hk => hk.2) (.bool t533)) (fun _ hk => hk.2) (.slice Ao102 t534.length co102)) (fun _ hk => hk.2) (.slice Ao103 t537.length co103)) (fun _ hk => hk.2) (.slice Ao104 t540.length co104)) (fun _ hk => hk.2) (.int .i64 t543)) (fun _ hk => hk.2) (.slice Ao105 t544.length co105)) (fun _ h_ => h_.1))) hb); have n6_ := Aside0.mk (Kd.S_elder' (by (with_reducible repeat (first | apply Kd.S_alloc | apply Kd.S_drewN | apply Kd.S_drew)); exact (Kd.S_mono (Kd.S_far (p := ⟨gb547, 5, none⟩) (Kd.S_far (p := ⟨gb547, 4, none⟩) (Kd.S_far (p := ⟨gb547, 3, none⟩) (Kd.S_far (p := ⟨gb547, 2, none⟩) (Kd.S_far (p := ⟨gb547, 1, none⟩) (Kd.S_far (p := ⟨gb547, 0, none⟩) (Kd.S_types HO531.out BK547.out (by decide)) (fun _ hk => hk.2) (.bool t533)) (fun _ hk => hk.2) (.slice Ao102 t534.length co102)) (fun _ hk => hk.2) (.slice Ao103 t537.length co103)) (fun _ hk => hk.2) (.slice Ao104 t540.length co104)) (fun _ hk => hk.2) (.int .i64 t543)) (fun _ hk => hk.2) (.slice Ao105 t544.length co105)) (fun _ h_ => h_.1))) (Kd.R_base ho0) hb); have n7_ := Aside0.mk (Kd.R_below (by (with_reducible repeat (first | apply Kd.R_alloc | apply Kd.R_drewN | apply Kd.R_drew)); exact (Kd.R_mono (Kd.R_far (p := ⟨gb547, 5, none⟩) (Kd.R_far (p := ⟨gb547, 4, none⟩) (Kd.R_far (p := ⟨gb547, 3, none⟩) (Kd.R_far (p := ⟨gb547, 2, none⟩) (Kd.R_far (p := ⟨gb547, 1, none⟩) (Kd.R_far (p := ⟨gb547, 0, none⟩) (Kd.R_types HO536.out BK547.out (by decide)) (fun _ hk => hk.2) (.bool t533)) (fun _ hk => hk.2) (.slice Ao102 t534.length co102)) (fun _ hk => hk.2) (.slice Ao103 t537.length co103)) (fun _ hk => hk.2) (.slice Ao104 t540.length co104)) (fun _ hk => hk.2) (.int .i64 t543)) (fun _ hk => hk.2) (.slice Ao105 t544.length co105)) (fun _ h_ => h_.1))) hb); have n8_ := Aside0.mk (Kd.S_elder' (by (with_reducible repeat (first | apply Kd.S_alloc | apply Kd.S_drewN | apply Kd.S_drew)); exact (Kd.S_mono (Kd.S_far (p := ⟨gb547, 5, none⟩) (Kd.S_far (p := ⟨gb547, 4, none⟩) (Kd.S_far (p := ⟨gb547, 3, none⟩) (Kd.S_far (p := ⟨gb547, 2, none⟩) (Kd.S_far (p := ⟨gb547, 1, none⟩) (Kd.S_far (p := ⟨gb547, 0, none⟩) (Kd.S_types HO539.out BK547.out (by decide)) (fun _ hk => hk.2) (.bool t533)) (fun _ hk => hk.2) (.slice Ao102 t534.length co102)) (fun _ hk => hk.2) (.slice Ao103 t537.length co103)) (fun _ hk => hk.2) (.slice Ao104 t540.length co104)) (fun _ hk => hk.2) (.int .i64 t543)) (fun _ hk => hk.2) (.slice Ao105 t544.length co105)) (fun _ h_ => h_.1))) (Kd.R_base ho0) hb); have n9_ := Aside0.mk (Kd.R_below (by (with_reducible repeat (first | apply Kd.R_alloc | apply Kd.R_drewN | apply Kd.R_drew)); exact (Kd.R_mono (Kd.R_far (p := ⟨gb547, 5, none⟩) (Kd.R_far (p := ⟨gb547, 4, none⟩) (Kd.R_far (p := ⟨gb547, 3, none⟩) (Kd.R_far (p := ⟨gb547, 2, none⟩) (Kd.R_far (p := ⟨gb547, 1, none⟩) (Kd.R_far (p := ⟨gb547, 0, none⟩) (Kd.R_types HO542.out BK547.out (by decide)) (fun _ hk => hk.2) (.bool t533)) (fun _ hk => hk.2) (.slice Ao102 t534.length co102)) (fun _ hk => hk.2) (.slice Ao103 t537.length co103)) (fun _ hk => hk.2) (.slice Ao104 t540.length co104)) (fun _ hk => hk.2) (.int .i64 t543)) (fun _ hk => hk.2) (.slice Ao105 t544.length co105)) (fun _ h_ => h_.1))) hb); have n10_ := Aside0.mk (Kd.R_elder' (by (with_reducible repeat (first | apply Kd.R_alloc | apply Kd.R_drewN | apply Kd.R_drew)); exact (Kd.R_mono (Kd.R_far (p := ⟨gb547, 5, none⟩) (Kd.R_far (p := ⟨gb547, 4, none⟩) (Kd.R_far (p := ⟨gb547, 3, none⟩) (Kd.R_far (p := ⟨gb547, 2, none⟩) (Kd.R_far (p := ⟨gb547, 1, none⟩) (Kd.R_far (p := ⟨gb547, 0, none⟩) (Kd.R_types HO546.out BK547.out (by decide)) (fun _ hk => hk.2) (.bool t533)) (fun _ hk => hk.2) (.slice Ao102 t534.length co102)) (fun _ hk => hk.2) (.slice Ao103 t537.length co103)) (fun _ hk => hk.2) (.slice Ao104 t540.length co104)) (fun _ hk => hk.2) (.int .i64 t543)) (fun _ hk => hk.2) (.slice Ao105 t544.length co105)) (fun _ h_ => h_.1))) (Kd.R_base ho0) hb); have n11_ := Aside0.mk (Kd.R_lower (Kd.R_new' (Kd.R_new' (Kd.R_new' ho0 (Kd.R_lt (by (with_reducible repeat (first | apply Kd.R_alloc | apply Kd.R_drewN | apply Kd.R_drew)); exact (Kd.R_mono (Kd.R_far (p := ⟨gb547, 5, none⟩) (Kd.R_far (p := ⟨gb547, 4, none⟩) (Kd.R_far (p := ⟨gb547, 3, none⟩) (Kd.R_far (p := ⟨gb547, 2, none⟩) (Kd.R_far (p := ⟨gb547, 1, none⟩) (Kd.R_far (p := ⟨gb547, 0, none⟩) (Kd.R_types HO522.out BK547.out (by decide)) (fun _ hk => hk.2) (.bool t533)) (fun _ hk => hk.2) (.slice Ao102 t534.length co102)) (fun _ hk => hk.2) (.slice Ao103 t537.length co103)) (fun _ hk => hk.2) (.slice Ao104 t540.length co104)) (fun _ hk => hk.2) (.int .i64 t543)) (fun _ hk => hk.2) (.slice Ao105 t544.length co105)) (fun _ h_ => h_.1))))) (Kd.R_lt (by (with_reducible repeat (first | apply Kd.R_alloc | apply Kd.R_drewN | apply Kd.R_drew)); exact (Kd.R_mono (Kd.R_far (p := ⟨gb547, 5, none⟩) (Kd.R_far (p := ⟨gb547, 4, none⟩) (Kd.R_far (p := ⟨gb547, 3, none⟩) (Kd.R_far (p := ⟨gb547, 2, none⟩) (Kd.R_far (p := ⟨gb547, 1, none⟩) (Kd.R_far (p := ⟨gb547, 0, none⟩) (Kd.R_types HO525.out BK547.out (by decide)) (fun _ hk => hk.2) (.bool t533)) (fun _ hk => hk.2) (.slice Ao102 t534.length co102)) (fun _ hk => hk.2) (.slice Ao103 t537.length co103)) (fun _ hk => hk.2) (.slice Ao104 t540.length co104)) (fun _ hk => hk.2) (.int .i64 t543)) (fun _ hk => hk.2) (.slice Ao105 t544.length co105)) (fun _ h_ => h_.1))))) (Kd.R_lt (by (with_reducible repeat (first | apply Kd.R_alloc | apply Kd.R_drewN | apply Kd.R_drew)); exact (Kd.R_mono (Kd.R_far (p := ⟨gb547, 5, none⟩) (Kd.R_far (p := ⟨gb547, 4, none⟩) (Kd.R_far (p := ⟨gb547, 3, none⟩) (Kd.R_far (p := ⟨gb547, 2, none⟩) (Kd.R_far (p := ⟨gb547, 1, none⟩) (Kd.R_far (p := ⟨gb547, 0, none⟩) (Kd.R_types HO546.out BK547.out (by decide)) (fun _ hk => hk.2) (.bool t533)) (fun _ hk => hk.2) (.slice Ao102 t534.length co102)) (fun _ hk => hk.2) (.slice Ao103 t537.length co103)) (fun _ hk => hk.2) (.slice Ao104 t540.length co104)) (fun _ hk => hk.2) (.int .i64 t543)) (fun _ hk => hk.2) (.slice Ao105 t544.length co105)) (fun _ h_ => h_.1))))) (below_size (sqB HB))); have n12_ := sqbb BK505 hb; have n13_ := Aside0.mk (blk_below (g := gb547) (o := .cells #[.bool t533, .slice Ao102 t534.length co102, .slice Ao103 t537.length co103, .slice Ao104 t540.length co104, .int .i64 t543, .slice Ao105 t544.length co105] 39 (0, 0)) (by refine sqt ?_; refine blk_put (cs := #[.bool t533, .slice Ao102 t534.length co102, .slice Ao103 t537.length co103, .slice Ao104 t540.length co104, .int .i64 t543, .slice none 0 0]) ?_ 5 _ rfl; refine sqt ?_; refine blk_put (cs := #[.bool t533, .slice Ao102 t534.length co102, .slice Ao103 t537.length co103, .slice Ao104 t540.length co104, .int .i64 0, .slice none 0 0]) ?_ 4 _ rfl; refine sqt ?_; refine blk_put (cs := #[.bool t533, .slice Ao102 t534.length co102, .slice Ao103 t537.length co103, .slice none 0 0, .int .i64 0, .slice none 0 0]) ?_ 3 _ rfl; refine sqt ?_; refine blk_put (cs := #[.bool t533, .slice Ao102 t534.length co102, .slice none 0 0, .slice none 0 0, .int .i64 0, .slice none 0 0]) ?_ 2 _ rfl; refine sqt ?_; refine blk_put (cs := #[.bool t533, .slice none 0 0, .slice none 0 0, .slice none 0 0, .int .i64 0, .slice none 0 0]) ?_ 1 _ rfl; refine sqt ?_; refine blk_put (cs := #[.bool false, .slice none 0 0, .slice none 0 0, .slice none 0 0, .int .i64 0, .slice none 0 0]) ?_ 0 _ rfl; refine sqt ?_; exact BK547.out) hb); have n14_ := sqs HB hb; clear HO512; clear HO515; clear HO518; clear HO522; clear HO525; clear HO528; clear HO531; clear HO536; clear HO539; clear HO542; clear HO546; clear BK505; clear BK547; clear HB; have HO512 := n0_; have HO515 := n1_; have HO518 := n2_; have HO522 := n3_; have HO525 := n4_; have HO528 := n5_; have HO531 := n6_; have HO536 := n7_; have HO539 := n8_; have HO542 := n9_; have HO546 := n10_; have HO550 := n11_; have BK505 := n12_; have BK547 := n13_; have HB := n14_; clear n0_ n1_ n2_ n3_ n4_ n5_ n6_ n7_ n8_ n9_ n10_ n11_ n12_ n13_ n14_; (try clear hb); (try clear hb2); (try clear hk); (try clear hi); (try clear ho0)) | ((with_reducible refine gate_callee (f := 10) rfl ?_); refine sqL (some 48) Try.func10 #[.slice A2 l2.length c2] ?_; (with_reducible refine (laws_toRefS.calls k _ _ l2 t551 _ ?side1 ?side2 A30.out).mono ?_); (case side1 => exact sqC (Kd.C_below HR2.out HB.out)); (case side2 => exact HC2.out); rintro e w107 ⟨v552, rfl, ho0, hb⟩; refine ⟨_, rfl, ?_⟩; have n0_ := Aside0.mk (Kd.R_below (sqy HO512.out) hb); have n1_ := Aside0.mk (Kd.S_below (by (with_reducible repeat (first | apply Kd.S_alloc | apply Kd.S_drewN | apply Kd.S_drew)); exact HO515.out) hb); have n2_ := Aside0.mk (Kd.R_below (sqy HO518.out) hb); have n3_ := Aside0.mk (Kd.R_below (sqy HO522.out) hb); have n4_ := Aside0.mk (Kd.R_below (sqy HO525.out) hb); have n5_ := Aside0.mk (Kd.R_elder' (sqy HO528.out) (Kd.R_base ho0) hb); have n6_ := Aside0.mk (Kd.S_below (by (with_reducible repeat (first | apply Kd.S_alloc | apply Kd.S_drewN | apply Kd.S_drew)); exact HO531.out) hb); have n7_ := Aside0.mk (Kd.R_below (sqy HO536.out) hb); have n8_ := Aside0.mk (Kd.S_below (by (with_reducible repeat (first | apply Kd.S_alloc | apply Kd.S_drewN | apply Kd.S_drew)); exact HO539.out) hb); have n9_ := Aside0.mk (Kd.R_below (sqy HO542.out) hb); have n10_ := Aside0.mk (Kd.R_below (sqy HO546.out) hb); have n11_ := Aside0.mk (Kd.R_below (sqy HO550.out) hb); have n12_ := Aside0.mk (Kd.R_lower (Kd.R_new' ho0 (Kd.R_lt (sqy HO528.out))) (below_size (sqB HB))); have n13_ := sqb BK505 hb; have n14_ := sqb BK547 hb; have n15_ := sqs HB hb; clear HO512; clear HO515; clear HO518; clear HO522; clear HO525; clear HO528; clear HO531; clear HO536; clear HO539; clear HO542; clear HO546; clear HO550; clear BK505; clear BK547; clear HB; have HO512 := n0_; have HO515 := n1_; have HO518 := n2_; have HO522 := n3_; have HO525 := n4_; have HO528 := n5_; have HO531 := n6_; have HO536 := n7_; have HO539 := n8_; have HO542 := n9_; have HO546 := n10_; have HO550 := n11_; have HO553 := n12_; have BK505 := n13_; have BK547 := n14_; have HB := n15_; clear n0_ n1_ n2_ n3_ n4_ n5_ n6_ n7_ n8_ n9_ n10_ n11_ n12_ n13_ n14_ n15_; (try clear hb); (try clear hb2); (try clear hk); (try clear hi); (try clear ho0)) | ((with_reducible refine gate_callee (f := 11) rfl ?_); refine sqL (some 50) Try.func11 #[.slice A3 l3.length c3] ?_; (with_reducible refine (laws_toCellsS.calls k _ _ l3 t554 _ ?side1 ?side2 A31.out).mono ?_); (case side1 => exact sqC (Kd.C_below HR3.out HB.out)); (case side2 => exact HC3.out); rintro e w108 ⟨v555, rfl, ho0, hb⟩; refine ⟨_, rfl, ?_⟩; have n0_ := Aside0.mk (Kd.R_below (sqy HO512.out) hb); have n1_ := Aside0.mk (Kd.S_below (by (with_reducible repeat (first | apply Kd.S_alloc | apply Kd.S_drewN | apply Kd.S_drew)); exact HO515.out) hb); have n2_ := Aside0.mk (Kd.R_below (sqy HO518.out) hb); have n3_ := Aside0.mk (Kd.R_below (sqy HO522.out) hb); have n4_ := Aside0.mk (Kd.R_below (sqy HO525.out) hb); have n5_ := Aside0.mk (Kd.R_below (sqy HO528.out) hb); have n6_ := Aside0.mk (Kd.S_elder' (by (with_reducible repeat (first | apply Kd.S_alloc | apply Kd.S_drewN | apply Kd.S_drew)); exact HO531.out) (Kd.S_base ho0) hb); have n7_ := Aside0.mk (Kd.R_below (sqy HO536.out) hb); have n8_ := Aside0.mk (Kd.S_below (by (with_reducible repeat (first | apply Kd.S_alloc | apply Kd.S_drewN | apply Kd.S_drew)); exact HO539.out) hb); have n9_ := Aside0.mk (Kd.R_below (sqy HO542.out) hb); have n10_ := Aside0.mk (Kd.R_below (sqy HO546.out) hb); have n11_ := Aside0.mk (Kd.R_below (sqy HO550.out) hb); have n12_ := Aside0.mk (Kd.R_below (sqy HO553.out) hb); have n13_ := Aside0.mk (Kd.S_lower (Kd.S_new' (Kd.S_new' (Kd.S_new' (Kd.S_new' (Kd.S_new' ho0 (Kd.R_lt (sqy HO522.out))) (Kd.R_lt (sqy HO525.out))) (Kd.S_lt (by (with_reducible repeat (first | apply Kd.S_alloc | apply Kd.S_drewN | apply Kd.S_drew)); exact HO531.out))) (Kd.R_lt (sqy HO546.out))) (Kd.R_lt (sqy HO550.out))) (below_size (sqB HB))); have n14_ := sqb BK505 hb; have n15_ := sqb BK547 hb; have n16_ := sqs HB hb; clear HO512; clear HO515; clear HO518; clear HO522; clear HO525; clear HO528; clear HO531; clear HO536; clear HO539; clear HO542; clear HO546; clear HO550; clear HO553; clear BK505; clear BK547; clear HB; have HO512 := n0_; have HO515 := n1_; have HO518 := n2_; have HO522 := n3_; have HO525 := n4_; have HO528 := n5_; have HO531 := n6_; have HO536 := n7_; have HO539 := n8_; have HO542 := n9_; have HO546 := n10_; have HO550 := n11_; have HO553 := n12_; have HO556 := n13_; have BK505 := n14_; have BK547 := n15_; have HB := n16_; clear n0_ n1_ n2_ n3_ n4_ n5_ n6_ n7_ n8_ n9_ n10_ n11_ n12_ n13_ n14_ n15_ n16_; (try clear hb); (try clear hb2); (try clear hk); (try clear hi); (try clear ho0); obtain ⟨hcz109_0, hcz109_1, hcz109_2, hcz109_3, hcz109_4, hcz109_5, hfz109_0, hfz109_1, hfz109_2, hfz109_3, hfz109_4, hfz109_5⟩ := sqc6 BK547; obtain ⟨Ao110, co110, eo110⟩ := Kd.R_slice HO550.out; subst eo110; obtain ⟨Ao111, co111, eo111⟩ := Kd.R_slice HO553.out; subst eo111; obtain ⟨Ao112, co112, eo112⟩ := Kd.S_slice HO556.out; subst eo112) | ((with_reducible refine gate_callee (f := 12) rfl ?_); refine sqL (some 55) Try.func12 #[.agg #[.bool t533, .slice Ao102 t534.length co102, .slice Ao103 t537.length co103, .slice Ao104 t540.length co104, .int .i64 t543, .slice Ao105 t544.length co105], .slice Ao110 t548.length co110, .slice Ao111 t551.length co111, .slice Ao112 t554.length co112] ?_; (with_reducible refine (impl_AbsHas.calls k t533 _ _ t534 _ _ t537 _ _ t540 t543 _ _ t544 _ _ t548 _ _ t551 _ _ t554 t557 _ ?side1 ?side2 ?side3 ?side4 ?side5 ?side6 ?side7 ?side8 ?side9 ?side10 ?side11 ?side12 ?side13 ?side14 A32.out).mono ?_); (case side1 => exact sqC (Kd.R_reads' HO536.out).2.2); (case side2 => exact (Kd.R_reads' HO536.out).2.1); (case side3 => repeat (first | exact (Kd.S_reads' HO539.out).2.2 | (with_reducible refine Kd.C_alloc ?_ _) | (with_reducible refine Kd.C_drewN ?_ _) | (with_reducible refine Kd.C_drew ?_))); (case side4 => exact (Kd.S_reads' HO539.out).2.1); (case side5 => exact sqC (Kd.R_reads' HO542.out).2.2); (case side6 => exact (Kd.R_reads' HO542.out).2.1); (case side7 => exact sqC (Kd.R_reads' HO546.out).2.2); (case side8 => exact (Kd.R_reads' HO546.out).2.1); (case side9 => exact sqC (Kd.R_reads' HO550.out).2.2); (case side10 => exact (Kd.R_reads' HO550.out).2.1); (case side11 => exact sqC (Kd.R_reads' HO553.out).2.2); (case side12 => exact (Kd.R_reads' HO553.out).2.1); (case side13 => repeat (first | exact (Kd.S_reads' HO556.out).2.2 | (with_reducible refine Kd.C_alloc ?_ _) | (with_reducible refine Kd.C_drewN ?_ _) | (with_reducible refine Kd.C_drew ?_))); (case side14 => exact (Kd.S_reads' HO556.out).2.1); rintro e w113 ⟨rfl, hb⟩; refine ⟨_, rfl, ?_⟩; have n0_ := Aside0.mk (Kd.R_below (sqy HO512.out) hb); have n1_ := Aside0.mk (Kd.S_below (by (with_reducible repeat (first | apply Kd.S_alloc | apply Kd.S_drewN | apply Kd.S_drew)); exact HO515.out) hb); have n2_ := Aside0.mk (Kd.R_below (sqy HO518.out) hb); have n3_ := Aside0.mk (Kd.R_below (sqy HO522.out) hb); have n4_ := Aside0.mk (Kd.R_below (sqy HO525.out) hb); have n5_ := Aside0.mk (Kd.R_below (sqy HO528.out) hb); have n6_ := Aside0.mk (Kd.S_below (by (with_reducible repeat (first | apply Kd.S_alloc | apply Kd.S_drewN | apply Kd.S_drew)); exact HO531.out) hb); have n7_ := Aside0.mk (Kd.R_below (sqy HO536.out) hb); have n8_ := Aside0.mk (Kd.S_below (by (with_reducible repeat (first | apply Kd.S_alloc | apply Kd.S_drewN | apply Kd.S_drew)); exact HO539.out) hb); have n9_ := Aside0.mk (Kd.R_below (sqy HO542.out) hb); have n10_ := Aside0.mk (Kd.R_below (sqy HO546.out) hb); have n11_ := Aside0.mk (Kd.R_below (sqy HO550.out) hb); have n12_ := Aside0.mk (Kd.R_below (sqy HO553.out) hb); have n13_ := Aside0.mk (Kd.S_below (by (with_reducible repeat (first | apply Kd.S_alloc | apply Kd.S_drewN | apply Kd.S_drew)); exact HO556.out) hb); have n14_ := sqb BK505 hb; have n15_ := sqb BK547 hb; have n16_ := sqs HB hb; clear HO512; clear HO515; clear HO518; clear HO522; clear HO525; clear HO528; clear HO531; clear HO536; clear HO539; clear HO542; clear HO546; clear HO550; clear HO553; clear HO556; clear BK505; clear BK547; clear HB; have HO512 := n0_; have HO515 := n1_; have HO518 := n2_; have HO522 := n3_; have HO525 := n4_; have HO528 := n5_; have HO531 := n6_; have HO536 := n7_; have HO539 := n8_; have HO542 := n9_; have HO546 := n10_; have HO550 := n11_; have HO553 := n12_; have HO556 := n13_; have BK505 := n14_; have BK547 := n15_; have HB := n16_; clear n0_ n1_ n2_ n3_ n4_ n5_ n6_ n7_ n8_ n9_ n10_ n11_ n12_ n13_ n14_ n15_ n16_; (try clear hb)))
 replace HO512 := Aside0.mk (Kd.R_drew HO512.out)
 replace HO515 := Aside0.mk (Kd.S_drew HO515.out)
 replace HO518 := Aside0.mk (Kd.R_drew HO518.out)
 replace HO522 := Aside0.mk (Kd.R_drew HO522.out)
 replace HO525 := Aside0.mk (Kd.R_drew HO525.out)
 replace HO528 := Aside0.mk (Kd.R_drew HO528.out)
 replace HO531 := Aside0.mk (Kd.S_drew HO531.out)
 replace HO536 := Aside0.mk (Kd.R_drew HO536.out)
 replace HO539 := Aside0.mk (Kd.S_drew HO539.out)
 replace HO542 := Aside0.mk (Kd.R_drew HO542.out)
 replace HO546 := Aside0.mk (Kd.R_drew HO546.out)
 replace HO550 := Aside0.mk (Kd.R_drew HO550.out)
 replace HO553 := Aside0.mk (Kd.R_drew HO553.out)
 replace HO556 := Aside0.mk (Kd.S_drew HO556.out)
 replace BK505 := Aside0.mk (blk_drew BK505.out)
 replace BK547 := Aside0.mk (blk_drew BK547.out)
 replace HB := Aside0.mk (below_drew1 HB.out)
 refine start_ (n := 5) (S := fun w' => w'.cell? ⟨gb547, 0, none⟩ = some (.bool t533) ∧ w'.cell? ⟨gb547, 1, none⟩ = some (.slice Ao102 t534.length co102) ∧ w'.cell? ⟨gb547, 2, none⟩ = some (.slice Ao103 t537.length co103) ∧ w'.cell? ⟨gb547, 3, none⟩ = some (.slice Ao104 t540.length co104) ∧ w'.cell? ⟨gb547, 4, none⟩ = some (.int .i64 t543) ∧ w'.cell? ⟨gb547, 5, none⟩ = some (.slice Ao105 t544.length co105) ∧ w'.cell? ⟨gb505, 0, none⟩ = some (.bool a0_0) ∧ w'.cell? ⟨gb505, 1, none⟩ = some (.slice A0_1 l0_1.length c0_1) ∧ w'.cell? ⟨gb505, 2, none⟩ = some (.slice A0_2 l0_2.length c0_2) ∧ w'.cell? ⟨gb505, 3, none⟩ = some (.slice A0_3 l0_3.length c0_3) ∧ w'.cell? ⟨gb505, 4, none⟩ = some (.int .i64 a0_4) ∧ w'.cell? ⟨gb505, 5, none⟩ = some (.slice A0_5 l0_5.length c0_5)) (ds := []) #[false, false, false, false, false] (by kernel_rfl) rfl rfl sqz (fun hHeld => ?_)
 generalize w113.drew = w114 at HO512 HO515 HO518 HO522 HO525 HO528 HO531 HO536 HO539 HO542 HO546 HO550 HO553 HO556 BK505 BK547 HB hHeld ⊢
 refine take_ (i := 0) (N := some 59) (v := ?_) (a' := ?_) #[true, false, false, false, false] rfl rfl (by kernel_rfl) (fun _ _ _ h => h) (Or.inl ⟨by rfl, ?_⟩) hHeld ?_ ?_
 rotate_left
 ·rintro w' ⟨s0, s1, s2, s3, s4, s5, s6, s7, s8, s9, s10, s11⟩
  go_simp
  with_reducible rfl
 rotate_left
 ·simp only [Act.put, List.setIfInBounds_toArray, List.set_cons_zero, List.set_cons_succ, i64_w, i32_w]
  rfl
 refine take_ (i := 1) (N := some 60) (v := ?_) (a' := ?_) #[true, true, false, false, false] rfl rfl (by kernel_rfl) (fun _ _ _ h => h) (Or.inl ⟨by rfl, ?_⟩) hHeld ?_ ?_
 rotate_left
 ·rintro w' ⟨s0, s1, s2, s3, s4, s5, s6, s7, s8, s9, s10, s11⟩
  go_simp
  with_reducible rfl
 rotate_left
 ·simp only [Act.put, List.setIfInBounds_toArray, List.set_cons_zero, List.set_cons_succ, i64_w, i32_w]
  rfl
 refine one_ (i := 2) (N := some 61) #[true, true, true, false, false] rfl rfl (by kernel_rfl) (by decide) (fun K hK => ?_)
 refine sqG Try.func8 #[.agg #[.bool a0_0, .slice A0_1 l0_1.length c0_1, .slice A0_2 l0_2.length c0_2, .slice A0_3 l0_3.length c0_3, .int .i64 a0_4, .slice A0_5 l0_5.length c0_5]] ?_
 with_reducible refine (laws_toAbs.calls k a0_0 _ _ l0_1 _ _ l0_2 _ _ l0_3 a0_4 _ _ l0_5 t558 t559 t562 t565 t568 t569 _ ?side1 ?side2 ?side3 ?side4 ?side5 ?side6 ?side7 ?side8 A68.out).mono ?_
 (case side1 => exact sqC (Kd.C_below HR0_1.out HB.out))
 (case side2 => exact HC0_1.out)
 (case side3 => exact sqC (Kd.C_below HR0_2.out HB.out))
 (case side4 => exact HC0_2.out)
 (case side5 => exact sqC (Kd.C_below HR0_3.out HB.out))
 (case side6 => exact HC0_3.out)
 (case side7 => exact sqC (Kd.C_below HR0_5.out HB.out))
 (case side8 => exact HC0_5.out)
 rintro e w115 ⟨v560, v563, v566, v570, rfl, ho0, ho1, ho2, ho3, hb⟩
 refine ⟨_, rfl, ?_⟩
 have n0_ := Aside0.mk (Kd.R_mono (Kd.R_told (Kd.R_told (Kd.R_old (sqy HO512.out) hb) (Kd.R_base ho0)) (Kd.R_base ho2)) (fun _ h_ => h_.1))
 have n1_ := Aside0.mk (Kd.S_mono (Kd.S_told (Kd.S_told (Kd.S_old (by (with_reducible repeat (first | apply Kd.S_alloc | apply Kd.S_drewN | apply Kd.S_drew)); exact HO515.out) hb) (Kd.S_base ho1)) (Kd.R_base ho3)) (fun _ h_ => h_.1))
 have n2_ := Aside0.mk (Kd.R_mono (Kd.R_told (Kd.R_told (Kd.R_old (sqy HO518.out) hb) (Kd.R_base ho0)) (Kd.R_base ho2)) (fun _ h_ => h_.1))
 have n3_ := Aside0.mk (Kd.R_elder' (sqy HO522.out) (Kd.R_base ho3) hb)
 have n4_ := Aside0.mk (Kd.R_elder' (sqy HO525.out) (Kd.R_base ho3) hb)
 have n5_ := Aside0.mk (Kd.R_below (sqy HO528.out) hb)
 have n6_ := Aside0.mk (Kd.S_elder' (by (with_reducible repeat (first | apply Kd.S_alloc | apply Kd.S_drewN | apply Kd.S_drew)); exact HO531.out) (Kd.R_base ho3) hb)
 have n7_ := Aside0.mk (Kd.R_mono (Kd.R_told (Kd.R_told (Kd.R_old (sqy HO536.out) hb) (Kd.R_base ho0)) (Kd.R_base ho2)) (fun _ h_ => h_.1))
 have n8_ := Aside0.mk (Kd.S_mono (Kd.S_told (Kd.S_told (Kd.S_old (by (with_reducible repeat (first | apply Kd.S_alloc | apply Kd.S_drewN | apply Kd.S_drew)); exact HO539.out) hb) (Kd.S_base ho1)) (Kd.R_base ho3)) (fun _ h_ => h_.1))
 have n9_ := Aside0.mk (Kd.R_mono (Kd.R_told (Kd.R_told (Kd.R_old (sqy HO542.out) hb) (Kd.R_base ho0)) (Kd.R_base ho2)) (fun _ h_ => h_.1))
 have n10_ := Aside0.mk (Kd.R_elder' (sqy HO546.out) (Kd.R_base ho3) hb)
 have n11_ := Aside0.mk (Kd.R_elder' (sqy HO550.out) (Kd.R_base ho3) hb)
 have n12_ := Aside0.mk (Kd.R_below (sqy HO553.out) hb)
 have n13_ := Aside0.mk (Kd.S_elder' (by (with_reducible repeat (first | apply Kd.S_alloc | apply Kd.S_drewN | apply Kd.S_drew)); exact HO556.out) (Kd.R_base ho3) hb)
 have n14_ := Aside0.mk (Kd.R_lower (Kd.R_new' (Kd.R_new' (Kd.R_new' (Kd.R_new' ho0 (Kd.R_lt (sqy HO512.out))) (Kd.R_lt (sqy HO518.out))) (Kd.R_lt (sqy HO536.out))) (Kd.R_lt (sqy HO542.out))) (below_size (sqB HB)))
 have n15_ := Aside0.mk (Kd.S_lower (Kd.S_new' (Kd.S_new' (Kd.S_new' (Kd.S_new' (Kd.S_new' (Kd.S_new' ho1 (Kd.S_lt (by (with_reducible repeat (first | apply Kd.S_alloc | apply Kd.S_drewN | apply Kd.S_drew)); exact HO515.out))) (Kd.R_lt (sqy HO522.out))) (Kd.R_lt (sqy HO525.out))) (Kd.S_lt (by (with_reducible repeat (first | apply Kd.S_alloc | apply Kd.S_drewN | apply Kd.S_drew)); exact HO539.out))) (Kd.R_lt (sqy HO546.out))) (Kd.R_lt (sqy HO550.out))) (below_size (sqB HB)))
 have n16_ := Aside0.mk (Kd.R_lower (Kd.R_new' (Kd.R_new' (Kd.R_new' (Kd.R_new' ho2 (Kd.R_lt (sqy HO512.out))) (Kd.R_lt (sqy HO518.out))) (Kd.R_lt (sqy HO536.out))) (Kd.R_lt (sqy HO542.out))) (below_size (sqB HB)))
 have n17_ := Aside0.mk (Kd.R_lower (Kd.R_new' (Kd.R_new' (Kd.R_new' (Kd.R_new' ho3 (Kd.R_lt (sqy HO522.out))) (Kd.R_lt (sqy HO525.out))) (Kd.R_lt (sqy HO546.out))) (Kd.R_lt (sqy HO550.out))) (below_size (sqB HB)))
 have n18_ := sqb BK505 hb
 have n19_ := sqb BK547 hb
 have n20_ := sqs HB hb
 clear HO512
 clear HO515
 clear HO518
 clear HO522
 clear HO525
 clear HO528
 clear HO531
 clear HO536
 clear HO539
 clear HO542
 clear HO546
 clear HO550
 clear HO553
 clear HO556
 clear BK505
 clear BK547
 clear HB
 have HO512 := n0_
 have HO515 := n1_
 have HO518 := n2_
 have HO522 := n3_
 have HO525 := n4_
 have HO528 := n5_
 have HO531 := n6_
 have HO536 := n7_
 have HO539 := n8_
 have HO542 := n9_
 have HO546 := n10_
 have HO550 := n11_
 have HO553 := n12_
 have HO556 := n13_
 have HO561 := n14_
 have HO564 := n15_
 have HO567 := n16_
 have HO571 := n17_
 have BK505 := n18_
 have BK547 := n19_
 have HB := n20_
 clear n0_ n1_ n2_ n3_ n4_ n5_ n6_ n7_ n8_ n9_ n10_ n11_ n12_ n13_ n14_ n15_ n16_ n17_ n18_ n19_ n20_
 (try clear hb)
 (try clear hb2)
 (try clear hk)
 (try clear hi)
 (try clear ho0)
 (try clear ho1)
 (try clear ho2)
 (try clear ho3)
 obtain ⟨Ao116, co116, eo116⟩ := Kd.R_slice HO561.out
 (first | subst eo116 | (injection eo116 with f1_ f2_ f3_; have f4_ := f1_.symm; have f5_ := f3_.symm; clear f1_ f2_ f3_; subst f4_; subst f5_))
 obtain ⟨Ao117, co117, eo117⟩ := Kd.S_slice HO564.out
 (first | subst eo117 | (injection eo117 with f1_ f2_ f3_; have f4_ := f1_.symm; have f5_ := f3_.symm; clear f1_ f2_ f3_; subst f4_; subst f5_))
 obtain ⟨Ao118, co118, eo118⟩ := Kd.R_slice HO567.out
 (first | subst eo118 | (injection eo118 with f1_ f2_ f3_; have f4_ := f1_.symm; have f5_ := f3_.symm; clear f1_ f2_ f3_; subst f4_; subst f5_))
 obtain ⟨Ao119, co119, eo119⟩ := Kd.R_slice HO571.out
 (first | subst eo119 | (injection eo119 with f1_ f2_ f3_; have f4_ := f1_.symm; have f5_ := f3_.symm; clear f1_ f2_ f3_; subst f4_; subst f5_))
 refine hK.out _ _ sqz (fun hHeld => ?_)
 clear hK K
 refine sqnm ?_
 refine one_ (i := 3) (N := some 62) #[true, true, true, true, false] rfl rfl (by kernel_rfl) (by decide) (fun K hK => ?_)
 refine sqG Try.func13 #[.agg #[.bool t533, .slice Ao102 t534.length co102, .slice Ao103 t537.length co103, .slice Ao104 t540.length co104, .int .i64 t543, .slice Ao105 t544.length co105], .agg #[.bool t558, .slice Ao116 t559.length co116, .slice Ao117 t562.length co117, .slice Ao118 t565.length co118, .int .i64 t568, .slice Ao119 t569.length co119]] ?_
 with_reducible refine (laws_eqAbs.calls k t533 _ _ t534 _ _ t537 _ _ t540 t543 _ _ t544 t558 _ _ t559 _ _ t562 _ _ t565 t568 _ _ t569 true _ ?side1 ?side2 ?side3 ?side4 ?side5 ?side6 ?side7 ?side8 ?side9 ?side10 ?side11 ?side12 ?side13 ?side14 ?side15 ?side16 A69.out).mono ?_
 (case side1 => exact sqC (Kd.R_reads' HO536.out).2.2)
 (case side2 => exact (Kd.R_reads' HO536.out).2.1)
 (case side3 => repeat (first | exact (Kd.S_reads' HO539.out).2.2 | (with_reducible refine Kd.C_alloc ?_ _) | (with_reducible refine Kd.C_drewN ?_ _) | (with_reducible refine Kd.C_drew ?_)))
 (case side4 => exact (Kd.S_reads' HO539.out).2.1)
 (case side5 => exact sqC (Kd.R_reads' HO542.out).2.2)
 (case side6 => exact (Kd.R_reads' HO542.out).2.1)
 (case side7 => exact sqC (Kd.R_reads' HO546.out).2.2)
 (case side8 => exact (Kd.R_reads' HO546.out).2.1)
 (case side9 => exact sqC (Kd.R_reads' HO561.out).2.2)
 (case side10 => exact (Kd.R_reads' HO561.out).2.1)
 (case side11 => repeat (first | exact (Kd.S_reads' HO564.out).2.2 | (with_reducible refine Kd.C_alloc ?_ _) | (with_reducible refine Kd.C_drewN ?_ _) | (with_reducible refine Kd.C_drew ?_)))
 (case side12 => exact (Kd.S_reads' HO564.out).2.1)
 (case side13 => exact sqC (Kd.R_reads' HO567.out).2.2)
 (case side14 => exact (Kd.R_reads' HO567.out).2.1)
 (case side15 => exact sqC (Kd.R_reads' HO571.out).2.2)
 (case side16 => exact (Kd.R_reads' HO571.out).2.1)
 rintro e w120 ⟨rfl, hb⟩
 refine ⟨_, rfl, ?_⟩
 have n0_ := Aside0.mk (Kd.R_below (sqy HO512.out) hb)
 have n1_ := Aside0.mk (Kd.S_below (by (with_reducible repeat (first | apply Kd.S_alloc | apply Kd.S_drewN | apply Kd.S_drew)); exact HO515.out) hb)
 have n2_ := Aside0.mk (Kd.R_below (sqy HO518.out) hb)
 have n3_ := Aside0.mk (Kd.R_below (sqy HO522.out) hb)
 have n4_ := Aside0.mk (Kd.R_below (sqy HO525.out) hb)
 have n5_ := Aside0.mk (Kd.R_below (sqy HO528.out) hb)
 have n6_ := Aside0.mk (Kd.S_below (by (with_reducible repeat (first | apply Kd.S_alloc | apply Kd.S_drewN | apply Kd.S_drew)); exact HO531.out) hb)
 have n7_ := Aside0.mk (Kd.R_below (sqy HO536.out) hb)
 have n8_ := Aside0.mk (Kd.S_below (by (with_reducible repeat (first | apply Kd.S_alloc | apply Kd.S_drewN | apply Kd.S_drew)); exact HO539.out) hb)
 have n9_ := Aside0.mk (Kd.R_below (sqy HO542.out) hb)
 have n10_ := Aside0.mk (Kd.R_below (sqy HO546.out) hb)
 have n11_ := Aside0.mk (Kd.R_below (sqy HO550.out) hb)
 have n12_ := Aside0.mk (Kd.R_below (sqy HO553.out) hb)
 have n13_ := Aside0.mk (Kd.S_below (by (with_reducible repeat (first | apply Kd.S_alloc | apply Kd.S_drewN | apply Kd.S_drew)); exact HO556.out) hb)
 have n14_ := Aside0.mk (Kd.R_below (sqy HO561.out) hb)
 have n15_ := Aside0.mk (Kd.S_below (by (with_reducible repeat (first | apply Kd.S_alloc | apply Kd.S_drewN | apply Kd.S_drew)); exact HO564.out) hb)
 have n16_ := Aside0.mk (Kd.R_below (sqy HO567.out) hb)
 have n17_ := Aside0.mk (Kd.R_below (sqy HO571.out) hb)
 have n18_ := sqb BK505 hb
 have n19_ := sqb BK547 hb
 have n20_ := sqs HB hb
 clear HO512
 clear HO515
 clear HO518
 clear HO522
 clear HO525
 clear HO528
 clear HO531
 clear HO536
 clear HO539
 clear HO542
 clear HO546
 clear HO550
 clear HO553
 clear HO556
 clear HO561
 clear HO564
 clear HO567
 clear HO571
 clear BK505
 clear BK547
 clear HB
 have HO512 := n0_
 have HO515 := n1_
 have HO518 := n2_
 have HO522 := n3_
 have HO525 := n4_
 have HO528 := n5_
 have HO531 := n6_
 have HO536 := n7_
 have HO539 := n8_
 have HO542 := n9_
 have HO546 := n10_
 have HO550 := n11_
 have HO553 := n12_
 have HO556 := n13_
 have HO561 := n14_
 have HO564 := n15_
 have HO567 := n16_
 have HO571 := n17_
 have BK505 := n18_
 have BK547 := n19_
 have HB := n20_
 clear n0_ n1_ n2_ n3_ n4_ n5_ n6_ n7_ n8_ n9_ n10_ n11_ n12_ n13_ n14_ n15_ n16_ n17_ n18_ n19_ n20_
 (try clear hb)
 refine hK.out _ _ sqz (fun hHeld => ?_)
 clear hK K
 refine sqnm ?_
 refine pure_ (i := 4) (N := some 63) (v := ?_) (a' := ?_) #[true, true, true, true, true] rfl rfl (by kernel_rfl) (fun _ _ _ h => h) (Or.inl ⟨by rfl, ?_⟩) ?_ ?_
 rotate_left
 ·intro w'
  go_simp
  with_reducible rfl
 rotate_left
 ·simp only [Act.put, List.setIfInBounds_toArray, List.set_cons_zero, List.set_cons_succ, i64_w, i32_w]
  rfl
 refine done_ (by kernel_rfl) ?_
 try go_wp2_with (first | ((with_reducible refine gate_callee (f := 9) rfl ?_); refine sqL (some 66) Try.func9 #[.slice A1 l1.length c1] ?_; (with_reducible refine (laws_toIntS.calls k _ _ l1 t573 _ ?side1 ?side2 A71.out).mono ?_); (case side1 => exact sqC (Kd.C_below HR1.out HB.out)); (case side2 => exact HC1.out); rintro e w121 ⟨v574, rfl, ho0, hb⟩; refine ⟨_, rfl, ?_⟩; have n0_ := Aside0.mk (Kd.R_below (sqy HO512.out) hb); have n1_ := Aside0.mk (Kd.S_elder' (by (with_reducible repeat (first | apply Kd.S_alloc | apply Kd.S_drewN | apply Kd.S_drew)); exact HO515.out) (Kd.R_base ho0) hb); have n2_ := Aside0.mk (Kd.R_below (sqy HO518.out) hb); have n3_ := Aside0.mk (Kd.R_elder' (sqy HO522.out) (Kd.R_base ho0) hb); have n4_ := Aside0.mk (Kd.R_elder' (sqy HO525.out) (Kd.R_base ho0) hb); have n5_ := Aside0.mk (Kd.R_below (sqy HO528.out) hb); have n6_ := Aside0.mk (Kd.S_elder' (by (with_reducible repeat (first | apply Kd.S_alloc | apply Kd.S_drewN | apply Kd.S_drew)); exact HO531.out) (Kd.R_base ho0) hb); have n7_ := Aside0.mk (Kd.R_below (sqy HO536.out) hb); have n8_ := Aside0.mk (Kd.S_elder' (by (with_reducible repeat (first | apply Kd.S_alloc | apply Kd.S_drewN | apply Kd.S_drew)); exact HO539.out) (Kd.R_base ho0) hb); have n9_ := Aside0.mk (Kd.R_below (sqy HO542.out) hb); have n10_ := Aside0.mk (Kd.R_elder' (sqy HO546.out) (Kd.R_base ho0) hb); have n11_ := Aside0.mk (Kd.R_elder' (sqy HO550.out) (Kd.R_base ho0) hb); have n12_ := Aside0.mk (Kd.R_below (sqy HO553.out) hb); have n13_ := Aside0.mk (Kd.S_elder' (by (with_reducible repeat (first | apply Kd.S_alloc | apply Kd.S_drewN | apply Kd.S_drew)); exact HO556.out) (Kd.R_base ho0) hb); have n14_ := Aside0.mk (Kd.R_below (sqy HO561.out) hb); have n15_ := Aside0.mk (Kd.S_elder' (by (with_reducible repeat (first | apply Kd.S_alloc | apply Kd.S_drewN | apply Kd.S_drew)); exact HO564.out) (Kd.R_base ho0) hb); have n16_ := Aside0.mk (Kd.R_below (sqy HO567.out) hb); have n17_ := Aside0.mk (Kd.R_elder' (sqy HO571.out) (Kd.R_base ho0) hb); have n18_ := Aside0.mk (Kd.R_lower (Kd.R_new' (Kd.R_new' (Kd.R_new' (Kd.R_new' (Kd.R_new' ho0 (Kd.R_lt (sqy HO522.out))) (Kd.R_lt (sqy HO525.out))) (Kd.R_lt (sqy HO546.out))) (Kd.R_lt (sqy HO550.out))) (Kd.R_lt (sqy HO571.out))) (below_size (sqB HB))); have n19_ := sqb BK505 hb; have n20_ := sqb BK547 hb; have n21_ := sqs HB hb; clear HO512; clear HO515; clear HO518; clear HO522; clear HO525; clear HO528; clear HO531; clear HO536; clear HO539; clear HO542; clear HO546; clear HO550; clear HO553; clear HO556; clear HO561; clear HO564; clear HO567; clear HO571; clear BK505; clear BK547; clear HB; have HO512 := n0_; have HO515 := n1_; have HO518 := n2_; have HO522 := n3_; have HO525 := n4_; have HO528 := n5_; have HO531 := n6_; have HO536 := n7_; have HO539 := n8_; have HO542 := n9_; have HO546 := n10_; have HO550 := n11_; have HO553 := n12_; have HO556 := n13_; have HO561 := n14_; have HO564 := n15_; have HO567 := n16_; have HO571 := n17_; have HO575 := n18_; have BK505 := n19_; have BK547 := n20_; have HB := n21_; clear n0_ n1_ n2_ n3_ n4_ n5_ n6_ n7_ n8_ n9_ n10_ n11_ n12_ n13_ n14_ n15_ n16_ n17_ n18_ n19_ n20_ n21_; (try clear hb); (try clear hb2); (try clear hk); (try clear hi); (try clear ho0); obtain ⟨Ao122, co122, eo122⟩ := Kd.R_slice HO575.out; subst eo122) | ((with_reducible refine gate_callee (f := 14) rfl ?_); refine sqL (some 67) Try.func14 #[.slice Ao110 t548.length co110, .slice Ao122 t573.length co122] ?_; (with_reducible refine (laws_eqIntS.calls k _ _ t548 _ _ t573 true _ ?side1 ?side2 ?side3 ?side4 A72.out).mono ?_); (case side1 => exact sqC (Kd.R_reads' HO550.out).2.2); (case side2 => exact (Kd.R_reads' HO550.out).2.1); (case side3 => exact sqC (Kd.R_reads' HO575.out).2.2); (case side4 => exact (Kd.R_reads' HO575.out).2.1); rintro e w' ⟨rfl, ⟨nd, rfl⟩⟩; refine ⟨_, rfl, ?_⟩) | ((with_reducible refine gate_callee (f := 10) rfl ?_); refine sqL (some 71) Try.func10 #[.slice A2 l2.length c2] ?_; (with_reducible refine (laws_toRefS.calls k _ _ l2 t577 _ ?side1 ?side2 A74.out).mono ?_); (case side1 => exact sqC (Kd.C_below HR2.out (sqB HB))); (case side2 => exact HC2.out); rintro e w123 ⟨v578, rfl, ho0, hb⟩; refine ⟨_, rfl, ?_⟩; have n0_ := Aside0.mk (Kd.R_below (sqy HO512.out) hb); have n1_ := Aside0.mk (Kd.S_below (by (with_reducible repeat (first | apply Kd.S_alloc | apply Kd.S_drewN | apply Kd.S_drew)); exact HO515.out) hb); have n2_ := Aside0.mk (Kd.R_below (sqy HO518.out) hb); have n3_ := Aside0.mk (Kd.R_below (sqy HO522.out) hb); have n4_ := Aside0.mk (Kd.R_below (sqy HO525.out) hb); have n5_ := Aside0.mk (Kd.R_elder' (sqy HO528.out) (Kd.R_base ho0) hb); have n6_ := Aside0.mk (Kd.S_below (by (with_reducible repeat (first | apply Kd.S_alloc | apply Kd.S_drewN | apply Kd.S_drew)); exact HO531.out) hb); have n7_ := Aside0.mk (Kd.R_below (sqy HO536.out) hb); have n8_ := Aside0.mk (Kd.S_below (by (with_reducible repeat (first | apply Kd.S_alloc | apply Kd.S_drewN | apply Kd.S_drew)); exact HO539.out) hb); have n9_ := Aside0.mk (Kd.R_below (sqy HO542.out) hb); have n10_ := Aside0.mk (Kd.R_below (sqy HO546.out) hb); have n11_ := Aside0.mk (Kd.R_below (sqy HO550.out) hb); have n12_ := Aside0.mk (Kd.R_elder' (sqy HO553.out) (Kd.R_base ho0) hb); have n13_ := Aside0.mk (Kd.S_below (by (with_reducible repeat (first | apply Kd.S_alloc | apply Kd.S_drewN | apply Kd.S_drew)); exact HO556.out) hb); have n14_ := Aside0.mk (Kd.R_below (sqy HO561.out) hb); have n15_ := Aside0.mk (Kd.S_below (by (with_reducible repeat (first | apply Kd.S_alloc | apply Kd.S_drewN | apply Kd.S_drew)); exact HO564.out) hb); have n16_ := Aside0.mk (Kd.R_below (sqy HO567.out) hb); have n17_ := Aside0.mk (Kd.R_below (sqy HO571.out) hb); have n18_ := Aside0.mk (Kd.R_below (sqy HO575.out) hb); have n19_ := Aside0.mk (Kd.R_lower (Kd.R_new' (Kd.R_new' ho0 (Kd.R_lt (sqy HO528.out))) (Kd.R_lt (sqy HO553.out))) (below_size (sqB HB))); have n20_ := sqb BK505 hb; have n21_ := sqb BK547 hb; have n22_ := sqs HB hb; clear HO512; clear HO515; clear HO518; clear HO522; clear HO525; clear HO528; clear HO531; clear HO536; clear HO539; clear HO542; clear HO546; clear HO550; clear HO553; clear HO556; clear HO561; clear HO564; clear HO567; clear HO571; clear HO575; clear BK505; clear BK547; clear HB; have HO512 := n0_; have HO515 := n1_; have HO518 := n2_; have HO522 := n3_; have HO525 := n4_; have HO528 := n5_; have HO531 := n6_; have HO536 := n7_; have HO539 := n8_; have HO542 := n9_; have HO546 := n10_; have HO550 := n11_; have HO553 := n12_; have HO556 := n13_; have HO561 := n14_; have HO564 := n15_; have HO567 := n16_; have HO571 := n17_; have HO575 := n18_; have HO579 := n19_; have BK505 := n20_; have BK547 := n21_; have HB := n22_; clear n0_ n1_ n2_ n3_ n4_ n5_ n6_ n7_ n8_ n9_ n10_ n11_ n12_ n13_ n14_ n15_ n16_ n17_ n18_ n19_ n20_ n21_ n22_; (try clear hb); (try clear hb2); (try clear hk); (try clear hi); (try clear ho0); obtain ⟨Ao124, co124, eo124⟩ := Kd.R_slice HO579.out; subst eo124) | ((with_reducible refine gate_callee (f := 15) rfl ?_); refine sqL (some 72) Try.func15 #[.slice Ao111 t551.length co111, .slice Ao124 t577.length co124] ?_; (with_reducible refine (laws_eqRefS.calls k _ _ t551 _ _ t577 true _ ?side1 ?side2 ?side3 ?side4 A75.out).mono ?_); (case side1 => exact sqC (Kd.R_reads' HO553.out).2.2); (case side2 => exact (Kd.R_reads' HO553.out).2.1); (case side3 => exact sqC (Kd.R_reads' HO579.out).2.2); (case side4 => exact (Kd.R_reads' HO579.out).2.1); rintro e w125 ⟨rfl, hb⟩; refine ⟨_, rfl, ?_⟩; have n0_ := Aside0.mk (Kd.R_below (sqy HO512.out) hb); have n1_ := Aside0.mk (Kd.S_below (by (with_reducible repeat (first | apply Kd.S_alloc | apply Kd.S_drewN | apply Kd.S_drew)); exact HO515.out) hb); have n2_ := Aside0.mk (Kd.R_below (sqy HO518.out) hb); have n3_ := Aside0.mk (Kd.R_below (sqy HO522.out) hb); have n4_ := Aside0.mk (Kd.R_below (sqy HO525.out) hb); have n5_ := Aside0.mk (Kd.R_below (sqy HO528.out) hb); have n6_ := Aside0.mk (Kd.S_below (by (with_reducible repeat (first | apply Kd.S_alloc | apply Kd.S_drewN | apply Kd.S_drew)); exact HO531.out) hb); have n7_ := Aside0.mk (Kd.R_below (sqy HO536.out) hb); have n8_ := Aside0.mk (Kd.S_below (by (with_reducible repeat (first | apply Kd.S_alloc | apply Kd.S_drewN | apply Kd.S_drew)); exact HO539.out) hb); have n9_ := Aside0.mk (Kd.R_below (sqy HO542.out) hb); have n10_ := Aside0.mk (Kd.R_below (sqy HO546.out) hb); have n11_ := Aside0.mk (Kd.R_below (sqy HO550.out) hb); have n12_ := Aside0.mk (Kd.R_below (sqy HO553.out) hb); have n13_ := Aside0.mk (Kd.S_below (by (with_reducible repeat (first | apply Kd.S_alloc | apply Kd.S_drewN | apply Kd.S_drew)); exact HO556.out) hb); have n14_ := Aside0.mk (Kd.R_below (sqy HO561.out) hb); have n15_ := Aside0.mk (Kd.S_below (by (with_reducible repeat (first | apply Kd.S_alloc | apply Kd.S_drewN | apply Kd.S_drew)); exact HO564.out) hb); have n16_ := Aside0.mk (Kd.R_below (sqy HO567.out) hb); have n17_ := Aside0.mk (Kd.R_below (sqy HO571.out) hb); have n18_ := Aside0.mk (Kd.R_below (sqy HO575.out) hb); have n19_ := Aside0.mk (Kd.R_below (sqy HO579.out) hb); have n20_ := sqb BK505 hb; have n21_ := sqb BK547 hb; have n22_ := sqs HB hb; clear HO512; clear HO515; clear HO518; clear HO522; clear HO525; clear HO528; clear HO531; clear HO536; clear HO539; clear HO542; clear HO546; clear HO550; clear HO553; clear HO556; clear HO561; clear HO564; clear HO567; clear HO571; clear HO575; clear HO579; clear BK505; clear BK547; clear HB; have HO512 := n0_; have HO515 := n1_; have HO518 := n2_; have HO522 := n3_; have HO525 := n4_; have HO528 := n5_; have HO531 := n6_; have HO536 := n7_; have HO539 := n8_; have HO542 := n9_; have HO546 := n10_; have HO550 := n11_; have HO553 := n12_; have HO556 := n13_; have HO561 := n14_; have HO564 := n15_; have HO567 := n16_; have HO571 := n17_; have HO575 := n18_; have HO579 := n19_; have BK505 := n20_; have BK547 := n21_; have HB := n22_; clear n0_ n1_ n2_ n3_ n4_ n5_ n6_ n7_ n8_ n9_ n10_ n11_ n12_ n13_ n14_ n15_ n16_ n17_ n18_ n19_ n20_ n21_ n22_; (try clear hb)) | ((with_reducible refine gate_callee (f := 11) rfl ?_); refine sqL (some 76) Try.func11 #[.slice A3 l3.length c3] ?_; (with_reducible refine (laws_toCellsS.calls k _ _ l3 t581 _ ?side1 ?side2 A77.out).mono ?_); (case side1 => exact sqC (Kd.C_below HR3.out HB.out)); (case side2 => exact HC3.out); rintro e w126 ⟨v582, rfl, ho0, hb⟩; refine ⟨_, rfl, ?_⟩; have n0_ := Aside0.mk (Kd.R_below (sqy HO512.out) hb); have n1_ := Aside0.mk (Kd.S_below (by (with_reducible repeat (first | apply Kd.S_alloc | apply Kd.S_drewN | apply Kd.S_drew)); exact HO515.out) hb); have n2_ := Aside0.mk (Kd.R_below (sqy HO518.out) hb); have n3_ := Aside0.mk (Kd.R_below (sqy HO522.out) hb); have n4_ := Aside0.mk (Kd.R_below (sqy HO525.out) hb); have n5_ := Aside0.mk (Kd.R_below (sqy HO528.out) hb); have n6_ := Aside0.mk (Kd.S_elder' (by (with_reducible repeat (first | apply Kd.S_alloc | apply Kd.S_drewN | apply Kd.S_drew)); exact HO531.out) (Kd.S_base ho0) hb); have n7_ := Aside0.mk (Kd.R_below (sqy HO536.out) hb); have n8_ := Aside0.mk (Kd.S_below (by (with_reducible repeat (first | apply Kd.S_alloc | apply Kd.S_drewN | apply Kd.S_drew)); exact HO539.out) hb); have n9_ := Aside0.mk (Kd.R_below (sqy HO542.out) hb); have n10_ := Aside0.mk (Kd.R_below (sqy HO546.out) hb); have n11_ := Aside0.mk (Kd.R_below (sqy HO550.out) hb); have n12_ := Aside0.mk (Kd.R_below (sqy HO553.out) hb); have n13_ := Aside0.mk (Kd.S_elder' (by (with_reducible repeat (first | apply Kd.S_alloc | apply Kd.S_drewN | apply Kd.S_drew)); exact HO556.out) (Kd.S_base ho0) hb); have n14_ := Aside0.mk (Kd.R_below (sqy HO561.out) hb); have n15_ := Aside0.mk (Kd.S_below (by (with_reducible repeat (first | apply Kd.S_alloc | apply Kd.S_drewN | apply Kd.S_drew)); exact HO564.out) hb); have n16_ := Aside0.mk (Kd.R_below (sqy HO567.out) hb); have n17_ := Aside0.mk (Kd.R_below (sqy HO571.out) hb); have n18_ := Aside0.mk (Kd.R_below (sqy HO575.out) hb); have n19_ := Aside0.mk (Kd.R_below (sqy HO579.out) hb); have n20_ := Aside0.mk (Kd.S_lower (Kd.S_new' (Kd.S_new' (Kd.S_new' (Kd.S_new' (Kd.S_new' (Kd.S_new' (Kd.S_new' (Kd.S_new' ho0 (Kd.R_lt (sqy HO522.out))) (Kd.R_lt (sqy HO525.out))) (Kd.S_lt (by (with_reducible repeat (first | apply Kd.S_alloc | apply Kd.S_drewN | apply Kd.S_drew)); exact HO531.out))) (Kd.R_lt (sqy HO546.out))) (Kd.R_lt (sqy HO550.out))) (Kd.S_lt (by (with_reducible repeat (first | apply Kd.S_alloc | apply Kd.S_drewN | apply Kd.S_drew)); exact HO556.out))) (Kd.R_lt (sqy HO571.out))) (Kd.R_lt (sqy HO575.out))) (below_size (sqB HB))); have n21_ := sqb BK505 hb; have n22_ := sqb BK547 hb; have n23_ := sqs HB hb; clear HO512; clear HO515; clear HO518; clear HO522; clear HO525; clear HO528; clear HO531; clear HO536; clear HO539; clear HO542; clear HO546; clear HO550; clear HO553; clear HO556; clear HO561; clear HO564; clear HO567; clear HO571; clear HO575; clear HO579; clear BK505; clear BK547; clear HB; have HO512 := n0_; have HO515 := n1_; have HO518 := n2_; have HO522 := n3_; have HO525 := n4_; have HO528 := n5_; have HO531 := n6_; have HO536 := n7_; have HO539 := n8_; have HO542 := n9_; have HO546 := n10_; have HO550 := n11_; have HO553 := n12_; have HO556 := n13_; have HO561 := n14_; have HO564 := n15_; have HO567 := n16_; have HO571 := n17_; have HO575 := n18_; have HO579 := n19_; have HO583 := n20_; have BK505 := n21_; have BK547 := n22_; have HB := n23_; clear n0_ n1_ n2_ n3_ n4_ n5_ n6_ n7_ n8_ n9_ n10_ n11_ n12_ n13_ n14_ n15_ n16_ n17_ n18_ n19_ n20_ n21_ n22_ n23_; (try clear hb); (try clear hb2); (try clear hk); (try clear hi); (try clear ho0); obtain ⟨Ao127, co127, eo127⟩ := Kd.S_slice HO583.out; subst eo127) | ((with_reducible refine gate_callee (f := 16) rfl ?_); refine sqL (some 77) Try.func16 #[.slice Ao112 t554.length co112, .slice Ao127 t581.length co127] ?_; (with_reducible refine (laws_eqCellsS.calls k _ _ t554 _ _ t581 true _ ?side1 ?side2 ?side3 ?side4 A78.out).mono ?_); (case side1 => repeat (first | exact (Kd.S_reads' HO556.out).2.2 | (with_reducible refine Kd.C_alloc ?_ _) | (with_reducible refine Kd.C_drewN ?_ _) | (with_reducible refine Kd.C_drew ?_))); (case side2 => exact (Kd.S_reads' HO556.out).2.1); (case side3 => repeat (first | exact (Kd.S_reads' HO583.out).2.2 | (with_reducible refine Kd.C_alloc ?_ _) | (with_reducible refine Kd.C_drewN ?_ _) | (with_reducible refine Kd.C_drew ?_))); (case side4 => exact (Kd.S_reads' HO583.out).2.1); rintro e w128 ⟨rfl, hb⟩; refine ⟨_, rfl, ?_⟩; have n0_ := Aside0.mk (Kd.R_below (sqy HO512.out) hb); have n1_ := Aside0.mk (Kd.S_below (by (with_reducible repeat (first | apply Kd.S_alloc | apply Kd.S_drewN | apply Kd.S_drew)); exact HO515.out) hb); have n2_ := Aside0.mk (Kd.R_below (sqy HO518.out) hb); have n3_ := Aside0.mk (Kd.R_below (sqy HO522.out) hb); have n4_ := Aside0.mk (Kd.R_below (sqy HO525.out) hb); have n5_ := Aside0.mk (Kd.R_below (sqy HO528.out) hb); have n6_ := Aside0.mk (Kd.S_below (by (with_reducible repeat (first | apply Kd.S_alloc | apply Kd.S_drewN | apply Kd.S_drew)); exact HO531.out) hb); have n7_ := Aside0.mk (Kd.R_below (sqy HO536.out) hb); have n8_ := Aside0.mk (Kd.S_below (by (with_reducible repeat (first | apply Kd.S_alloc | apply Kd.S_drewN | apply Kd.S_drew)); exact HO539.out) hb); have n9_ := Aside0.mk (Kd.R_below (sqy HO542.out) hb); have n10_ := Aside0.mk (Kd.R_below (sqy HO546.out) hb); have n11_ := Aside0.mk (Kd.R_below (sqy HO550.out) hb); have n12_ := Aside0.mk (Kd.R_below (sqy HO553.out) hb); have n13_ := Aside0.mk (Kd.S_below (by (with_reducible repeat (first | apply Kd.S_alloc | apply Kd.S_drewN | apply Kd.S_drew)); exact HO556.out) hb); have n14_ := Aside0.mk (Kd.R_below (sqy HO561.out) hb); have n15_ := Aside0.mk (Kd.S_below (by (with_reducible repeat (first | apply Kd.S_alloc | apply Kd.S_drewN | apply Kd.S_drew)); exact HO564.out) hb); have n16_ := Aside0.mk (Kd.R_below (sqy HO567.out) hb); have n17_ := Aside0.mk (Kd.R_below (sqy HO571.out) hb); have n18_ := Aside0.mk (Kd.R_below (sqy HO575.out) hb); have n19_ := Aside0.mk (Kd.R_below (sqy HO579.out) hb); have n20_ := Aside0.mk (Kd.S_below (by (with_reducible repeat (first | apply Kd.S_alloc | apply Kd.S_drewN | apply Kd.S_drew)); exact HO583.out) hb); have n21_ := sqb BK505 hb; have n22_ := sqb BK547 hb; have n23_ := sqs HB hb; clear HO512; clear HO515; clear HO518; clear HO522; clear HO525; clear HO528; clear HO531; clear HO536; clear HO539; clear HO542; clear HO546; clear HO550; clear HO553; clear HO556; clear HO561; clear HO564; clear HO567; clear HO571; clear HO575; clear HO579; clear HO583; clear BK505; clear BK547; clear HB; have HO512 := n0_; have HO515 := n1_; have HO518 := n2_; have HO522 := n3_; have HO525 := n4_; have HO528 := n5_; have HO531 := n6_; have HO536 := n7_; have HO539 := n8_; have HO542 := n9_; have HO546 := n10_; have HO550 := n11_; have HO553 := n12_; have HO556 := n13_; have HO561 := n14_; have HO564 := n15_; have HO567 := n16_; have HO571 := n17_; have HO575 := n18_; have HO579 := n19_; have HO583 := n20_; have BK505 := n21_; have BK547 := n22_; have HB := n23_; clear n0_ n1_ n2_ n3_ n4_ n5_ n6_ n7_ n8_ n9_ n10_ n11_ n12_ n13_ n14_ n15_ n16_ n17_ n18_ n19_ n20_ n21_ n22_ n23_; (try clear hb)))
 go_ret
 exact sqe HB
end Go.Proofs.Ytnmgckdgmplddaa.PFnExactAbsHas
