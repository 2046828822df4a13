/- Functions of the program as plain Lean functions, and that calls of them come to what these tell. Conditions: those in each law. -/
import Derived.Test.YtnmgckdgmplddaaSq
import Derived.Test.YtnmgckdgmplddaaDFnExactAbsHas
import Derived.Test.YtnmgckdgmplddaaQFnExactAbsHasx0
namespace Go.Proofs.Ytnmgckdgmplddaa.PFnExactAbsHas
open Go.RowKit Go.Proofs.Ytnmgckdgmplddaa.Sq Go.Proofs.YtnmgckdgmplddaaW.PrintWords Go.Proofs.YtnmgckdgmplddaaW.PrintLast Go.Proofs.YtnmgckdgmplddaaW.PrintMore
attribute [local go_sem] max2_int min2_int max_two min_two max_three min_three max_four min_four   -- for this text's walks alone
set_option linter.unusedVariables false
set_option linter.unusedSimpArgs false

/-! ### laws_szValS: function 17 -/
set_option maxHeartbeats 8000000 in
set_option maxRecDepth 100000 in
theorem laws_szValS.calls (A0 : Option Addr) (c0 : Nat) (l0 : List (S81)) (a1 : Int) (r : Int) (w : World) (hr0 : Kd.C k81 w A0 l0.length l0) (hc0 : l0.length ≤ c0) (h : laws_szValS.f l0 a1 = some r) :
  Calls Try.prog 17 #[.slice A0 l0.length c0, .int .i64 a1] w fun e w' => e = .returned (.int .i64 r) ∧ Drawn0 w w' := by
 have HR0 := Aside0.mk hr0
 have HC0 := Aside0.mk hc0
 clear hr0 hc0
 have H := h
 unfold laws_szValS.f at H
 clear h
 replace H := sqj H
 rcases H with ⟨c3, H⟩ | ⟨c3, H⟩
 ·have c3b0 := decide_eq_true c3
  clear c3
  obtain rfl := Option.some.inj H
  go_enter Try.func17, Try.ntmps17
  go_wp2
  go_ret
  exact ⟨by first | rfl | (simp; done) | (simp [*]; done), by repeat (first | exact Drawn0.refl _ | apply Drawn0.step)⟩
 have c3b0 := decide_eq_false c3
 clear c3
 obtain rfl := Option.some.inj H
 go_enter Try.func17, Try.ntmps17
 go_wp2
 go_ret
 exact ⟨by first | rfl | (simp; done) | (simp [*]; done), by repeat (first | exact Drawn0.refl _ | apply Drawn0.step)⟩

/-! ### laws_szIntS: function 40 -/
set_option maxHeartbeats 8000000 in
set_option maxRecDepth 100000 in
theorem laws_szIntS.calls (A0 : Option Addr) (c0 : Nat) (l0 : List Int) (a1 : Int) (r : Int) (w : World) (hr0 : Kd.C (Kd.int .i64) w A0 l0.length l0) (hc0 : l0.length ≤ c0) (h : laws_szIntS.f l0 a1 = some r) :
  Calls Try.prog 40 #[.slice A0 l0.length c0, .int .i64 a1] w fun e w' => e = .returned (.int .i64 r) ∧ Drawn0 w w' := by
 have HR0 := Aside0.mk hr0
 have HC0 := Aside0.mk hc0
 clear hr0 hc0
 have H := h
 unfold laws_szIntS.f at H
 clear h
 replace H := sqj H
 rcases H with ⟨c3, H⟩ | ⟨c3, H⟩
 ·have c3b0 := decide_eq_true c3
  clear c3
  obtain rfl := Option.some.inj H
  go_enter Try.func40, Try.ntmps40
  go_wp2
  go_ret
  exact ⟨by first | rfl | (simp; done) | (simp [*]; done), by repeat (first | exact Drawn0.refl _ | apply Drawn0.step)⟩
 have c3b0 := decide_eq_false c3
 clear c3
 obtain rfl := Option.some.inj H
 go_enter Try.func40, Try.ntmps40
 go_wp2
 go_ret
 exact ⟨by first | rfl | (simp; done) | (simp [*]; done), by repeat (first | exact Drawn0.refl _ | apply Drawn0.step)⟩

/-! ### laws_szRefVal: function 39 -/
set_option maxHeartbeats 8000000 in
set_option maxRecDepth 100000 in
theorem laws_szRefVal.calls (a0_0 : Bool) (A0_1 : Option Addr) (c0_1 : Nat) (l0_1 : List Int) (a0_2 : Int) (a0_3 : Int) (a0_4 : Int) (a0_5 : Int) (a1 : Int) (r : Int) (w : World) (hr0_1 : Kd.C (Kd.int .i64) w A0_1 l0_1.length l0_1) (hc0_1 : l0_1.length ≤ c0_1) (h : laws_szRefVal.f a0_0 l0_1 a0_2 a0_3 a0_4 a0_5 a1 = some r) :
  Calls Try.prog 39 #[.agg #[.bool a0_0, .slice A0_1 l0_1.length c0_1, .int .i64 a0_2, .int .i64 a0_3, .int .i64 a0_4, .int .i64 a0_5], .int .i64 a1] w fun e w' => e = .returned (.int .i64 r) ∧ Below w.heap.size w w' := by
 have hu83 := Try.underlying83
 have HR0_1 := Aside0.mk hr0_1
 have HC0_1 := Aside0.mk hc0_1
 clear hr0_1 hc0_1
 have HB := Aside0.mk (Below.refl w.heap.size w)
 have H := h
 unfold laws_szRefVal.f at H
 clear h
 replace H := Option.bind_eq_some_iff.mp H
 obtain ⟨t102, A30, H⟩ := H
 try dsimp only at H
 have A3 := Aside0.mk A30
 clear A30
 replace H := sqj H
 rcases H with ⟨c4, H⟩ | ⟨c4, H⟩
 ·have c4b0 := decide_eq_true c4
  clear c4
  obtain rfl := Option.some.inj H
  go_enter Try.func39, Try.ntmps39
  go_wp2_with (first | ((with_reducible refine gate_dst (N := 2) rfl ?_); refine sqx 2 #[.bool a0_0, .slice A0_1 l0_1.length c0_1, .int .i64 a0_2, .int .i64 a0_3, .int .i64 a0_4, .int .i64 a0_5] 83 ?_; intro gb101 hg w5 hbox hb; have BK101 := Aside0.mk hbox; have GW101 := sqg HB hg; have GE101 := sqg HB hg; replace HB := sqs HB hb; clear hb hbox hg; obtain ⟨hcz6_0, hcz6_1, hcz6_2, hcz6_3, hcz6_4, hcz6_5, hfz6_0, hfz6_1, hfz6_2, hfz6_3, hfz6_4, hfz6_5⟩ := sqc6 BK101) | ((with_reducible refine gate_callee (f := 40) rfl ?_); refine sqL (some 8) Try.func40 #[.slice A0_1 l0_1.length c0_1, .int .i64 a1] ?_; (with_reducible refine (laws_szIntS.calls _ _ l0_1 a1 t102 _ ?side1 ?side2 A3.out).mono ?_); (case side1 => exact sqC (Kd.C_below HR0_1.out HB.out)); (case side2 => exact HC0_1.out); rintro e w' ⟨rfl, ⟨nd, rfl⟩⟩; refine ⟨_, rfl, ?_⟩))
  go_ret
  exact sqe HB
 have c4b0 := decide_eq_false c4
 clear c4
 obtain rfl := Option.some.inj H
 go_enter Try.func39, Try.ntmps39
 go_wp2_with (first | ((with_reducible refine gate_dst (N := 2) rfl ?_); refine sqx 2 #[.bool a0_0, .slice A0_1 l0_1.length c0_1, .int .i64 a0_2, .int .i64 a0_3, .int .i64 a0_4, .int .i64 a0_5] 83 ?_; intro gb101 hg w7 hbox hb; have BK101 := Aside0.mk hbox; have GW101 := sqg HB hg; have GE101 := sqg HB hg; replace HB := sqs HB hb; clear hb hbox hg; obtain ⟨hcz8_0, hcz8_1, hcz8_2, hcz8_3, hcz8_4, hcz8_5, hfz8_0, hfz8_1, hfz8_2, hfz8_3, hfz8_4, hfz8_5⟩ := sqc6 BK101) | ((with_reducible refine gate_callee (f := 40) rfl ?_); refine sqL (some 8) Try.func40 #[.slice A0_1 l0_1.length c0_1, .int .i64 a1] ?_; (with_reducible refine (laws_szIntS.calls _ _ l0_1 a1 t102 _ ?side1 ?side2 A3.out).mono ?_); (case side1 => exact sqC (Kd.C_below HR0_1.out HB.out)); (case side2 => exact HC0_1.out); rintro e w' ⟨rfl, ⟨nd, rfl⟩⟩; refine ⟨_, rfl, ?_⟩))
 go_ret
 exact sqe HB

/-! ### laws_szRefValS: function 18 -/
set_option maxHeartbeats 8000000 in
set_option maxRecDepth 100000 in
theorem laws_szRefValS.calls (k : Nat) (A0 : Option Addr) (c0 : Nat) (l0 : List (S83)) (a1 : Int) (r : Int) (w : World) (hr0 : Kd.C k83 w A0 l0.length l0) (hc0 : l0.length ≤ c0) (h : laws_szRefValS.f k l0 a1 = some r) :
  Calls Try.prog 18 #[.slice A0 l0.length c0, .int .i64 a1] w fun e w' => e = .returned (.int .i64 r) ∧ Below w.heap.size w w' := by
 have hu83 := Try.underlying83
 have HR0 := Aside0.mk hr0
 have HC0 := Aside0.mk hc0
 clear hr0 hc0
 have HB := Aside0.mk (Below.refl w.heap.size w)
 have H := h
 unfold laws_szRefValS.f at H
 clear h
 replace H := sqj H
 rcases H with ⟨c3, H⟩ | ⟨c3, H⟩
 ·have c3b0 := decide_eq_true c3
  clear c3
  obtain rfl := Option.some.inj H
  go_enter Try.func18, Try.ntmps18
  go_wp2
  go_ret
  exact sqe HB
 have c3b0 := decide_eq_false c3
 clear c3
 have H' := Aside0.mk H
 clear H
 go_enter Try.func18, Try.ntmps18
 go_wp2
 go_loopg [1, 5] k (fun kq v1 v5 w' => ∃ (x1_1 : Int) (x5_1 : Int), v1 = .int .i64 x1_1 ∧ v5 = .int .i64 x5_1 ∧ Aside0 (laws_szRefValS.l0 kq l0 x1_1 x5_1 = some r) ∧ Aside0 (kq ≤ k) ∧ Aside0 (Below w.heap.size w w'))
 case atStart => exact ⟨(wrap64 (a1 - (l0.length : Int))), (0), (by first | rfl | (simp; done) | (simp [*]; done)), (by first | rfl | (simp; done) | (simp [*]; done)), H', ⟨Nat.le_refl _⟩, sqh HB⟩
 case round =>
  clear H'
  obtain ⟨x1_1, x5_1, rfl, rfl, HA, HK1, HB⟩ := hrel
  cases gk with
  | zero => exact absurd HA.out (by simp [laws_szRefValS.l0])
  | succ k1 =>
   have H := HA.out
   clear HA
   simp only [laws_szRefValS.l0] at H
   replace H := sqi H
   rcases H with ⟨c4, H⟩ | ⟨c4, H⟩
   ·have c4b0 := decide_eq_false c4
    clear c4
    obtain rfl := Option.some.inj H
    go_wp2
    go_ret
    exact sqe HB
   have c4b0 := decide_eq_true c4
   clear c4
   replace H := sqi H
   rcases H with ⟨c5, H⟩ | ⟨c5, H⟩
   ·exact absurd H (by simp)
   have c5b0 := decide_eq_true c5
   clear c5
   replace H := Option.bind_eq_some_iff.mp H
   obtain ⟨t104, A60, H⟩ := H
   try dsimp only at H
   have A6 := Aside0.mk A60
   clear A60
   replace H := sqj H
   rcases H with ⟨c7, H⟩ | ⟨c7, H⟩
   ·have c7b0 := decide_eq_true c7
    clear c7
    obtain rfl := Option.some.inj H
    have p103 : 0 ≤ (x5_1 : Int) := sqd
    have q103 : x5_1 < (l0.length : Int) := sqd
    obtain ⟨ad103, A103_1, c103_1, e103, hx103_0, hx103_1, hx103_2, hx103_3, hx103_4, hx103_5, hl103_1, hi103_1⟩ := at_T83 HR0.out x5_1 p103 q103
    cases e103
    replace hx103_0 := sqa HB hx103_0
    replace hx103_1 := sqa HB hx103_1
    replace hx103_2 := sqa HB hx103_2
    replace hx103_3 := sqa HB hx103_3
    replace hx103_4 := sqa HB hx103_4
    replace hx103_5 := sqa HB hx103_5
    have HR103_1 := Aside0.mk hi103_1
    have HC103_1 := Aside0.mk hl103_1
    clear hi103_1 hl103_1
    replace p103 := eq_true p103
    replace q103 := eq_true q103
    go_wp2_with (first | ((with_reducible refine gate_callee (f := 39) rfl ?_); refine sqL (some 23) Try.func39 #[.agg #[.bool ((rd_T83 l0 x5_1).f0), .slice A103_1 ((rd_T83 l0 x5_1).f1).length c103_1, .int .i64 ((rd_T83 l0 x5_1).f2.f0), .int .i64 ((rd_T83 l0 x5_1).f2.f1), .int .i64 ((rd_T83 l0 x5_1).f2.f2), .int .i64 ((rd_T83 l0 x5_1).f2.f3)], .int .i64 x1_1] ?_; (with_reducible refine (laws_szRefVal.calls ((rd_T83 l0 x5_1).f0) _ _ ((rd_T83 l0 x5_1).f1) ((rd_T83 l0 x5_1).f2.f0) ((rd_T83 l0 x5_1).f2.f1) ((rd_T83 l0 x5_1).f2.f2) ((rd_T83 l0 x5_1).f2.f3) x1_1 t104 _ ?side1 ?side2 A6.out).mono ?_); (case side1 => exact sqC (Kd.C_below HR103_1.out HB.out)); (case side2 => exact HC103_1.out); rintro e w8 ⟨rfl, hb⟩; refine ⟨_, rfl, ?_⟩; replace HB := sqs HB hb; (try clear hb)))
    go_ret
    exact sqe HB
   have c7b0 := decide_eq_false c7
   clear c7
   have H' := Aside0.mk H
   clear H
   have p103 : 0 ≤ (x5_1 : Int) := sqd
   have q103 : x5_1 < (l0.length : Int) := sqd
   obtain ⟨ad103, A103_1, c103_1, e103, hx103_0, hx103_1, hx103_2, hx103_3, hx103_4, hx103_5, hl103_1, hi103_1⟩ := at_T83 HR0.out x5_1 p103 q103
   cases e103
   replace hx103_0 := sqa HB hx103_0
   replace hx103_1 := sqa HB hx103_1
   replace hx103_2 := sqa HB hx103_2
   replace hx103_3 := sqa HB hx103_3
   replace hx103_4 := sqa HB hx103_4
   replace hx103_5 := sqa HB hx103_5
   have HR103_1 := Aside0.mk hi103_1
   have HC103_1 := Aside0.mk hl103_1
   clear hi103_1 hl103_1
   replace p103 := eq_true p103
   replace q103 := eq_true q103
   go_wp2_with (first | ((with_reducible refine gate_callee (f := 39) rfl ?_); refine sqL (some 23) Try.func39 #[.agg #[.bool ((rd_T83 l0 x5_1).f0), .slice A103_1 ((rd_T83 l0 x5_1).f1).length c103_1, .int .i64 ((rd_T83 l0 x5_1).f2.f0), .int .i64 ((rd_T83 l0 x5_1).f2.f1), .int .i64 ((rd_T83 l0 x5_1).f2.f2), .int .i64 ((rd_T83 l0 x5_1).f2.f3)], .int .i64 x1_1] ?_; (with_reducible refine (laws_szRefVal.calls ((rd_T83 l0 x5_1).f0) _ _ ((rd_T83 l0 x5_1).f1) ((rd_T83 l0 x5_1).f2.f0) ((rd_T83 l0 x5_1).f2.f1) ((rd_T83 l0 x5_1).f2.f2) ((rd_T83 l0 x5_1).f2.f3) x1_1 t104 _ ?side1 ?side2 A6.out).mono ?_); (case side1 => exact sqC (Kd.C_below HR103_1.out HB.out)); (case side2 => exact HC103_1.out); rintro e w9 ⟨rfl, hb⟩; refine ⟨_, rfl, ?_⟩; replace HB := sqs HB hb; (try clear hb)))
   go_roundg k1
   case measure => have := HK1.out; omega
   case rel => exact ⟨(t104), (wrap64 (x5_1 + 1)), (by first | rfl | (simp; done) | (simp [*]; done)), (by first | rfl | (simp; done) | (simp [*]; done)), H', ⟨by have := HK1.out; omega⟩, sqh HB⟩

/-! ### laws_szGaps: function 19 -/
set_option maxHeartbeats 8000000 in
set_option maxRecDepth 100000 in
theorem laws_szGaps.calls (a0_0 : Int) (A0_1 : Option Addr) (c0_1 : Nat) (l0_1 : List Int) (a1 : Int) (r : Int) (w : World) (hr0_1 : Kd.C (Kd.int .i64) w A0_1 l0_1.length l0_1) (hc0_1 : l0_1.length ≤ c0_1) (h : laws_szGaps.f a0_0 l0_1 a1 = some r) :
  Calls Try.prog 19 #[.agg #[.int .i64 a0_0, .slice A0_1 l0_1.length c0_1], .int .i64 a1] w fun e w' => e = .returned (.int .i64 r) ∧ Below w.heap.size w w' := by
 have hu26 := Try.underlying26
 have HR0_1 := Aside0.mk hr0_1
 have HC0_1 := Aside0.mk hc0_1
 clear hr0_1 hc0_1
 have HB := Aside0.mk (Below.refl w.heap.size w)
 have H := h
 unfold laws_szGaps.f at H
 clear h
 replace H := Option.bind_eq_some_iff.mp H
 obtain ⟨t106, A30, H⟩ := H
 try dsimp only at H
 have A3 := Aside0.mk A30
 clear A30
 replace H := sqj H
 rcases H with ⟨c4, H⟩ | ⟨c4, H⟩
 ·have c4b0 := decide_eq_true c4
  clear c4
  obtain rfl := Option.some.inj H
  go_enter Try.func19, Try.ntmps19
  go_wp2_with (first | ((with_reducible refine gate_dst (N := 2) rfl ?_); refine sqx 2 #[.int .i64 a0_0, .slice A0_1 l0_1.length c0_1] 26 ?_; intro gb105 hg w5 hbox hb; have BK105 := Aside0.mk hbox; have GW105 := sqg HB hg; have GE105 := sqg HB hg; replace HB := sqs HB hb; clear hb hbox hg; obtain ⟨hcz6_0, hcz6_1, hfz6_0, hfz6_1⟩ := sqc2 BK105) | ((with_reducible refine gate_callee (f := 40) rfl ?_); refine sqL (some 8) Try.func40 #[.slice A0_1 l0_1.length c0_1, .int .i64 a1] ?_; (with_reducible refine (laws_szIntS.calls _ _ l0_1 a1 t106 _ ?side1 ?side2 A3.out).mono ?_); (case side1 => exact sqC (Kd.C_below HR0_1.out HB.out)); (case side2 => exact HC0_1.out); rintro e w' ⟨rfl, ⟨nd, rfl⟩⟩; refine ⟨_, rfl, ?_⟩))
  go_ret
  exact sqe HB
 have c4b0 := decide_eq_false c4
 clear c4
 obtain rfl := Option.some.inj H
 go_enter Try.func19, Try.ntmps19
 go_wp2_with (first | ((with_reducible refine gate_dst (N := 2) rfl ?_); refine sqx 2 #[.int .i64 a0_0, .slice A0_1 l0_1.length c0_1] 26 ?_; intro gb105 hg w7 hbox hb; have BK105 := Aside0.mk hbox; have GW105 := sqg HB hg; have GE105 := sqg HB hg; replace HB := sqs HB hb; clear hb hbox hg; obtain ⟨hcz8_0, hcz8_1, hfz8_0, hfz8_1⟩ := sqc2 BK105) | ((with_reducible refine gate_callee (f := 40) rfl ?_); refine sqL (some 8) Try.func40 #[.slice A0_1 l0_1.length c0_1, .int .i64 a1] ?_; (with_reducible refine (laws_szIntS.calls _ _ l0_1 a1 t106 _ ?side1 ?side2 A3.out).mono ?_); (case side1 => exact sqC (Kd.C_below HR0_1.out HB.out)); (case side2 => exact HC0_1.out); rintro e w' ⟨rfl, ⟨nd, rfl⟩⟩; refine ⟨_, rfl, ?_⟩))
 go_ret
 exact sqe HB

/-! ### laws_szAbs: function 4 -/
set_option maxHeartbeats 8000000 in
set_option maxRecDepth 100000 in
theorem laws_szAbs.calls (k : Nat) (a0_0 : Bool) (A0_1 : Option Addr) (c0_1 : Nat) (l0_1 : List (S81)) (A0_2 : Option Addr) (c0_2 : Nat) (l0_2 : List (S83)) (A0_3 : Option Addr) (c0_3 : Nat) (l0_3 : List (S81)) (a0_4 : Int) (A0_5 : Option Addr) (c0_5 : Nat) (l0_5 : List Int) (a1 : Int) (r : Int) (w : World) (hr0_1 : Kd.C k81 w A0_1 l0_1.length l0_1) (hc0_1 : l0_1.length ≤ c0_1) (hr0_2 : Kd.C k83 w A0_2 l0_2.length l0_2) (hc0_2 : l0_2.length ≤ c0_2) (hr0_3 : Kd.C k81 w A0_3 l0_3.length l0_3) (hc0_3 : l0_3.length ≤ c0_3) (hr0_5 : Kd.C (Kd.int .i64) w A0_5 l0_5.length l0_5) (hc0_5 : l0_5.length ≤ c0_5) (h : laws_szAbs.f k a0_0 l0_1 l0_2 l0_3 a0_4 l0_5 a1 = some r) :
  Calls Try.prog 4 #[.agg #[.bool a0_0, .slice A0_1 l0_1.length c0_1, .slice A0_2 l0_2.length c0_2, .slice A0_3 l0_3.length c0_3, .int .i64 a0_4, .slice A0_5 l0_5.length c0_5], .int .i64 a1] w fun e w' => e = .returned (.int .i64 r) ∧ Below w.heap.size w w' := by
 have hu28 := Try.underlying28
 have hu26 := Try.underlying26
 have HR0_1 := Aside0.mk hr0_1
 have HC0_1 := Aside0.mk hc0_1
 clear hr0_1 hc0_1
 have HR0_2 := Aside0.mk hr0_2
 have HC0_2 := Aside0.mk hc0_2
 clear hr0_2 hc0_2
 have HR0_3 := Aside0.mk hr0_3
 have HC0_3 := Aside0.mk hc0_3
 clear hr0_3 hc0_3
 have HR0_5 := Aside0.mk hr0_5
 have HC0_5 := Aside0.mk hc0_5
 clear hr0_5 hc0_5
 have HB := Aside0.mk (Below.refl w.heap.size w)
 have H := h
 unfold laws_szAbs.f at H
 clear h
 replace H := Option.bind_eq_some_iff.mp H
 obtain ⟨t108, A30, H⟩ := H
 try dsimp only at H
 have A3 := Aside0.mk A30
 clear A30
 replace H := sqj H
 rcases H with ⟨c4, H⟩ | ⟨c4, H⟩
 ·have c4b0 := decide_eq_true c4
  clear c4
  obtain rfl := Option.some.inj H
  go_enter Try.func4, Try.ntmps4
  go_wp2_with (first | ((with_reducible refine gate_dst (N := 2) rfl ?_); refine sqx 2 #[.bool a0_0, .slice A0_1 l0_1.length c0_1, .slice A0_2 l0_2.length c0_2, .slice A0_3 l0_3.length c0_3, .int .i64 a0_4, .slice A0_5 l0_5.length c0_5] 28 ?_; intro gb107 hg w5 hbox hb; have BK107 := Aside0.mk hbox; have GW107 := sqg HB hg; have GE107 := sqg HB hg; replace HB := sqs HB hb; clear hb hbox hg; obtain ⟨hcz6_0, hcz6_1, hcz6_2, hcz6_3, hcz6_4, hcz6_5, hfz6_0, hfz6_1, hfz6_2, hfz6_3, hfz6_4, hfz6_5⟩ := sqc6 BK107) | ((with_reducible refine gate_callee (f := 17) rfl ?_); refine sqL (some 8) Try.func17 #[.slice A0_1 l0_1.length c0_1, .int .i64 a1] ?_; (with_reducible refine (laws_szValS.calls _ _ l0_1 a1 t108 _ ?side1 ?side2 A3.out).mono ?_); (case side1 => exact sqC (Kd.C_below HR0_1.out HB.out)); (case side2 => exact HC0_1.out); rintro e w' ⟨rfl, ⟨nd, rfl⟩⟩; refine ⟨_, rfl, ?_⟩))
  go_ret
  exact sqe HB
 have c4b0 := decide_eq_false c4
 clear c4
 replace H := Option.bind_eq_some_iff.mp H
 obtain ⟨t109, A70, H⟩ := H
 try dsimp only at H
 have A7 := Aside0.mk A70
 clear A70
 replace H := sqj H
 rcases H with ⟨c8, H⟩ | ⟨c8, H⟩
 ·have c8b0 := decide_eq_true c8
  clear c8
  obtain rfl := Option.some.inj H
  go_enter Try.func4, Try.ntmps4
  go_wp2_with (first | ((with_reducible refine gate_dst (N := 2) rfl ?_); refine sqx 2 #[.bool a0_0, .slice A0_1 l0_1.length c0_1, .slice A0_2 l0_2.length c0_2, .slice A0_3 l0_3.length c0_3, .int .i64 a0_4, .slice A0_5 l0_5.length c0_5] 28 ?_; intro gb107 hg w9 hbox hb; have BK107 := Aside0.mk hbox; have GW107 := sqg HB hg; have GE107 := sqg HB hg; replace HB := sqs HB hb; clear hb hbox hg; obtain ⟨hcz10_0, hcz10_1, hcz10_2, hcz10_3, hcz10_4, hcz10_5, hfz10_0, hfz10_1, hfz10_2, hfz10_3, hfz10_4, hfz10_5⟩ := sqc6 BK107) | ((with_reducible refine gate_callee (f := 17) rfl ?_); refine sqL (some 8) Try.func17 #[.slice A0_1 l0_1.length c0_1, .int .i64 a1] ?_; (with_reducible refine (laws_szValS.calls _ _ l0_1 a1 t108 _ ?side1 ?side2 A3.out).mono ?_); (case side1 => exact sqC (Kd.C_below HR0_1.out HB.out)); (case side2 => exact HC0_1.out); rintro e w' ⟨rfl, ⟨nd, rfl⟩⟩; refine ⟨_, rfl, ?_⟩) | ((with_reducible refine gate_callee (f := 18) rfl ?_); refine sqL (some 14) Try.func18 #[.slice A0_2 l0_2.length c0_2, .int .i64 t108] ?_; (with_reducible refine (laws_szRefValS.calls k _ _ l0_2 t108 t109 _ ?side1 ?side2 A7.out).mono ?_); (case side1 => exact sqC (Kd.C_below HR0_2.out (sqB HB))); (case side2 => exact HC0_2.out); rintro e w11 ⟨rfl, hb⟩; refine ⟨_, rfl, ?_⟩; replace BK107 := sqb BK107 hb; replace HB := sqs HB hb; (try clear hb)))
  go_ret
  exact sqe HB
 have c8b0 := decide_eq_false c8
 clear c8
 replace H := Option.bind_eq_some_iff.mp H
 obtain ⟨t110, A120, H⟩ := H
 try dsimp only at H
 have A12 := Aside0.mk A120
 clear A120
 replace H := sqj H
 rcases H with ⟨c13, H⟩ | ⟨c13, H⟩
 ·have c13b0 := decide_eq_true c13
  clear c13
  obtain rfl := Option.some.inj H
  go_enter Try.func4, Try.ntmps4
  go_wp2_with (first | ((with_reducible refine gate_dst (N := 2) rfl ?_); refine sqx 2 #[.bool a0_0, .slice A0_1 l0_1.length c0_1, .slice A0_2 l0_2.length c0_2, .slice A0_3 l0_3.length c0_3, .int .i64 a0_4, .slice A0_5 l0_5.length c0_5] 28 ?_; intro gb107 hg w14 hbox hb; have BK107 := Aside0.mk hbox; have GW107 := sqg HB hg; have GE107 := sqg HB hg; replace HB := sqs HB hb; clear hb hbox hg; obtain ⟨hcz15_0, hcz15_1, hcz15_2, hcz15_3, hcz15_4, hcz15_5, hfz15_0, hfz15_1, hfz15_2, hfz15_3, hfz15_4, hfz15_5⟩ := sqc6 BK107) | ((with_reducible refine gate_callee (f := 17) rfl ?_); refine sqL (some 8) Try.func17 #[.slice A0_1 l0_1.length c0_1, .int .i64 a1] ?_; (with_reducible refine (laws_szValS.calls _ _ l0_1 a1 t108 _ ?side1 ?side2 A3.out).mono ?_); (case side1 => exact sqC (Kd.C_below HR0_1.out HB.out)); (case side2 => exact HC0_1.out); rintro e w' ⟨rfl, ⟨nd, rfl⟩⟩; refine ⟨_, rfl, ?_⟩) | ((with_reducible refine gate_callee (f := 18) rfl ?_); refine sqL (some 14) Try.func18 #[.slice A0_2 l0_2.length c0_2, .int .i64 t108] ?_; (with_reducible refine (laws_szRefValS.calls k _ _ l0_2 t108 t109 _ ?side1 ?side2 A7.out).mono ?_); (case side1 => exact sqC (Kd.C_below HR0_2.out (sqB HB))); (case side2 => exact HC0_2.out); rintro e w16 ⟨rfl, hb⟩; refine ⟨_, rfl, ?_⟩; replace BK107 := sqb BK107 hb; replace HB := sqs HB hb; (try clear hb); obtain ⟨hcz17_0, hcz17_1, hcz17_2, hcz17_3, hcz17_4, hcz17_5, hfz17_0, hfz17_1, hfz17_2, hfz17_3, hfz17_4, hfz17_5⟩ := sqc6 BK107) | ((with_reducible refine gate_callee (f := 17) rfl ?_); refine sqL (some 20) Try.func17 #[.slice A0_3 l0_3.length c0_3, .int .i64 t109] ?_; (with_reducible refine (laws_szValS.calls _ _ l0_3 t109 t110 _ ?side1 ?side2 A12.out).mono ?_); (case side1 => exact sqC (Kd.C_below HR0_3.out HB.out)); (case side2 => exact HC0_3.out); rintro e w' ⟨rfl, ⟨nd, rfl⟩⟩; refine ⟨_, rfl, ?_⟩))
  go_ret
  exact sqe HB
 have c13b0 := decide_eq_false c13
 clear c13
 replace H := Option.bind_eq_some_iff.mp H
 obtain ⟨t111, A180, H⟩ := H
 try dsimp only at H
 have A18 := Aside0.mk A180
 clear A180
 replace H := sqj H
 rcases H with ⟨c19, H⟩ | ⟨c19, H⟩
 ·have c19b0 := decide_eq_true c19
  clear c19
  obtain rfl := Option.some.inj H
  go_enter Try.func4, Try.ntmps4
  go_wp2_with (first | ((with_reducible refine gate_dst (N := 2) rfl ?_); refine sqx 2 #[.bool a0_0, .slice A0_1 l0_1.length c0_1, .slice A0_2 l0_2.length c0_2, .slice A0_3 l0_3.length c0_3, .int .i64 a0_4, .slice A0_5 l0_5.length c0_5] 28 ?_; intro gb107 hg w20 hbox hb; have BK107 := Aside0.mk hbox; have GW107 := sqg HB hg; have GE107 := sqg HB hg; replace HB := sqs HB hb; clear hb hbox hg; obtain ⟨hcz21_0, hcz21_1, hcz21_2, hcz21_3, hcz21_4, hcz21_5, hfz21_0, hfz21_1, hfz21_2, hfz21_3, hfz21_4, hfz21_5⟩ := sqc6 BK107) | ((with_reducible refine gate_callee (f := 17) rfl ?_); refine sqL (some 8) Try.func17 #[.slice A0_1 l0_1.length c0_1, .int .i64 a1] ?_; (with_reducible refine (laws_szValS.calls _ _ l0_1 a1 t108 _ ?side1 ?side2 A3.out).mono ?_); (case side1 => exact sqC (Kd.C_below HR0_1.out HB.out)); (case side2 => exact HC0_1.out); rintro e w' ⟨rfl, ⟨nd, rfl⟩⟩; refine ⟨_, rfl, ?_⟩) | ((with_reducible refine gate_callee (f := 18) rfl ?_); refine sqL (some 14) Try.func18 #[.slice A0_2 l0_2.length c0_2, .int .i64 t108] ?_; (with_reducible refine (laws_szRefValS.calls k _ _ l0_2 t108 t109 _ ?side1 ?side2 A7.out).mono ?_); (case side1 => exact sqC (Kd.C_below HR0_2.out (sqB HB))); (case side2 => exact HC0_2.out); rintro e w22 ⟨rfl, hb⟩; refine ⟨_, rfl, ?_⟩; replace BK107 := sqb BK107 hb; replace HB := sqs HB hb; (try clear hb); obtain ⟨hcz23_0, hcz23_1, hcz23_2, hcz23_3, hcz23_4, hcz23_5, hfz23_0, hfz23_1, hfz23_2, hfz23_3, hfz23_4, hfz23_5⟩ := sqc6 BK107) | ((with_reducible refine gate_callee (f := 17) rfl ?_); refine sqL (some 20) Try.func17 #[.slice A0_3 l0_3.length c0_3, .int .i64 t109] ?_; (with_reducible refine (laws_szValS.calls _ _ l0_3 t109 t110 _ ?side1 ?side2 A12.out).mono ?_); (case side1 => exact sqC (Kd.C_below HR0_3.out HB.out)); (case side2 => exact HC0_3.out); rintro e w' ⟨rfl, ⟨nd, rfl⟩⟩; refine ⟨_, rfl, ?_⟩) | ((with_reducible refine gate_callee (f := 19) rfl ?_); refine sqL (some 26) Try.func19 #[.agg #[.int .i64 a0_4, .slice A0_5 l0_5.length c0_5], .int .i64 t110] ?_; (with_reducible refine (laws_szGaps.calls a0_4 _ _ l0_5 t110 t111 _ ?side1 ?side2 A18.out).mono ?_); (case side1 => exact sqC (Kd.C_below HR0_5.out (sqB HB))); (case side2 => exact HC0_5.out); rintro e w24 ⟨rfl, hb⟩; refine ⟨_, rfl, ?_⟩; replace BK107 := sqb BK107 hb; replace HB := sqs HB hb; (try clear hb)))
  go_ret
  exact sqe HB
 have c19b0 := decide_eq_false c19
 clear c19
 obtain rfl := Option.some.inj H
 go_enter Try.func4, Try.ntmps4
 go_wp2_with (first | ((with_reducible refine gate_dst (N := 2) rfl ?_); refine sqx 2 #[.bool a0_0, .slice A0_1 l0_1.length c0_1, .slice A0_2 l0_2.length c0_2, .slice A0_3 l0_3.length c0_3, .int .i64 a0_4, .slice A0_5 l0_5.length c0_5] 28 ?_; intro gb107 hg w25 hbox hb; have BK107 := Aside0.mk hbox; have GW107 := sqg HB hg; have GE107 := sqg HB hg; replace HB := sqs HB hb; clear hb hbox hg; obtain ⟨hcz26_0, hcz26_1, hcz26_2, hcz26_3, hcz26_4, hcz26_5, hfz26_0, hfz26_1, hfz26_2, hfz26_3, hfz26_4, hfz26_5⟩ := sqc6 BK107) | ((with_reducible refine gate_callee (f := 17) rfl ?_); refine sqL (some 8) Try.func17 #[.slice A0_1 l0_1.length c0_1, .int .i64 a1] ?_; (with_reducible refine (laws_szValS.calls _ _ l0_1 a1 t108 _ ?side1 ?side2 A3.out).mono ?_); (case side1 => exact sqC (Kd.C_below HR0_1.out HB.out)); (case side2 => exact HC0_1.out); rintro e w' ⟨rfl, ⟨nd, rfl⟩⟩; refine ⟨_, rfl, ?_⟩) | ((with_reducible refine gate_callee (f := 18) rfl ?_); refine sqL (some 14) Try.func18 #[.slice A0_2 l0_2.length c0_2, .int .i64 t108] ?_; (with_reducible refine (laws_szRefValS.calls k _ _ l0_2 t108 t109 _ ?side1 ?side2 A7.out).mono ?_); (case side1 => exact sqC (Kd.C_below HR0_2.out (sqB HB))); (case side2 => exact HC0_2.out); rintro e w27 ⟨rfl, hb⟩; refine ⟨_, rfl, ?_⟩; replace BK107 := sqb BK107 hb; replace HB := sqs HB hb; (try clear hb); obtain ⟨hcz28_0, hcz28_1, hcz28_2, hcz28_3, hcz28_4, hcz28_5, hfz28_0, hfz28_1, hfz28_2, hfz28_3, hfz28_4, hfz28_5⟩ := sqc6 BK107) | ((with_reducible refine gate_callee (f := 17) rfl ?_); refine sqL (some 20) Try.func17 #[.slice A0_3 l0_3.length c0_3, .int .i64 t109] ?_; (with_reducible refine (laws_szValS.calls _ _ l0_3 t109 t110 _ ?side1 ?side2 A12.out).mono ?_); (case side1 => exact sqC (Kd.C_below HR0_3.out HB.out)); (case side2 => exact HC0_3.out); rintro e w' ⟨rfl, ⟨nd, rfl⟩⟩; refine ⟨_, rfl, ?_⟩) | ((with_reducible refine gate_callee (f := 19) rfl ?_); refine sqL (some 26) Try.func19 #[.agg #[.int .i64 a0_4, .slice A0_5 l0_5.length c0_5], .int .i64 t110] ?_; (with_reducible refine (laws_szGaps.calls a0_4 _ _ l0_5 t110 t111 _ ?side1 ?side2 A18.out).mono ?_); (case side1 => exact sqC (Kd.C_below HR0_5.out (sqB HB))); (case side2 => exact HC0_5.out); rintro e w29 ⟨rfl, hb⟩; refine ⟨_, rfl, ?_⟩; replace BK107 := sqb BK107 hb; replace HB := sqs HB hb; (try clear hb)))
 go_ret
 exact sqe HB

/-! ### laws_szRefS: function 5 -/
set_option maxHeartbeats 8000000 in
set_option maxRecDepth 100000 in
theorem laws_szRefS.calls (A0 : Option Addr) (c0 : Nat) (l0 : List (S72)) (a1 : Int) (r : Int) (w : World) (hr0 : Kd.C k72 w A0 l0.length l0) (hc0 : l0.length ≤ c0) (h : laws_szRefS.f l0 a1 = some r) :
  Calls Try.prog 5 #[.slice A0 l0.length c0, .int .i64 a1] w fun e w' => e = .returned (.int .i64 r) ∧ Drawn0 w w' := by
 have HR0 := Aside0.mk hr0
 have HC0 := Aside0.mk hc0
 clear hr0 hc0
 have H := h
 unfold laws_szRefS.f at H
 clear h
 replace H := sqj H
 rcases H with ⟨c3, H⟩ | ⟨c3, H⟩
 ·have c3b0 := decide_eq_true c3
  clear c3
  obtain rfl := Option.some.inj H
  go_enter Try.func5, Try.ntmps5
  go_wp2
  go_ret
  exact ⟨by first | rfl | (simp; done) | (simp [*]; done), by repeat (first | exact Drawn0.refl _ | apply Drawn0.step)⟩
 have c3b0 := decide_eq_false c3
 clear c3
 obtain rfl := Option.some.inj H
 go_enter Try.func5, Try.ntmps5
 go_wp2
 go_ret
 exact ⟨by first | rfl | (simp; done) | (simp [*]; done), by repeat (first | exact Drawn0.refl _ | apply Drawn0.step)⟩

/-! ### laws_szCells: function 20 -/
set_option maxHeartbeats 8000000 in
set_option maxRecDepth 100000 in
theorem laws_szCells.calls (A0_0 : Option Addr) (c0_0 : Nat) (l0_0 : List Int) (a1 : Int) (r : Int) (w : World) (hr0_0 : Kd.C (Kd.int .i64) w A0_0 l0_0.length l0_0) (hc0_0 : l0_0.length ≤ c0_0) (h : laws_szCells.f l0_0 a1 = some r) :
  Calls Try.prog 20 #[.agg #[.slice A0_0 l0_0.length c0_0], .int .i64 a1] w fun e w' => e = .returned (.int .i64 r) ∧ Below w.heap.size w w' := by
 have hu56 := Try.underlying56
 have HR0_0 := Aside0.mk hr0_0
 have HC0_0 := Aside0.mk hc0_0
 clear hr0_0 hc0_0
 have HB := Aside0.mk (Below.refl w.heap.size w)
 have H := h
 unfold laws_szCells.f at H
 clear h
 replace H := Option.bind_eq_some_iff.mp H
 obtain ⟨t113, A30, H⟩ := H
 try dsimp only at H
 have A3 := Aside0.mk A30
 clear A30
 replace H := sqj H
 rcases H with ⟨c4, H⟩ | ⟨c4, H⟩
 ·have c4b0 := decide_eq_true c4
  clear c4
  obtain rfl := Option.some.inj H
  go_enter Try.func20, Try.ntmps20
  go_wp2_with (first | ((with_reducible refine gate_dst (N := 2) rfl ?_); refine sqx 2 #[.slice A0_0 l0_0.length c0_0] 56 ?_; intro gb112 hg w5 hbox hb; have BK112 := Aside0.mk hbox; have GW112 := sqg HB hg; have GE112 := sqg HB hg; replace HB := sqs HB hb; clear hb hbox hg; obtain ⟨hcz6_0, hfz6_0⟩ := sqc1 BK112) | ((with_reducible refine gate_callee (f := 40) rfl ?_); refine sqL (some 8) Try.func40 #[.slice A0_0 l0_0.length c0_0, .int .i64 a1] ?_; (with_reducible refine (laws_szIntS.calls _ _ l0_0 a1 t113 _ ?side1 ?side2 A3.out).mono ?_); (case side1 => exact sqC (Kd.C_below HR0_0.out HB.out)); (case side2 => exact HC0_0.out); rintro e w' ⟨rfl, ⟨nd, rfl⟩⟩; refine ⟨_, rfl, ?_⟩))
  go_ret
  exact sqe HB
 have c4b0 := decide_eq_false c4
 clear c4
 obtain rfl := Option.some.inj H
 go_enter Try.func20, Try.ntmps20
 go_wp2_with (first | ((with_reducible refine gate_dst (N := 2) rfl ?_); refine sqx 2 #[.slice A0_0 l0_0.length c0_0] 56 ?_; intro gb112 hg w7 hbox hb; have BK112 := Aside0.mk hbox; have GW112 := sqg HB hg; have GE112 := sqg HB hg; replace HB := sqs HB hb; clear hb hbox hg; obtain ⟨hcz8_0, hfz8_0⟩ := sqc1 BK112) | ((with_reducible refine gate_callee (f := 40) rfl ?_); refine sqL (some 8) Try.func40 #[.slice A0_0 l0_0.length c0_0, .int .i64 a1] ?_; (with_reducible refine (laws_szIntS.calls _ _ l0_0 a1 t113 _ ?side1 ?side2 A3.out).mono ?_); (case side1 => exact sqC (Kd.C_below HR0_0.out HB.out)); (case side2 => exact HC0_0.out); rintro e w' ⟨rfl, ⟨nd, rfl⟩⟩; refine ⟨_, rfl, ?_⟩))
 go_ret
 exact sqe HB

/-! ### laws_szCellsS: function 6 -/
set_option maxHeartbeats 8000000 in
set_option maxRecDepth 100000 in
theorem laws_szCellsS.calls (k : Nat) (A0 : Option Addr) (c0 : Nat) (l0 : List (S56)) (a1 : Int) (r : Int) (w : World) (hr0 : Kd.C k56 w A0 l0.length l0) (hc0 : l0.length ≤ c0) (h : laws_szCellsS.f k l0 a1 = some r) :
  Calls Try.prog 6 #[.slice A0 l0.length c0, .int .i64 a1] w fun e w' => e = .returned (.int .i64 r) ∧ Below w.heap.size w w' := by
 have hu56 := Try.underlying56
 have HR0 := Aside0.mk hr0
 have HC0 := Aside0.mk hc0
 clear hr0 hc0
 have HB := Aside0.mk (Below.refl w.heap.size w)
 have H := h
 unfold laws_szCellsS.f at H
 clear h
 replace H := sqj H
 rcases H with ⟨c3, H⟩ | ⟨c3, H⟩
 ·have c3b0 := decide_eq_true c3
  clear c3
  obtain rfl := Option.some.inj H
  go_enter Try.func6, Try.ntmps6
  go_wp2
  go_ret
  exact sqe HB
 have c3b0 := decide_eq_false c3
 clear c3
 have H' := Aside0.mk H
 clear H
 go_enter Try.func6, Try.ntmps6
 go_wp2
 go_loopg [1, 5] k (fun kq v1 v5 w' => ∃ (x1_1 : Int) (x5_1 : Int), v1 = .int .i64 x1_1 ∧ v5 = .int .i64 x5_1 ∧ Aside0 (laws_szCellsS.l0 kq l0 x1_1 x5_1 = some r) ∧ Aside0 (kq ≤ k) ∧ Aside0 (Below w.heap.size w w'))
 case atStart => exact ⟨(wrap64 (a1 - (l0.length : Int))), (0), (by first | rfl | (simp; done) | (simp [*]; done)), (by first | rfl | (simp; done) | (simp [*]; done)), H', ⟨Nat.le_refl _⟩, sqh HB⟩
 case round =>
  clear H'
  obtain ⟨x1_1, x5_1, rfl, rfl, HA, HK1, HB⟩ := hrel
  cases gk with
  | zero => exact absurd HA.out (by simp [laws_szCellsS.l0])
  | succ k1 =>
   have H := HA.out
   clear HA
   simp only [laws_szCellsS.l0] at H
   replace H := sqi H
   rcases H with ⟨c4, H⟩ | ⟨c4, H⟩
   ·have c4b0 := decide_eq_false c4
    clear c4
    obtain rfl := Option.some.inj H
    go_wp2
    go_ret
    exact sqe HB
   have c4b0 := decide_eq_true c4
   clear c4
   replace H := sqi H
   rcases H with ⟨c5, H⟩ | ⟨c5, H⟩
   ·exact absurd H (by simp)
   have c5b0 := decide_eq_true c5
   clear c5
   replace H := Option.bind_eq_some_iff.mp H
   obtain ⟨t115, A60, H⟩ := H
   try dsimp only at H
   have A6 := Aside0.mk A60
   clear A60
   replace H := sqj H
   rcases H with ⟨c7, H⟩ | ⟨c7, H⟩
   ·have c7b0 := decide_eq_true c7
    clear c7
    obtain rfl := Option.some.inj H
    have p114 : 0 ≤ (x5_1 : Int) := sqd
    have q114 : x5_1 < (l0.length : Int) := sqd
    obtain ⟨ad114, A114_0, c114_0, e114, hx114_0, hl114_0, hi114_0⟩ := at_T56 HR0.out x5_1 p114 q114
    cases e114
    replace hx114_0 := sqa HB hx114_0
    have HR114_0 := Aside0.mk hi114_0
    have HC114_0 := Aside0.mk hl114_0
    clear hi114_0 hl114_0
    replace p114 := eq_true p114
    replace q114 := eq_true q114
    go_wp2_with (first | ((with_reducible refine gate_callee (f := 20) rfl ?_); refine sqL (some 23) Try.func20 #[.agg #[.slice A114_0 ((rd_T56 l0 x5_1).f0).length c114_0], .int .i64 x1_1] ?_; (with_reducible refine (laws_szCells.calls _ _ ((rd_T56 l0 x5_1).f0) x1_1 t115 _ ?side1 ?side2 A6.out).mono ?_); (case side1 => exact sqC (Kd.C_below HR114_0.out HB.out)); (case side2 => exact HC114_0.out); rintro e w8 ⟨rfl, hb⟩; refine ⟨_, rfl, ?_⟩; replace HB := sqs HB hb; (try clear hb)))
    go_ret
    exact sqe HB
   have c7b0 := decide_eq_false c7
   clear c7
   have H' := Aside0.mk H
   clear H
   have p114 : 0 ≤ (x5_1 : Int) := sqd
   have q114 : x5_1 < (l0.length : Int) := sqd
   obtain ⟨ad114, A114_0, c114_0, e114, hx114_0, hl114_0, hi114_0⟩ := at_T56 HR0.out x5_1 p114 q114
   cases e114
   replace hx114_0 := sqa HB hx114_0
   have HR114_0 := Aside0.mk hi114_0
   have HC114_0 := Aside0.mk hl114_0
   clear hi114_0 hl114_0
   replace p114 := eq_true p114
   replace q114 := eq_true q114
   go_wp2_with (first | ((with_reducible refine gate_callee (f := 20) rfl ?_); refine sqL (some 23) Try.func20 #[.agg #[.slice A114_0 ((rd_T56 l0 x5_1).f0).length c114_0], .int .i64 x1_1] ?_; (with_reducible refine (laws_szCells.calls _ _ ((rd_T56 l0 x5_1).f0) x1_1 t115 _ ?side1 ?side2 A6.out).mono ?_); (case side1 => exact sqC (Kd.C_below HR114_0.out HB.out)); (case side2 => exact HC114_0.out); rintro e w9 ⟨rfl, hb⟩; refine ⟨_, rfl, ?_⟩; replace HB := sqs HB hb; (try clear hb)))
   go_roundg k1
   case measure => have := HK1.out; omega
   case rel => exact ⟨(t115), (wrap64 (x5_1 + 1)), (by first | rfl | (simp; done) | (simp [*]; done)), (by first | rfl | (simp; done) | (simp [*]; done)), H', ⟨by have := HK1.out; omega⟩, sqh HB⟩

/-! ### spec_l10None: function 45 -/
set_option maxHeartbeats 8000000 in
set_option maxRecDepth 100000 in
theorem spec_l10None.calls  (r1 : Int) (r2 : Int) (r3 : Int) (r4 : Int) (w : World) (h : spec_l10None.f  = some (r1, r2, r3, r4)) :
  Calls Try.prog 45 #[] w fun e w' => e = .returned (.agg #[.int .i64 r1, .int .i64 r2, .int .i64 r3, .int .i64 r4]) ∧ Below w.heap.size w w' := by
 have hu60 := Try.underlying60
 have HB := Aside0.mk (Below.refl w.heap.size w)
 have H := h
 unfold spec_l10None.f at H
 clear h
 simp only [Option.some.injEq, Prod.mk.injEq] at H
 obtain ⟨rfl, rfl, rfl, rfl⟩ := H
 go_enter Try.func45, Try.ntmps45
 go_wp2_with (first | ((with_reducible refine gate_dst (N := 0) rfl ?_); refine sqx 0 #[.int .i64 0, .int .i64 0, .int .i64 0, .int .i64 0] 60 ?_; intro gb116 hg w1 hbox hb; have BK116 := Aside0.mk hbox; have GW116 := sqg HB hg; have GE116 := sqg HB hg; replace HB := sqs HB hb; clear hb hbox hg; obtain ⟨hcz2_0, hcz2_1, hcz2_2, hcz2_3, hfz2_0, hfz2_1, hfz2_2, hfz2_3⟩ := sqc4 BK116))
 refine bodyPost_ret (results_cell_row rfl _ _ gb116 60 #[.int .i64 1, .int .i64 0, .int .i64 0, .int .i64 0] (0, 0) _ rfl (by refine sqt ?_; refine blk_put (cs := #[.int .i64 1, .int .i64 0, .int .i64 0, .int .i64 0]) ?_ 3 _ rfl; refine sqt ?_; refine blk_put (cs := #[.int .i64 1, .int .i64 0, .int .i64 0, .int .i64 0]) ?_ 2 _ rfl; refine sqt ?_; refine blk_put (cs := #[.int .i64 1, .int .i64 0, .int .i64 0, .int .i64 0]) ?_ 1 _ rfl; refine sqt ?_; refine blk_put (cs := #[.int .i64 0, .int .i64 0, .int .i64 0, .int .i64 0]) ?_ 0 _ rfl; refine sqt ?_; exact BK116.out) Try.underlying60 rfl (by kernel_rfl)) rfl ?_
 exact sqe HB

/-! ### spec_l10Range: function 47 -/
set_option maxHeartbeats 8000000 in
set_option maxRecDepth 100000 in
theorem spec_l10Range.calls (a0_0 : Int) (a0_1 : Int) (a0_2 : Int) (a0_3 : Int) (r1 : Int) (r2 : Int) (w : World) (h : spec_l10Range.f a0_0 a0_1 a0_2 a0_3 = some (r1, r2)) :
  Calls Try.prog 47 #[.agg #[.int .i64 a0_0, .int .i64 a0_1, .int .i64 a0_2, .int .i64 a0_3]] w fun e w' => e = .returned (.agg #[.int .i64 r1, .int .i64 r2]) ∧ Below w.heap.size w w' := by
 have hu60 := Try.underlying60
 have hu92 := Try.underlying92
 have HB := Aside0.mk (Below.refl w.heap.size w)
 have H := h
 unfold spec_l10Range.f at H
 clear h
 simp only [Option.some.injEq, Prod.mk.injEq] at H
 obtain ⟨rfl, rfl⟩ := H
 go_enter Try.func47, Try.ntmps47
 go_wp2_with (first | ((with_reducible refine gate_dst (N := 1) rfl ?_); refine sqx 1 #[.int .i64 a0_0, .int .i64 a0_1, .int .i64 a0_2, .int .i64 a0_3] 60 ?_; intro gb117 hg w2 hbox hb; have BK117 := Aside0.mk hbox; have GW117 := sqg HB hg; have GE117 := sqg HB hg; replace HB := sqs HB hb; clear hb hbox hg) | ((with_reducible refine gate_dst (N := 2) rfl ?_); refine sqx 2 #[.int .i64 0, .int .i64 0] 92 ?_; intro gb118 hg w3 hbox hb; have BK118 := Aside0.mk hbox; have GW118 := sqg HB hg; have GE118 := sqg HB hg; have NB117_118 := sqn BK117 hg; have NB118_117 := sqm BK117 hg; replace BK117 := sqb BK117 hb; replace HB := sqs HB hb; clear hb hbox hg; have hnb4 := NB117_118.out; have hnc4 := NB118_117.out; obtain ⟨hcz5_0, hcz5_1, hcz5_2, hcz5_3, hfz5_0, hfz5_1, hfz5_2, hfz5_3⟩ := sqc4 BK117; obtain ⟨hcz6_0, hcz6_1, hfz6_0, hfz6_1⟩ := sqc2 BK118))
 refine bodyPost_ret (results_cell_row rfl _ _ gb118 92 #[.int .i64 a0_0, .int .i64 a0_1] (0, 0) _ rfl (by refine sqt ?_; refine blk_put (cs := #[.int .i64 a0_0, .int .i64 0]) ?_ 1 _ rfl; refine sqt ?_; refine blk_put (cs := #[.int .i64 0, .int .i64 0]) ?_ 0 _ rfl; refine sqt ?_; exact BK118.out) Try.underlying92 rfl (by kernel_rfl)) rfl ?_
 exact sqe HB

/-! ### spec_l10Rest: function 49 -/
set_option maxHeartbeats 8000000 in
set_option maxRecDepth 100000 in
theorem spec_l10Rest.calls (a0_0 : Int) (a0_1 : Int) (a0_2 : Int) (a0_3 : Int) (r1 : Int) (r2 : Int) (w : World) (h : spec_l10Rest.f a0_0 a0_1 a0_2 a0_3 = some (r1, r2)) :
  Calls Try.prog 49 #[.agg #[.int .i64 a0_0, .int .i64 a0_1, .int .i64 a0_2, .int .i64 a0_3]] w fun e w' => e = .returned (.agg #[.int .i64 r1, .int .i64 r2]) ∧ Below w.heap.size w w' := by
 have hu60 := Try.underlying60
 have hu96 := Try.underlying96
 have HB := Aside0.mk (Below.refl w.heap.size w)
 have H := h
 unfold spec_l10Rest.f at H
 clear h
 simp only [Option.some.injEq, Prod.mk.injEq] at H
 obtain ⟨rfl, rfl⟩ := H
 go_enter Try.func49, Try.ntmps49
 go_wp2_with (first | ((with_reducible refine gate_dst (N := 1) rfl ?_); refine sqx 1 #[.int .i64 a0_0, .int .i64 a0_1, .int .i64 a0_2, .int .i64 a0_3] 60 ?_; intro gb119 hg w2 hbox hb; have BK119 := Aside0.mk hbox; have GW119 := sqg HB hg; have GE119 := sqg HB hg; replace HB := sqs HB hb; clear hb hbox hg) | ((with_reducible refine gate_dst (N := 2) rfl ?_); refine sqx 2 #[.int .i64 0, .int .i64 0] 96 ?_; intro gb120 hg w3 hbox hb; have BK120 := Aside0.mk hbox; have GW120 := sqg HB hg; have GE120 := sqg HB hg; have NB119_120 := sqn BK119 hg; have NB120_119 := sqm BK119 hg; replace BK119 := sqb BK119 hb; replace HB := sqs HB hb; clear hb hbox hg; have hnb4 := NB119_120.out; have hnc4 := NB120_119.out; obtain ⟨hcz5_0, hcz5_1, hcz5_2, hcz5_3, hfz5_0, hfz5_1, hfz5_2, hfz5_3⟩ := sqc4 BK119; obtain ⟨hcz6_0, hcz6_1, hfz6_0, hfz6_1⟩ := sqc2 BK120))
 refine bodyPost_ret (results_cell_row rfl _ _ gb120 96 #[.int .i64 a0_2, .int .i64 a0_3] (0, 0) _ rfl (by refine sqt ?_; refine blk_put (cs := #[.int .i64 a0_2, .int .i64 0]) ?_ 1 _ rfl; refine sqt ?_; refine blk_put (cs := #[.int .i64 0, .int .i64 0]) ?_ 0 _ rfl; refine sqt ?_; exact BK120.out) Try.underlying96 rfl (by kernel_rfl)) rfl ?_
 exact sqe HB

/-! ### spec_l1In: function 68 -/
set_option maxHeartbeats 8000000 in
set_option maxRecDepth 100000 in
theorem spec_l1In.calls (a0 : Int) (a1 : Int) (a2 : Int) (r : Bool) (w : World) (h : spec_l1In.f a0 a1 a2 = some r) :
  Calls Try.prog 68 #[.int .i64 a0, .int .i64 a1, .int .i64 a2] w fun e w' => e = .returned (.bool r) ∧ Drawn0 w w' := by
 have H := h
 unfold spec_l1In.f at H
 clear h
 replace H := sqj H
 rcases H with ⟨c4, H⟩ | ⟨c4, H⟩
 ·have c4b0 : decide (a1 ≤ a0) = true := decide_eq_true c4
  clear c4
  obtain rfl := Option.some.inj H
  go_enter Try.func68, Try.ntmps68
  go_wp2
  go_ret
  exact ⟨by first | rfl | (simp; done) | (simp [*]; done), by repeat (first | exact Drawn0.refl _ | apply Drawn0.step)⟩
 have c4b0 : decide (a1 ≤ a0) = false := decide_eq_false c4
 clear c4
 obtain rfl := Option.some.inj H
 go_enter Try.func68, Try.ntmps68
 go_wp2
 go_ret
 exact ⟨by first | rfl | (simp; done) | (simp [*]; done), by repeat (first | exact Drawn0.refl _ | apply Drawn0.step)⟩

/-! ### spec_NumOk: function 51 -/
set_option maxHeartbeats 8000000 in
set_option maxRecDepth 100000 in
theorem spec_NumOk.calls (a0 : Int) (r : Bool) (w : World) (h : spec_NumOk.f a0 = some r) :
  Calls Try.prog 51 #[.int .i64 a0] w fun e w' => e = .returned (.bool r) ∧ Drawn0 w w' := by
 have H := h
 unfold spec_NumOk.f at H
 clear h
 replace H := Option.bind_eq_some_iff.mp H
 obtain ⟨t121, A20, H⟩ := H
 try dsimp only at H
 have A2 := Aside0.mk A20
 clear A20
 obtain rfl := Option.some.inj H
 go_enter Try.func51, Try.ntmps51
 go_wp2_with (first | ((with_reducible refine gate_callee (f := 68) rfl ?_); refine sqL (some 4) Try.func68 #[.int .i64 a0, .int .i64 (-2147483648), .int .i64 2147483647] ?_; (with_reducible refine (spec_l1In.calls a0 (-2147483648) 2147483647 t121 _ A2.out).mono ?_); rintro e w' ⟨rfl, ⟨nd, rfl⟩⟩; refine ⟨_, rfl, ?_⟩))
 go_ret
 exact ⟨by first | rfl | (simp; done) | (simp [*]; done), by repeat (first | exact Drawn0.refl _ | apply Drawn0.step)⟩

/-! ### spec_l8None: function 78 -/
set_option maxHeartbeats 8000000 in
set_option maxRecDepth 100000 in
theorem spec_l8None.calls  (r1 : Int) (r2 : Int) (w : World) (h : spec_l8None.f  = some (r1, r2)) :
  Calls Try.prog 78 #[] w fun e w' => e = .returned (.agg #[.int .i64 r1, .int .i64 r2]) ∧ Below w.heap.size w w' := by
 have hu92 := Try.underlying92
 have HB := Aside0.mk (Below.refl w.heap.size w)
 have H := h
 unfold spec_l8None.f at H
 clear h
 simp only [Option.some.injEq, Prod.mk.injEq] at H
 obtain ⟨rfl, rfl⟩ := H
 go_enter Try.func78, Try.ntmps78
 go_wp2_with (first | ((with_reducible refine gate_dst (N := 0) rfl ?_); refine sqx 0 #[.int .i64 0, .int .i64 0] 92 ?_; intro gb122 hg w1 hbox hb; have BK122 := Aside0.mk hbox; have GW122 := sqg HB hg; have GE122 := sqg HB hg; replace HB := sqs HB hb; clear hb hbox hg; obtain ⟨hcz2_0, hcz2_1, hfz2_0, hfz2_1⟩ := sqc2 BK122))
 refine bodyPost_ret (results_cell_row rfl _ _ gb122 92 #[.int .i64 1, .int .i64 0] (0, 0) _ rfl (by refine sqt ?_; refine blk_put (cs := #[.int .i64 1, .int .i64 0]) ?_ 1 _ rfl; refine sqt ?_; refine blk_put (cs := #[.int .i64 0, .int .i64 0]) ?_ 0 _ rfl; refine sqt ?_; exact BK122.out) Try.underlying92 rfl (by kernel_rfl)) rfl ?_
 exact sqe HB

end Go.Proofs.Ytnmgckdgmplddaa.PFnExactAbsHas
