/- Functions of the program as plain Lean functions, and that calls of them come to what these tell. Conditions: those in each law. -/
import Derived.Test.YtkekcenlleebeaaSq
import Derived.Test.YtkekcenlleebeaaDFnExactAbsIn
import Derived.Test.YtkekcenlleebeaaQFnExactAbsInx0
namespace Go.Proofs.Ytkekcenlleebeaa.PFnExactAbsIn
open Go.RowKit Go.Proofs.Ytkekcenlleebeaa.Sq Go.Proofs.YtkekcenlleebeaaW.PrintWords Go.Proofs.YtkekcenlleebeaaW.PrintLast Go.Proofs.YtkekcenlleebeaaW.PrintMore
attribute [local go_sem] max2_int min2_int max_two min_two max_three min_three max_four min_four   -- for this text's walks alone
set_option linter.unusedVariables false
set_option linter.unusedSimpArgs false

/-! ### laws_szValS: function 136 -/
set_option maxHeartbeats 8000000 in
set_option maxRecDepth 100000 in
theorem laws_szValS.calls (A0 : Option Addr) (c0 : Nat) (l0 : List (S165)) (a1 : Int) (r : Int) (w : World) (hr0 : Kd.C k165 w A0 l0.length l0) (hc0 : l0.length ≤ c0) (h : laws_szValS.f l0 a1 = some r) :
  Calls Try.prog 136 #[.slice A0 l0.length c0, .int .i64 a1] w fun e w' => e = .returned (.int .i64 r) ∧ Drawn0 w w' := by
 have HR0 := Aside0.mk hr0
 have HC0 := Aside0.mk hc0
 clear hr0 hc0
 have H : (if (wrap64 (a1 - (l0.length : Int))) < 0 then (some (-1)) else (some (wrap64 (a1 - (l0.length : Int))))) = some r := h
 clear h
 replace H := sqj H
 rcases H with ⟨c3, H⟩ | ⟨c3, H⟩
 ·have c3b0 := decide_eq_true c3
  clear c3
  obtain rfl := Option.some.inj H
  go_enter Try.func136, Try.ntmps136
  go_wp2
  go_ret
  exact ⟨by first | rfl | (simp; done) | (simp [*]; done), by repeat (first | exact Drawn0.refl _ | apply Drawn0.step)⟩
 have c3b0 := decide_eq_false c3
 clear c3
 obtain rfl := Option.some.inj H
 go_enter Try.func136, Try.ntmps136
 go_wp2
 go_ret
 exact ⟨by first | rfl | (simp; done) | (simp [*]; done), by repeat (first | exact Drawn0.refl _ | apply Drawn0.step)⟩

/-! ### laws_szIntS: function 199 -/
set_option maxHeartbeats 8000000 in
set_option maxRecDepth 100000 in
theorem laws_szIntS.calls (A0 : Option Addr) (c0 : Nat) (l0 : List Int) (a1 : Int) (r : Int) (w : World) (hr0 : Kd.C (Kd.int .i64) w A0 l0.length l0) (hc0 : l0.length ≤ c0) (h : laws_szIntS.f l0 a1 = some r) :
  Calls Try.prog 199 #[.slice A0 l0.length c0, .int .i64 a1] w fun e w' => e = .returned (.int .i64 r) ∧ Drawn0 w w' := by
 have HR0 := Aside0.mk hr0
 have HC0 := Aside0.mk hc0
 clear hr0 hc0
 have H : (if (wrap64 (a1 - (l0.length : Int))) < 0 then (some (-1)) else (some (wrap64 (a1 - (l0.length : Int))))) = some r := h
 clear h
 replace H := sqj H
 rcases H with ⟨c3, H⟩ | ⟨c3, H⟩
 ·have c3b0 := decide_eq_true c3
  clear c3
  obtain rfl := Option.some.inj H
  go_enter Try.func199, Try.ntmps199
  go_wp2
  go_ret
  exact ⟨by first | rfl | (simp; done) | (simp [*]; done), by repeat (first | exact Drawn0.refl _ | apply Drawn0.step)⟩
 have c3b0 := decide_eq_false c3
 clear c3
 obtain rfl := Option.some.inj H
 go_enter Try.func199, Try.ntmps199
 go_wp2
 go_ret
 exact ⟨by first | rfl | (simp; done) | (simp [*]; done), by repeat (first | exact Drawn0.refl _ | apply Drawn0.step)⟩

/-! ### laws_szRefVal: function 198 -/
set_option maxHeartbeats 8000000 in
set_option maxRecDepth 100000 in
theorem laws_szRefVal.calls (a0_0 : Bool) (A0_1 : Option Addr) (c0_1 : Nat) (l0_1 : List Int) (a0_2 : Int) (a0_3 : Int) (a0_4 : Int) (a0_5 : Int) (a1 : Int) (r : Int) (w : World) (hr0_1 : Kd.C (Kd.int .i64) w A0_1 l0_1.length l0_1) (hc0_1 : l0_1.length ≤ c0_1) (h : laws_szRefVal.f a0_0 l0_1 a0_2 a0_3 a0_4 a0_5 a1 = some r) :
  Calls Try.prog 198 #[.agg #[.bool a0_0, .slice A0_1 l0_1.length c0_1, .int .i64 a0_2, .int .i64 a0_3, .int .i64 a0_4, .int .i64 a0_5], .int .i64 a1] w fun e w' => e = .returned (.int .i64 r) ∧ Below w.heap.size w w' := by
 have hu167 := Try.underlying167
 have HR0_1 := Aside0.mk hr0_1
 have HC0_1 := Aside0.mk hc0_1
 clear hr0_1 hc0_1
 have HB := Aside0.mk (Below.refl w.heap.size w)
 have H : ((laws_szIntS.f l0_1 a1).bind fun t102 => (if t102 < 0 then (some (-1)) else (some t102))) = some r := h
 clear h
 replace H := sqbi H
 obtain ⟨t102, A3, H⟩ := H
 replace H : (if t102 < 0 then (some (-1)) else (some t102)) = some r := H
 replace H := sqj H
 rcases H with ⟨c4, H⟩ | ⟨c4, H⟩
 ·have c4b0 := decide_eq_true c4
  clear c4
  obtain rfl := Option.some.inj H
  go_enter Try.func198, Try.ntmps198
  go_wp2_with (first | ((with_reducible refine gate_dst (N := 2) rfl ?_); refine sqx 2 #[.bool a0_0, .slice A0_1 l0_1.length c0_1, .int .i64 a0_2, .int .i64 a0_3, .int .i64 a0_4, .int .i64 a0_5] 167 ?_; intro gb101 hg w5 hbox hb; have BK101 := Aside0.mk hbox; have GW101 := sqg HB hg; have GE101 := sqg HB hg; replace HB := sqs HB hb; clear hb hbox hg; obtain ⟨hcz6_0, hcz6_1, hcz6_2, hcz6_3, hcz6_4, hcz6_5, hfz6_0, hfz6_1, hfz6_2, hfz6_3, hfz6_4, hfz6_5⟩ := sqc6 BK101) | ((with_reducible refine gate_callee (f := 199) rfl ?_); refine sqL (some 8) Try.func199 #[.slice A0_1 l0_1.length c0_1, .int .i64 a1] ?_; (with_reducible refine (laws_szIntS.calls _ _ l0_1 a1 t102 _ ?side1 ?side2 A3.out).mono ?_); (case side1 => exact sqC (Kd.C_below HR0_1.out HB.out)); (case side2 => exact HC0_1.out); rintro e w' ⟨rfl, ⟨nd, rfl⟩⟩; refine ⟨_, rfl, ?_⟩))
  go_ret
  exact sqe HB
 have c4b0 := decide_eq_false c4
 clear c4
 obtain rfl := Option.some.inj H
 go_enter Try.func198, Try.ntmps198
 go_wp2_with (first | ((with_reducible refine gate_dst (N := 2) rfl ?_); refine sqx 2 #[.bool a0_0, .slice A0_1 l0_1.length c0_1, .int .i64 a0_2, .int .i64 a0_3, .int .i64 a0_4, .int .i64 a0_5] 167 ?_; intro gb101 hg w7 hbox hb; have BK101 := Aside0.mk hbox; have GW101 := sqg HB hg; have GE101 := sqg HB hg; replace HB := sqs HB hb; clear hb hbox hg; obtain ⟨hcz8_0, hcz8_1, hcz8_2, hcz8_3, hcz8_4, hcz8_5, hfz8_0, hfz8_1, hfz8_2, hfz8_3, hfz8_4, hfz8_5⟩ := sqc6 BK101) | ((with_reducible refine gate_callee (f := 199) rfl ?_); refine sqL (some 8) Try.func199 #[.slice A0_1 l0_1.length c0_1, .int .i64 a1] ?_; (with_reducible refine (laws_szIntS.calls _ _ l0_1 a1 t102 _ ?side1 ?side2 A3.out).mono ?_); (case side1 => exact sqC (Kd.C_below HR0_1.out HB.out)); (case side2 => exact HC0_1.out); rintro e w' ⟨rfl, ⟨nd, rfl⟩⟩; refine ⟨_, rfl, ?_⟩))
 go_ret
 exact sqe HB

/-! ### laws_szRefValS: function 137 -/
set_option maxHeartbeats 8000000 in
set_option maxRecDepth 100000 in
theorem laws_szRefValS.calls (k : Nat) (A0 : Option Addr) (c0 : Nat) (l0 : List (S167)) (a1 : Int) (r : Int) (w : World) (hr0 : Kd.C k167 w A0 l0.length l0) (hc0 : l0.length ≤ c0) (h : laws_szRefValS.f k l0 a1 = some r) :
  Calls Try.prog 137 #[.slice A0 l0.length c0, .int .i64 a1] w fun e w' => e = .returned (.int .i64 r) ∧ Below w.heap.size w w' := by
 have hu167 := Try.underlying167
 have HR0 := Aside0.mk hr0
 have HC0 := Aside0.mk hc0
 clear hr0 hc0
 have HB := Aside0.mk (Below.refl w.heap.size w)
 have H : (if (wrap64 (a1 - (l0.length : Int))) < 0 then (some (-1)) else (laws_szRefValS.l0 k l0 (wrap64 (a1 - (l0.length : Int))) 0)) = some r := h
 clear h
 replace H := sqj H
 rcases H with ⟨c3, H⟩ | ⟨c3, H⟩
 ·have c3b0 := decide_eq_true c3
  clear c3
  obtain rfl := Option.some.inj H
  go_enter Try.func137, Try.ntmps137
  go_wp2
  go_ret
  exact sqe HB
 have c3b0 := decide_eq_false c3
 clear c3
 have H' := Aside0.mk H
 clear H
 go_enter Try.func137, Try.ntmps137
 go_wp2
 go_loopg [1, 5] k (fun kq v1 v5 w' => ∃ (x1_1 : Int) (x5_1 : Int), v1 = .int .i64 x1_1 ∧ v5 = .int .i64 x5_1 ∧ Aside0 (laws_szRefValS.l0 kq l0 x1_1 x5_1 = some r) ∧ Aside0 (kq ≤ k) ∧ Aside0 (Below w.heap.size w w'))
 case atStart => exact ⟨(wrap64 (a1 - (l0.length : Int))), (0), (by first | rfl | (simp; done) | (simp [*]; done)), (by first | rfl | (simp; done) | (simp [*]; done)), H', ⟨Nat.le_refl _⟩, sqh HB⟩
 case round =>
  clear H'
  obtain ⟨x1_1, x5_1, rfl, rfl, HA, HK1, HB⟩ := hrel
  cases gk with
  | zero => exact absurd HA.out (by simp [laws_szRefValS.l0])
  | succ k1 =>
   have H := HA.out
   clear HA
   simp only [laws_szRefValS.l0] at H
   replace H := sqi H
   rcases H with ⟨c4, H⟩ | ⟨c4, H⟩
   ·have c4b0 := decide_eq_false c4
    clear c4
    obtain rfl := Option.some.inj H
    go_wp2
    go_ret
    exact sqe HB
   have c4b0 := decide_eq_true c4
   clear c4
   replace H := sqi H
   rcases H with ⟨c5, H⟩ | ⟨c5, H⟩
   ·exact absurd H (by simp)
   have c5b0 := decide_eq_true c5
   clear c5
   replace H := sqbi H
   obtain ⟨t104, A6, H⟩ := H
   replace H : (if t104 < 0 then (some (-1)) else (laws_szRefValS.l0 k1 l0 t104 (wrap64 (x5_1 + 1)))) = some r := H
   replace H := sqj H
   rcases H with ⟨c7, H⟩ | ⟨c7, H⟩
   ·have c7b0 := decide_eq_true c7
    clear c7
    obtain rfl := Option.some.inj H
    have p103 : 0 ≤ (x5_1 : Int) := sqd
    have q103 : x5_1 < (l0.length : Int) := sqd
    obtain ⟨ad103, A103_1, c103_1, e103, hx103_0, hx103_1, hx103_2, hx103_3, hx103_4, hx103_5, hl103_1, hi103_1⟩ := at_T167 HR0.out x5_1 p103 q103
    cases e103
    replace hx103_0 := sqa HB hx103_0
    replace hx103_1 := sqa HB hx103_1
    replace hx103_2 := sqa HB hx103_2
    replace hx103_3 := sqa HB hx103_3
    replace hx103_4 := sqa HB hx103_4
    replace hx103_5 := sqa HB hx103_5
    have HR103_1 := Aside0.mk hi103_1
    have HC103_1 := Aside0.mk hl103_1
    clear hi103_1 hl103_1
    replace p103 := eq_true p103
    replace q103 := eq_true q103
    go_wp2_with (first | ((with_reducible refine gate_callee (f := 198) rfl ?_); refine sqL (some 23) Try.func198 #[.agg #[.bool ((rd_T167 l0 x5_1).f0), .slice A103_1 ((rd_T167 l0 x5_1).f1).length c103_1, .int .i64 ((rd_T167 l0 x5_1).f2.f0), .int .i64 ((rd_T167 l0 x5_1).f2.f1), .int .i64 ((rd_T167 l0 x5_1).f2.f2), .int .i64 ((rd_T167 l0 x5_1).f2.f3)], .int .i64 x1_1] ?_; (with_reducible refine (laws_szRefVal.calls ((rd_T167 l0 x5_1).f0) _ _ ((rd_T167 l0 x5_1).f1) ((rd_T167 l0 x5_1).f2.f0) ((rd_T167 l0 x5_1).f2.f1) ((rd_T167 l0 x5_1).f2.f2) ((rd_T167 l0 x5_1).f2.f3) x1_1 t104 _ ?side1 ?side2 A6.out).mono ?_); (case side1 => exact sqC (Kd.C_below HR103_1.out HB.out)); (case side2 => exact HC103_1.out); rintro e w8 ⟨rfl, hb⟩; refine ⟨_, rfl, ?_⟩; replace HB := sqs HB hb; (try clear hb)))
    go_ret
    exact sqe HB
   have c7b0 := decide_eq_false c7
   clear c7
   have H' := Aside0.mk H
   clear H
   have p103 : 0 ≤ (x5_1 : Int) := sqd
   have q103 : x5_1 < (l0.length : Int) := sqd
   obtain ⟨ad103, A103_1, c103_1, e103, hx103_0, hx103_1, hx103_2, hx103_3, hx103_4, hx103_5, hl103_1, hi103_1⟩ := at_T167 HR0.out x5_1 p103 q103
   cases e103
   replace hx103_0 := sqa HB hx103_0
   replace hx103_1 := sqa HB hx103_1
   replace hx103_2 := sqa HB hx103_2
   replace hx103_3 := sqa HB hx103_3
   replace hx103_4 := sqa HB hx103_4
   replace hx103_5 := sqa HB hx103_5
   have HR103_1 := Aside0.mk hi103_1
   have HC103_1 := Aside0.mk hl103_1
   clear hi103_1 hl103_1
   replace p103 := eq_true p103
   replace q103 := eq_true q103
   go_wp2_with (first | ((with_reducible refine gate_callee (f := 198) rfl ?_); refine sqL (some 23) Try.func198 #[.agg #[.bool ((rd_T167 l0 x5_1).f0), .slice A103_1 ((rd_T167 l0 x5_1).f1).length c103_1, .int .i64 ((rd_T167 l0 x5_1).f2.f0), .int .i64 ((rd_T167 l0 x5_1).f2.f1), .int .i64 ((rd_T167 l0 x5_1).f2.f2), .int .i64 ((rd_T167 l0 x5_1).f2.f3)], .int .i64 x1_1] ?_; (with_reducible refine (laws_szRefVal.calls ((rd_T167 l0 x5_1).f0) _ _ ((rd_T167 l0 x5_1).f1) ((rd_T167 l0 x5_1).f2.f0) ((rd_T167 l0 x5_1).f2.f1) ((rd_T167 l0 x5_1).f2.f2) ((rd_T167 l0 x5_1).f2.f3) x1_1 t104 _ ?side1 ?side2 A6.out).mono ?_); (case side1 => exact sqC (Kd.C_below HR103_1.out HB.out)); (case side2 => exact HC103_1.out); rintro e w9 ⟨rfl, hb⟩; refine ⟨_, rfl, ?_⟩; replace HB := sqs HB hb; (try clear hb)))
   go_roundg k1
   case measure => have := HK1.out; omega
   case rel => exact ⟨(t104), (wrap64 (x5_1 + 1)), (by first | rfl | (simp; done) | (simp [*]; done)), (by first | rfl | (simp; done) | (simp [*]; done)), H', ⟨by have := HK1.out; omega⟩, sqh HB⟩

/-! ### laws_szGaps: function 138 -/
set_option maxHeartbeats 8000000 in
set_option maxRecDepth 100000 in
theorem laws_szGaps.calls (a0_0 : Int) (A0_1 : Option Addr) (c0_1 : Nat) (l0_1 : List Int) (a1 : Int) (r : Int) (w : World) (hr0_1 : Kd.C (Kd.int .i64) w A0_1 l0_1.length l0_1) (hc0_1 : l0_1.length ≤ c0_1) (h : laws_szGaps.f a0_0 l0_1 a1 = some r) :
  Calls Try.prog 138 #[.agg #[.int .i64 a0_0, .slice A0_1 l0_1.length c0_1], .int .i64 a1] w fun e w' => e = .returned (.int .i64 r) ∧ Below w.heap.size w w' := by
 have hu70 := Try.underlying70
 have HR0_1 := Aside0.mk hr0_1
 have HC0_1 := Aside0.mk hc0_1
 clear hr0_1 hc0_1
 have HB := Aside0.mk (Below.refl w.heap.size w)
 have H : ((laws_szIntS.f l0_1 a1).bind fun t106 => (if t106 < 0 then (some (-1)) else (some t106))) = some r := h
 clear h
 replace H := sqbi H
 obtain ⟨t106, A3, H⟩ := H
 replace H : (if t106 < 0 then (some (-1)) else (some t106)) = some r := H
 replace H := sqj H
 rcases H with ⟨c4, H⟩ | ⟨c4, H⟩
 ·have c4b0 := decide_eq_true c4
  clear c4
  obtain rfl := Option.some.inj H
  go_enter Try.func138, Try.ntmps138
  go_wp2_with (first | ((with_reducible refine gate_dst (N := 2) rfl ?_); refine sqx 2 #[.int .i64 a0_0, .slice A0_1 l0_1.length c0_1] 70 ?_; intro gb105 hg w5 hbox hb; have BK105 := Aside0.mk hbox; have GW105 := sqg HB hg; have GE105 := sqg HB hg; replace HB := sqs HB hb; clear hb hbox hg; obtain ⟨hcz6_0, hcz6_1, hfz6_0, hfz6_1⟩ := sqc2 BK105) | ((with_reducible refine gate_callee (f := 199) rfl ?_); refine sqL (some 8) Try.func199 #[.slice A0_1 l0_1.length c0_1, .int .i64 a1] ?_; (with_reducible refine (laws_szIntS.calls _ _ l0_1 a1 t106 _ ?side1 ?side2 A3.out).mono ?_); (case side1 => exact sqC (Kd.C_below HR0_1.out HB.out)); (case side2 => exact HC0_1.out); rintro e w' ⟨rfl, ⟨nd, rfl⟩⟩; refine ⟨_, rfl, ?_⟩))
  go_ret
  exact sqe HB
 have c4b0 := decide_eq_false c4
 clear c4
 obtain rfl := Option.some.inj H
 go_enter Try.func138, Try.ntmps138
 go_wp2_with (first | ((with_reducible refine gate_dst (N := 2) rfl ?_); refine sqx 2 #[.int .i64 a0_0, .slice A0_1 l0_1.length c0_1] 70 ?_; intro gb105 hg w7 hbox hb; have BK105 := Aside0.mk hbox; have GW105 := sqg HB hg; have GE105 := sqg HB hg; replace HB := sqs HB hb; clear hb hbox hg; obtain ⟨hcz8_0, hcz8_1, hfz8_0, hfz8_1⟩ := sqc2 BK105) | ((with_reducible refine gate_callee (f := 199) rfl ?_); refine sqL (some 8) Try.func199 #[.slice A0_1 l0_1.length c0_1, .int .i64 a1] ?_; (with_reducible refine (laws_szIntS.calls _ _ l0_1 a1 t106 _ ?side1 ?side2 A3.out).mono ?_); (case side1 => exact sqC (Kd.C_below HR0_1.out HB.out)); (case side2 => exact HC0_1.out); rintro e w' ⟨rfl, ⟨nd, rfl⟩⟩; refine ⟨_, rfl, ?_⟩))
 go_ret
 exact sqe HB

/-! ### laws_szAbs: function 57 -/
set_option maxHeartbeats 8000000 in
set_option maxRecDepth 100000 in
theorem laws_szAbs.calls (k : Nat) (a0_0 : Bool) (A0_1 : Option Addr) (c0_1 : Nat) (l0_1 : List (S165)) (A0_2 : Option Addr) (c0_2 : Nat) (l0_2 : List (S167)) (A0_3 : Option Addr) (c0_3 : Nat) (l0_3 : List (S165)) (a0_4 : Int) (A0_5 : Option Addr) (c0_5 : Nat) (l0_5 : List Int) (a1 : Int) (r : Int) (w : World) (hr0_1 : Kd.C k165 w A0_1 l0_1.length l0_1) (hc0_1 : l0_1.length ≤ c0_1) (hr0_2 : Kd.C k167 w A0_2 l0_2.length l0_2) (hc0_2 : l0_2.length ≤ c0_2) (hr0_3 : Kd.C k165 w A0_3 l0_3.length l0_3) (hc0_3 : l0_3.length ≤ c0_3) (hr0_5 : Kd.C (Kd.int .i64) w A0_5 l0_5.length l0_5) (hc0_5 : l0_5.length ≤ c0_5) (h : laws_szAbs.f k a0_0 l0_1 l0_2 l0_3 a0_4 l0_5 a1 = some r) :
  Calls Try.prog 57 #[.agg #[.bool a0_0, .slice A0_1 l0_1.length c0_1, .slice A0_2 l0_2.length c0_2, .slice A0_3 l0_3.length c0_3, .int .i64 a0_4, .slice A0_5 l0_5.length c0_5], .int .i64 a1] w fun e w' => e = .returned (.int .i64 r) ∧ Below w.heap.size w w' := by
 have hu72 := Try.underlying72
 have hu70 := Try.underlying70
 have HR0_1 := Aside0.mk hr0_1
 have HC0_1 := Aside0.mk hc0_1
 clear hr0_1 hc0_1
 have HR0_2 := Aside0.mk hr0_2
 have HC0_2 := Aside0.mk hc0_2
 clear hr0_2 hc0_2
 have HR0_3 := Aside0.mk hr0_3
 have HC0_3 := Aside0.mk hc0_3
 clear hr0_3 hc0_3
 have HR0_5 := Aside0.mk hr0_5
 have HC0_5 := Aside0.mk hc0_5
 clear hr0_5 hc0_5
 have HB := Aside0.mk (Below.refl w.heap.size w)
 have H : ((laws_szValS.f l0_1 a1).bind fun t108 => (if t108 < 0 then (some (-1)) else ((laws_szRefValS.f k l0_2 t108).bind fun t109 => (if t109 < 0 then (some (-1)) else ((laws_szValS.f l0_3 t109).bind fun t110 => (if t110 < 0 then (some (-1)) else ((laws_szGaps.f a0_4 l0_5 t110).bind fun t111 => (if t111 < 0 then (some (-1)) else (some t111))))))))) = some r := h
 clear h
 replace H := sqbi H
 obtain ⟨t108, A3, H⟩ := H
 replace H : (if t108 < 0 then (some (-1)) else ((laws_szRefValS.f k l0_2 t108).bind fun t109 => (if t109 < 0 then (some (-1)) else ((laws_szValS.f l0_3 t109).bind fun t110 => (if t110 < 0 then (some (-1)) else ((laws_szGaps.f a0_4 l0_5 t110).bind fun t111 => (if t111 < 0 then (some (-1)) else (some t111)))))))) = some r := H
 replace H := sqj H
 rcases H with ⟨c4, H⟩ | ⟨c4, H⟩
 ·have c4b0 := decide_eq_true c4
  clear c4
  obtain rfl := Option.some.inj H
  go_enter Try.func57, Try.ntmps57
  go_wp2_with (first | ((with_reducible refine gate_dst (N := 2) rfl ?_); refine sqx 2 #[.bool a0_0, .slice A0_1 l0_1.length c0_1, .slice A0_2 l0_2.length c0_2, .slice A0_3 l0_3.length c0_3, .int .i64 a0_4, .slice A0_5 l0_5.length c0_5] 72 ?_; intro gb107 hg w5 hbox hb; have BK107 := Aside0.mk hbox; have GW107 := sqg HB hg; have GE107 := sqg HB hg; replace HB := sqs HB hb; clear hb hbox hg; obtain ⟨hcz6_0, hcz6_1, hcz6_2, hcz6_3, hcz6_4, hcz6_5, hfz6_0, hfz6_1, hfz6_2, hfz6_3, hfz6_4, hfz6_5⟩ := sqc6 BK107) | ((with_reducible refine gate_callee (f := 136) rfl ?_); refine sqL (some 8) Try.func136 #[.slice A0_1 l0_1.length c0_1, .int .i64 a1] ?_; (with_reducible refine (laws_szValS.calls _ _ l0_1 a1 t108 _ ?side1 ?side2 A3.out).mono ?_); (case side1 => exact sqC (Kd.C_below HR0_1.out HB.out)); (case side2 => exact HC0_1.out); rintro e w' ⟨rfl, ⟨nd, rfl⟩⟩; refine ⟨_, rfl, ?_⟩))
  go_ret
  exact sqe HB
 have c4b0 := decide_eq_false c4
 clear c4
 replace H := sqbi H
 obtain ⟨t109, A7, H⟩ := H
 replace H : (if t109 < 0 then (some (-1)) else ((laws_szValS.f l0_3 t109).bind fun t110 => (if t110 < 0 then (some (-1)) else ((laws_szGaps.f a0_4 l0_5 t110).bind fun t111 => (if t111 < 0 then (some (-1)) else (some t111)))))) = some r := H
 replace H := sqj H
 rcases H with ⟨c8, H⟩ | ⟨c8, H⟩
 ·have c8b0 := decide_eq_true c8
  clear c8
  obtain rfl := Option.some.inj H
  go_enter Try.func57, Try.ntmps57
  go_wp2_with (first | ((with_reducible refine gate_dst (N := 2) rfl ?_); refine sqx 2 #[.bool a0_0, .slice A0_1 l0_1.length c0_1, .slice A0_2 l0_2.length c0_2, .slice A0_3 l0_3.length c0_3, .int .i64 a0_4, .slice A0_5 l0_5.length c0_5] 72 ?_; intro gb107 hg w9 hbox hb; have BK107 := Aside0.mk hbox; have GW107 := sqg HB hg; have GE107 := sqg HB hg; replace HB := sqs HB hb; clear hb hbox hg; obtain ⟨hcz10_0, hcz10_1, hcz10_2, hcz10_3, hcz10_4, hcz10_5, hfz10_0, hfz10_1, hfz10_2, hfz10_3, hfz10_4, hfz10_5⟩ := sqc6 BK107) | ((with_reducible refine gate_callee (f := 136) rfl ?_); refine sqL (some 8) Try.func136 #[.slice A0_1 l0_1.length c0_1, .int .i64 a1] ?_; (with_reducible refine (laws_szValS.calls _ _ l0_1 a1 t108 _ ?side1 ?side2 A3.out).mono ?_); (case side1 => exact sqC (Kd.C_below HR0_1.out HB.out)); (case side2 => exact HC0_1.out); rintro e w' ⟨rfl, ⟨nd, rfl⟩⟩; refine ⟨_, rfl, ?_⟩) | ((with_reducible refine gate_callee (f := 137) rfl ?_); refine sqL (some 14) Try.func137 #[.slice A0_2 l0_2.length c0_2, .int .i64 t108] ?_; (with_reducible refine (laws_szRefValS.calls k _ _ l0_2 t108 t109 _ ?side1 ?side2 A7.out).mono ?_); (case side1 => exact sqC (Kd.C_below HR0_2.out (sqB HB))); (case side2 => exact HC0_2.out); rintro e w11 ⟨rfl, hb⟩; refine ⟨_, rfl, ?_⟩; replace BK107 := sqb BK107 hb; replace HB := sqs HB hb; (try clear hb)))
  go_ret
  exact sqe HB
 have c8b0 := decide_eq_false c8
 clear c8
 replace H := sqbi H
 obtain ⟨t110, A12, H⟩ := H
 replace H : (if t110 < 0 then (some (-1)) else ((laws_szGaps.f a0_4 l0_5 t110).bind fun t111 => (if t111 < 0 then (some (-1)) else (some t111)))) = some r := H
 replace H := sqj H
 rcases H with ⟨c13, H⟩ | ⟨c13, H⟩
 ·have c13b0 := decide_eq_true c13
  clear c13
  obtain rfl := Option.some.inj H
  go_enter Try.func57, Try.ntmps57
  go_wp2_with (first | ((with_reducible refine gate_dst (N := 2) rfl ?_); refine sqx 2 #[.bool a0_0, .slice A0_1 l0_1.length c0_1, .slice A0_2 l0_2.length c0_2, .slice A0_3 l0_3.length c0_3, .int .i64 a0_4, .slice A0_5 l0_5.length c0_5] 72 ?_; intro gb107 hg w14 hbox hb; have BK107 := Aside0.mk hbox; have GW107 := sqg HB hg; have GE107 := sqg HB hg; replace HB := sqs HB hb; clear hb hbox hg; obtain ⟨hcz15_0, hcz15_1, hcz15_2, hcz15_3, hcz15_4, hcz15_5, hfz15_0, hfz15_1, hfz15_2, hfz15_3, hfz15_4, hfz15_5⟩ := sqc6 BK107) | ((with_reducible refine gate_callee (f := 136) rfl ?_); refine sqL (some 8) Try.func136 #[.slice A0_1 l0_1.length c0_1, .int .i64 a1] ?_; (with_reducible refine (laws_szValS.calls _ _ l0_1 a1 t108 _ ?side1 ?side2 A3.out).mono ?_); (case side1 => exact sqC (Kd.C_below HR0_1.out HB.out)); (case side2 => exact HC0_1.out); rintro e w' ⟨rfl, ⟨nd, rfl⟩⟩; refine ⟨_, rfl, ?_⟩) | ((with_reducible refine gate_callee (f := 137) rfl ?_); refine sqL (some 14) Try.func137 #[.slice A0_2 l0_2.length c0_2, .int .i64 t108] ?_; (with_reducible refine (laws_szRefValS.calls k _ _ l0_2 t108 t109 _ ?side1 ?side2 A7.out).mono ?_); (case side1 => exact sqC (Kd.C_below HR0_2.out (sqB HB))); (case side2 => exact HC0_2.out); rintro e w16 ⟨rfl, hb⟩; refine ⟨_, rfl, ?_⟩; replace BK107 := sqb BK107 hb; replace HB := sqs HB hb; (try clear hb); obtain ⟨hcz17_0, hcz17_1, hcz17_2, hcz17_3, hcz17_4, hcz17_5, hfz17_0, hfz17_1, hfz17_2, hfz17_3, hfz17_4, hfz17_5⟩ := sqc6 BK107) | ((with_reducible refine gate_callee (f := 136) rfl ?_); refine sqL (some 20) Try.func136 #[.slice A0_3 l0_3.length c0_3, .int .i64 t109] ?_; (with_reducible refine (laws_szValS.calls _ _ l0_3 t109 t110 _ ?side1 ?side2 A12.out).mono ?_); (case side1 => exact sqC (Kd.C_below HR0_3.out HB.out)); (case side2 => exact HC0_3.out); rintro e w' ⟨rfl, ⟨nd, rfl⟩⟩; refine ⟨_, rfl, ?_⟩))
  go_ret
  exact sqe HB
 have c13b0 := decide_eq_false c13
 clear c13
 replace H := sqbi H
 obtain ⟨t111, A18, H⟩ := H
 replace H : (if t111 < 0 then (some (-1)) else (some t111)) = some r := H
 replace H := sqj H
 rcases H with ⟨c19, H⟩ | ⟨c19, H⟩
 ·have c19b0 := decide_eq_true c19
  clear c19
  obtain rfl := Option.some.inj H
  go_enter Try.func57, Try.ntmps57
  go_wp2_with (first | ((with_reducible refine gate_dst (N := 2) rfl ?_); refine sqx 2 #[.bool a0_0, .slice A0_1 l0_1.length c0_1, .slice A0_2 l0_2.length c0_2, .slice A0_3 l0_3.length c0_3, .int .i64 a0_4, .slice A0_5 l0_5.length c0_5] 72 ?_; intro gb107 hg w20 hbox hb; have BK107 := Aside0.mk hbox; have GW107 := sqg HB hg; have GE107 := sqg HB hg; replace HB := sqs HB hb; clear hb hbox hg; obtain ⟨hcz21_0, hcz21_1, hcz21_2, hcz21_3, hcz21_4, hcz21_5, hfz21_0, hfz21_1, hfz21_2, hfz21_3, hfz21_4, hfz21_5⟩ := sqc6 BK107) | ((with_reducible refine gate_callee (f := 136) rfl ?_); refine sqL (some 8) Try.func136 #[.slice A0_1 l0_1.length c0_1, .int .i64 a1] ?_; (with_reducible refine (laws_szValS.calls _ _ l0_1 a1 t108 _ ?side1 ?side2 A3.out).mono ?_); (case side1 => exact sqC (Kd.C_below HR0_1.out HB.out)); (case side2 => exact HC0_1.out); rintro e w' ⟨rfl, ⟨nd, rfl⟩⟩; refine ⟨_, rfl, ?_⟩) | ((with_reducible refine gate_callee (f := 137) rfl ?_); refine sqL (some 14) Try.func137 #[.slice A0_2 l0_2.length c0_2, .int .i64 t108] ?_; (with_reducible refine (laws_szRefValS.calls k _ _ l0_2 t108 t109 _ ?side1 ?side2 A7.out).mono ?_); (case side1 => exact sqC (Kd.C_below HR0_2.out (sqB HB))); (case side2 => exact HC0_2.out); rintro e w22 ⟨rfl, hb⟩; refine ⟨_, rfl, ?_⟩; replace BK107 := sqb BK107 hb; replace HB := sqs HB hb; (try clear hb); obtain ⟨hcz23_0, hcz23_1, hcz23_2, hcz23_3, hcz23_4, hcz23_5, hfz23_0, hfz23_1, hfz23_2, hfz23_3, hfz23_4, hfz23_5⟩ := sqc6 BK107) | ((with_reducible refine gate_callee (f := 136) rfl ?_); refine sqL (some 20) Try.func136 #[.slice A0_3 l0_3.length c0_3, .int .i64 t109] ?_; (with_reducible refine (laws_szValS.calls _ _ l0_3 t109 t110 _ ?side1 ?side2 A12.out).mono ?_); (case side1 => exact sqC (Kd.C_below HR0_3.out HB.out)); (case side2 => exact HC0_3.out); rintro e w' ⟨rfl, ⟨nd, rfl⟩⟩; refine ⟨_, rfl, ?_⟩) | ((with_reducible refine gate_callee (f := 138) rfl ?_); refine sqL (some 26) Try.func138 #[.agg #[.int .i64 a0_4, .slice A0_5 l0_5.length c0_5], .int .i64 t110] ?_; (with_reducible refine (laws_szGaps.calls a0_4 _ _ l0_5 t110 t111 _ ?side1 ?side2 A18.out).mono ?_); (case side1 => exact sqC (Kd.C_below HR0_5.out (sqB HB))); (case side2 => exact HC0_5.out); rintro e w24 ⟨rfl, hb⟩; refine ⟨_, rfl, ?_⟩; replace BK107 := sqb BK107 hb; replace HB := sqs HB hb; (try clear hb)))
  go_ret
  exact sqe HB
 have c19b0 := decide_eq_false c19
 clear c19
 obtain rfl := Option.some.inj H
 go_enter Try.func57, Try.ntmps57
 go_wp2_with (first | ((with_reducible refine gate_dst (N := 2) rfl ?_); refine sqx 2 #[.bool a0_0, .slice A0_1 l0_1.length c0_1, .slice A0_2 l0_2.length c0_2, .slice A0_3 l0_3.length c0_3, .int .i64 a0_4, .slice A0_5 l0_5.length c0_5] 72 ?_; intro gb107 hg w25 hbox hb; have BK107 := Aside0.mk hbox; have GW107 := sqg HB hg; have GE107 := sqg HB hg; replace HB := sqs HB hb; clear hb hbox hg; obtain ⟨hcz26_0, hcz26_1, hcz26_2, hcz26_3, hcz26_4, hcz26_5, hfz26_0, hfz26_1, hfz26_2, hfz26_3, hfz26_4, hfz26_5⟩ := sqc6 BK107) | ((with_reducible refine gate_callee (f := 136) rfl ?_); refine sqL (some 8) Try.func136 #[.slice A0_1 l0_1.length c0_1, .int .i64 a1] ?_; (with_reducible refine (laws_szValS.calls _ _ l0_1 a1 t108 _ ?side1 ?side2 A3.out).mono ?_); (case side1 => exact sqC (Kd.C_below HR0_1.out HB.out)); (case side2 => exact HC0_1.out); rintro e w' ⟨rfl, ⟨nd, rfl⟩⟩; refine ⟨_, rfl, ?_⟩) | ((with_reducible refine gate_callee (f := 137) rfl ?_); refine sqL (some 14) Try.func137 #[.slice A0_2 l0_2.length c0_2, .int .i64 t108] ?_; (with_reducible refine (laws_szRefValS.calls k _ _ l0_2 t108 t109 _ ?side1 ?side2 A7.out).mono ?_); (case side1 => exact sqC (Kd.C_below HR0_2.out (sqB HB))); (case side2 => exact HC0_2.out); rintro e w27 ⟨rfl, hb⟩; refine ⟨_, rfl, ?_⟩; replace BK107 := sqb BK107 hb; replace HB := sqs HB hb; (try clear hb); obtain ⟨hcz28_0, hcz28_1, hcz28_2, hcz28_3, hcz28_4, hcz28_5, hfz28_0, hfz28_1, hfz28_2, hfz28_3, hfz28_4, hfz28_5⟩ := sqc6 BK107) | ((with_reducible refine gate_callee (f := 136) rfl ?_); refine sqL (some 20) Try.func136 #[.slice A0_3 l0_3.length c0_3, .int .i64 t109] ?_; (with_reducible refine (laws_szValS.calls _ _ l0_3 t109 t110 _ ?side1 ?side2 A12.out).mono ?_); (case side1 => exact sqC (Kd.C_below HR0_3.out HB.out)); (case side2 => exact HC0_3.out); rintro e w' ⟨rfl, ⟨nd, rfl⟩⟩; refine ⟨_, rfl, ?_⟩) | ((with_reducible refine gate_callee (f := 138) rfl ?_); refine sqL (some 26) Try.func138 #[.agg #[.int .i64 a0_4, .slice A0_5 l0_5.length c0_5], .int .i64 t110] ?_; (with_reducible refine (laws_szGaps.calls a0_4 _ _ l0_5 t110 t111 _ ?side1 ?side2 A18.out).mono ?_); (case side1 => exact sqC (Kd.C_below HR0_5.out (sqB HB))); (case side2 => exact HC0_5.out); rintro e w29 ⟨rfl, hb⟩; refine ⟨_, rfl, ?_⟩; replace BK107 := sqb BK107 hb; replace HB := sqs HB hb; (try clear hb)))
 go_ret
 exact sqe HB

/-! ### laws_toVal: function 200 -/
set_option maxHeartbeats 8000000 in
set_option maxRecDepth 100000 in
theorem laws_toVal.calls (a0_0 : Int) (a0_1 : Int) (a0_2 : Int) (a0_3 : Int) (r1 : Int) (r2 : Int) (r3 : Int) (r4 : Int) (w : World) (h : laws_toVal.f a0_0 a0_1 a0_2 a0_3 = some (r1, r2, r3, r4)) :
  Calls Try.prog 200 #[.agg #[.int .i64 a0_0, .int .i64 a0_1, .int .i64 a0_2, .int .i64 a0_3]] w fun e w' => e = .returned (.agg #[.int .i64 r1, .int .i64 r2, .int .i64 r3, .int .i64 r4]) ∧ Below w.heap.size w w' := by
 have hu165 := Try.underlying165
 have hu30 := Try.underlying30
 have HB := Aside0.mk (Below.refl w.heap.size w)
 have H : (some (a0_0, a0_1, a0_2, a0_3)) = some (r1, r2, r3, r4) := h
 clear h
 simp only [Option.some.injEq, Prod.mk.injEq] at H
 obtain ⟨rfl, rfl, rfl, rfl⟩ := H
 go_enter Try.func200, Try.ntmps200
 go_wp2_with (first | ((with_reducible refine gate_dst (N := 1) rfl ?_); refine sqx 1 #[.int .i64 a0_0, .int .i64 a0_1, .int .i64 a0_2, .int .i64 a0_3] 165 ?_; intro gb112 hg w2 hbox hb; have BK112 := Aside0.mk hbox; have GW112 := sqg HB hg; have GE112 := sqg HB hg; replace HB := sqs HB hb; clear hb hbox hg) | ((with_reducible refine gate_dst (N := 2) rfl ?_); refine sqx 2 #[.int .i64 0, .int .i64 0, .int .i64 0, .int .i64 0] 30 ?_; intro gb113 hg w3 hbox hb; have BK113 := Aside0.mk hbox; have GW113 := sqg HB hg; have GE113 := sqg HB hg; have NB112_113 := sqn BK112 hg; have NB113_112 := sqm BK112 hg; replace BK112 := sqb BK112 hb; replace HB := sqs HB hb; clear hb hbox hg) | ((with_reducible refine gate_dst (N := 3) rfl ?_); refine sqx 3 #[.int .i64 0, .int .i64 0, .int .i64 0, .int .i64 0] 30 ?_; intro gb114 hg w4 hbox hb; have BK114 := Aside0.mk hbox; have GW114 := sqg HB hg; have GE114 := sqg HB hg; have NB112_114 := sqn BK112 hg; have NB114_112 := sqm BK112 hg; have NB113_114 := sqn BK113 hg; have NB114_113 := sqm BK113 hg; refine sqM2 BK112 BK113 hb ?_; clear BK112 BK113; intro BK112 BK113; replace HB := sqs HB hb; clear hb hbox hg; have hnb5 := NB112_113.out; have hnc5 := NB113_112.out; have hnb6 := NB112_114.out; have hnc6 := NB114_112.out; obtain ⟨hcz7_0, hcz7_1, hcz7_2, hcz7_3, hfz7_0, hfz7_1, hfz7_2, hfz7_3⟩ := sqc4 BK112; have hnb8 := NB114_113.out; have hnc8 := NB113_114.out; obtain ⟨hcz9_0, hcz9_1, hcz9_2, hcz9_3, hfz9_0, hfz9_1, hfz9_2, hfz9_3⟩ := sqc4 BK114; obtain ⟨hcz10_0, hcz10_1, hcz10_2, hcz10_3, hfz10_0, hfz10_1, hfz10_2, hfz10_3⟩ := sqc4 BK113))
 refine bodyPost_ret (results_cell_row rfl _ _ gb113 30 #[.int .i64 a0_0, .int .i64 a0_1, .int .i64 a0_2, .int .i64 a0_3] (0, 0) _ rfl (by refine sqt ?_; refine blk_put (cs := #[.int .i64 a0_0, .int .i64 a0_1, .int .i64 a0_2, .int .i64 0]) ?_ 3 _ rfl; refine sqt ?_; refine blk_put (cs := #[.int .i64 a0_0, .int .i64 a0_1, .int .i64 0, .int .i64 0]) ?_ 2 _ rfl; refine sqt ?_; refine blk_put (cs := #[.int .i64 a0_0, .int .i64 0, .int .i64 0, .int .i64 0]) ?_ 1 _ rfl; refine sqt ?_; refine blk_put (cs := #[.int .i64 0, .int .i64 0, .int .i64 0, .int .i64 0]) ?_ 0 _ rfl; refine sqt ?_; refine blk_far ?_ NB113_114.out _; refine sqt ?_; refine blk_far ?_ NB113_114.out _; refine sqt ?_; refine blk_far ?_ NB113_114.out _; refine sqt ?_; refine blk_far ?_ NB113_114.out _; refine sqt ?_; exact BK113.out) Try.underlying30 rfl (by kernel_rfl)) rfl ?_
 exact sqe HB

/-! ### laws_toValS: function 141 -/
set_option maxHeartbeats 8000000 in
set_option maxRecDepth 100000 in
theorem laws_toValS.calls (k : Nat) (A0 : Option Addr) (c0 : Nat) (l0 : List (S165)) (r : List (S30)) (w : World) (hr0 : Kd.C k165 w A0 l0.length l0) (hc0 : l0.length ≤ c0) (h : laws_toValS.f k l0 = some r) :
  Calls Try.prog 141 #[.slice A0 l0.length c0] w fun e w' => ∃ v0_ : Value, e = .returned (v0_) ∧ Kd.R k30 30 w' w.heap.size (fun _ => True) v0_ r ∧ Below w.heap.size w w' := by
 have hu165 := Try.underlying165
 have hu30 := Try.underlying30
 have HR0 := Aside0.mk hr0
 have HC0 := Aside0.mk hc0
 clear hr0 hc0
 have HB := Aside0.mk (Below.refl w.heap.size w)
 have H : (if 0 ≤ (l0.length : Int) then (if ((l0.length : Int) : Int).toNat ≤ 8796093022208 then (laws_toValS.l0 k l0 (List.replicate ((l0.length : Int) : Int).toNat z30) 0) else (none)) else (none)) = some r := h
 clear h
 replace H := sqi H
 rcases H with ⟨c2, H⟩ | ⟨c2, H⟩
 ·exact absurd H (by simp)
 have c2b0 := eq_true c2
 have c2b1 := decide_eq_true c2
 clear c2
 replace H := sqi H
 rcases H with ⟨c3, H⟩ | ⟨c3, H⟩
 ·exact absurd H (by simp)
 have c3b0 := eq_true c3
 have c3b1 := decide_eq_true c3
 clear c3
 obtain ⟨y115, hy115⟩ : ∃ y_ : List (S30), y_ = (List.replicate ((l0.length : Int) : Int).toNat z30) := ⟨_, rfl⟩
 replace H : (laws_toValS.l0 k l0 y115 0) = some r := by first | (rw [hy115]; with_reducible exact H) | (have H2_ := (Option.bind_some _ _).symm.trans H; rw [hy115]; with_reducible exact H2_) | (have H2_ := (Option.bind_some _ _).symm.trans H; with_reducible exact H2_) | with_reducible exact H | (rw [hy115]; exact H) | exact H
 have Ny115 := Aside0.mk hy115
 clear hy115
 have H' := Aside0.mk H
 clear H
 go_enter Try.func141, Try.ntmps141
 go_wp2_with (first | ((with_reducible refine gate_dst (N := 7) rfl ?_); refine Kd.R_make k30 _ 30 rfl (N := 7) rfl 75 _ _ rfl (l0.length : Int) rfl rfl Try.underlying75 (.agg #[(.int .i64 0), (.int .i64 0), (.int .i64 0), (.int .i64 0)]) 32 info30 rfl (by decide) (by omega) z30 (ok := fun _ => True) (okp := fun _ => True) (k30_mkM _ _ _ z30 ) (fun _ hk => hk) trivial sqd (Nat.le_trans (Nat.mul_le_mul_right _ (sqd : (l0.length : Int).toNat ≤ 8796093022208)) (by omega)) (Below.refl _ _) (Nat.le_refl _) ?_; intro v116 w4 ho5 hb hg_ hnew_; clear hg_ hnew_; (first | rw [← Ny115.out] at ho5 | (simp only [Int.reduceToNat] at ho5; rw [← Ny115.out] at ho5)); have HO117 := Aside0.mk (Kd.R_lower ho5 (below_size (sqB HB))); replace HB := sqs HB hb; clear hb ho5))
 go_loopg [4] k (fun kq v4 w' => ∃ (x3_1 : List (S30)) (x4_1 : Int), v4 = .int .i64 x4_1 ∧ Aside0 (laws_toValS.l0 kq l0 x3_1 x4_1 = some r) ∧ Aside0 (kq ≤ k) ∧ Aside0 (Kd.R k30 30 w' w.heap.size (fun _ => True) v116 x3_1) ∧ Aside0 (Below w.heap.size w w'))
 case atStart => exact ⟨(y115), (0), (by first | rfl | (simp; done) | (simp [*]; done)), H', ⟨Nat.le_refl _⟩, ⟨sqy HO117.out⟩, sqh HB⟩
 case round =>
  clear H'
  obtain ⟨x3_1, x4_1, rfl, HA, HK1, HO_3, HB⟩ := hrel
  cases gk with
  | zero => exact absurd HA.out (by simp [laws_toValS.l0])
  | succ k1 =>
   have H := HA.out
   clear HA
   simp only [laws_toValS.l0] at H
   replace H := sqi H
   rcases H with ⟨c6, H⟩ | ⟨c6, H⟩
   ·have c6b0 := decide_eq_false c6
    clear c6
    obtain rfl := Option.some.inj H
    go_wp2
    go_ret
    exact ⟨_, by first | rfl | (simp [errW_none, errW_some] <;> rfl) | (simp [*, errW_none, errW_some] <;> rfl), by (with_reducible repeat (first | apply Kd.R_alloc | apply Kd.R_drewN | apply Kd.R_drew)); exact HO_3.out, by repeat (first | (with_reducible first | exact HB.out | apply below_alloc | apply pw_below_drewN | apply below_drew1) | exact HB.out)⟩
   have c6b0 := decide_eq_true c6
   clear c6
   replace H := sqi H
   rcases H with ⟨c7, H⟩ | ⟨c7, H⟩
   ·exact absurd H (by simp)
   have c7b0 := decide_eq_true c7
   clear c7
   replace H := sqbi H
   obtain ⟨⟨t119, t120, t121, t122⟩, A8, H⟩ := H
   replace H : (if x4_1 < (x3_1.length : Int) then (laws_toValS.l0 k1 l0 (x3_1.set (x4_1 : Int).toNat (⟨t119, t120, t121, t122⟩ : S30)) (wrap64 (x4_1 + 1))) else (none)) = some r := H
   replace H := sqi H
   rcases H with ⟨c9, H⟩ | ⟨c9, H⟩
   ·exact absurd H (by simp)
   have c9b0 := decide_eq_true c9
   clear c9
   obtain ⟨y123, hy123⟩ : ∃ y_ : List (S30), y_ = (x3_1.set (x4_1 : Int).toNat (⟨t119, t120, t121, t122⟩ : S30)) := ⟨_, rfl⟩
   replace H : (laws_toValS.l0 k1 l0 y123 (wrap64 (x4_1 + 1))) = some r := by first | (rw [hy123]; with_reducible exact H) | (have H2_ := (Option.bind_some _ _).symm.trans H; rw [hy123]; with_reducible exact H2_) | (have H2_ := (Option.bind_some _ _).symm.trans H; with_reducible exact H2_) | with_reducible exact H | (rw [hy123]; exact H) | exact H
   have Ny123 := Aside0.mk hy123
   clear hy123
   have H' := Aside0.mk H
   clear H
   have p118 : 0 ≤ (x4_1 : Int) := sqd
   have q118 : x4_1 < (l0.length : Int) := sqd
   obtain ⟨ad118, e118, hx118_0, hx118_1, hx118_2, hx118_3⟩ := at_T165 HR0.out x4_1 p118 q118
   cases e118
   replace hx118_0 := sqa HB hx118_0
   replace hx118_1 := sqa HB hx118_1
   replace hx118_2 := sqa HB hx118_2
   replace hx118_3 := sqa HB hx118_3
   replace p118 := eq_true p118
   replace q118 := eq_true q118
   go_wp2_with (first | ((with_reducible refine gate_callee (f := 200) rfl ?_); refine sqL (some 20) Try.func200 #[.agg #[.int .i64 ((rd_T165 l0 x4_1).f0), .int .i64 ((rd_T165 l0 x4_1).f1), .int .i64 ((rd_T165 l0 x4_1).f2), .int .i64 ((rd_T165 l0 x4_1).f3)]] ?_; (with_reducible refine (laws_toVal.calls ((rd_T165 l0 x4_1).f0) ((rd_T165 l0 x4_1).f1) ((rd_T165 l0 x4_1).f2) ((rd_T165 l0 x4_1).f3) t119 t120 t121 t122 _ A8.out).mono ?_); rintro e w11 ⟨rfl, hb⟩; refine ⟨_, rfl, ?_⟩; have n0_ := Aside0.mk (Kd.R_below (sqy HO_3.out) hb); have n1_ := sqs HB hb; clear HO_3; clear HB; have HO_3 := n0_; have HB := n1_; clear n0_ n1_; (try clear hb); have p10 : 0 ≤ (x4_1 : Int) := sqd; have q10 : (x4_1 : Int) < ((x3_1.length : Int) : Int) := sqd; obtain ⟨go10, co10, eo10, gb10, gl10, cl10, HG10⟩ := Kd.R_form HO_3.out (by omega); (first | cases eo10 | (injection eo10 with ea_ en_ ec_; (first | subst ea_ | (injection ea_ with ea_; subst ea_)); subst ec_; clear en_)); have GB10 := Aside0.mk gb10; have GG10 := Aside0.mk HG10; clear gb10 gl10 HG10; obtain ⟨ce10, hcl10, hM10, hcc10, hfr10⟩ := Kd.R_elem HO_3.out z30 (x4_1 : Int) p10 q10; obtain rfl := k30_openM hM10; have hx10_0 : w11.cell? ⟨go10, (x4_1 : Int).toNat * 4, none⟩ = some (.int .i64 ((rd_T30 x3_1 x4_1).f0)) := hcc10 0 _ rfl; have hx10_1 : w11.cell? ⟨go10, (x4_1 : Int).toNat * 4 + 1, none⟩ = some (.int .i64 ((rd_T30 x3_1 x4_1).f1)) := hcc10 1 _ rfl; have hx10_2 : w11.cell? ⟨go10, (x4_1 : Int).toNat * 4 + 2, none⟩ = some (.int .i64 ((rd_T30 x3_1 x4_1).f2)) := hcc10 2 _ rfl; have hx10_3 : w11.cell? ⟨go10, (x4_1 : Int).toNat * 4 + 3, none⟩ = some (.int .i64 ((rd_T30 x3_1 x4_1).f3)) := hcc10 3 _ rfl; have hf10_0 : w11.frozen? ⟨go10, (x4_1 : Int).toNat * 4, none⟩ = false := hfr10 0; have hf10_1 : w11.frozen? ⟨go10, (x4_1 : Int).toNat * 4 + 1, none⟩ = false := hfr10 1; have hf10_2 : w11.frozen? ⟨go10, (x4_1 : Int).toNat * 4 + 2, none⟩ = false := hfr10 2; have hf10_3 : w11.frozen? ⟨go10, (x4_1 : Int).toNat * 4 + 3, none⟩ = false := hfr10 3; clear hcl10 hcc10 hfr10 hM10; replace p10 := eq_true p10; replace q10 := eq_true q10; have HX12 := Aside0.mk (show Kd.R k30 30 w11 w.heap.size (fun _ => True) (.slice (some ⟨go10, 0, none⟩) x3_1.length co10) x3_1 from (sqy HO_3.out)); obtain ⟨ce12, hcl12, hM12, hcc12, hfr12⟩ := Kd.R_elem HX12.out z30 (x4_1 : Int) sqd (by have h_ : (x4_1 : Int) < ((x3_1.length : Int) : Int) := sqd; first | exact h_ | (have e_ := (Kd.R_reads' HO_3.out).1; omega) | simpa using h_); obtain rfl := k30_openM hM12; have HP12 := Kd.R_seg HX12.out (x4_1 : Int) sqd (by have h_ : (x4_1 : Int) < ((x3_1.length : Int) : Int) := sqd; first | exact h_ | (have e_ := (Kd.R_reads' HO_3.out).1; omega) | simpa using h_) (seg := [.int .i64 t119, .int .i64 t120, .int .i64 t121, .int .i64 t122]) (j := 0) hcl12 hcc12 (show 4 ≤ 4 from by decide) (x' := (⟨t119, t120, t121, t122⟩ : S30)) (k30_mkM _ _ _ (⟨t119, t120, t121, t122⟩ : S30) ) (fun _ hk => hk); have hx12_0 := hcc12 0 _ rfl; (try simp only [show (k30).sz = 4 from rfl, Nat.mul_one, Nat.add_zero] at hx12_0); have hf12_0 := hfr12 0; (try simp only [show (k30).sz = 4 from rfl, Nat.mul_one, Nat.add_zero] at hf12_0); have hx12_1 := hcc12 1 _ rfl; (try simp only [show (k30).sz = 4 from rfl, Nat.mul_one, Nat.add_zero] at hx12_1); have hf12_1 := hfr12 1; (try simp only [show (k30).sz = 4 from rfl, Nat.mul_one, Nat.add_zero] at hf12_1); have hx12_2 := hcc12 2 _ rfl; (try simp only [show (k30).sz = 4 from rfl, Nat.mul_one, Nat.add_zero] at hx12_2); have hf12_2 := hfr12 2; (try simp only [show (k30).sz = 4 from rfl, Nat.mul_one, Nat.add_zero] at hf12_2); have hx12_3 := hcc12 3 _ rfl; (try simp only [show (k30).sz = 4 from rfl, Nat.mul_one, Nat.add_zero] at hx12_3); have hf12_3 := hfr12 3; (try simp only [show (k30).sz = 4 from rfl, Nat.mul_one, Nat.add_zero] at hf12_3); clear hcl12 hcc12 hfr12 hM12) | ((with_reducible refine gate_store (t := 30) (p := 21) rfl ?_); refine store_event (t := 30) (p := 21) (v := ?vo_w13) (w1 := ((((w11.setCell ⟨go10, (x4_1 : Int).toNat * 4, none⟩ (.int .i64 t119)).setCell ⟨go10, (x4_1 : Int).toNat * 4 + 1, none⟩ (.int .i64 t120)).setCell ⟨go10, (x4_1 : Int).toNat * 4 + 2, none⟩ (.int .i64 t121)).setCell ⟨go10, (x4_1 : Int).toNat * 4 + 3, none⟩ (.int .i64 t122))) ?hg ?ho ?hn ?hr ?_; (case ho => rfl); (case hg => rfl); (case hn => rfl); (case hr => first | (go_simp; done) | (go_simp; rfl)); intro w13 hw; have hg : w11.grownBy w13 (some go10) := (by rw [hw]; exact HP12.2); have hp_ : Kd.R k30 30 w13 w.heap.size (fun _ => True) (.slice (some ⟨go10, 0, none⟩) x3_1.length co10) y123 := (by rw [hw, Ny123.out]; exact HP12.1); clear HP12; have n0_ := Aside0.mk (hp_); have n1_ := Aside0.mk ((by rw [hw]; exact below_set (below_set (below_set (below_set (HB.out) GB10.out) GB10.out) GB10.out) GB10.out : Below w.heap.size w w13)); clear HO_3; clear HB; have HO_3 := n0_; have HB := n1_; clear n0_ n1_; clear hg hw hp_))
   go_roundg k1
   case measure => have := HK1.out; omega
   case rel => exact ⟨(y123), (wrap64 (x4_1 + 1)), (by first | rfl | (simp; done) | (simp [*]; done)), H', ⟨by have := HK1.out; omega⟩, ⟨sqy HO_3.out⟩, sqh HB⟩

/-! ### laws_toIntS: function 202 -/
set_option maxHeartbeats 8000000 in
set_option maxRecDepth 100000 in
theorem laws_toIntS.calls (k : Nat) (A0 : Option Addr) (c0 : Nat) (l0 : List Int) (r : List Int) (w : World) (hr0 : Kd.C (Kd.int .i64) w A0 l0.length l0) (hc0 : l0.length ≤ c0) (h : laws_toIntS.f k l0 = some r) :
  Calls Try.prog 202 #[.slice A0 l0.length c0] w fun e w' => ∃ v0_ : Value, e = .returned (v0_) ∧ Kd.R (Kd.int .i64) 3 w' w.heap.size (fun _ => True) v0_ r ∧ Below w.heap.size w w' := by
 have HR0 := Aside0.mk hr0
 have HC0 := Aside0.mk hc0
 clear hr0 hc0
 have HB := Aside0.mk (Below.refl w.heap.size w)
 have H : (if 0 ≤ (l0.length : Int) then (if ((l0.length : Int) : Int).toNat ≤ 35184372088832 then (laws_toIntS.l0 k l0 (List.replicate ((l0.length : Int) : Int).toNat 0) 0) else (none)) else (none)) = some r := h
 clear h
 replace H := sqi H
 rcases H with ⟨c2, H⟩ | ⟨c2, H⟩
 ·exact absurd H (by simp)
 have c2b0 := eq_true c2
 have c2b1 := decide_eq_true c2
 clear c2
 replace H := sqi H
 rcases H with ⟨c3, H⟩ | ⟨c3, H⟩
 ·exact absurd H (by simp)
 have c3b0 := eq_true c3
 have c3b1 := decide_eq_true c3
 clear c3
 obtain ⟨y124, hy124⟩ : ∃ y_ : List Int, y_ = (List.replicate ((l0.length : Int) : Int).toNat 0) := ⟨_, rfl⟩
 replace H : (laws_toIntS.l0 k l0 y124 0) = some r := by first | (rw [hy124]; with_reducible exact H) | (have H2_ := (Option.bind_some _ _).symm.trans H; rw [hy124]; with_reducible exact H2_) | (have H2_ := (Option.bind_some _ _).symm.trans H; with_reducible exact H2_) | with_reducible exact H | (rw [hy124]; exact H) | exact H
 have Ny124 := Aside0.mk hy124
 clear hy124
 have H' := Aside0.mk H
 clear H
 go_enter Try.func202, Try.ntmps202
 go_wp2_with (first | ((with_reducible refine gate_dst (N := 7) rfl ?_); refine Kd.R_make (Kd.int .i64) _ 3 rfl (N := 7) rfl 39 _ _ rfl (l0.length : Int) rfl rfl Try.underlying39 (.int .i64 0) 8 info3 rfl (by decide) (by omega) 0 (ok := fun _ => True) (okp := fun _ => True) rfl (fun _ hk => hk) trivial sqd (Nat.le_trans (Nat.mul_le_mul_right _ (sqd : (l0.length : Int).toNat ≤ 35184372088832)) (by omega)) (Below.refl _ _) (Nat.le_refl _) ?_; intro v125 w4 ho5 hb hg_ hnew_; clear hg_ hnew_; (first | rw [← Ny124.out] at ho5 | (simp only [Int.reduceToNat] at ho5; rw [← Ny124.out] at ho5)); have HO126 := Aside0.mk (Kd.R_lower ho5 (below_size (sqB HB))); replace HB := sqs HB hb; clear hb ho5))
 go_loopg [4] k (fun kq v4 w' => ∃ (x3_1 : List Int) (x4_1 : Int), v4 = .int .i64 x4_1 ∧ Aside0 (laws_toIntS.l0 kq l0 x3_1 x4_1 = some r) ∧ Aside0 (kq ≤ k) ∧ Aside0 (Kd.R (Kd.int .i64) 3 w' w.heap.size (fun _ => True) v125 x3_1) ∧ Aside0 (Below w.heap.size w w'))
 case atStart => exact ⟨(y124), (0), (by first | rfl | (simp; done) | (simp [*]; done)), H', ⟨Nat.le_refl _⟩, ⟨sqy HO126.out⟩, sqh HB⟩
 case round =>
  clear H'
  obtain ⟨x3_1, x4_1, rfl, HA, HK1, HO_3, HB⟩ := hrel
  cases gk with
  | zero => exact absurd HA.out (by simp [laws_toIntS.l0])
  | succ k1 =>
   have H := HA.out
   clear HA
   simp only [laws_toIntS.l0] at H
   replace H := sqi H
   rcases H with ⟨c6, H⟩ | ⟨c6, H⟩
   ·have c6b0 := decide_eq_false c6
    clear c6
    obtain rfl := Option.some.inj H
    go_wp2
    go_ret
    exact ⟨_, by first | rfl | (simp [errW_none, errW_some] <;> rfl) | (simp [*, errW_none, errW_some] <;> rfl), by (with_reducible repeat (first | apply Kd.R_alloc | apply Kd.R_drewN | apply Kd.R_drew)); exact HO_3.out, by repeat (first | (with_reducible first | exact HB.out | apply below_alloc | apply pw_below_drewN | apply below_drew1) | exact HB.out)⟩
   have c6b0 := decide_eq_true c6
   clear c6
   replace H := sqi H
   rcases H with ⟨c7, H⟩ | ⟨c7, H⟩
   ·exact absurd H (by simp)
   have c7b0 := decide_eq_true c7
   clear c7
   replace H := sqi H
   rcases H with ⟨c8, H⟩ | ⟨c8, H⟩
   ·exact absurd H (by simp)
   have c8b0 := decide_eq_true c8
   clear c8
   obtain ⟨y128, hy128⟩ : ∃ y_ : List Int, y_ = (x3_1.set (x4_1 : Int).toNat (rd l0 x4_1)) := ⟨_, rfl⟩
   replace H : (laws_toIntS.l0 k1 l0 y128 (wrap64 (x4_1 + 1))) = some r := by first | (rw [hy128]; with_reducible exact H) | (have H2_ := (Option.bind_some _ _).symm.trans H; rw [hy128]; with_reducible exact H2_) | (have H2_ := (Option.bind_some _ _).symm.trans H; with_reducible exact H2_) | with_reducible exact H | (rw [hy128]; exact H) | exact H
   have Ny128 := Aside0.mk hy128
   clear hy128
   have H' := Aside0.mk H
   clear H
   have p127 : 0 ≤ (x4_1 : Int) := sqd
   have q127 : x4_1 < (l0.length : Int) := sqd
   obtain ⟨ad127, e127, hx127_0⟩ := Kd.at_int HR0.out x4_1 p127 q127
   cases e127
   replace hx127_0 := sqa HB hx127_0
   replace p127 := eq_true p127
   replace q127 := eq_true q127
   have p9 : 0 ≤ (x4_1 : Int) := sqd
   have q9 : (x4_1 : Int) < ((x3_1.length : Int) : Int) := sqd
   obtain ⟨go9, co9, eo9, gb9, gl9, cl9, HG9⟩ := Kd.R_form HO_3.out (by omega)
   (first | cases eo9 | (injection eo9 with ea_ en_ ec_; (first | subst ea_ | (injection ea_ with ea_; subst ea_)); subst ec_; clear en_))
   have GB9 := Aside0.mk gb9
   have GG9 := Aside0.mk HG9
   clear gb9 gl9 HG9
   obtain ⟨hx9_0, hf9_0⟩ := Kd.R_celln 0 HO_3.out (x4_1 : Int) p9 q9
   replace p9 := eq_true p9
   replace q9 := eq_true q9
   have HP10 := Kd.R_putg HO_3.out (x4_1 : Int) (rd l0 x4_1)
   go_wp2_with (first | ((with_reducible refine gate_store (t := 3) (p := 20) rfl ?_); refine store_event (t := 3) (p := 20) (v := ?vo_w11) (w1 := (wr.setCell ⟨go9, (x4_1 : Int).toNat, none⟩ (.int .i64 (rd l0 x4_1)))) ?hg ?ho ?hn ?hr ?_; (case ho => rfl); (case hg => rfl); (case hn => rfl); (case hr => first | (go_simp; done) | (go_simp; rfl)); intro w11 hw; have hg : wr.grownBy w11 (some go9) := (by rw [hw]; exact HP10.2); have hp_ : Kd.R (Kd.int .i64) 3 w11 w.heap.size (fun _ => True) (.slice (some ⟨go9, 0, none⟩) x3_1.length co9) y128 := (by rw [hw, Ny128.out]; exact HP10.1); clear HP10; have n0_ := Aside0.mk (hp_); have n1_ := Aside0.mk ((by rw [hw]; exact below_set (HB.out) GB9.out : Below w.heap.size w w11)); clear HO_3; clear HB; have HO_3 := n0_; have HB := n1_; clear n0_ n1_; clear hg hw hp_))
   go_roundg k1
   case measure => have := HK1.out; omega
   case rel => exact ⟨(y128), (wrap64 (x4_1 + 1)), (by first | rfl | (simp; done) | (simp [*]; done)), H', ⟨by have := HK1.out; omega⟩, ⟨sqy HO_3.out⟩, sqh HB⟩

/-! ### laws_toRefVal: function 201 -/
set_option maxHeartbeats 8000000 in
set_option maxRecDepth 100000 in
theorem laws_toRefVal.calls (k : Nat) (a0_0 : Bool) (A0_1 : Option Addr) (c0_1 : Nat) (l0_1 : List Int) (a0_2 : Int) (a0_3 : Int) (a0_4 : Int) (a0_5 : Int) (r1 : Bool) (r2 : List Int) (r3 : Int) (r4 : Int) (r5 : Int) (r6 : Int) (w : World) (hr0_1 : Kd.C (Kd.int .i64) w A0_1 l0_1.length l0_1) (hc0_1 : l0_1.length ≤ c0_1) (h : laws_toRefVal.f k a0_0 l0_1 a0_2 a0_3 a0_4 a0_5 = some (r1, r2, r3, r4, r5, r6)) :
  Calls Try.prog 201 #[.agg #[.bool a0_0, .slice A0_1 l0_1.length c0_1, .int .i64 a0_2, .int .i64 a0_3, .int .i64 a0_4, .int .i64 a0_5]] w fun e w' => ∃ v1_ : Value, e = .returned (.agg #[.bool r1, v1_, .int .i64 r3, .int .i64 r4, .int .i64 r5, .int .i64 r6]) ∧ Kd.R (Kd.int .i64) 3 w' w.heap.size (fun _ => True) v1_ r2 ∧ Below w.heap.size w w' := by
 have hu167 := Try.underlying167
 have hu132 := Try.underlying132
 have hu165 := Try.underlying165
 have hu30 := Try.underlying30
 have HR0_1 := Aside0.mk hr0_1
 have HC0_1 := Aside0.mk hc0_1
 clear hr0_1 hc0_1
 have HB := Aside0.mk (Below.refl w.heap.size w)
 have H : ((laws_toIntS.f k l0_1).bind fun t132 => ((laws_toVal.f a0_2 a0_3 a0_4 a0_5).bind fun bt135 => (some (a0_0, t132, bt135.1, bt135.2.1, bt135.2.2.1, bt135.2.2.2)))) = some (r1, r2, r3, r4, r5, r6) := h
 clear h
 replace H := sqbi H
 obtain ⟨t132, A2, H⟩ := H
 replace H : ((laws_toVal.f a0_2 a0_3 a0_4 a0_5).bind fun bt135 => (some (a0_0, t132, bt135.1, bt135.2.1, bt135.2.2.1, bt135.2.2.2))) = some (r1, r2, r3, r4, r5, r6) := H
 replace H := sqbi H
 obtain ⟨⟨t135, t136, t137, t138⟩, A3, H⟩ := H
 replace H : (some (a0_0, t132, t135, t136, t137, t138)) = some (r1, r2, r3, r4, r5, r6) := H
 simp only [Option.some.injEq, Prod.mk.injEq] at H
 obtain ⟨rfl, rfl, rfl, rfl, rfl, rfl⟩ := H
 go_enter Try.func201, Try.ntmps201
 go_wp2_with (first | ((with_reducible refine gate_dst (N := 1) rfl ?_); refine sqx 1 #[.bool a0_0, .slice A0_1 l0_1.length c0_1, .int .i64 a0_2, .int .i64 a0_3, .int .i64 a0_4, .int .i64 a0_5] 167 ?_; intro gb129 hg w4 hbox hb; have BK129 := Aside0.mk hbox; have GW129 := sqg HB hg; have GE129 := sqg HB hg; replace HB := sqs HB hb; clear hb hbox hg) | ((with_reducible refine gate_dst (N := 2) rfl ?_); refine sqx 2 #[.bool false, .slice none 0 0, .int .i64 0, .int .i64 0, .int .i64 0, .int .i64 0] 132 ?_; intro gb130 hg w5 hbox hb; have BK130 := Aside0.mk hbox; have GW130 := sqg HB hg; have GE130 := sqg HB hg; have NB129_130 := sqn BK129 hg; have NB130_129 := sqm BK129 hg; replace BK129 := sqb BK129 hb; replace HB := sqs HB hb; clear hb hbox hg) | ((with_reducible refine gate_dst (N := 3) rfl ?_); refine sqx 3 #[.bool false, .slice none 0 0, .int .i64 0, .int .i64 0, .int .i64 0, .int .i64 0] 132 ?_; intro gb131 hg w6 hbox hb; have BK131 := Aside0.mk hbox; have GW131 := sqg HB hg; have GE131 := sqg HB hg; have NB129_131 := sqn BK129 hg; have NB131_129 := sqm BK129 hg; have NB130_131 := sqn BK130 hg; have NB131_130 := sqm BK130 hg; refine sqM2 BK129 BK130 hb ?_; clear BK129 BK130; intro BK129 BK130; replace HB := sqs HB hb; clear hb hbox hg; have hnb7 := NB129_130.out; have hnc7 := NB130_129.out; have hnb8 := NB129_131.out; have hnc8 := NB131_129.out; obtain ⟨hcz9_0, hcz9_1, hcz9_2, hcz9_3, hcz9_4, hcz9_5, hfz9_0, hfz9_1, hfz9_2, hfz9_3, hfz9_4, hfz9_5⟩ := sqc6 BK129; have hnb10 := NB131_130.out; have hnc10 := NB130_131.out; obtain ⟨hcz11_0, hcz11_1, hcz11_2, hcz11_3, hcz11_4, hcz11_5, hfz11_0, hfz11_1, hfz11_2, hfz11_3, hfz11_4, hfz11_5⟩ := sqc6 BK131) | ((with_reducible refine gate_callee (f := 202) rfl ?_); refine sqL (some 9) Try.func202 #[.slice A0_1 l0_1.length c0_1] ?_; (with_reducible refine (laws_toIntS.calls k _ _ l0_1 t132 _ ?side1 ?side2 A2.out).mono ?_); (case side1 => exact Kd.C_below HR0_1.out (sqB HB)); (case side2 => exact HC0_1.out); rintro e w12 ⟨v133, rfl, ho0, hb⟩; refine ⟨_, rfl, ?_⟩; have n0_ := Aside0.mk (Kd.R_lower ho0 (below_size (sqB HB))); have n1_ := Aside0.mk (blk_below (g := gb129) (o := .cells #[.bool a0_0, .slice A0_1 l0_1.length c0_1, .int .i64 a0_2, .int .i64 a0_3, .int .i64 a0_4, .int .i64 a0_5] 167 (0, 0)) (by refine sqt ?_; refine blk_far ?_ NB129_131.out _; refine sqt ?_; exact BK129.out) hb); have n2_ := Aside0.mk (blk_below (g := gb130) (o := .cells #[.bool false, .slice none 0 0, .int .i64 0, .int .i64 0, .int .i64 0, .int .i64 0] 132 (0, 0)) (by refine sqt ?_; refine blk_far ?_ NB130_131.out _; refine sqt ?_; exact BK130.out) hb); have n3_ := Aside0.mk (blk_below (g := gb131) (o := .cells #[.bool a0_0, .slice none 0 0, .int .i64 0, .int .i64 0, .int .i64 0, .int .i64 0] 132 (0, 0)) (by refine sqt ?_; refine blk_put (cs := #[.bool false, .slice none 0 0, .int .i64 0, .int .i64 0, .int .i64 0, .int .i64 0]) ?_ 0 _ rfl; refine sqt ?_; exact BK131.out) hb); have n4_ := sqs HB hb; clear BK129; clear BK130; clear BK131; clear HB; have HO134 := n0_; have BK129 := n1_; have BK130 := n2_; have BK131 := n3_; have HB := n4_; clear n0_ n1_ n2_ n3_ n4_; (try clear hb); (try clear hb2); (try clear hk); (try clear hi); (try clear ho0); obtain ⟨Ao13, co13, eo13⟩ := Kd.R_slice HO134.out; subst eo13; obtain ⟨hcz14_0, hcz14_1, hcz14_2, hcz14_3, hcz14_4, hcz14_5, hfz14_0, hfz14_1, hfz14_2, hfz14_3, hfz14_4, hfz14_5⟩ := sqc6 BK131; obtain ⟨hcz15_0, hcz15_1, hcz15_2, hcz15_3, hcz15_4, hcz15_5, hfz15_0, hfz15_1, hfz15_2, hfz15_3, hfz15_4, hfz15_5⟩ := sqc6 BK129) | ((with_reducible refine gate_callee (f := 200) rfl ?_); refine sqL (some 13) Try.func200 #[.agg #[.int .i64 a0_2, .int .i64 a0_3, .int .i64 a0_4, .int .i64 a0_5]] ?_; (with_reducible refine (laws_toVal.calls a0_2 a0_3 a0_4 a0_5 t135 t136 t137 t138 _ A3.out).mono ?_); rintro e w16 ⟨rfl, hb⟩; refine ⟨_, rfl, ?_⟩; have n0_ := Aside0.mk (Kd.R_below (by (with_reducible repeat (first | apply Kd.R_alloc | apply Kd.R_drewN | apply Kd.R_drew)); exact (Kd.R_mono (Kd.R_far (p := ⟨gb131, 1, none⟩) (Kd.R_types HO134.out BK131.out (by decide)) (fun _ hk => hk.2) (.slice Ao13 t132.length co13)) (fun _ h_ => h_.1))) hb); have n1_ := Aside0.mk (blk_below (g := gb129) (o := .cells #[.bool a0_0, .slice A0_1 l0_1.length c0_1, .int .i64 a0_2, .int .i64 a0_3, .int .i64 a0_4, .int .i64 a0_5] 167 (0, 0)) (by refine sqt ?_; refine blk_far ?_ NB129_131.out _; refine sqt ?_; exact BK129.out) hb); have n2_ := Aside0.mk (blk_below (g := gb130) (o := .cells #[.bool false, .slice none 0 0, .int .i64 0, .int .i64 0, .int .i64 0, .int .i64 0] 132 (0, 0)) (by refine sqt ?_; refine blk_far ?_ NB130_131.out _; refine sqt ?_; exact BK130.out) hb); have n3_ := Aside0.mk (blk_below (g := gb131) (o := .cells #[.bool a0_0, .slice Ao13 t132.length co13, .int .i64 0, .int .i64 0, .int .i64 0, .int .i64 0] 132 (0, 0)) (by refine sqt ?_; refine blk_put (cs := #[.bool a0_0, .slice none 0 0, .int .i64 0, .int .i64 0, .int .i64 0, .int .i64 0]) ?_ 1 _ rfl; refine sqt ?_; exact BK131.out) hb); have n4_ := sqs HB hb; clear HO134; clear BK129; clear BK130; clear BK131; clear HB; have HO134 := n0_; have BK129 := n1_; have BK130 := n2_; have BK131 := n3_; have HB := n4_; clear n0_ n1_ n2_ n3_ n4_; (try clear hb); (try clear hb2); (try clear hk); (try clear hi); obtain ⟨hcz17_0, hcz17_1, hcz17_2, hcz17_3, hcz17_4, hcz17_5, hfz17_0, hfz17_1, hfz17_2, hfz17_3, hfz17_4, hfz17_5⟩ := sqc6 BK131; obtain ⟨hcz18_0, hcz18_1, hcz18_2, hcz18_3, hcz18_4, hcz18_5, hfz18_0, hfz18_1, hfz18_2, hfz18_3, hfz18_4, hfz18_5⟩ := sqc6 BK130))
 refine bodyPost_ret (results_cell_row rfl _ _ gb130 132 #[.bool a0_0, .slice Ao13 t132.length co13, .int .i64 t135, .int .i64 t136, .int .i64 t137, .int .i64 t138] (0, 0) _ rfl (by refine sqt ?_; refine blk_put (cs := #[.bool a0_0, .slice Ao13 t132.length co13, .int .i64 t135, .int .i64 t136, .int .i64 t137, .int .i64 0]) ?_ 5 _ rfl; refine sqt ?_; refine blk_put (cs := #[.bool a0_0, .slice Ao13 t132.length co13, .int .i64 t135, .int .i64 t136, .int .i64 0, .int .i64 0]) ?_ 4 _ rfl; refine sqt ?_; refine blk_put (cs := #[.bool a0_0, .slice Ao13 t132.length co13, .int .i64 t135, .int .i64 0, .int .i64 0, .int .i64 0]) ?_ 3 _ rfl; refine sqt ?_; refine blk_put (cs := #[.bool a0_0, .slice Ao13 t132.length co13, .int .i64 0, .int .i64 0, .int .i64 0, .int .i64 0]) ?_ 2 _ rfl; refine sqt ?_; refine blk_put (cs := #[.bool a0_0, .slice none 0 0, .int .i64 0, .int .i64 0, .int .i64 0, .int .i64 0]) ?_ 1 _ rfl; refine sqt ?_; refine blk_put (cs := #[.bool false, .slice none 0 0, .int .i64 0, .int .i64 0, .int .i64 0, .int .i64 0]) ?_ 0 _ rfl; refine sqt ?_; refine blk_far ?_ NB130_131.out _; refine sqt ?_; refine blk_far ?_ NB130_131.out _; refine sqt ?_; refine blk_far ?_ NB130_131.out _; refine sqt ?_; refine blk_far ?_ NB130_131.out _; refine sqt ?_; exact BK130.out) Try.underlying132 rfl (by kernel_rfl)) rfl ?_
 exact ⟨_, by first | rfl | (simp [errW_none, errW_some] <;> rfl) | (simp [*, errW_none, errW_some] <;> rfl), by (with_reducible repeat (first | apply Kd.R_alloc | apply Kd.R_drewN | apply Kd.R_drew)); exact Kd.R_mono (Kd.R_far (p := ⟨gb130, 5, none⟩) (Kd.R_far (p := ⟨gb130, 4, none⟩) (Kd.R_far (p := ⟨gb130, 3, none⟩) (Kd.R_far (p := ⟨gb130, 2, none⟩) (Kd.R_far (p := ⟨gb130, 1, none⟩) (Kd.R_far (p := ⟨gb130, 0, none⟩) (Kd.R_far (p := ⟨gb131, 5, none⟩) (Kd.R_far (p := ⟨gb131, 4, none⟩) (Kd.R_far (p := ⟨gb131, 3, none⟩) (Kd.R_far (p := ⟨gb131, 2, none⟩) (Kd.R_types (Kd.R_types HO134.out BK131.out (by decide)) BK130.out (by decide)) (fun _ hk => hk.1.2) (.int .i64 t135)) (fun _ hk => hk.1.2) (.int .i64 t136)) (fun _ hk => hk.1.2) (.int .i64 t137)) (fun _ hk => hk.1.2) (.int .i64 t138)) (fun _ hk => hk.2) (.bool a0_0)) (fun _ hk => hk.2) (.slice Ao13 t132.length co13)) (fun _ hk => hk.2) (.int .i64 t135)) (fun _ hk => hk.2) (.int .i64 t136)) (fun _ hk => hk.2) (.int .i64 t137)) (fun _ hk => hk.2) (.int .i64 t138)) (fun _ hk => trivial), by repeat (first | (with_reducible first | exact HB.out | apply below_alloc | apply pw_below_drewN | apply below_drew1 | refine below_set ?_ GE129.out | refine below_set ?_ GE130.out | refine below_set ?_ GE131.out) | exact HB.out)⟩

/-! ### laws_toRefValS: function 142 -/
set_option maxHeartbeats 8000000 in
set_option maxRecDepth 100000 in
theorem laws_toRefValS.calls (k : Nat) (A0 : Option Addr) (c0 : Nat) (l0 : List (S167)) (r : List (S132)) (w : World) (hr0 : Kd.C k167 w A0 l0.length l0) (hc0 : l0.length ≤ c0) (h : laws_toRefValS.f k l0 = some r) :
  Calls Try.prog 142 #[.slice A0 l0.length c0] w fun e w' => ∃ v0_ : Value, e = .returned (v0_) ∧ Kd.S k132 132 w' w.heap.size (fun _ => True) v0_ r ∧ Below w.heap.size w w' := by
 have hu167 := Try.underlying167
 have hu132 := Try.underlying132
 have HR0 := Aside0.mk hr0
 have HC0 := Aside0.mk hc0
 clear hr0 hc0
 have HB := Aside0.mk (Below.refl w.heap.size w)
 have H : (if 0 ≤ (l0.length : Int) then (if ((l0.length : Int) : Int).toNat ≤ 4398046511104 then (laws_toRefValS.l0 k l0 (List.replicate ((l0.length : Int) : Int).toNat z132) 0) else (none)) else (none)) = some r := h
 clear h
 replace H := sqi H
 rcases H with ⟨c2, H⟩ | ⟨c2, H⟩
 ·exact absurd H (by simp)
 have c2b0 := eq_true c2
 have c2b1 := decide_eq_true c2
 clear c2
 replace H := sqi H
 rcases H with ⟨c3, H⟩ | ⟨c3, H⟩
 ·exact absurd H (by simp)
 have c3b0 := eq_true c3
 have c3b1 := decide_eq_true c3
 clear c3
 obtain ⟨y139, hy139⟩ : ∃ y_ : List (S132), y_ = (List.replicate ((l0.length : Int) : Int).toNat z132) := ⟨_, rfl⟩
 replace H : (laws_toRefValS.l0 k l0 y139 0) = some r := by first | (rw [hy139]; with_reducible exact H) | (have H2_ := (Option.bind_some _ _).symm.trans H; rw [hy139]; with_reducible exact H2_) | (have H2_ := (Option.bind_some _ _).symm.trans H; with_reducible exact H2_) | with_reducible exact H | (rw [hy139]; exact H) | exact H
 have Ny139 := Aside0.mk hy139
 clear hy139
 have H' := Aside0.mk H
 clear H
 go_enter Try.func142, Try.ntmps142
 go_wp2_with (first | ((with_reducible refine gate_dst (N := 7) rfl ?_); refine Kd.S_make k132 _ 132 rfl (N := 7) rfl 76 _ _ rfl (l0.length : Int) rfl rfl Try.underlying76 (.agg #[(.bool false), (.slice none 0 0), (.int .i64 0), (.int .i64 0), (.int .i64 0), (.int .i64 0)]) 64 info132 rfl (by decide) (by omega) z132 (ok := fun _ => True) (okp := fun _ => True) (k132_mkM _ _ _ z132 (Kd.R_nil _ _ _ _ _)) (fun _ hk => hk) trivial sqd (Nat.le_trans (Nat.mul_le_mul_right _ (sqd : (l0.length : Int).toNat ≤ 4398046511104)) (by omega)) (Below.refl _ _) (Nat.le_refl _) ?_; intro v140 w4 ho5 hb hg_ hnew_; clear hg_ hnew_; (first | rw [← Ny139.out] at ho5 | (simp only [Int.reduceToNat] at ho5; rw [← Ny139.out] at ho5)); have HO141 := Aside0.mk (Kd.S_lower ho5 (below_size (sqB HB))); replace HB := sqs HB hb; clear hb ho5))
 go_loopg [4] k (fun kq v4 w' => ∃ (x3_1 : List (S132)) (x4_1 : Int), v4 = .int .i64 x4_1 ∧ Aside0 (laws_toRefValS.l0 kq l0 x3_1 x4_1 = some r) ∧ Aside0 (kq ≤ k) ∧ Aside0 (Kd.S k132 132 w' w.heap.size (fun _ => True) v140 x3_1) ∧ Aside0 (Below w.heap.size w w'))
 case atStart => exact ⟨(y139), (0), (by first | rfl | (simp; done) | (simp [*]; done)), H', ⟨Nat.le_refl _⟩, ⟨by (with_reducible repeat (first | apply Kd.S_alloc | apply Kd.S_drewN | apply Kd.S_drew)); exact HO141.out⟩, sqh HB⟩
 case round =>
  clear H'
  obtain ⟨x3_1, x4_1, rfl, HA, HK1, HO_3, HB⟩ := hrel
  cases gk with
  | zero => exact absurd HA.out (by simp [laws_toRefValS.l0])
  | succ k1 =>
   have H := HA.out
   clear HA
   simp only [laws_toRefValS.l0] at H
   replace H := sqi H
   rcases H with ⟨c6, H⟩ | ⟨c6, H⟩
   ·have c6b0 := decide_eq_false c6
    clear c6
    obtain rfl := Option.some.inj H
    go_wp2
    go_ret
    exact ⟨_, by first | rfl | (simp [errW_none, errW_some] <;> rfl) | (simp [*, errW_none, errW_some] <;> rfl), by (with_reducible repeat (first | apply Kd.S_alloc | apply Kd.S_drewN | apply Kd.S_drew)); exact HO_3.out, by repeat (first | (with_reducible first | exact HB.out | apply below_alloc | apply pw_below_drewN | apply below_drew1) | exact HB.out)⟩
   have c6b0 := decide_eq_true c6
   clear c6
   replace H := sqi H
   rcases H with ⟨c7, H⟩ | ⟨c7, H⟩
   ·exact absurd H (by simp)
   have c7b0 := decide_eq_true c7
   clear c7
   replace H := sqbi H
   obtain ⟨⟨t143, t144, t147, t148, t149, t150⟩, A8, H⟩ := H
   replace H : (if x4_1 < (x3_1.length : Int) then (laws_toRefValS.l0 k1 l0 (x3_1.set (x4_1 : Int).toNat (⟨t143, t144, (⟨t147, t148, t149, t150⟩ : S30)⟩ : S132)) (wrap64 (x4_1 + 1))) else (none)) = some r := H
   replace H := sqi H
   rcases H with ⟨c9, H⟩ | ⟨c9, H⟩
   ·exact absurd H (by simp)
   have c9b0 := decide_eq_true c9
   clear c9
   obtain ⟨y151, hy151⟩ : ∃ y_ : List (S132), y_ = (x3_1.set (x4_1 : Int).toNat (⟨t143, t144, (⟨t147, t148, t149, t150⟩ : S30)⟩ : S132)) := ⟨_, rfl⟩
   replace H : (laws_toRefValS.l0 k1 l0 y151 (wrap64 (x4_1 + 1))) = some r := by first | (rw [hy151]; with_reducible exact H) | (have H2_ := (Option.bind_some _ _).symm.trans H; rw [hy151]; with_reducible exact H2_) | (have H2_ := (Option.bind_some _ _).symm.trans H; with_reducible exact H2_) | with_reducible exact H | (rw [hy151]; exact H) | exact H
   have Ny151 := Aside0.mk hy151
   clear hy151
   have H' := Aside0.mk H
   clear H
   have p142 : 0 ≤ (x4_1 : Int) := sqd
   have q142 : x4_1 < (l0.length : Int) := sqd
   obtain ⟨ad142, A142_1, c142_1, e142, hx142_0, hx142_1, hx142_2, hx142_3, hx142_4, hx142_5, hl142_1, hi142_1⟩ := at_T167 HR0.out x4_1 p142 q142
   cases e142
   replace hx142_0 := sqa HB hx142_0
   replace hx142_1 := sqa HB hx142_1
   replace hx142_2 := sqa HB hx142_2
   replace hx142_3 := sqa HB hx142_3
   replace hx142_4 := sqa HB hx142_4
   replace hx142_5 := sqa HB hx142_5
   have HR142_1 := Aside0.mk hi142_1
   have HC142_1 := Aside0.mk hl142_1
   clear hi142_1 hl142_1
   replace p142 := eq_true p142
   replace q142 := eq_true q142
   go_wp2_with (first | ((with_reducible refine gate_callee (f := 201) rfl ?_); refine sqL (some 20) Try.func201 #[.agg #[.bool ((rd_T167 l0 x4_1).f0), .slice A142_1 ((rd_T167 l0 x4_1).f1).length c142_1, .int .i64 ((rd_T167 l0 x4_1).f2.f0), .int .i64 ((rd_T167 l0 x4_1).f2.f1), .int .i64 ((rd_T167 l0 x4_1).f2.f2), .int .i64 ((rd_T167 l0 x4_1).f2.f3)]] ?_; (with_reducible refine (laws_toRefVal.calls k1 ((rd_T167 l0 x4_1).f0) _ _ ((rd_T167 l0 x4_1).f1) ((rd_T167 l0 x4_1).f2.f0) ((rd_T167 l0 x4_1).f2.f1) ((rd_T167 l0 x4_1).f2.f2) ((rd_T167 l0 x4_1).f2.f3) t143 t144 t147 t148 t149 t150 _ ?side1 ?side2 A8.out).mono ?_); (case side1 => exact sqC (Kd.C_below HR142_1.out HB.out)); (case side2 => exact HC142_1.out); rintro e w11 ⟨v145, rfl, ho0, hb⟩; refine ⟨_, rfl, ?_⟩; have n0_ := Aside0.mk (Kd.S_elder' (by (with_reducible repeat (first | apply Kd.S_alloc | apply Kd.S_drewN | apply Kd.S_drew)); exact HO_3.out) (Kd.R_base ho0) hb); have n1_ := Aside0.mk (Kd.R_lower ho0 (below_size (sqB HB))); have n2_ := sqs HB hb; clear HO_3; clear HB; have HO_3 := n0_; have HO146 := n1_; have HB := n2_; clear n0_ n1_ n2_; (try clear hb); (try clear hb2); (try clear hk); (try clear hi); (try clear ho0); have p10 : 0 ≤ (x4_1 : Int) := sqd; have q10 : (x4_1 : Int) < ((x3_1.length : Int) : Int) := sqd; obtain ⟨go10, co10, eo10, gb10, gl10, cl10, HG10⟩ := Kd.S_form HO_3.out (by omega); (first | cases eo10 | (injection eo10 with ea_ en_ ec_; (first | subst ea_ | (injection ea_ with ea_; subst ea_)); subst ec_; clear en_)); have GB10 := Aside0.mk gb10; have GG10 := Aside0.mk HG10; clear gb10 gl10 HG10; obtain ⟨_, ce10, hcl10, hM10, hcc10, hfr10, _, _⟩ := Kd.S_elem HO_3.out z132 (x4_1 : Int) p10 q10; obtain ⟨ve10_1, rfl, ge10_1⟩ := k132_openM hM10; have hx10_0 : w11.cell? ⟨go10, (x4_1 : Int).toNat * 6, none⟩ = some (.bool ((rd_T132 x3_1 x4_1).f0)) := hcc10 0 _ rfl; have hx10_1 : w11.cell? ⟨go10, (x4_1 : Int).toNat * 6 + 1, none⟩ = some (ve10_1) := hcc10 1 _ rfl; have hx10_2 : w11.cell? ⟨go10, (x4_1 : Int).toNat * 6 + 2, none⟩ = some (.int .i64 ((rd_T132 x3_1 x4_1).f2.f0)) := hcc10 2 _ rfl; have hx10_3 : w11.cell? ⟨go10, (x4_1 : Int).toNat * 6 + 3, none⟩ = some (.int .i64 ((rd_T132 x3_1 x4_1).f2.f1)) := hcc10 3 _ rfl; have hx10_4 : w11.cell? ⟨go10, (x4_1 : Int).toNat * 6 + 4, none⟩ = some (.int .i64 ((rd_T132 x3_1 x4_1).f2.f2)) := hcc10 4 _ rfl; have hx10_5 : w11.cell? ⟨go10, (x4_1 : Int).toNat * 6 + 5, none⟩ = some (.int .i64 ((rd_T132 x3_1 x4_1).f2.f3)) := hcc10 5 _ rfl; have hf10_0 : w11.frozen? ⟨go10, (x4_1 : Int).toNat * 6, none⟩ = false := hfr10 0; have hf10_1 : w11.frozen? ⟨go10, (x4_1 : Int).toNat * 6 + 1, none⟩ = false := hfr10 1; have hf10_2 : w11.frozen? ⟨go10, (x4_1 : Int).toNat * 6 + 2, none⟩ = false := hfr10 2; have hf10_3 : w11.frozen? ⟨go10, (x4_1 : Int).toNat * 6 + 3, none⟩ = false := hfr10 3; have hf10_4 : w11.frozen? ⟨go10, (x4_1 : Int).toNat * 6 + 4, none⟩ = false := hfr10 4; have hf10_5 : w11.frozen? ⟨go10, (x4_1 : Int).toNat * 6 + 5, none⟩ = false := hfr10 5; clear hcl10 hcc10 hfr10 hM10; replace p10 := eq_true p10; replace q10 := eq_true q10; obtain ⟨Ao12, co12, eo12⟩ := Kd.R_slice HO146.out; subst eo12; have n_ := Aside0.mk (Kd.S_mono (ok' := (fun k_ => some k_ ≠ (.slice Ao12 t144.length co12 : Value).ownBlock)) HO_3.out (fun k_ hk => hk.2)); clear HO_3; have HO_3 := n_; clear n_; have HX13 := Aside0.mk (show Kd.S k132 132 w11 w.heap.size (fun k_ => ((fun _ => True)) k_ ∧ ¬ ((fun k_ => some k_ = (.slice Ao12 t144.length co12 : Value).ownBlock)) k_) (.slice (some ⟨go10, 0, none⟩) x3_1.length co10) x3_1 from (by (with_reducible repeat (first | apply Kd.S_alloc | apply Kd.S_drewN | apply Kd.S_drew)); exact Kd.S_mono HO_3.out (fun k_ hk => ⟨trivial, fun e_ => hk e_⟩))); obtain ⟨oki13, ce13, hcl13, hM13, hcc13, hfr13, hoki13, hH13⟩ := Kd.S_elem HX13.out z132 (x4_1 : Int) sqd (by have h_ : (x4_1 : Int) < ((x3_1.length : Int) : Int) := sqd; first | exact h_ | (have e_ := (Kd.S_reads' HO_3.out).1; omega) | simpa using h_); obtain ⟨ve13_1, rfl, ge13_1⟩ := k132_openM hM13; have HP13 := Kd.S_seg hH13 sqd (by have h_ : (x4_1 : Int) < ((x3_1.length : Int) : Int) := sqd; first | exact h_ | (have e_ := (Kd.S_reads' HO_3.out).1; omega) | simpa using h_) (seg := [.bool t143, .slice Ao12 t144.length co12, .int .i64 t147, .int .i64 t148, .int .i64 t149, .int .i64 t150]) (j := 0) (show 6 ≤ 6 from by decide) (x' := (⟨t143, t144, (⟨t147, t148, t149, t150⟩ : S30)⟩ : S132)) (k132_mkM _ _ _ (⟨t143, t144, (⟨t147, t148, t149, t150⟩ : S30)⟩ : S132) (Kd.R_mono (Kd.R_tight rfl (Kd.R_mono (ok' := fun k_ => ((fun _ => True)) k_ ∧ k_ ≠ go10) (Kd.R_apart' (HO146.out) (Kd.S_typed HO_3.out) (by decide)) (fun k_ hk => ⟨trivial, fun e_ => (hk.2) (by rw [e_]; rfl)⟩))) (fun _ h_ => Or.inr (h_)))) (fun _ hk => hk) (fun k_ hk_ => ((Kd.R_mono (ok' := fun k_ => ((fun _ => True)) k_ ∧ k_ ≠ go10) (Kd.R_apart' (HO146.out) (Kd.S_typed HO_3.out) (by decide)) (fun k_ hk => ⟨trivial, fun e_ => (hk.2) (by rw [e_]; rfl)⟩))).1 k_ hk_.symm); have hx13_0 := hcc13 0 _ rfl; (try simp only [show (k132).sz = 6 from rfl, Nat.mul_one, Nat.add_zero] at hx13_0); have hf13_0 := hfr13 0; (try simp only [show (k132).sz = 6 from rfl, Nat.mul_one, Nat.add_zero] at hf13_0); have hx13_1 := hcc13 1 _ rfl; (try simp only [show (k132).sz = 6 from rfl, Nat.mul_one, Nat.add_zero] at hx13_1); have hf13_1 := hfr13 1; (try simp only [show (k132).sz = 6 from rfl, Nat.mul_one, Nat.add_zero] at hf13_1); have hx13_2 := hcc13 2 _ rfl; (try simp only [show (k132).sz = 6 from rfl, Nat.mul_one, Nat.add_zero] at hx13_2); have hf13_2 := hfr13 2; (try simp only [show (k132).sz = 6 from rfl, Nat.mul_one, Nat.add_zero] at hf13_2); have hx13_3 := hcc13 3 _ rfl; (try simp only [show (k132).sz = 6 from rfl, Nat.mul_one, Nat.add_zero] at hx13_3); have hf13_3 := hfr13 3; (try simp only [show (k132).sz = 6 from rfl, Nat.mul_one, Nat.add_zero] at hf13_3); have hx13_4 := hcc13 4 _ rfl; (try simp only [show (k132).sz = 6 from rfl, Nat.mul_one, Nat.add_zero] at hx13_4); have hf13_4 := hfr13 4; (try simp only [show (k132).sz = 6 from rfl, Nat.mul_one, Nat.add_zero] at hf13_4); have hx13_5 := hcc13 5 _ rfl; (try simp only [show (k132).sz = 6 from rfl, Nat.mul_one, Nat.add_zero] at hx13_5); have hf13_5 := hfr13 5; (try simp only [show (k132).sz = 6 from rfl, Nat.mul_one, Nat.add_zero] at hf13_5); clear hcl13 hcc13 hfr13 hM13 hoki13 hH13) | ((with_reducible refine gate_store (t := 132) (p := 21) rfl ?_); refine store_event (t := 132) (p := 21) (v := ?vo_w14) (w1 := ((((((w11.setCell ⟨go10, (x4_1 : Int).toNat * 6, none⟩ (.bool t143)).setCell ⟨go10, (x4_1 : Int).toNat * 6 + 1, none⟩ (.slice Ao12 t144.length co12)).setCell ⟨go10, (x4_1 : Int).toNat * 6 + 2, none⟩ (.int .i64 t147)).setCell ⟨go10, (x4_1 : Int).toNat * 6 + 3, none⟩ (.int .i64 t148)).setCell ⟨go10, (x4_1 : Int).toNat * 6 + 4, none⟩ (.int .i64 t149)).setCell ⟨go10, (x4_1 : Int).toNat * 6 + 5, none⟩ (.int .i64 t150))) ?hg ?ho ?hn ?hr ?_; (case ho => rfl); (case hg => rfl); (case hn => rfl); (case hr => first | (go_simp; done) | (go_simp; rfl)); intro w14 hw; have hg : w11.grownBy w14 (some go10) := (by rw [hw]; exact HP13.2); have hp_ : Kd.S k132 132 w14 w.heap.size (fun _ => True) (.slice (some ⟨go10, 0, none⟩) x3_1.length co10) y151 := (by rw [hw, Ny151.out]; exact HP13.1); clear HP13; have n0_ := Aside0.mk (hp_); have n1_ := Aside0.mk ((by rw [hw]; exact below_set (below_set (below_set (below_set (below_set (below_set (HB.out) GB10.out) GB10.out) GB10.out) GB10.out) GB10.out) GB10.out : Below w.heap.size w w14)); clear HO_3; clear HB; clear HO146; have HO_3 := n0_; have HB := n1_; clear n0_ n1_; clear hg hw hp_))
   go_roundg k1
   case measure => have := HK1.out; omega
   case rel => exact ⟨(y151), (wrap64 (x4_1 + 1)), (by first | rfl | (simp; done) | (simp [*]; done)), H', ⟨by have := HK1.out; omega⟩, ⟨by (with_reducible repeat (first | apply Kd.S_alloc | apply Kd.S_drewN | apply Kd.S_drew)); exact HO_3.out⟩, sqh HB⟩

/-! ### laws_toGaps: function 143 -/
set_option maxHeartbeats 8000000 in
set_option maxRecDepth 100000 in
theorem laws_toGaps.calls (k : Nat) (a0_0 : Int) (A0_1 : Option Addr) (c0_1 : Nat) (l0_1 : List Int) (r1 : Int) (r2 : List Int) (w : World) (hr0_1 : Kd.C (Kd.int .i64) w A0_1 l0_1.length l0_1) (hc0_1 : l0_1.length ≤ c0_1) (h : laws_toGaps.f k a0_0 l0_1 = some (r1, r2)) :
  Calls Try.prog 143 #[.agg #[.int .i64 a0_0, .slice A0_1 l0_1.length c0_1]] w fun e w' => ∃ v1_ : Value, e = .returned (.agg #[.int .i64 r1, v1_]) ∧ Kd.R (Kd.int .i64) 3 w' w.heap.size (fun _ => True) v1_ r2 ∧ Below w.heap.size w w' := by
 have hu70 := Try.underlying70
 have hu41 := Try.underlying41
 have HR0_1 := Aside0.mk hr0_1
 have HC0_1 := Aside0.mk hc0_1
 clear hr0_1 hc0_1
 have HB := Aside0.mk (Below.refl w.heap.size w)
 have H : ((laws_toIntS.f k l0_1).bind fun t155 => (some (a0_0, t155))) = some (r1, r2) := h
 clear h
 replace H := sqbi H
 obtain ⟨t155, A2, H⟩ := H
 replace H : (some (a0_0, t155)) = some (r1, r2) := H
 simp only [Option.some.injEq, Prod.mk.injEq] at H
 obtain ⟨rfl, rfl⟩ := H
 go_enter Try.func143, Try.ntmps143
 go_wp2_with (first | ((with_reducible refine gate_dst (N := 1) rfl ?_); refine sqx 1 #[.int .i64 a0_0, .slice A0_1 l0_1.length c0_1] 70 ?_; intro gb152 hg w3 hbox hb; have BK152 := Aside0.mk hbox; have GW152 := sqg HB hg; have GE152 := sqg HB hg; replace HB := sqs HB hb; clear hb hbox hg) | ((with_reducible refine gate_dst (N := 2) rfl ?_); refine sqx 2 #[.int .i64 0, .slice none 0 0] 41 ?_; intro gb153 hg w4 hbox hb; have BK153 := Aside0.mk hbox; have GW153 := sqg HB hg; have GE153 := sqg HB hg; have NB152_153 := sqn BK152 hg; have NB153_152 := sqm BK152 hg; replace BK152 := sqb BK152 hb; replace HB := sqs HB hb; clear hb hbox hg) | ((with_reducible refine gate_dst (N := 3) rfl ?_); refine sqx 3 #[.int .i64 0, .slice none 0 0] 41 ?_; intro gb154 hg w5 hbox hb; have BK154 := Aside0.mk hbox; have GW154 := sqg HB hg; have GE154 := sqg HB hg; have NB152_154 := sqn BK152 hg; have NB154_152 := sqm BK152 hg; have NB153_154 := sqn BK153 hg; have NB154_153 := sqm BK153 hg; refine sqM2 BK152 BK153 hb ?_; clear BK152 BK153; intro BK152 BK153; replace HB := sqs HB hb; clear hb hbox hg; have hnb6 := NB152_153.out; have hnc6 := NB153_152.out; have hnb7 := NB152_154.out; have hnc7 := NB154_152.out; obtain ⟨hcz8_0, hcz8_1, hfz8_0, hfz8_1⟩ := sqc2 BK152; have hnb9 := NB154_153.out; have hnc9 := NB153_154.out; obtain ⟨hcz10_0, hcz10_1, hfz10_0, hfz10_1⟩ := sqc2 BK154) | ((with_reducible refine gate_callee (f := 202) rfl ?_); refine sqL (some 9) Try.func202 #[.slice A0_1 l0_1.length c0_1] ?_; (with_reducible refine (laws_toIntS.calls k _ _ l0_1 t155 _ ?side1 ?side2 A2.out).mono ?_); (case side1 => exact Kd.C_below HR0_1.out (sqB HB)); (case side2 => exact HC0_1.out); rintro e w11 ⟨v156, rfl, ho0, hb⟩; refine ⟨_, rfl, ?_⟩; have n0_ := Aside0.mk (Kd.R_lower ho0 (below_size (sqB HB))); have n1_ := Aside0.mk (blk_below (g := gb152) (o := .cells #[.int .i64 a0_0, .slice A0_1 l0_1.length c0_1] 70 (0, 0)) (by refine sqt ?_; refine blk_far ?_ NB152_154.out _; refine sqt ?_; exact BK152.out) hb); have n2_ := Aside0.mk (blk_below (g := gb153) (o := .cells #[.int .i64 0, .slice none 0 0] 41 (0, 0)) (by refine sqt ?_; refine blk_far ?_ NB153_154.out _; refine sqt ?_; exact BK153.out) hb); have n3_ := Aside0.mk (blk_below (g := gb154) (o := .cells #[.int .i64 a0_0, .slice none 0 0] 41 (0, 0)) (by refine sqt ?_; refine blk_put (cs := #[.int .i64 0, .slice none 0 0]) ?_ 0 _ rfl; refine sqt ?_; exact BK154.out) hb); have n4_ := sqs HB hb; clear BK152; clear BK153; clear BK154; clear HB; have HO157 := n0_; have BK152 := n1_; have BK153 := n2_; have BK154 := n3_; have HB := n4_; clear n0_ n1_ n2_ n3_ n4_; (try clear hb); (try clear hb2); (try clear hk); (try clear hi); (try clear ho0); obtain ⟨Ao12, co12, eo12⟩ := Kd.R_slice HO157.out; subst eo12; obtain ⟨hcz13_0, hcz13_1, hfz13_0, hfz13_1⟩ := sqc2 BK154; obtain ⟨hcz14_0, hcz14_1, hfz14_0, hfz14_1⟩ := sqc2 BK153))
 refine bodyPost_ret (results_cell_row rfl _ _ gb153 41 #[.int .i64 a0_0, .slice Ao12 t155.length co12] (0, 0) _ rfl (by refine sqt ?_; refine blk_put (cs := #[.int .i64 a0_0, .slice none 0 0]) ?_ 1 _ rfl; refine sqt ?_; refine blk_put (cs := #[.int .i64 0, .slice none 0 0]) ?_ 0 _ rfl; refine sqt ?_; refine blk_far ?_ NB153_154.out _; refine sqt ?_; exact BK153.out) Try.underlying41 rfl (by kernel_rfl)) rfl ?_
 exact ⟨_, by first | rfl | (simp [errW_none, errW_some] <;> rfl) | (simp [*, errW_none, errW_some] <;> rfl), by (with_reducible repeat (first | apply Kd.R_alloc | apply Kd.R_drewN | apply Kd.R_drew)); exact Kd.R_mono (Kd.R_far (p := ⟨gb153, 1, none⟩) (Kd.R_far (p := ⟨gb153, 0, none⟩) (Kd.R_far (p := ⟨gb154, 1, none⟩) (Kd.R_types (Kd.R_types HO157.out BK154.out (by decide)) BK153.out (by decide)) (fun _ hk => hk.1.2) (.slice Ao12 t155.length co12)) (fun _ hk => hk.2) (.int .i64 a0_0)) (fun _ hk => hk.2) (.slice Ao12 t155.length co12)) (fun _ hk => trivial), by repeat (first | (with_reducible first | exact HB.out | apply below_alloc | apply pw_below_drewN | apply below_drew1 | refine below_set ?_ GE152.out | refine below_set ?_ GE153.out | refine below_set ?_ GE154.out) | exact HB.out)⟩

end Go.Proofs.Ytkekcenlleebeaa.PFnExactAbsIn
