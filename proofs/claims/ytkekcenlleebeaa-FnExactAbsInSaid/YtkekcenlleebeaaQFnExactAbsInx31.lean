/- Functions of the program as plain Lean functions, and that calls of them come to what these tell. Conditions: those in each law. -/
import Derived.Test.YtkekcenlleebeaaSq
import Derived.Test.YtkekcenlleebeaaDFnExactAbsIn
import Derived.Test.YtkekcenlleebeaaQFnExactAbsInx0
import Derived.Test.YtkekcenlleebeaaQFnExactAbsInx4
import Derived.Test.YtkekcenlleebeaaQFnExactAbsInx5
import Derived.Test.YtkekcenlleebeaaQFnExactAbsInx6
import Derived.Test.YtkekcenlleebeaaQFnExactAbsInx20
import Derived.Test.YtkekcenlleebeaaQFnExactAbsInx30
namespace Go.Proofs.Ytkekcenlleebeaa.PFnExactAbsIn
open Go.RowKit Go.Proofs.Ytkekcenlleebeaa.Sq Go.Proofs.YtkekcenlleebeaaW.PrintWords Go.Proofs.YtkekcenlleebeaaW.PrintLast Go.Proofs.YtkekcenlleebeaaW.PrintMore
attribute [local go_sem] max2_int min2_int max_two min_two max_three min_three max_four min_four   -- for this text's walks alone
set_option linter.unusedVariables false
set_option linter.unusedSimpArgs false

/-! ### laws_FnExactAbsIn: function 11 -/
set_option maxHeartbeats 8000000 in
set_option maxRecDepth 100000 in
theorem laws_FnExactAbsIn.calls (k : Nat) (a0_0 : Bool) (A0_1 : Option Addr) (c0_1 : Nat) (l0_1 : List (S165)) (A0_2 : Option Addr) (c0_2 : Nat) (l0_2 : List (S167)) (A0_3 : Option Addr) (c0_3 : Nat) (l0_3 : List (S165)) (a0_4 : Int) (A0_5 : Option Addr) (c0_5 : Nat) (l0_5 : List Int) (a1_0 : Bool) (A1_1 : Option Addr) (c1_1 : Nat) (l1_1 : List (S165)) (A1_2 : Option Addr) (c1_2 : Nat) (l1_2 : List (S167)) (A1_3 : Option Addr) (c1_3 : Nat) (l1_3 : List (S165)) (a1_4 : Int) (A1_5 : Option Addr) (c1_5 : Nat) (l1_5 : List Int) (r : Bool) (w : World) (hr0_1 : Kd.C k165 w A0_1 l0_1.length l0_1) (hc0_1 : l0_1.length ≤ c0_1) (hr0_2 : Kd.C k167 w A0_2 l0_2.length l0_2) (hc0_2 : l0_2.length ≤ c0_2) (hr0_3 : Kd.C k165 w A0_3 l0_3.length l0_3) (hc0_3 : l0_3.length ≤ c0_3) (hr0_5 : Kd.C (Kd.int .i64) w A0_5 l0_5.length l0_5) (hc0_5 : l0_5.length ≤ c0_5) (hr1_1 : Kd.C k165 w A1_1 l1_1.length l1_1) (hc1_1 : l1_1.length ≤ c1_1) (hr1_2 : Kd.C k167 w A1_2 l1_2.length l1_2) (hc1_2 : l1_2.length ≤ c1_2) (hr1_3 : Kd.C k165 w A1_3 l1_3.length l1_3) (hc1_3 : l1_3.length ≤ c1_3) (hr1_5 : Kd.C (Kd.int .i64) w A1_5 l1_5.length l1_5) (hc1_5 : l1_5.length ≤ c1_5) (h : laws_FnExactAbsIn.f k a0_0 l0_1 l0_2 l0_3 a0_4 l0_5 a1_0 l1_1 l1_2 l1_3 a1_4 l1_5 = some r) (hr_ : r = true := by rfl) :
  Calls Try.prog 11 #[.agg #[.bool a0_0, .slice A0_1 l0_1.length c0_1, .slice A0_2 l0_2.length c0_2, .slice A0_3 l0_3.length c0_3, .int .i64 a0_4, .slice A0_5 l0_5.length c0_5], .agg #[.bool a1_0, .slice A1_1 l1_1.length c1_1, .slice A1_2 l1_2.length c1_2, .slice A1_3 l1_3.length c1_3, .int .i64 a1_4, .slice A1_5 l1_5.length c1_5]] w fun e w' => e = .returned (.bool r) ∧ Below w.heap.size w w' := by
 subst hr_
 have hu72 := Try.underlying72
 have hu78 := Try.underlying78
 have HR0_1 := Aside0.mk hr0_1
 have HC0_1 := Aside0.mk hc0_1
 clear hr0_1 hc0_1
 have HR0_2 := Aside0.mk hr0_2
 have HC0_2 := Aside0.mk hc0_2
 clear hr0_2 hc0_2
 have HR0_3 := Aside0.mk hr0_3
 have HC0_3 := Aside0.mk hc0_3
 clear hr0_3 hc0_3
 have HR0_5 := Aside0.mk hr0_5
 have HC0_5 := Aside0.mk hc0_5
 clear hr0_5 hc0_5
 have HR1_1 := Aside0.mk hr1_1
 have HC1_1 := Aside0.mk hc1_1
 clear hr1_1 hc1_1
 have HR1_2 := Aside0.mk hr1_2
 have HC1_2 := Aside0.mk hc1_2
 clear hr1_2 hc1_2
 have HR1_3 := Aside0.mk hr1_3
 have HC1_3 := Aside0.mk hc1_3
 clear hr1_3 hc1_3
 have HR1_5 := Aside0.mk hr1_5
 have HC1_5 := Aside0.mk hc1_5
 clear hr1_5 hc1_5
 have HB := Aside0.mk (Below.refl w.heap.size w)
 have H : ((laws_szAbs.f k a0_0 l0_1 l0_2 l0_3 a0_4 l0_5 1048576).bind fun t498 => (if t498 < 0 then (some true) else ((laws_szAbs.f k a1_0 l1_1 l1_2 l1_3 a1_4 l1_5 t498).bind fun t499 => (if t499 < 0 then (some true) else ((laws_toAbs.f k a0_0 l0_1 l0_2 l0_3 a0_4 l0_5).bind fun bt500 => ((laws_toAbs.f k a1_0 l1_1 l1_2 l1_3 a1_4 l1_5).bind fun bt514 => ((spec_AbsIn.f k bt500.1 bt500.2.1 bt500.2.2.1 bt500.2.2.2.1 bt500.2.2.2.2.1 bt500.2.2.2.2.2 bt514.1 bt514.2.1 bt514.2.2.1 bt514.2.2.2.1 bt514.2.2.2.2.1 bt514.2.2.2.2.2).bind fun t528 => ((laws_toAbs.f k a0_0 l0_1 l0_2 l0_3 a0_4 l0_5).bind fun bt529 => ((laws_toAbs.f k a1_0 l1_1 l1_2 l1_3 a1_4 l1_5).bind fun bt544 => ((impl_AbsIn.f k bt529.1 bt529.2.1 bt529.2.2.1 bt529.2.2.2.1 bt529.2.2.2.2.1 bt529.2.2.2.2.2 bt544.1 bt544.2.1 bt544.2.2.1 bt544.2.2.2.1 bt544.2.2.2.2.1 bt544.2.2.2.2.2).bind fun t559 => (if (t559 != t528) = true then (some false) else ((laws_toAbs.f k a0_0 l0_1 l0_2 l0_3 a0_4 l0_5).bind fun bt560 => ((laws_eqAbs.f k bt529.1 bt529.2.1 bt529.2.2.1 bt529.2.2.2.1 bt529.2.2.2.2.1 bt529.2.2.2.2.2 bt560.1 bt560.2.1 bt560.2.2.1 bt560.2.2.2.1 bt560.2.2.2.2.1 bt560.2.2.2.2.2).bind fun t574 => (if t574 = true then ((laws_toAbs.f k a1_0 l1_1 l1_2 l1_3 a1_4 l1_5).bind fun bt575 => ((laws_eqAbs.f k bt544.1 bt544.2.1 bt544.2.2.1 bt544.2.2.2.1 bt544.2.2.2.2.1 bt544.2.2.2.2.2 bt575.1 bt575.2.1 bt575.2.2.1 bt575.2.2.2.1 bt575.2.2.2.2.1 bt575.2.2.2.2.2).bind fun t589 => (if t589 = true then (some true) else (some false)))) else (some false))))))))))))))) = some true := h
 clear h
 replace H := sqbi H
 obtain ⟨t498, A3, H⟩ := H
 replace H : (if t498 < 0 then (some true) else ((laws_szAbs.f k a1_0 l1_1 l1_2 l1_3 a1_4 l1_5 t498).bind fun t499 => (if t499 < 0 then (some true) else ((laws_toAbs.f k a0_0 l0_1 l0_2 l0_3 a0_4 l0_5).bind fun bt500 => ((laws_toAbs.f k a1_0 l1_1 l1_2 l1_3 a1_4 l1_5).bind fun bt514 => ((spec_AbsIn.f k bt500.1 bt500.2.1 bt500.2.2.1 bt500.2.2.2.1 bt500.2.2.2.2.1 bt500.2.2.2.2.2 bt514.1 bt514.2.1 bt514.2.2.1 bt514.2.2.2.1 bt514.2.2.2.2.1 bt514.2.2.2.2.2).bind fun t528 => ((laws_toAbs.f k a0_0 l0_1 l0_2 l0_3 a0_4 l0_5).bind fun bt529 => ((laws_toAbs.f k a1_0 l1_1 l1_2 l1_3 a1_4 l1_5).bind fun bt544 => ((impl_AbsIn.f k bt529.1 bt529.2.1 bt529.2.2.1 bt529.2.2.2.1 bt529.2.2.2.2.1 bt529.2.2.2.2.2 bt544.1 bt544.2.1 bt544.2.2.1 bt544.2.2.2.1 bt544.2.2.2.2.1 bt544.2.2.2.2.2).bind fun t559 => (if (t559 != t528) = true then (some false) else ((laws_toAbs.f k a0_0 l0_1 l0_2 l0_3 a0_4 l0_5).bind fun bt560 => ((laws_eqAbs.f k bt529.1 bt529.2.1 bt529.2.2.1 bt529.2.2.2.1 bt529.2.2.2.2.1 bt529.2.2.2.2.2 bt560.1 bt560.2.1 bt560.2.2.1 bt560.2.2.2.1 bt560.2.2.2.2.1 bt560.2.2.2.2.2).bind fun t574 => (if t574 = true then ((laws_toAbs.f k a1_0 l1_1 l1_2 l1_3 a1_4 l1_5).bind fun bt575 => ((laws_eqAbs.f k bt544.1 bt544.2.1 bt544.2.2.1 bt544.2.2.2.1 bt544.2.2.2.2.1 bt544.2.2.2.2.2 bt575.1 bt575.2.1 bt575.2.2.1 bt575.2.2.2.1 bt575.2.2.2.2.1 bt575.2.2.2.2.2).bind fun t589 => (if t589 = true then (some true) else (some false)))) else (some false)))))))))))))) = some true := H
 replace H := sqj H
 rcases H with ⟨c4, H⟩ | ⟨c4, H⟩
 ·have c4b0 := decide_eq_true c4
  clear c4
  clear H
  go_enter Try.func11, Try.ntmps11
  go_wp2_with (first | ((with_reducible refine gate_dst (N := 2) rfl ?_); refine sqx 2 #[.bool a0_0, .slice A0_1 l0_1.length c0_1, .slice A0_2 l0_2.length c0_2, .slice A0_3 l0_3.length c0_3, .int .i64 a0_4, .slice A0_5 l0_5.length c0_5] 72 ?_; intro gb496 hg w5 hbox hb; have BK496 := Aside0.mk hbox; have GW496 := sqg HB hg; have GE496 := sqg HB hg; replace HB := sqs HB hb; clear hb hbox hg) | ((with_reducible refine gate_dst (N := 3) rfl ?_); refine sqx 3 #[.bool a1_0, .slice A1_1 l1_1.length c1_1, .slice A1_2 l1_2.length c1_2, .slice A1_3 l1_3.length c1_3, .int .i64 a1_4, .slice A1_5 l1_5.length c1_5] 72 ?_; intro gb497 hg w6 hbox hb; have BK497 := Aside0.mk hbox; have GW497 := sqg HB hg; have GE497 := sqg HB hg; have NB496_497 := sqn BK496 hg; have NB497_496 := sqm BK496 hg; replace BK496 := sqb BK496 hb; replace HB := sqs HB hb; clear hb hbox hg; have hnb7 := NB496_497.out; have hnc7 := NB497_496.out; obtain ⟨hcz8_0, hcz8_1, hcz8_2, hcz8_3, hcz8_4, hcz8_5, hfz8_0, hfz8_1, hfz8_2, hfz8_3, hfz8_4, hfz8_5⟩ := sqc6 BK496) | ((with_reducible refine gate_callee (f := 57) rfl ?_); refine sqL (some 12) Try.func57 #[.agg #[.bool a0_0, .slice A0_1 l0_1.length c0_1, .slice A0_2 l0_2.length c0_2, .slice A0_3 l0_3.length c0_3, .int .i64 a0_4, .slice A0_5 l0_5.length c0_5], .int .i64 1048576] ?_; (with_reducible refine (laws_szAbs.calls k a0_0 _ _ l0_1 _ _ l0_2 _ _ l0_3 a0_4 _ _ l0_5 1048576 t498 _ ?side1 ?side2 ?side3 ?side4 ?side5 ?side6 ?side7 ?side8 A3.out).mono ?_); (case side1 => exact sqC (Kd.C_below HR0_1.out HB.out)); (case side2 => exact HC0_1.out); (case side3 => exact sqC (Kd.C_below HR0_2.out HB.out)); (case side4 => exact HC0_2.out); (case side5 => exact sqC (Kd.C_below HR0_3.out HB.out)); (case side6 => exact HC0_3.out); (case side7 => exact sqC (Kd.C_below HR0_5.out HB.out)); (case side8 => exact HC0_5.out); rintro e w9 ⟨rfl, hb⟩; refine ⟨_, rfl, ?_⟩; refine sqM2 BK496 BK497 hb ?_; clear BK496 BK497; intro BK496 BK497; replace HB := sqs HB hb; (try clear hb)))
  go_ret
  exact sqe HB
 have c4b0 := decide_eq_false c4
 clear c4
 replace H := sqbi H
 obtain ⟨t499, A10, H⟩ := H
 replace H : (if t499 < 0 then (some true) else ((laws_toAbs.f k a0_0 l0_1 l0_2 l0_3 a0_4 l0_5).bind fun bt500 => ((laws_toAbs.f k a1_0 l1_1 l1_2 l1_3 a1_4 l1_5).bind fun bt514 => ((spec_AbsIn.f k bt500.1 bt500.2.1 bt500.2.2.1 bt500.2.2.2.1 bt500.2.2.2.2.1 bt500.2.2.2.2.2 bt514.1 bt514.2.1 bt514.2.2.1 bt514.2.2.2.1 bt514.2.2.2.2.1 bt514.2.2.2.2.2).bind fun t528 => ((laws_toAbs.f k a0_0 l0_1 l0_2 l0_3 a0_4 l0_5).bind fun bt529 => ((laws_toAbs.f k a1_0 l1_1 l1_2 l1_3 a1_4 l1_5).bind fun bt544 => ((impl_AbsIn.f k bt529.1 bt529.2.1 bt529.2.2.1 bt529.2.2.2.1 bt529.2.2.2.2.1 bt529.2.2.2.2.2 bt544.1 bt544.2.1 bt544.2.2.1 bt544.2.2.2.1 bt544.2.2.2.2.1 bt544.2.2.2.2.2).bind fun t559 => (if (t559 != t528) = true then (some false) else ((laws_toAbs.f k a0_0 l0_1 l0_2 l0_3 a0_4 l0_5).bind fun bt560 => ((laws_eqAbs.f k bt529.1 bt529.2.1 bt529.2.2.1 bt529.2.2.2.1 bt529.2.2.2.2.1 bt529.2.2.2.2.2 bt560.1 bt560.2.1 bt560.2.2.1 bt560.2.2.2.1 bt560.2.2.2.2.1 bt560.2.2.2.2.2).bind fun t574 => (if t574 = true then ((laws_toAbs.f k a1_0 l1_1 l1_2 l1_3 a1_4 l1_5).bind fun bt575 => ((laws_eqAbs.f k bt544.1 bt544.2.1 bt544.2.2.1 bt544.2.2.2.1 bt544.2.2.2.2.1 bt544.2.2.2.2.2 bt575.1 bt575.2.1 bt575.2.2.1 bt575.2.2.2.1 bt575.2.2.2.2.1 bt575.2.2.2.2.2).bind fun t589 => (if t589 = true then (some true) else (some false)))) else (some false)))))))))))) = some true := H
 replace H := sqj H
 rcases H with ⟨c11, H⟩ | ⟨c11, H⟩
 ·have c11b0 := decide_eq_true c11
  clear c11
  clear H
  go_enter Try.func11, Try.ntmps11
  go_wp2_with (first | ((with_reducible refine gate_dst (N := 2) rfl ?_); refine sqx 2 #[.bool a0_0, .slice A0_1 l0_1.length c0_1, .slice A0_2 l0_2.length c0_2, .slice A0_3 l0_3.length c0_3, .int .i64 a0_4, .slice A0_5 l0_5.length c0_5] 72 ?_; intro gb496 hg w12 hbox hb; have BK496 := Aside0.mk hbox; have GW496 := sqg HB hg; have GE496 := sqg HB hg; replace HB := sqs HB hb; clear hb hbox hg) | ((with_reducible refine gate_dst (N := 3) rfl ?_); refine sqx 3 #[.bool a1_0, .slice A1_1 l1_1.length c1_1, .slice A1_2 l1_2.length c1_2, .slice A1_3 l1_3.length c1_3, .int .i64 a1_4, .slice A1_5 l1_5.length c1_5] 72 ?_; intro gb497 hg w13 hbox hb; have BK497 := Aside0.mk hbox; have GW497 := sqg HB hg; have GE497 := sqg HB hg; have NB496_497 := sqn BK496 hg; have NB497_496 := sqm BK496 hg; replace BK496 := sqb BK496 hb; replace HB := sqs HB hb; clear hb hbox hg; have hnb14 := NB496_497.out; have hnc14 := NB497_496.out; obtain ⟨hcz15_0, hcz15_1, hcz15_2, hcz15_3, hcz15_4, hcz15_5, hfz15_0, hfz15_1, hfz15_2, hfz15_3, hfz15_4, hfz15_5⟩ := sqc6 BK496) | ((with_reducible refine gate_callee (f := 57) rfl ?_); refine sqL (some 12) Try.func57 #[.agg #[.bool a0_0, .slice A0_1 l0_1.length c0_1, .slice A0_2 l0_2.length c0_2, .slice A0_3 l0_3.length c0_3, .int .i64 a0_4, .slice A0_5 l0_5.length c0_5], .int .i64 1048576] ?_; (with_reducible refine (laws_szAbs.calls k a0_0 _ _ l0_1 _ _ l0_2 _ _ l0_3 a0_4 _ _ l0_5 1048576 t498 _ ?side1 ?side2 ?side3 ?side4 ?side5 ?side6 ?side7 ?side8 A3.out).mono ?_); (case side1 => exact sqC (Kd.C_below HR0_1.out HB.out)); (case side2 => exact HC0_1.out); (case side3 => exact sqC (Kd.C_below HR0_2.out HB.out)); (case side4 => exact HC0_2.out); (case side5 => exact sqC (Kd.C_below HR0_3.out HB.out)); (case side6 => exact HC0_3.out); (case side7 => exact sqC (Kd.C_below HR0_5.out HB.out)); (case side8 => exact HC0_5.out); rintro e w16 ⟨rfl, hb⟩; refine ⟨_, rfl, ?_⟩; refine sqM2 BK496 BK497 hb ?_; clear BK496 BK497; intro BK496 BK497; replace HB := sqs HB hb; (try clear hb); obtain ⟨hcz17_0, hcz17_1, hcz17_2, hcz17_3, hcz17_4, hcz17_5, hfz17_0, hfz17_1, hfz17_2, hfz17_3, hfz17_4, hfz17_5⟩ := sqc6 BK497) | ((with_reducible refine gate_callee (f := 57) rfl ?_); refine sqL (some 17) Try.func57 #[.agg #[.bool a1_0, .slice A1_1 l1_1.length c1_1, .slice A1_2 l1_2.length c1_2, .slice A1_3 l1_3.length c1_3, .int .i64 a1_4, .slice A1_5 l1_5.length c1_5], .int .i64 t498] ?_; (with_reducible refine (laws_szAbs.calls k a1_0 _ _ l1_1 _ _ l1_2 _ _ l1_3 a1_4 _ _ l1_5 t498 t499 _ ?side1 ?side2 ?side3 ?side4 ?side5 ?side6 ?side7 ?side8 A10.out).mono ?_); (case side1 => exact sqC (Kd.C_below HR1_1.out HB.out)); (case side2 => exact HC1_1.out); (case side3 => exact sqC (Kd.C_below HR1_2.out HB.out)); (case side4 => exact HC1_2.out); (case side5 => exact sqC (Kd.C_below HR1_3.out HB.out)); (case side6 => exact HC1_3.out); (case side7 => exact sqC (Kd.C_below HR1_5.out HB.out)); (case side8 => exact HC1_5.out); rintro e w18 ⟨rfl, hb⟩; refine ⟨_, rfl, ?_⟩; refine sqM2 BK496 BK497 hb ?_; clear BK496 BK497; intro BK496 BK497; replace HB := sqs HB hb; (try clear hb)))
  go_ret
  exact sqe HB
 have c11b0 := decide_eq_false c11
 clear c11
 replace H := sqbi H
 obtain ⟨⟨t500, t501, t504, t507, t510, t511⟩, A19, H⟩ := H
 replace H : ((laws_toAbs.f k a1_0 l1_1 l1_2 l1_3 a1_4 l1_5).bind fun bt514 => ((spec_AbsIn.f k t500 t501 t504 t507 t510 t511 bt514.1 bt514.2.1 bt514.2.2.1 bt514.2.2.2.1 bt514.2.2.2.2.1 bt514.2.2.2.2.2).bind fun t528 => ((laws_toAbs.f k a0_0 l0_1 l0_2 l0_3 a0_4 l0_5).bind fun bt529 => ((laws_toAbs.f k a1_0 l1_1 l1_2 l1_3 a1_4 l1_5).bind fun bt544 => ((impl_AbsIn.f k bt529.1 bt529.2.1 bt529.2.2.1 bt529.2.2.2.1 bt529.2.2.2.2.1 bt529.2.2.2.2.2 bt544.1 bt544.2.1 bt544.2.2.1 bt544.2.2.2.1 bt544.2.2.2.2.1 bt544.2.2.2.2.2).bind fun t559 => (if (t559 != t528) = true then (some false) else ((laws_toAbs.f k a0_0 l0_1 l0_2 l0_3 a0_4 l0_5).bind fun bt560 => ((laws_eqAbs.f k bt529.1 bt529.2.1 bt529.2.2.1 bt529.2.2.2.1 bt529.2.2.2.2.1 bt529.2.2.2.2.2 bt560.1 bt560.2.1 bt560.2.2.1 bt560.2.2.2.1 bt560.2.2.2.2.1 bt560.2.2.2.2.2).bind fun t574 => (if t574 = true then ((laws_toAbs.f k a1_0 l1_1 l1_2 l1_3 a1_4 l1_5).bind fun bt575 => ((laws_eqAbs.f k bt544.1 bt544.2.1 bt544.2.2.1 bt544.2.2.2.1 bt544.2.2.2.2.1 bt544.2.2.2.2.2 bt575.1 bt575.2.1 bt575.2.2.1 bt575.2.2.2.1 bt575.2.2.2.2.1 bt575.2.2.2.2.2).bind fun t589 => (if t589 = true then (some true) else (some false)))) else (some false)))))))))) = some true := H
 replace H := sqbi H
 obtain ⟨⟨t514, t515, t518, t521, t524, t525⟩, A20, H⟩ := H
 replace H : ((spec_AbsIn.f k t500 t501 t504 t507 t510 t511 t514 t515 t518 t521 t524 t525).bind fun t528 => ((laws_toAbs.f k a0_0 l0_1 l0_2 l0_3 a0_4 l0_5).bind fun bt529 => ((laws_toAbs.f k a1_0 l1_1 l1_2 l1_3 a1_4 l1_5).bind fun bt544 => ((impl_AbsIn.f k bt529.1 bt529.2.1 bt529.2.2.1 bt529.2.2.2.1 bt529.2.2.2.2.1 bt529.2.2.2.2.2 bt544.1 bt544.2.1 bt544.2.2.1 bt544.2.2.2.1 bt544.2.2.2.2.1 bt544.2.2.2.2.2).bind fun t559 => (if (t559 != t528) = true then (some false) else ((laws_toAbs.f k a0_0 l0_1 l0_2 l0_3 a0_4 l0_5).bind fun bt560 => ((laws_eqAbs.f k bt529.1 bt529.2.1 bt529.2.2.1 bt529.2.2.2.1 bt529.2.2.2.2.1 bt529.2.2.2.2.2 bt560.1 bt560.2.1 bt560.2.2.1 bt560.2.2.2.1 bt560.2.2.2.2.1 bt560.2.2.2.2.2).bind fun t574 => (if t574 = true then ((laws_toAbs.f k a1_0 l1_1 l1_2 l1_3 a1_4 l1_5).bind fun bt575 => ((laws_eqAbs.f k bt544.1 bt544.2.1 bt544.2.2.1 bt544.2.2.2.1 bt544.2.2.2.2.1 bt544.2.2.2.2.2 bt575.1 bt575.2.1 bt575.2.2.1 bt575.2.2.2.1 bt575.2.2.2.2.1 bt575.2.2.2.2.2).bind fun t589 => (if t589 = true then (some true) else (some false)))) else (some false))))))))) = some true := H
 replace H := sqbi H
 obtain ⟨t528, A21, H⟩ := H
 replace H : ((laws_toAbs.f k a0_0 l0_1 l0_2 l0_3 a0_4 l0_5).bind fun bt529 => ((laws_toAbs.f k a1_0 l1_1 l1_2 l1_3 a1_4 l1_5).bind fun bt544 => ((impl_AbsIn.f k bt529.1 bt529.2.1 bt529.2.2.1 bt529.2.2.2.1 bt529.2.2.2.2.1 bt529.2.2.2.2.2 bt544.1 bt544.2.1 bt544.2.2.1 bt544.2.2.2.1 bt544.2.2.2.2.1 bt544.2.2.2.2.2).bind fun t559 => (if (t559 != t528) = true then (some false) else ((laws_toAbs.f k a0_0 l0_1 l0_2 l0_3 a0_4 l0_5).bind fun bt560 => ((laws_eqAbs.f k bt529.1 bt529.2.1 bt529.2.2.1 bt529.2.2.2.1 bt529.2.2.2.2.1 bt529.2.2.2.2.2 bt560.1 bt560.2.1 bt560.2.2.1 bt560.2.2.2.1 bt560.2.2.2.2.1 bt560.2.2.2.2.2).bind fun t574 => (if t574 = true then ((laws_toAbs.f k a1_0 l1_1 l1_2 l1_3 a1_4 l1_5).bind fun bt575 => ((laws_eqAbs.f k bt544.1 bt544.2.1 bt544.2.2.1 bt544.2.2.2.1 bt544.2.2.2.2.1 bt544.2.2.2.2.2 bt575.1 bt575.2.1 bt575.2.2.1 bt575.2.2.2.1 bt575.2.2.2.2.1 bt575.2.2.2.2.2).bind fun t589 => (if t589 = true then (some true) else (some false)))) else (some false)))))))) = some true := H
 replace H := sqbi H
 obtain ⟨⟨t529, t530, t533, t536, t539, t540⟩, A22, H⟩ := H
 replace H : ((laws_toAbs.f k a1_0 l1_1 l1_2 l1_3 a1_4 l1_5).bind fun bt544 => ((impl_AbsIn.f k t529 t530 t533 t536 t539 t540 bt544.1 bt544.2.1 bt544.2.2.1 bt544.2.2.2.1 bt544.2.2.2.2.1 bt544.2.2.2.2.2).bind fun t559 => (if (t559 != t528) = true then (some false) else ((laws_toAbs.f k a0_0 l0_1 l0_2 l0_3 a0_4 l0_5).bind fun bt560 => ((laws_eqAbs.f k t529 t530 t533 t536 t539 t540 bt560.1 bt560.2.1 bt560.2.2.1 bt560.2.2.2.1 bt560.2.2.2.2.1 bt560.2.2.2.2.2).bind fun t574 => (if t574 = true then ((laws_toAbs.f k a1_0 l1_1 l1_2 l1_3 a1_4 l1_5).bind fun bt575 => ((laws_eqAbs.f k bt544.1 bt544.2.1 bt544.2.2.1 bt544.2.2.2.1 bt544.2.2.2.2.1 bt544.2.2.2.2.2 bt575.1 bt575.2.1 bt575.2.2.1 bt575.2.2.2.1 bt575.2.2.2.2.1 bt575.2.2.2.2.2).bind fun t589 => (if t589 = true then (some true) else (some false)))) else (some false))))))) = some true := H
 replace H := sqbi H
 obtain ⟨⟨t544, t545, t548, t551, t554, t555⟩, A23, H⟩ := H
 replace H : ((impl_AbsIn.f k t529 t530 t533 t536 t539 t540 t544 t545 t548 t551 t554 t555).bind fun t559 => (if (t559 != t528) = true then (some false) else ((laws_toAbs.f k a0_0 l0_1 l0_2 l0_3 a0_4 l0_5).bind fun bt560 => ((laws_eqAbs.f k t529 t530 t533 t536 t539 t540 bt560.1 bt560.2.1 bt560.2.2.1 bt560.2.2.2.1 bt560.2.2.2.2.1 bt560.2.2.2.2.2).bind fun t574 => (if t574 = true then ((laws_toAbs.f k a1_0 l1_1 l1_2 l1_3 a1_4 l1_5).bind fun bt575 => ((laws_eqAbs.f k t544 t545 t548 t551 t554 t555 bt575.1 bt575.2.1 bt575.2.2.1 bt575.2.2.2.1 bt575.2.2.2.2.1 bt575.2.2.2.2.2).bind fun t589 => (if t589 = true then (some true) else (some false)))) else (some false)))))) = some true := H
 replace H := sqbi H
 obtain ⟨t559, A24, H⟩ := H
 replace H : (if (t559 != t528) = true then (some false) else ((laws_toAbs.f k a0_0 l0_1 l0_2 l0_3 a0_4 l0_5).bind fun bt560 => ((laws_eqAbs.f k t529 t530 t533 t536 t539 t540 bt560.1 bt560.2.1 bt560.2.2.1 bt560.2.2.2.1 bt560.2.2.2.2.1 bt560.2.2.2.2.2).bind fun t574 => (if t574 = true then ((laws_toAbs.f k a1_0 l1_1 l1_2 l1_3 a1_4 l1_5).bind fun bt575 => ((laws_eqAbs.f k t544 t545 t548 t551 t554 t555 bt575.1 bt575.2.1 bt575.2.2.1 bt575.2.2.2.1 bt575.2.2.2.2.1 bt575.2.2.2.2.2).bind fun t589 => (if t589 = true then (some true) else (some false)))) else (some false))))) = some true := H
 replace H := sqj H
 rcases H with ⟨c25, H⟩ | ⟨c25, H⟩
 ·have c25b0 : (t559 != t528) = true := c25
  (try (have c25b1 : decide (t559 = t528) = false := by simpa using c25))
  (try (have c25b2 : (t559 == t528) = false := by simpa using c25))
  (try (have c25b3 : ¬ (t559 = t528) := by simpa using c25))
  clear c25
  exact absurd (Option.some.inj H) (by decide)
 have c25b0 : (t559 != t528) = false := by simpa using c25
 (try (have c25b1 : decide (t559 = t528) = true := by simpa using c25))
 (try (have c25b2 : (t559 == t528) = true := by simpa using c25))
 clear c25
 replace H := sqbi H
 obtain ⟨⟨t560, t561, t564, t567, t570, t571⟩, A68, H⟩ := H
 replace H : ((laws_eqAbs.f k t529 t530 t533 t536 t539 t540 t560 t561 t564 t567 t570 t571).bind fun t574 => (if t574 = true then ((laws_toAbs.f k a1_0 l1_1 l1_2 l1_3 a1_4 l1_5).bind fun bt575 => ((laws_eqAbs.f k t544 t545 t548 t551 t554 t555 bt575.1 bt575.2.1 bt575.2.2.1 bt575.2.2.2.1 bt575.2.2.2.2.1 bt575.2.2.2.2.2).bind fun t589 => (if t589 = true then (some true) else (some false)))) else (some false))) = some true := H
 replace H := sqbi H
 obtain ⟨t574, A69, H⟩ := H
 replace H : (if t574 = true then ((laws_toAbs.f k a1_0 l1_1 l1_2 l1_3 a1_4 l1_5).bind fun bt575 => ((laws_eqAbs.f k t544 t545 t548 t551 t554 t555 bt575.1 bt575.2.1 bt575.2.2.1 bt575.2.2.2.1 bt575.2.2.2.2.1 bt575.2.2.2.2.2).bind fun t589 => (if t589 = true then (some true) else (some false)))) else (some false)) = some true := H
 rcases sqI (t574 = true) with c70 | c70
 ·replace c70 := Bool.eq_false_iff.mpr c70
  subst c70
  have H1 : (some false) = some true := by rw [if_neg (show ¬ (false = true) by decide)] at H; exact H
  clear H
  have H := H1
  clear H1
  exact absurd (Option.some.inj H) (by decide)
 subst c70
 have H1 : ((laws_toAbs.f k a1_0 l1_1 l1_2 l1_3 a1_4 l1_5).bind fun bt575 => ((laws_eqAbs.f k t544 t545 t548 t551 t554 t555 bt575.1 bt575.2.1 bt575.2.2.1 bt575.2.2.2.1 bt575.2.2.2.2.1 bt575.2.2.2.2.2).bind fun t589 => (if t589 = true then (some true) else (some false)))) = some true := by rw [if_pos rfl] at H; exact H
 clear H
 have H := H1
 clear H1
 replace H := sqbi H
 obtain ⟨⟨t575, t576, t579, t582, t585, t586⟩, A71, H⟩ := H
 replace H : ((laws_eqAbs.f k t544 t545 t548 t551 t554 t555 t575 t576 t579 t582 t585 t586).bind fun t589 => (if t589 = true then (some true) else (some false))) = some true := H
 replace H := sqbi H
 obtain ⟨t589, A72, H⟩ := H
 replace H : (if t589 = true then (some true) else (some false)) = some true := H
 rcases sqI (t589 = true) with c73 | c73
 ·replace c73 := Bool.eq_false_iff.mpr c73
  subst c73
  have H1 : (some false) = some true := by rw [if_neg (show ¬ (false = true) by decide)] at H; exact H
  clear H
  have H := H1
  clear H1
  exact absurd (Option.some.inj H) (by decide)
 subst c73
 have H1 : (some true) = some true := rfl
 clear H
 have H := H1
 clear H1
 clear H
 go_enter Try.func11, Try.ntmps11
 try go_wp2_with (first | ((with_reducible refine gate_dst (N := 2) rfl ?_); refine sqx 2 #[.bool a0_0, .slice A0_1 l0_1.length c0_1, .slice A0_2 l0_2.length c0_2, .slice A0_3 l0_3.length c0_3, .int .i64 a0_4, .slice A0_5 l0_5.length c0_5] 72 ?_; intro gb496 hg w74 hbox hb; have BK496 := Aside0.mk hbox; have GW496 := sqg HB hg; have GE496 := sqg HB hg; replace HB := sqs HB hb; clear hb hbox hg) | ((with_reducible refine gate_dst (N := 3) rfl ?_); refine sqx 3 #[.bool a1_0, .slice A1_1 l1_1.length c1_1, .slice A1_2 l1_2.length c1_2, .slice A1_3 l1_3.length c1_3, .int .i64 a1_4, .slice A1_5 l1_5.length c1_5] 72 ?_; intro gb497 hg w75 hbox hb; have BK497 := Aside0.mk hbox; have GW497 := sqg HB hg; have GE497 := sqg HB hg; have NB496_497 := sqn BK496 hg; have NB497_496 := sqm BK496 hg; replace BK496 := sqb BK496 hb; replace HB := sqs HB hb; clear hb hbox hg; have hnb76 := NB496_497.out; have hnc76 := NB497_496.out; obtain ⟨hcz77_0, hcz77_1, hcz77_2, hcz77_3, hcz77_4, hcz77_5, hfz77_0, hfz77_1, hfz77_2, hfz77_3, hfz77_4, hfz77_5⟩ := sqc6 BK496) | ((with_reducible refine gate_callee (f := 57) rfl ?_); refine sqL (some 12) Try.func57 #[.agg #[.bool a0_0, .slice A0_1 l0_1.length c0_1, .slice A0_2 l0_2.length c0_2, .slice A0_3 l0_3.length c0_3, .int .i64 a0_4, .slice A0_5 l0_5.length c0_5], .int .i64 1048576] ?_; (with_reducible refine (laws_szAbs.calls k a0_0 _ _ l0_1 _ _ l0_2 _ _ l0_3 a0_4 _ _ l0_5 1048576 t498 _ ?side1 ?side2 ?side3 ?side4 ?side5 ?side6 ?side7 ?side8 A3.out).mono ?_); (case side1 => exact sqC (Kd.C_below HR0_1.out HB.out)); (case side2 => exact HC0_1.out); (case side3 => exact sqC (Kd.C_below HR0_2.out HB.out)); (case side4 => exact HC0_2.out); (case side5 => exact sqC (Kd.C_below HR0_3.out HB.out)); (case side6 => exact HC0_3.out); (case side7 => exact sqC (Kd.C_below HR0_5.out HB.out)); (case side8 => exact HC0_5.out); rintro e w78 ⟨rfl, hb⟩; refine ⟨_, rfl, ?_⟩; refine sqM2 BK496 BK497 hb ?_; clear BK496 BK497; intro BK496 BK497; replace HB := sqs HB hb; (try clear hb); obtain ⟨hcz79_0, hcz79_1, hcz79_2, hcz79_3, hcz79_4, hcz79_5, hfz79_0, hfz79_1, hfz79_2, hfz79_3, hfz79_4, hfz79_5⟩ := sqc6 BK497) | ((with_reducible refine gate_callee (f := 57) rfl ?_); refine sqL (some 17) Try.func57 #[.agg #[.bool a1_0, .slice A1_1 l1_1.length c1_1, .slice A1_2 l1_2.length c1_2, .slice A1_3 l1_3.length c1_3, .int .i64 a1_4, .slice A1_5 l1_5.length c1_5], .int .i64 t498] ?_; (with_reducible refine (laws_szAbs.calls k a1_0 _ _ l1_1 _ _ l1_2 _ _ l1_3 a1_4 _ _ l1_5 t498 t499 _ ?side1 ?side2 ?side3 ?side4 ?side5 ?side6 ?side7 ?side8 A10.out).mono ?_); (case side1 => exact sqC (Kd.C_below HR1_1.out HB.out)); (case side2 => exact HC1_1.out); (case side3 => exact sqC (Kd.C_below HR1_2.out HB.out)); (case side4 => exact HC1_2.out); (case side5 => exact sqC (Kd.C_below HR1_3.out HB.out)); (case side6 => exact HC1_3.out); (case side7 => exact sqC (Kd.C_below HR1_5.out HB.out)); (case side8 => exact HC1_5.out); rintro e w80 ⟨rfl, hb⟩; refine ⟨_, rfl, ?_⟩; refine sqM2 BK496 BK497 hb ?_; clear BK496 BK497; intro BK496 BK497; replace HB := sqs HB hb; (try clear hb)))
 replace BK496 := Aside0.mk (blk_drew BK496.out)
 replace BK497 := Aside0.mk (blk_drew BK497.out)
 replace HB := Aside0.mk (below_drew1 HB.out)
 refine start_ (n := 6) (S := fun w' => w'.cell? ⟨gb496, 0, none⟩ = some (.bool a0_0) ∧ w'.cell? ⟨gb496, 1, none⟩ = some (.slice A0_1 l0_1.length c0_1) ∧ w'.cell? ⟨gb496, 2, none⟩ = some (.slice A0_2 l0_2.length c0_2) ∧ w'.cell? ⟨gb496, 3, none⟩ = some (.slice A0_3 l0_3.length c0_3) ∧ w'.cell? ⟨gb496, 4, none⟩ = some (.int .i64 a0_4) ∧ w'.cell? ⟨gb496, 5, none⟩ = some (.slice A0_5 l0_5.length c0_5) ∧ w'.cell? ⟨gb497, 0, none⟩ = some (.bool a1_0) ∧ w'.cell? ⟨gb497, 1, none⟩ = some (.slice A1_1 l1_1.length c1_1) ∧ w'.cell? ⟨gb497, 2, none⟩ = some (.slice A1_2 l1_2.length c1_2) ∧ w'.cell? ⟨gb497, 3, none⟩ = some (.slice A1_3 l1_3.length c1_3) ∧ w'.cell? ⟨gb497, 4, none⟩ = some (.int .i64 a1_4) ∧ w'.cell? ⟨gb497, 5, none⟩ = some (.slice A1_5 l1_5.length c1_5)) (ds := []) #[false, false, false, false, false, false] (by kernel_rfl) rfl rfl sqz (fun hHeld => ?_)
 generalize w80.drew = w81 at BK496 BK497 HB hHeld ⊢
 refine take_ (i := 0) (N := some 20) (v := ?_) (a' := ?_) #[true, false, false, false, false, false] rfl rfl (by kernel_rfl) (fun _ _ _ h => h) (Or.inl ⟨by rfl, ?_⟩) hHeld ?_ ?_
 rotate_left
 ·rintro w' ⟨s0, s1, s2, s3, s4, s5, s6, s7, s8, s9, s10, s11⟩
  go_simp
  with_reducible rfl
 rotate_left
 ·simp only [Act.put, List.setIfInBounds_toArray, List.set_cons_zero, List.set_cons_succ, i64_w, i32_w]
  rfl
 refine take_ (i := 2) (N := some 22) (v := ?_) (a' := ?_) #[true, false, true, false, false, false] rfl rfl (by kernel_rfl) (fun _ _ _ h => h) (Or.inl ⟨by rfl, ?_⟩) hHeld ?_ ?_
 rotate_left
 ·rintro w' ⟨s0, s1, s2, s3, s4, s5, s6, s7, s8, s9, s10, s11⟩
  go_simp
  with_reducible rfl
 rotate_left
 ·simp only [Act.put, List.setIfInBounds_toArray, List.set_cons_zero, List.set_cons_succ, i64_w, i32_w]
  rfl
 refine one_ (i := 1) (N := some 21) #[true, true, true, false, false, false] rfl rfl (by kernel_rfl) (by decide) (fun K hK => ?_)
 refine sqG Try.func59 #[.agg #[.bool a0_0, .slice A0_1 l0_1.length c0_1, .slice A0_2 l0_2.length c0_2, .slice A0_3 l0_3.length c0_3, .int .i64 a0_4, .slice A0_5 l0_5.length c0_5]] ?_
 with_reducible refine (laws_toAbs.calls k a0_0 _ _ l0_1 _ _ l0_2 _ _ l0_3 a0_4 _ _ l0_5 t500 t501 t504 t507 t510 t511 _ ?side1 ?side2 ?side3 ?side4 ?side5 ?side6 ?side7 ?side8 A19.out).mono ?_
 (case side1 => exact sqC (Kd.C_below HR0_1.out HB.out))
 (case side2 => exact HC0_1.out)
 (case side3 => exact sqC (Kd.C_below HR0_2.out HB.out))
 (case side4 => exact HC0_2.out)
 (case side5 => exact sqC (Kd.C_below HR0_3.out HB.out))
 (case side6 => exact HC0_3.out)
 (case side7 => exact sqC (Kd.C_below HR0_5.out HB.out))
 (case side8 => exact HC0_5.out)
 rintro e w82 ⟨v502, v505, v508, v512, rfl, ho0, ho1, ho2, ho3, hb⟩
 refine ⟨_, rfl, ?_⟩
 have HO503 := Aside0.mk (Kd.R_lower ho0 (below_size (sqB HB)))
 have HO506 := Aside0.mk (Kd.S_lower ho1 (below_size (sqB HB)))
 have HO509 := Aside0.mk (Kd.R_lower ho2 (below_size (sqB HB)))
 have HO513 := Aside0.mk (Kd.R_lower ho3 (below_size (sqB HB)))
 refine sqM2 BK496 BK497 hb ?_; clear BK496 BK497; intro BK496 BK497
 replace HB := sqs HB hb
 (try clear hb)
 (try clear hb2)
 (try clear hk)
 (try clear hi)
 (try clear ho0)
 (try clear ho1)
 (try clear ho2)
 (try clear ho3)
 refine hK.out _ _ sqz (fun hHeld => ?_)
 clear hK K
 refine sqnm ?_
 refine one_ (i := 3) (N := some 23) #[true, true, true, true, false, false] rfl rfl (by kernel_rfl) (by decide) (fun K hK => ?_)
 refine sqG Try.func59 #[.agg #[.bool a1_0, .slice A1_1 l1_1.length c1_1, .slice A1_2 l1_2.length c1_2, .slice A1_3 l1_3.length c1_3, .int .i64 a1_4, .slice A1_5 l1_5.length c1_5]] ?_
 with_reducible refine (laws_toAbs.calls k a1_0 _ _ l1_1 _ _ l1_2 _ _ l1_3 a1_4 _ _ l1_5 t514 t515 t518 t521 t524 t525 _ ?side1 ?side2 ?side3 ?side4 ?side5 ?side6 ?side7 ?side8 A20.out).mono ?_
 (case side1 => exact sqC (Kd.C_below HR1_1.out HB.out))
 (case side2 => exact HC1_1.out)
 (case side3 => exact sqC (Kd.C_below HR1_2.out HB.out))
 (case side4 => exact HC1_2.out)
 (case side5 => exact sqC (Kd.C_below HR1_3.out HB.out))
 (case side6 => exact HC1_3.out)
 (case side7 => exact sqC (Kd.C_below HR1_5.out HB.out))
 (case side8 => exact HC1_5.out)
 rintro e w83 ⟨v516, v519, v522, v526, rfl, ho0, ho1, ho2, ho3, hb⟩
 refine ⟨_, rfl, ?_⟩
 have n0_ := Aside0.mk (Kd.R_mono (Kd.R_told (Kd.R_told (Kd.R_old (sqy HO503.out) hb) (Kd.R_base ho0)) (Kd.R_base ho2)) (fun _ h_ => h_.1))
 have n1_ := Aside0.mk (Kd.S_mono (Kd.S_told (Kd.S_told (Kd.S_old (by (with_reducible repeat (first | apply Kd.S_alloc | apply Kd.S_drewN | apply Kd.S_drew)); exact HO506.out) hb) (Kd.S_base ho1)) (Kd.R_base ho3)) (fun _ h_ => h_.1))
 have n2_ := Aside0.mk (Kd.R_mono (Kd.R_told (Kd.R_told (Kd.R_old (sqy HO509.out) hb) (Kd.R_base ho0)) (Kd.R_base ho2)) (fun _ h_ => h_.1))
 have n3_ := Aside0.mk (Kd.R_elder' (sqy HO513.out) (Kd.R_base ho3) hb)
 have n4_ := Aside0.mk (Kd.R_lower (Kd.R_new' (Kd.R_new' ho0 (Kd.R_lt (sqy HO503.out))) (Kd.R_lt (sqy HO509.out))) (below_size (sqB HB)))
 have n5_ := Aside0.mk (Kd.S_lower (Kd.S_new' (Kd.S_new' ho1 (Kd.S_lt (by (with_reducible repeat (first | apply Kd.S_alloc | apply Kd.S_drewN | apply Kd.S_drew)); exact HO506.out))) (Kd.R_lt (sqy HO513.out))) (below_size (sqB HB)))
 have n6_ := Aside0.mk (Kd.R_lower (Kd.R_new' (Kd.R_new' ho2 (Kd.R_lt (sqy HO503.out))) (Kd.R_lt (sqy HO509.out))) (below_size (sqB HB)))
 have n7_ := Aside0.mk (Kd.R_lower (Kd.R_new' ho3 (Kd.R_lt (sqy HO513.out))) (below_size (sqB HB)))
 have n8_ := sqb BK496 hb
 have n9_ := sqb BK497 hb
 have n10_ := sqs HB hb
 clear HO503
 clear HO506
 clear HO509
 clear HO513
 clear BK496
 clear BK497
 clear HB
 have HO503 := n0_
 have HO506 := n1_
 have HO509 := n2_
 have HO513 := n3_
 have HO517 := n4_
 have HO520 := n5_
 have HO523 := n6_
 have HO527 := n7_
 have BK496 := n8_
 have BK497 := n9_
 have HB := n10_
 clear n0_ n1_ n2_ n3_ n4_ n5_ n6_ n7_ n8_ n9_ n10_
 (try clear hb)
 (try clear hb2)
 (try clear hk)
 (try clear hi)
 (try clear ho0)
 (try clear ho1)
 (try clear ho2)
 (try clear ho3)
 obtain ⟨Ao84, co84, eo84⟩ := Kd.R_slice HO503.out
 (first | subst eo84 | (injection eo84 with f1_ f2_ f3_; have f4_ := f1_.symm; have f5_ := f3_.symm; clear f1_ f2_ f3_; subst f4_; subst f5_))
 obtain ⟨Ao85, co85, eo85⟩ := Kd.S_slice HO506.out
 (first | subst eo85 | (injection eo85 with f1_ f2_ f3_; have f4_ := f1_.symm; have f5_ := f3_.symm; clear f1_ f2_ f3_; subst f4_; subst f5_))
 obtain ⟨Ao86, co86, eo86⟩ := Kd.R_slice HO509.out
 (first | subst eo86 | (injection eo86 with f1_ f2_ f3_; have f4_ := f1_.symm; have f5_ := f3_.symm; clear f1_ f2_ f3_; subst f4_; subst f5_))
 obtain ⟨Ao87, co87, eo87⟩ := Kd.R_slice HO513.out
 (first | subst eo87 | (injection eo87 with f1_ f2_ f3_; have f4_ := f1_.symm; have f5_ := f3_.symm; clear f1_ f2_ f3_; subst f4_; subst f5_))
 obtain ⟨Ao88, co88, eo88⟩ := Kd.R_slice HO517.out
 (first | subst eo88 | (injection eo88 with f1_ f2_ f3_; have f4_ := f1_.symm; have f5_ := f3_.symm; clear f1_ f2_ f3_; subst f4_; subst f5_))
 obtain ⟨Ao89, co89, eo89⟩ := Kd.S_slice HO520.out
 (first | subst eo89 | (injection eo89 with f1_ f2_ f3_; have f4_ := f1_.symm; have f5_ := f3_.symm; clear f1_ f2_ f3_; subst f4_; subst f5_))
 obtain ⟨Ao90, co90, eo90⟩ := Kd.R_slice HO523.out
 (first | subst eo90 | (injection eo90 with f1_ f2_ f3_; have f4_ := f1_.symm; have f5_ := f3_.symm; clear f1_ f2_ f3_; subst f4_; subst f5_))
 obtain ⟨Ao91, co91, eo91⟩ := Kd.R_slice HO527.out
 (first | subst eo91 | (injection eo91 with f1_ f2_ f3_; have f4_ := f1_.symm; have f5_ := f3_.symm; clear f1_ f2_ f3_; subst f4_; subst f5_))
 refine hK.out _ _ sqz (fun hHeld => ?_)
 clear hK K
 refine sqnm ?_
 refine one_ (i := 4) (N := some 24) #[true, true, true, true, true, false] rfl rfl (by kernel_rfl) (by decide) (fun K hK => ?_)
 refine sqG Try.func69 #[.agg #[.bool t500, .slice Ao84 t501.length co84, .slice Ao85 t504.length co85, .slice Ao86 t507.length co86, .int .i64 t510, .slice Ao87 t511.length co87], .agg #[.bool t514, .slice Ao88 t515.length co88, .slice Ao89 t518.length co89, .slice Ao90 t521.length co90, .int .i64 t524, .slice Ao91 t525.length co91]] ?_
 with_reducible refine (spec_AbsIn.calls k t500 _ _ t501 _ _ t504 _ _ t507 t510 _ _ t511 t514 _ _ t515 _ _ t518 _ _ t521 t524 _ _ t525 t528 _ ?side1 ?side2 ?side3 ?side4 ?side5 ?side6 ?side7 ?side8 ?side9 ?side10 ?side11 ?side12 ?side13 ?side14 ?side15 ?side16 A21.out).mono ?_
 (case side1 => exact sqC (Kd.R_reads' HO503.out).2.2)
 (case side2 => exact (Kd.R_reads' HO503.out).2.1)
 (case side3 => repeat (first | exact (Kd.S_reads' HO506.out).2.2 | (with_reducible refine Kd.C_alloc ?_ _) | (with_reducible refine Kd.C_drewN ?_ _) | (with_reducible refine Kd.C_drew ?_)))
 (case side4 => exact (Kd.S_reads' HO506.out).2.1)
 (case side5 => exact sqC (Kd.R_reads' HO509.out).2.2)
 (case side6 => exact (Kd.R_reads' HO509.out).2.1)
 (case side7 => exact sqC (Kd.R_reads' HO513.out).2.2)
 (case side8 => exact (Kd.R_reads' HO513.out).2.1)
 (case side9 => exact sqC (Kd.R_reads' HO517.out).2.2)
 (case side10 => exact (Kd.R_reads' HO517.out).2.1)
 (case side11 => repeat (first | exact (Kd.S_reads' HO520.out).2.2 | (with_reducible refine Kd.C_alloc ?_ _) | (with_reducible refine Kd.C_drewN ?_ _) | (with_reducible refine Kd.C_drew ?_)))
 (case side12 => exact (Kd.S_reads' HO520.out).2.1)
 (case side13 => exact sqC (Kd.R_reads' HO523.out).2.2)
 (case side14 => exact (Kd.R_reads' HO523.out).2.1)
 (case side15 => exact sqC (Kd.R_reads' HO527.out).2.2)
 (case side16 => exact (Kd.R_reads' HO527.out).2.1)
 rintro e w92 ⟨rfl, hb⟩
 refine ⟨_, rfl, ?_⟩
 have n0_ := Aside0.mk (Kd.R_below (sqy HO503.out) hb)
 have n1_ := Aside0.mk (Kd.S_below (by (with_reducible repeat (first | apply Kd.S_alloc | apply Kd.S_drewN | apply Kd.S_drew)); exact HO506.out) hb)
 have n2_ := Aside0.mk (Kd.R_below (sqy HO509.out) hb)
 have n3_ := Aside0.mk (Kd.R_below (sqy HO513.out) hb)
 have n4_ := Aside0.mk (Kd.R_below (sqy HO517.out) hb)
 have n5_ := Aside0.mk (Kd.S_below (by (with_reducible repeat (first | apply Kd.S_alloc | apply Kd.S_drewN | apply Kd.S_drew)); exact HO520.out) hb)
 have n6_ := Aside0.mk (Kd.R_below (sqy HO523.out) hb)
 have n7_ := Aside0.mk (Kd.R_below (sqy HO527.out) hb)
 have n8_ := sqb BK496 hb
 have n9_ := sqb BK497 hb
 have n10_ := sqs HB hb
 clear HO503
 clear HO506
 clear HO509
 clear HO513
 clear HO517
 clear HO520
 clear HO523
 clear HO527
 clear BK496
 clear BK497
 clear HB
 have HO503 := n0_
 have HO506 := n1_
 have HO509 := n2_
 have HO513 := n3_
 have HO517 := n4_
 have HO520 := n5_
 have HO523 := n6_
 have HO527 := n7_
 have BK496 := n8_
 have BK497 := n9_
 have HB := n10_
 clear n0_ n1_ n2_ n3_ n4_ n5_ n6_ n7_ n8_ n9_ n10_
 (try clear hb)
 refine hK.out _ _ sqz (fun hHeld => ?_)
 clear hK K
 refine sqnm ?_
 refine pure_ (i := 5) (N := some 6) (v := ?_) (a' := ?_) #[true, true, true, true, true, true] rfl rfl (by kernel_rfl) (fun _ _ _ h => h) (Or.inl ⟨by rfl, ?_⟩) ?_ ?_
 rotate_left
 ·intro w'
  go_simp
  with_reducible rfl
 rotate_left
 ·simp only [Act.put, List.setIfInBounds_toArray, List.set_cons_zero, List.set_cons_succ, i64_w, i32_w]
  rfl
 refine done_ (by kernel_rfl) ?_
 obtain ⟨hcz93_0, hcz93_1, hcz93_2, hcz93_3, hcz93_4, hcz93_5, hfz93_0, hfz93_1, hfz93_2, hfz93_3, hfz93_4, hfz93_5⟩ := sqc6 BK496
 try go_wp2_with (first | ((with_reducible refine gate_callee (f := 59) rfl ?_); refine sqL (some 26) Try.func59 #[.agg #[.bool a0_0, .slice A0_1 l0_1.length c0_1, .slice A0_2 l0_2.length c0_2, .slice A0_3 l0_3.length c0_3, .int .i64 a0_4, .slice A0_5 l0_5.length c0_5]] ?_; (with_reducible refine (laws_toAbs.calls k a0_0 _ _ l0_1 _ _ l0_2 _ _ l0_3 a0_4 _ _ l0_5 t529 t530 t533 t536 t539 t540 _ ?side1 ?side2 ?side3 ?side4 ?side5 ?side6 ?side7 ?side8 A22.out).mono ?_); (case side1 => exact sqC (Kd.C_below HR0_1.out HB.out)); (case side2 => exact HC0_1.out); (case side3 => exact sqC (Kd.C_below HR0_2.out HB.out)); (case side4 => exact HC0_2.out); (case side5 => exact sqC (Kd.C_below HR0_3.out HB.out)); (case side6 => exact HC0_3.out); (case side7 => exact sqC (Kd.C_below HR0_5.out HB.out)); (case side8 => exact HC0_5.out); rintro e w94 ⟨v531, v534, v537, v541, rfl, ho0, ho1, ho2, ho3, hb⟩; refine ⟨_, rfl, ?_⟩; have n0_ := Aside0.mk (Kd.R_mono (Kd.R_told (Kd.R_told (Kd.R_old (sqy HO503.out) hb) (Kd.R_base ho0)) (Kd.R_base ho2)) (fun _ h_ => h_.1)); have n1_ := Aside0.mk (Kd.S_mono (Kd.S_told (Kd.S_told (Kd.S_old (by (with_reducible repeat (first | apply Kd.S_alloc | apply Kd.S_drewN | apply Kd.S_drew)); exact HO506.out) hb) (Kd.S_base ho1)) (Kd.R_base ho3)) (fun _ h_ => h_.1)); have n2_ := Aside0.mk (Kd.R_mono (Kd.R_told (Kd.R_told (Kd.R_old (sqy HO509.out) hb) (Kd.R_base ho0)) (Kd.R_base ho2)) (fun _ h_ => h_.1)); have n3_ := Aside0.mk (Kd.R_elder' (sqy HO513.out) (Kd.R_base ho3) hb); have n4_ := Aside0.mk (Kd.R_mono (Kd.R_told (Kd.R_told (Kd.R_old (sqy HO517.out) hb) (Kd.R_base ho0)) (Kd.R_base ho2)) (fun _ h_ => h_.1)); have n5_ := Aside0.mk (Kd.S_mono (Kd.S_told (Kd.S_told (Kd.S_old (by (with_reducible repeat (first | apply Kd.S_alloc | apply Kd.S_drewN | apply Kd.S_drew)); exact HO520.out) hb) (Kd.S_base ho1)) (Kd.R_base ho3)) (fun _ h_ => h_.1)); have n6_ := Aside0.mk (Kd.R_mono (Kd.R_told (Kd.R_told (Kd.R_old (sqy HO523.out) hb) (Kd.R_base ho0)) (Kd.R_base ho2)) (fun _ h_ => h_.1)); have n7_ := Aside0.mk (Kd.R_elder' (sqy HO527.out) (Kd.R_base ho3) hb); have n8_ := Aside0.mk (Kd.R_lower (Kd.R_new' (Kd.R_new' (Kd.R_new' (Kd.R_new' ho0 (Kd.R_lt (sqy HO503.out))) (Kd.R_lt (sqy HO509.out))) (Kd.R_lt (sqy HO517.out))) (Kd.R_lt (sqy HO523.out))) (below_size (sqB HB))); have n9_ := Aside0.mk (Kd.S_lower (Kd.S_new' (Kd.S_new' (Kd.S_new' (Kd.S_new' ho1 (Kd.S_lt (by (with_reducible repeat (first | apply Kd.S_alloc | apply Kd.S_drewN | apply Kd.S_drew)); exact HO506.out))) (Kd.R_lt (sqy HO513.out))) (Kd.S_lt (by (with_reducible repeat (first | apply Kd.S_alloc | apply Kd.S_drewN | apply Kd.S_drew)); exact HO520.out))) (Kd.R_lt (sqy HO527.out))) (below_size (sqB HB))); have n10_ := Aside0.mk (Kd.R_lower (Kd.R_new' (Kd.R_new' (Kd.R_new' (Kd.R_new' ho2 (Kd.R_lt (sqy HO503.out))) (Kd.R_lt (sqy HO509.out))) (Kd.R_lt (sqy HO517.out))) (Kd.R_lt (sqy HO523.out))) (below_size (sqB HB))); have n11_ := Aside0.mk (Kd.R_lower (Kd.R_new' (Kd.R_new' ho3 (Kd.R_lt (sqy HO513.out))) (Kd.R_lt (sqy HO527.out))) (below_size (sqB HB))); have n12_ := sqb BK496 hb; have n13_ := sqb BK497 hb; have n14_ := sqs HB hb; clear HO503; clear HO506; clear HO509; clear HO513; clear HO517; clear HO520; clear HO523; clear HO527; clear BK496; clear BK497; clear HB; have HO503 := n0_; have HO506 := n1_; have HO509 := n2_; have HO513 := n3_; have HO517 := n4_; have HO520 := n5_; have HO523 := n6_; have HO527 := n7_; have HO532 := n8_; have HO535 := n9_; have HO538 := n10_; have HO542 := n11_; have BK496 := n12_; have BK497 := n13_; have HB := n14_; clear n0_ n1_ n2_ n3_ n4_ n5_ n6_ n7_ n8_ n9_ n10_ n11_ n12_ n13_ n14_; (try clear hb); (try clear hb2); (try clear hk); (try clear hi); (try clear ho0); (try clear ho1); (try clear ho2); (try clear ho3)) | ((with_reducible refine gate_dst (N := 7) rfl ?_); refine sqx 7 #[.bool false, .slice none 0 0, .slice none 0 0, .slice none 0 0, .int .i64 0, .slice none 0 0] 78 ?_; intro gb543 hg w95 hbox hb; have n0_ := Aside0.mk (Kd.R_below (sqy HO503.out) hb); have n1_ := Aside0.mk (Kd.S_below (by (with_reducible repeat (first | apply Kd.S_alloc | apply Kd.S_drewN | apply Kd.S_drew)); exact HO506.out) hb); have n2_ := Aside0.mk (Kd.R_below (sqy HO509.out) hb); have n3_ := Aside0.mk (Kd.R_below (sqy HO513.out) hb); have n4_ := Aside0.mk (Kd.R_below (sqy HO517.out) hb); have n5_ := Aside0.mk (Kd.S_below (by (with_reducible repeat (first | apply Kd.S_alloc | apply Kd.S_drewN | apply Kd.S_drew)); exact HO520.out) hb); have n6_ := Aside0.mk (Kd.R_below (sqy HO523.out) hb); have n7_ := Aside0.mk (Kd.R_below (sqy HO527.out) hb); have n8_ := Aside0.mk (Kd.R_below (sqy HO532.out) hb); have n9_ := Aside0.mk (Kd.S_below (by (with_reducible repeat (first | apply Kd.S_alloc | apply Kd.S_drewN | apply Kd.S_drew)); exact HO535.out) hb); have n10_ := Aside0.mk (Kd.R_below (sqy HO538.out) hb); have n11_ := Aside0.mk (Kd.R_below (sqy HO542.out) hb); have n12_ := sqb BK496 hb; have n13_ := sqb BK497 hb; have n14_ := sqs HB hb; have n15_ := Aside0.mk (hbox); have n16_ := sqg HB hg; have n17_ := sqg HB hg; have n18_ := sqn BK496 hg; have n19_ := sqm BK496 hg; have n20_ := sqn BK497 hg; have n21_ := sqm BK497 hg; clear HO503; clear HO506; clear HO509; clear HO513; clear HO517; clear HO520; clear HO523; clear HO527; clear HO532; clear HO535; clear HO538; clear HO542; clear BK496; clear BK497; clear HB; have HO503 := n0_; have HO506 := n1_; have HO509 := n2_; have HO513 := n3_; have HO517 := n4_; have HO520 := n5_; have HO523 := n6_; have HO527 := n7_; have HO532 := n8_; have HO535 := n9_; have HO538 := n10_; have HO542 := n11_; have BK496 := n12_; have BK497 := n13_; have HB := n14_; have BK543 := n15_; have GW543 := n16_; have GE543 := n17_; have NB496_543 := n18_; have NB543_496 := n19_; have NB497_543 := n20_; have NB543_497 := n21_; clear n0_ n1_ n2_ n3_ n4_ n5_ n6_ n7_ n8_ n9_ n10_ n11_ n12_ n13_ n14_ n15_ n16_ n17_ n18_ n19_ n20_ n21_; clear hb hbox hg; have hnb96 := NB543_496.out; have hnc96 := NB496_543.out; have hnb97 := NB543_497.out; have hnc97 := NB497_543.out; obtain ⟨hcz98_0, hcz98_1, hcz98_2, hcz98_3, hcz98_4, hcz98_5, hfz98_0, hfz98_1, hfz98_2, hfz98_3, hfz98_4, hfz98_5⟩ := sqc6 BK543; obtain ⟨Ao99, co99, eo99⟩ := Kd.R_slice HO532.out; subst eo99; obtain ⟨Ao100, co100, eo100⟩ := Kd.S_slice HO535.out; subst eo100; obtain ⟨Ao101, co101, eo101⟩ := Kd.R_slice HO538.out; subst eo101; obtain ⟨Ao102, co102, eo102⟩ := Kd.R_slice HO542.out; subst eo102; obtain ⟨hcz103_0, hcz103_1, hcz103_2, hcz103_3, hcz103_4, hcz103_5, hfz103_0, hfz103_1, hfz103_2, hfz103_3, hfz103_4, hfz103_5⟩ := sqc6 BK497) | ((with_reducible refine gate_callee (f := 59) rfl ?_); refine sqL (some 28) Try.func59 #[.agg #[.bool a1_0, .slice A1_1 l1_1.length c1_1, .slice A1_2 l1_2.length c1_2, .slice A1_3 l1_3.length c1_3, .int .i64 a1_4, .slice A1_5 l1_5.length c1_5]] ?_; (with_reducible refine (laws_toAbs.calls k a1_0 _ _ l1_1 _ _ l1_2 _ _ l1_3 a1_4 _ _ l1_5 t544 t545 t548 t551 t554 t555 _ ?side1 ?side2 ?side3 ?side4 ?side5 ?side6 ?side7 ?side8 A23.out).mono ?_); (case side1 => exact Kd.C_below HR1_1.out (sqB HB)); (case side2 => exact HC1_1.out); (case side3 => exact Kd.C_below HR1_2.out (sqB HB)); (case side4 => exact HC1_2.out); (case side5 => exact Kd.C_below HR1_3.out (sqB HB)); (case side6 => exact HC1_3.out); (case side7 => exact Kd.C_below HR1_5.out (sqB HB)); (case side8 => exact HC1_5.out); rintro e w104 ⟨v546, v549, v552, v556, rfl, ho0, ho1, ho2, ho3, hb⟩; refine ⟨_, rfl, ?_⟩; have n0_ := Aside0.mk (Kd.R_mono (Kd.R_told (Kd.R_told (Kd.R_old (by (with_reducible repeat (first | apply Kd.R_alloc | apply Kd.R_drewN | apply Kd.R_drew)); exact (Kd.R_mono (Kd.R_far (p := ⟨gb543, 5, none⟩) (Kd.R_far (p := ⟨gb543, 4, none⟩) (Kd.R_far (p := ⟨gb543, 3, none⟩) (Kd.R_far (p := ⟨gb543, 2, none⟩) (Kd.R_far (p := ⟨gb543, 1, none⟩) (Kd.R_far (p := ⟨gb543, 0, none⟩) (Kd.R_types HO503.out BK543.out (by decide)) (fun _ hk => hk.2) (.bool t529)) (fun _ hk => hk.2) (.slice Ao99 t530.length co99)) (fun _ hk => hk.2) (.slice Ao100 t533.length co100)) (fun _ hk => hk.2) (.slice Ao101 t536.length co101)) (fun _ hk => hk.2) (.int .i64 t539)) (fun _ hk => hk.2) (.slice Ao102 t540.length co102)) (fun _ h_ => h_.1))) hb) (Kd.R_base ho0)) (Kd.R_base ho2)) (fun _ h_ => h_.1)); have n1_ := Aside0.mk (Kd.S_mono (Kd.S_told (Kd.S_told (Kd.S_old (by (with_reducible repeat (first | apply Kd.S_alloc | apply Kd.S_drewN | apply Kd.S_drew)); exact (Kd.S_mono (Kd.S_far (p := ⟨gb543, 5, none⟩) (Kd.S_far (p := ⟨gb543, 4, none⟩) (Kd.S_far (p := ⟨gb543, 3, none⟩) (Kd.S_far (p := ⟨gb543, 2, none⟩) (Kd.S_far (p := ⟨gb543, 1, none⟩) (Kd.S_far (p := ⟨gb543, 0, none⟩) (Kd.S_types HO506.out BK543.out (by decide)) (fun _ hk => hk.2) (.bool t529)) (fun _ hk => hk.2) (.slice Ao99 t530.length co99)) (fun _ hk => hk.2) (.slice Ao100 t533.length co100)) (fun _ hk => hk.2) (.slice Ao101 t536.length co101)) (fun _ hk => hk.2) (.int .i64 t539)) (fun _ hk => hk.2) (.slice Ao102 t540.length co102)) (fun _ h_ => h_.1))) hb) (Kd.S_base ho1)) (Kd.R_base ho3)) (fun _ h_ => h_.1)); have n2_ := Aside0.mk (Kd.R_mono (Kd.R_told (Kd.R_told (Kd.R_old (by (with_reducible repeat (first | apply Kd.R_alloc | apply Kd.R_drewN | apply Kd.R_drew)); exact (Kd.R_mono (Kd.R_far (p := ⟨gb543, 5, none⟩) (Kd.R_far (p := ⟨gb543, 4, none⟩) (Kd.R_far (p := ⟨gb543, 3, none⟩) (Kd.R_far (p := ⟨gb543, 2, none⟩) (Kd.R_far (p := ⟨gb543, 1, none⟩) (Kd.R_far (p := ⟨gb543, 0, none⟩) (Kd.R_types HO509.out BK543.out (by decide)) (fun _ hk => hk.2) (.bool t529)) (fun _ hk => hk.2) (.slice Ao99 t530.length co99)) (fun _ hk => hk.2) (.slice Ao100 t533.length co100)) (fun _ hk => hk.2) (.slice Ao101 t536.length co101)) (fun _ hk => hk.2) (.int .i64 t539)) (fun _ hk => hk.2) (.slice Ao102 t540.length co102)) (fun _ h_ => h_.1))) hb) (Kd.R_base ho0)) (Kd.R_base ho2)) (fun _ h_ => h_.1)); have n3_ := Aside0.mk (Kd.R_elder' (by (with_reducible repeat (first | apply Kd.R_alloc | apply Kd.R_drewN | apply Kd.R_drew)); exact (Kd.R_mono (Kd.R_far (p := ⟨gb543, 5, none⟩) (Kd.R_far (p := ⟨gb543, 4, none⟩) (Kd.R_far (p := ⟨gb543, 3, none⟩) (Kd.R_far (p := ⟨gb543, 2, none⟩) (Kd.R_far (p := ⟨gb543, 1, none⟩) (Kd.R_far (p := ⟨gb543, 0, none⟩) (Kd.R_types HO513.out BK543.out (by decide)) (fun _ hk => hk.2) (.bool t529)) (fun _ hk => hk.2) (.slice Ao99 t530.length co99)) (fun _ hk => hk.2) (.slice Ao100 t533.length co100)) (fun _ hk => hk.2) (.slice Ao101 t536.length co101)) (fun _ hk => hk.2) (.int .i64 t539)) (fun _ hk => hk.2) (.slice Ao102 t540.length co102)) (fun _ h_ => h_.1))) (Kd.R_base ho3) hb); have n4_ := Aside0.mk (Kd.R_mono (Kd.R_told (Kd.R_told (Kd.R_old (by (with_reducible repeat (first | apply Kd.R_alloc | apply Kd.R_drewN | apply Kd.R_drew)); exact (Kd.R_mono (Kd.R_far (p := ⟨gb543, 5, none⟩) (Kd.R_far (p := ⟨gb543, 4, none⟩) (Kd.R_far (p := ⟨gb543, 3, none⟩) (Kd.R_far (p := ⟨gb543, 2, none⟩) (Kd.R_far (p := ⟨gb543, 1, none⟩) (Kd.R_far (p := ⟨gb543, 0, none⟩) (Kd.R_types HO517.out BK543.out (by decide)) (fun _ hk => hk.2) (.bool t529)) (fun _ hk => hk.2) (.slice Ao99 t530.length co99)) (fun _ hk => hk.2) (.slice Ao100 t533.length co100)) (fun _ hk => hk.2) (.slice Ao101 t536.length co101)) (fun _ hk => hk.2) (.int .i64 t539)) (fun _ hk => hk.2) (.slice Ao102 t540.length co102)) (fun _ h_ => h_.1))) hb) (Kd.R_base ho0)) (Kd.R_base ho2)) (fun _ h_ => h_.1)); have n5_ := Aside0.mk (Kd.S_mono (Kd.S_told (Kd.S_told (Kd.S_old (by (with_reducible repeat (first | apply Kd.S_alloc | apply Kd.S_drewN | apply Kd.S_drew)); exact (Kd.S_mono (Kd.S_far (p := ⟨gb543, 5, none⟩) (Kd.S_far (p := ⟨gb543, 4, none⟩) (Kd.S_far (p := ⟨gb543, 3, none⟩) (Kd.S_far (p := ⟨gb543, 2, none⟩) (Kd.S_far (p := ⟨gb543, 1, none⟩) (Kd.S_far (p := ⟨gb543, 0, none⟩) (Kd.S_types HO520.out BK543.out (by decide)) (fun _ hk => hk.2) (.bool t529)) (fun _ hk => hk.2) (.slice Ao99 t530.length co99)) (fun _ hk => hk.2) (.slice Ao100 t533.length co100)) (fun _ hk => hk.2) (.slice Ao101 t536.length co101)) (fun _ hk => hk.2) (.int .i64 t539)) (fun _ hk => hk.2) (.slice Ao102 t540.length co102)) (fun _ h_ => h_.1))) hb) (Kd.S_base ho1)) (Kd.R_base ho3)) (fun _ h_ => h_.1)); have n6_ := Aside0.mk (Kd.R_mono (Kd.R_told (Kd.R_told (Kd.R_old (by (with_reducible repeat (first | apply Kd.R_alloc | apply Kd.R_drewN | apply Kd.R_drew)); exact (Kd.R_mono (Kd.R_far (p := ⟨gb543, 5, none⟩) (Kd.R_far (p := ⟨gb543, 4, none⟩) (Kd.R_far (p := ⟨gb543, 3, none⟩) (Kd.R_far (p := ⟨gb543, 2, none⟩) (Kd.R_far (p := ⟨gb543, 1, none⟩) (Kd.R_far (p := ⟨gb543, 0, none⟩) (Kd.R_types HO523.out BK543.out (by decide)) (fun _ hk => hk.2) (.bool t529)) (fun _ hk => hk.2) (.slice Ao99 t530.length co99)) (fun _ hk => hk.2) (.slice Ao100 t533.length co100)) (fun _ hk => hk.2) (.slice Ao101 t536.length co101)) (fun _ hk => hk.2) (.int .i64 t539)) (fun _ hk => hk.2) (.slice Ao102 t540.length co102)) (fun _ h_ => h_.1))) hb) (Kd.R_base ho0)) (Kd.R_base ho2)) (fun _ h_ => h_.1)); have n7_ := Aside0.mk (Kd.R_elder' (by (with_reducible repeat (first | apply Kd.R_alloc | apply Kd.R_drewN | apply Kd.R_drew)); exact (Kd.R_mono (Kd.R_far (p := ⟨gb543, 5, none⟩) (Kd.R_far (p := ⟨gb543, 4, none⟩) (Kd.R_far (p := ⟨gb543, 3, none⟩) (Kd.R_far (p := ⟨gb543, 2, none⟩) (Kd.R_far (p := ⟨gb543, 1, none⟩) (Kd.R_far (p := ⟨gb543, 0, none⟩) (Kd.R_types HO527.out BK543.out (by decide)) (fun _ hk => hk.2) (.bool t529)) (fun _ hk => hk.2) (.slice Ao99 t530.length co99)) (fun _ hk => hk.2) (.slice Ao100 t533.length co100)) (fun _ hk => hk.2) (.slice Ao101 t536.length co101)) (fun _ hk => hk.2) (.int .i64 t539)) (fun _ hk => hk.2) (.slice Ao102 t540.length co102)) (fun _ h_ => h_.1))) (Kd.R_base ho3) hb); have n8_ := Aside0.mk (Kd.R_mono (Kd.R_told (Kd.R_told (Kd.R_old (by (with_reducible repeat (first | apply Kd.R_alloc | apply Kd.R_drewN | apply Kd.R_drew)); exact (Kd.R_mono (Kd.R_far (p := ⟨gb543, 5, none⟩) (Kd.R_far (p := ⟨gb543, 4, none⟩) (Kd.R_far (p := ⟨gb543, 3, none⟩) (Kd.R_far (p := ⟨gb543, 2, none⟩) (Kd.R_far (p := ⟨gb543, 1, none⟩) (Kd.R_far (p := ⟨gb543, 0, none⟩) (Kd.R_types HO532.out BK543.out (by decide)) (fun _ hk => hk.2) (.bool t529)) (fun _ hk => hk.2) (.slice Ao99 t530.length co99)) (fun _ hk => hk.2) (.slice Ao100 t533.length co100)) (fun _ hk => hk.2) (.slice Ao101 t536.length co101)) (fun _ hk => hk.2) (.int .i64 t539)) (fun _ hk => hk.2) (.slice Ao102 t540.length co102)) (fun _ h_ => h_.1))) hb) (Kd.R_base ho0)) (Kd.R_base ho2)) (fun _ h_ => h_.1)); have n9_ := Aside0.mk (Kd.S_mono (Kd.S_told (Kd.S_told (Kd.S_old (by (with_reducible repeat (first | apply Kd.S_alloc | apply Kd.S_drewN | apply Kd.S_drew)); exact (Kd.S_mono (Kd.S_far (p := ⟨gb543, 5, none⟩) (Kd.S_far (p := ⟨gb543, 4, none⟩) (Kd.S_far (p := ⟨gb543, 3, none⟩) (Kd.S_far (p := ⟨gb543, 2, none⟩) (Kd.S_far (p := ⟨gb543, 1, none⟩) (Kd.S_far (p := ⟨gb543, 0, none⟩) (Kd.S_types HO535.out BK543.out (by decide)) (fun _ hk => hk.2) (.bool t529)) (fun _ hk => hk.2) (.slice Ao99 t530.length co99)) (fun _ hk => hk.2) (.slice Ao100 t533.length co100)) (fun _ hk => hk.2) (.slice Ao101 t536.length co101)) (fun _ hk => hk.2) (.int .i64 t539)) (fun _ hk => hk.2) (.slice Ao102 t540.length co102)) (fun _ h_ => h_.1))) hb) (Kd.S_base ho1)) (Kd.R_base ho3)) (fun _ h_ => h_.1)); have n10_ := Aside0.mk (Kd.R_mono (Kd.R_told (Kd.R_told (Kd.R_old (by (with_reducible repeat (first | apply Kd.R_alloc | apply Kd.R_drewN | apply Kd.R_drew)); exact (Kd.R_mono (Kd.R_far (p := ⟨gb543, 5, none⟩) (Kd.R_far (p := ⟨gb543, 4, none⟩) (Kd.R_far (p := ⟨gb543, 3, none⟩) (Kd.R_far (p := ⟨gb543, 2, none⟩) (Kd.R_far (p := ⟨gb543, 1, none⟩) (Kd.R_far (p := ⟨gb543, 0, none⟩) (Kd.R_types HO538.out BK543.out (by decide)) (fun _ hk => hk.2) (.bool t529)) (fun _ hk => hk.2) (.slice Ao99 t530.length co99)) (fun _ hk => hk.2) (.slice Ao100 t533.length co100)) (fun _ hk => hk.2) (.slice Ao101 t536.length co101)) (fun _ hk => hk.2) (.int .i64 t539)) (fun _ hk => hk.2) (.slice Ao102 t540.length co102)) (fun _ h_ => h_.1))) hb) (Kd.R_base ho0)) (Kd.R_base ho2)) (fun _ h_ => h_.1)); have n11_ := Aside0.mk (Kd.R_elder' (by (with_reducible repeat (first | apply Kd.R_alloc | apply Kd.R_drewN | apply Kd.R_drew)); exact (Kd.R_mono (Kd.R_far (p := ⟨gb543, 5, none⟩) (Kd.R_far (p := ⟨gb543, 4, none⟩) (Kd.R_far (p := ⟨gb543, 3, none⟩) (Kd.R_far (p := ⟨gb543, 2, none⟩) (Kd.R_far (p := ⟨gb543, 1, none⟩) (Kd.R_far (p := ⟨gb543, 0, none⟩) (Kd.R_types HO542.out BK543.out (by decide)) (fun _ hk => hk.2) (.bool t529)) (fun _ hk => hk.2) (.slice Ao99 t530.length co99)) (fun _ hk => hk.2) (.slice Ao100 t533.length co100)) (fun _ hk => hk.2) (.slice Ao101 t536.length co101)) (fun _ hk => hk.2) (.int .i64 t539)) (fun _ hk => hk.2) (.slice Ao102 t540.length co102)) (fun _ h_ => h_.1))) (Kd.R_base ho3) hb); have n12_ := Aside0.mk (Kd.R_lower (Kd.R_new' (Kd.R_new' (Kd.R_new' (Kd.R_new' (Kd.R_new' (Kd.R_new' ho0 (Kd.R_lt (by (with_reducible repeat (first | apply Kd.R_alloc | apply Kd.R_drewN | apply Kd.R_drew)); exact (Kd.R_mono (Kd.R_far (p := ⟨gb543, 5, none⟩) (Kd.R_far (p := ⟨gb543, 4, none⟩) (Kd.R_far (p := ⟨gb543, 3, none⟩) (Kd.R_far (p := ⟨gb543, 2, none⟩) (Kd.R_far (p := ⟨gb543, 1, none⟩) (Kd.R_far (p := ⟨gb543, 0, none⟩) (Kd.R_types HO503.out BK543.out (by decide)) (fun _ hk => hk.2) (.bool t529)) (fun _ hk => hk.2) (.slice Ao99 t530.length co99)) (fun _ hk => hk.2) (.slice Ao100 t533.length co100)) (fun _ hk => hk.2) (.slice Ao101 t536.length co101)) (fun _ hk => hk.2) (.int .i64 t539)) (fun _ hk => hk.2) (.slice Ao102 t540.length co102)) (fun _ h_ => h_.1))))) (Kd.R_lt (by (with_reducible repeat (first | apply Kd.R_alloc | apply Kd.R_drewN | apply Kd.R_drew)); exact (Kd.R_mono (Kd.R_far (p := ⟨gb543, 5, none⟩) (Kd.R_far (p := ⟨gb543, 4, none⟩) (Kd.R_far (p := ⟨gb543, 3, none⟩) (Kd.R_far (p := ⟨gb543, 2, none⟩) (Kd.R_far (p := ⟨gb543, 1, none⟩) (Kd.R_far (p := ⟨gb543, 0, none⟩) (Kd.R_types HO509.out BK543.out (by decide)) (fun _ hk => hk.2) (.bool t529)) (fun _ hk => hk.2) (.slice Ao99 t530.length co99)) (fun _ hk => hk.2) (.slice Ao100 t533.length co100)) (fun _ hk => hk.2) (.slice Ao101 t536.length co101)) (fun _ hk => hk.2) (.int .i64 t539)) (fun _ hk => hk.2) (.slice Ao102 t540.length co102)) (fun _ h_ => h_.1))))) (Kd.R_lt (by (with_reducible repeat (first | apply Kd.R_alloc | apply Kd.R_drewN | apply Kd.R_drew)); exact (Kd.R_mono (Kd.R_far (p := ⟨gb543, 5, none⟩) (Kd.R_far (p := ⟨gb543, 4, none⟩) (Kd.R_far (p := ⟨gb543, 3, none⟩) (Kd.R_far (p := ⟨gb543, 2, none⟩) (Kd.R_far (p := ⟨gb543, 1, none⟩) (Kd.R_far (p := ⟨gb543, 0, none⟩) (Kd.R_types HO517.out BK543.out (by decide)) (fun _ hk => hk.2) (.bool t529)) (fun _ hk => hk.2) (.slice Ao99 t530.length co99)) (fun _ hk => hk.2) (.slice Ao100 t533.length co100)) (fun _ hk => hk.2) (.slice Ao101 t536.length co101)) (fun _ hk => hk.2) (.int .i64 t539)) (fun _ hk => hk.2) (.slice Ao102 t540.length co102)) (fun _ h_ => h_.1))))) (Kd.R_lt (by (with_reducible repeat (first | apply Kd.R_alloc | apply Kd.R_drewN | apply Kd.R_drew)); exact (Kd.R_mono (Kd.R_far (p := ⟨gb543, 5, none⟩) (Kd.R_far (p := ⟨gb543, 4, none⟩) (Kd.R_far (p := ⟨gb543, 3, none⟩) (Kd.R_far (p := ⟨gb543, 2, none⟩) (Kd.R_far (p := ⟨gb543, 1, none⟩) (Kd.R_far (p := ⟨gb543, 0, none⟩) (Kd.R_types HO523.out BK543.out (by decide)) (fun _ hk => hk.2) (.bool t529)) (fun _ hk => hk.2) (.slice Ao99 t530.length co99)) (fun _ hk => hk.2) (.slice Ao100 t533.length co100)) (fun _ hk => hk.2) (.slice Ao101 t536.length co101)) (fun _ hk => hk.2) (.int .i64 t539)) (fun _ hk => hk.2) (.slice Ao102 t540.length co102)) (fun _ h_ => h_.1))))) (Kd.R_lt (by (with_reducible repeat (first | apply Kd.R_alloc | apply Kd.R_drewN | apply Kd.R_drew)); exact (Kd.R_mono (Kd.R_far (p := ⟨gb543, 5, none⟩) (Kd.R_far (p := ⟨gb543, 4, none⟩) (Kd.R_far (p := ⟨gb543, 3, none⟩) (Kd.R_far (p := ⟨gb543, 2, none⟩) (Kd.R_far (p := ⟨gb543, 1, none⟩) (Kd.R_far (p := ⟨gb543, 0, none⟩) (Kd.R_types HO532.out BK543.out (by decide)) (fun _ hk => hk.2) (.bool t529)) (fun _ hk => hk.2) (.slice Ao99 t530.length co99)) (fun _ hk => hk.2) (.slice Ao100 t533.length co100)) (fun _ hk => hk.2) (.slice Ao101 t536.length co101)) (fun _ hk => hk.2) (.int .i64 t539)) (fun _ hk => hk.2) (.slice Ao102 t540.length co102)) (fun _ h_ => h_.1))))) (Kd.R_lt (by (with_reducible repeat (first | apply Kd.R_alloc | apply Kd.R_drewN | apply Kd.R_drew)); exact (Kd.R_mono (Kd.R_far (p := ⟨gb543, 5, none⟩) (Kd.R_far (p := ⟨gb543, 4, none⟩) (Kd.R_far (p := ⟨gb543, 3, none⟩) (Kd.R_far (p := ⟨gb543, 2, none⟩) (Kd.R_far (p := ⟨gb543, 1, none⟩) (Kd.R_far (p := ⟨gb543, 0, none⟩) (Kd.R_types HO538.out BK543.out (by decide)) (fun _ hk => hk.2) (.bool t529)) (fun _ hk => hk.2) (.slice Ao99 t530.length co99)) (fun _ hk => hk.2) (.slice Ao100 t533.length co100)) (fun _ hk => hk.2) (.slice Ao101 t536.length co101)) (fun _ hk => hk.2) (.int .i64 t539)) (fun _ hk => hk.2) (.slice Ao102 t540.length co102)) (fun _ h_ => h_.1))))) (below_size (sqB HB))); have n13_ := Aside0.mk (Kd.S_lower (Kd.S_new' (Kd.S_new' (Kd.S_new' (Kd.S_new' (Kd.S_new' (Kd.S_new' ho1 (Kd.S_lt (by (with_reducible repeat (first | apply Kd.S_alloc | apply Kd.S_drewN | apply Kd.S_drew)); exact (Kd.S_mono (Kd.S_far (p := ⟨gb543, 5, none⟩) (Kd.S_far (p := ⟨gb543, 4, none⟩) (Kd.S_far (p := ⟨gb543, 3, none⟩) (Kd.S_far (p := ⟨gb543, 2, none⟩) (Kd.S_far (p := ⟨gb543, 1, none⟩) (Kd.S_far (p := ⟨gb543, 0, none⟩) (Kd.S_types HO506.out BK543.out (by decide)) (fun _ hk => hk.2) (.bool t529)) (fun _ hk => hk.2) (.slice Ao99 t530.length co99)) (fun _ hk => hk.2) (.slice Ao100 t533.length co100)) (fun _ hk => hk.2) (.slice Ao101 t536.length co101)) (fun _ hk => hk.2) (.int .i64 t539)) (fun _ hk => hk.2) (.slice Ao102 t540.length co102)) (fun _ h_ => h_.1))))) (Kd.R_lt (by (with_reducible repeat (first | apply Kd.R_alloc | apply Kd.R_drewN | apply Kd.R_drew)); exact (Kd.R_mono (Kd.R_far (p := ⟨gb543, 5, none⟩) (Kd.R_far (p := ⟨gb543, 4, none⟩) (Kd.R_far (p := ⟨gb543, 3, none⟩) (Kd.R_far (p := ⟨gb543, 2, none⟩) (Kd.R_far (p := ⟨gb543, 1, none⟩) (Kd.R_far (p := ⟨gb543, 0, none⟩) (Kd.R_types HO513.out BK543.out (by decide)) (fun _ hk => hk.2) (.bool t529)) (fun _ hk => hk.2) (.slice Ao99 t530.length co99)) (fun _ hk => hk.2) (.slice Ao100 t533.length co100)) (fun _ hk => hk.2) (.slice Ao101 t536.length co101)) (fun _ hk => hk.2) (.int .i64 t539)) (fun _ hk => hk.2) (.slice Ao102 t540.length co102)) (fun _ h_ => h_.1))))) (Kd.S_lt (by (with_reducible repeat (first | apply Kd.S_alloc | apply Kd.S_drewN | apply Kd.S_drew)); exact (Kd.S_mono (Kd.S_far (p := ⟨gb543, 5, none⟩) (Kd.S_far (p := ⟨gb543, 4, none⟩) (Kd.S_far (p := ⟨gb543, 3, none⟩) (Kd.S_far (p := ⟨gb543, 2, none⟩) (Kd.S_far (p := ⟨gb543, 1, none⟩) (Kd.S_far (p := ⟨gb543, 0, none⟩) (Kd.S_types HO520.out BK543.out (by decide)) (fun _ hk => hk.2) (.bool t529)) (fun _ hk => hk.2) (.slice Ao99 t530.length co99)) (fun _ hk => hk.2) (.slice Ao100 t533.length co100)) (fun _ hk => hk.2) (.slice Ao101 t536.length co101)) (fun _ hk => hk.2) (.int .i64 t539)) (fun _ hk => hk.2) (.slice Ao102 t540.length co102)) (fun _ h_ => h_.1))))) (Kd.R_lt (by (with_reducible repeat (first | apply Kd.R_alloc | apply Kd.R_drewN | apply Kd.R_drew)); exact (Kd.R_mono (Kd.R_far (p := ⟨gb543, 5, none⟩) (Kd.R_far (p := ⟨gb543, 4, none⟩) (Kd.R_far (p := ⟨gb543, 3, none⟩) (Kd.R_far (p := ⟨gb543, 2, none⟩) (Kd.R_far (p := ⟨gb543, 1, none⟩) (Kd.R_far (p := ⟨gb543, 0, none⟩) (Kd.R_types HO527.out BK543.out (by decide)) (fun _ hk => hk.2) (.bool t529)) (fun _ hk => hk.2) (.slice Ao99 t530.length co99)) (fun _ hk => hk.2) (.slice Ao100 t533.length co100)) (fun _ hk => hk.2) (.slice Ao101 t536.length co101)) (fun _ hk => hk.2) (.int .i64 t539)) (fun _ hk => hk.2) (.slice Ao102 t540.length co102)) (fun _ h_ => h_.1))))) (Kd.S_lt (by (with_reducible repeat (first | apply Kd.S_alloc | apply Kd.S_drewN | apply Kd.S_drew)); exact (Kd.S_mono (Kd.S_far (p := ⟨gb543, 5, none⟩) (Kd.S_far (p := ⟨gb543, 4, none⟩) (Kd.S_far (p := ⟨gb543, 3, none⟩) (Kd.S_far (p := ⟨gb543, 2, none⟩) (Kd.S_far (p := ⟨gb543, 1, none⟩) (Kd.S_far (p := ⟨gb543, 0, none⟩) (Kd.S_types HO535.out BK543.out (by decide)) (fun _ hk => hk.2) (.bool t529)) (fun _ hk => hk.2) (.slice Ao99 t530.length co99)) (fun _ hk => hk.2) (.slice Ao100 t533.length co100)) (fun _ hk => hk.2) (.slice Ao101 t536.length co101)) (fun _ hk => hk.2) (.int .i64 t539)) (fun _ hk => hk.2) (.slice Ao102 t540.length co102)) (fun _ h_ => h_.1))))) (Kd.R_lt (by (with_reducible repeat (first | apply Kd.R_alloc | apply Kd.R_drewN | apply Kd.R_drew)); exact (Kd.R_mono (Kd.R_far (p := ⟨gb543, 5, none⟩) (Kd.R_far (p := ⟨gb543, 4, none⟩) (Kd.R_far (p := ⟨gb543, 3, none⟩) (Kd.R_far (p := ⟨gb543, 2, none⟩) (Kd.R_far (p := ⟨gb543, 1, none⟩) (Kd.R_far (p := ⟨gb543, 0, none⟩) (Kd.R_types HO542.out BK543.out (by decide)) (fun _ hk => hk.2) (.bool t529)) (fun _ hk => hk.2) (.slice Ao99 t530.length co99)) (fun _ hk => hk.2) (.slice Ao100 t533.length co100)) (fun _ hk => hk.2) (.slice Ao101 t536.length co101)) (fun _ hk => hk.2) (.int .i64 t539)) (fun _ hk => hk.2) (.slice Ao102 t540.length co102)) (fun _ h_ => h_.1))))) (below_size (sqB HB))); have n14_ := Aside0.mk (Kd.R_lower (Kd.R_new' (Kd.R_new' (Kd.R_new' (Kd.R_new' (Kd.R_new' (Kd.R_new' ho2 (Kd.R_lt (by (with_reducible repeat (first | apply Kd.R_alloc | apply Kd.R_drewN | apply Kd.R_drew)); exact (Kd.R_mono (Kd.R_far (p := ⟨gb543, 5, none⟩) (Kd.R_far (p := ⟨gb543, 4, none⟩) (Kd.R_far (p := ⟨gb543, 3, none⟩) (Kd.R_far (p := ⟨gb543, 2, none⟩) (Kd.R_far (p := ⟨gb543, 1, none⟩) (Kd.R_far (p := ⟨gb543, 0, none⟩) (Kd.R_types HO503.out BK543.out (by decide)) (fun _ hk => hk.2) (.bool t529)) (fun _ hk => hk.2) (.slice Ao99 t530.length co99)) (fun _ hk => hk.2) (.slice Ao100 t533.length co100)) (fun _ hk => hk.2) (.slice Ao101 t536.length co101)) (fun _ hk => hk.2) (.int .i64 t539)) (fun _ hk => hk.2) (.slice Ao102 t540.length co102)) (fun _ h_ => h_.1))))) (Kd.R_lt (by (with_reducible repeat (first | apply Kd.R_alloc | apply Kd.R_drewN | apply Kd.R_drew)); exact (Kd.R_mono (Kd.R_far (p := ⟨gb543, 5, none⟩) (Kd.R_far (p := ⟨gb543, 4, none⟩) (Kd.R_far (p := ⟨gb543, 3, none⟩) (Kd.R_far (p := ⟨gb543, 2, none⟩) (Kd.R_far (p := ⟨gb543, 1, none⟩) (Kd.R_far (p := ⟨gb543, 0, none⟩) (Kd.R_types HO509.out BK543.out (by decide)) (fun _ hk => hk.2) (.bool t529)) (fun _ hk => hk.2) (.slice Ao99 t530.length co99)) (fun _ hk => hk.2) (.slice Ao100 t533.length co100)) (fun _ hk => hk.2) (.slice Ao101 t536.length co101)) (fun _ hk => hk.2) (.int .i64 t539)) (fun _ hk => hk.2) (.slice Ao102 t540.length co102)) (fun _ h_ => h_.1))))) (Kd.R_lt (by (with_reducible repeat (first | apply Kd.R_alloc | apply Kd.R_drewN | apply Kd.R_drew)); exact (Kd.R_mono (Kd.R_far (p := ⟨gb543, 5, none⟩) (Kd.R_far (p := ⟨gb543, 4, none⟩) (Kd.R_far (p := ⟨gb543, 3, none⟩) (Kd.R_far (p := ⟨gb543, 2, none⟩) (Kd.R_far (p := ⟨gb543, 1, none⟩) (Kd.R_far (p := ⟨gb543, 0, none⟩) (Kd.R_types HO517.out BK543.out (by decide)) (fun _ hk => hk.2) (.bool t529)) (fun _ hk => hk.2) (.slice Ao99 t530.length co99)) (fun _ hk => hk.2) (.slice Ao100 t533.length co100)) (fun _ hk => hk.2) (.slice Ao101 t536.length co101)) (fun _ hk => hk.2) (.int .i64 t539)) (fun _ hk => hk.2) (.slice Ao102 t540.length co102)) (fun _ h_ => h_.1))))) (Kd.R_lt (by (with_reducible repeat (first | apply Kd.R_alloc | apply Kd.R_drewN | apply Kd.R_drew)); exact (Kd.R_mono (Kd.R_far (p := ⟨gb543, 5, none⟩) (Kd.R_far (p := ⟨gb543, 4, none⟩) (Kd.R_far (p := ⟨gb543, 3, none⟩) (Kd.R_far (p := ⟨gb543, 2, none⟩) (Kd.R_far (p := ⟨gb543, 1, none⟩) (Kd.R_far (p := ⟨gb543, 0, none⟩) (Kd.R_types HO523.out BK543.out (by decide)) (fun _ hk => hk.2) (.bool t529)) (fun _ hk => hk.2) (.slice Ao99 t530.length co99)) (fun _ hk => hk.2) (.slice Ao100 t533.length co100)) (fun _ hk => hk.2) (.slice Ao101 t536.length co101)) (fun _ hk => hk.2) (.int .i64 t539)) (fun _ hk => hk.2) (.slice Ao102 t540.length co102)) (fun _ h_ => h_.1))))) (Kd.R_lt (by (with_reducible repeat (first | apply Kd.R_alloc | apply Kd.R_drewN | apply Kd.R_drew)); exact (Kd.R_mono (Kd.R_far (p := ⟨gb543, 5, none⟩) (Kd.R_far (p := ⟨gb543, 4, none⟩) (Kd.R_far (p := ⟨gb543, 3, none⟩) (Kd.R_far (p := ⟨gb543, 2, none⟩) (Kd.R_far (p := ⟨gb543, 1, none⟩) (Kd.R_far (p := ⟨gb543, 0, none⟩) (Kd.R_types HO532.out BK543.out (by decide)) (fun _ hk => hk.2) (.bool t529)) (fun _ hk => hk.2) (.slice Ao99 t530.length co99)) (fun _ hk => hk.2) (.slice Ao100 t533.length co100)) (fun _ hk => hk.2) (.slice Ao101 t536.length co101)) (fun _ hk => hk.2) (.int .i64 t539)) (fun _ hk => hk.2) (.slice Ao102 t540.length co102)) (fun _ h_ => h_.1))))) (Kd.R_lt (by (with_reducible repeat (first | apply Kd.R_alloc | apply Kd.R_drewN | apply Kd.R_drew)); exact (Kd.R_mono (Kd.R_far (p := ⟨gb543, 5, none⟩) (Kd.R_far (p := ⟨gb543, 4, none⟩) (Kd.R_far (p := ⟨gb543, 3, none⟩) (Kd.R_far (p := ⟨gb543, 2, none⟩) (Kd.R_far (p := ⟨gb543, 1, none⟩) (Kd.R_far (p := ⟨gb543, 0, none⟩) (Kd.R_types HO538.out BK543.out (by decide)) (fun _ hk => hk.2) (.bool t529)) (fun _ hk => hk.2) (.slice Ao99 t530.length co99)) (fun _ hk => hk.2) (.slice Ao100 t533.length co100)) (fun _ hk => hk.2) (.slice Ao101 t536.length co101)) (fun _ hk => hk.2) (.int .i64 t539)) (fun _ hk => hk.2) (.slice Ao102 t540.length co102)) (fun _ h_ => h_.1))))) (below_size (sqB HB))); have n15_ := Aside0.mk (Kd.R_lower (Kd.R_new' (Kd.R_new' (Kd.R_new' ho3 (Kd.R_lt (by (with_reducible repeat (first | apply Kd.R_alloc | apply Kd.R_drewN | apply Kd.R_drew)); exact (Kd.R_mono (Kd.R_far (p := ⟨gb543, 5, none⟩) (Kd.R_far (p := ⟨gb543, 4, none⟩) (Kd.R_far (p := ⟨gb543, 3, none⟩) (Kd.R_far (p := ⟨gb543, 2, none⟩) (Kd.R_far (p := ⟨gb543, 1, none⟩) (Kd.R_far (p := ⟨gb543, 0, none⟩) (Kd.R_types HO513.out BK543.out (by decide)) (fun _ hk => hk.2) (.bool t529)) (fun _ hk => hk.2) (.slice Ao99 t530.length co99)) (fun _ hk => hk.2) (.slice Ao100 t533.length co100)) (fun _ hk => hk.2) (.slice Ao101 t536.length co101)) (fun _ hk => hk.2) (.int .i64 t539)) (fun _ hk => hk.2) (.slice Ao102 t540.length co102)) (fun _ h_ => h_.1))))) (Kd.R_lt (by (with_reducible repeat (first | apply Kd.R_alloc | apply Kd.R_drewN | apply Kd.R_drew)); exact (Kd.R_mono (Kd.R_far (p := ⟨gb543, 5, none⟩) (Kd.R_far (p := ⟨gb543, 4, none⟩) (Kd.R_far (p := ⟨gb543, 3, none⟩) (Kd.R_far (p := ⟨gb543, 2, none⟩) (Kd.R_far (p := ⟨gb543, 1, none⟩) (Kd.R_far (p := ⟨gb543, 0, none⟩) (Kd.R_types HO527.out BK543.out (by decide)) (fun _ hk => hk.2) (.bool t529)) (fun _ hk => hk.2) (.slice Ao99 t530.length co99)) (fun _ hk => hk.2) (.slice Ao100 t533.length co100)) (fun _ hk => hk.2) (.slice Ao101 t536.length co101)) (fun _ hk => hk.2) (.int .i64 t539)) (fun _ hk => hk.2) (.slice Ao102 t540.length co102)) (fun _ h_ => h_.1))))) (Kd.R_lt (by (with_reducible repeat (first | apply Kd.R_alloc | apply Kd.R_drewN | apply Kd.R_drew)); exact (Kd.R_mono (Kd.R_far (p := ⟨gb543, 5, none⟩) (Kd.R_far (p := ⟨gb543, 4, none⟩) (Kd.R_far (p := ⟨gb543, 3, none⟩) (Kd.R_far (p := ⟨gb543, 2, none⟩) (Kd.R_far (p := ⟨gb543, 1, none⟩) (Kd.R_far (p := ⟨gb543, 0, none⟩) (Kd.R_types HO542.out BK543.out (by decide)) (fun _ hk => hk.2) (.bool t529)) (fun _ hk => hk.2) (.slice Ao99 t530.length co99)) (fun _ hk => hk.2) (.slice Ao100 t533.length co100)) (fun _ hk => hk.2) (.slice Ao101 t536.length co101)) (fun _ hk => hk.2) (.int .i64 t539)) (fun _ hk => hk.2) (.slice Ao102 t540.length co102)) (fun _ h_ => h_.1))))) (below_size (sqB HB))); have n16_ := Aside0.mk (blk_below (g := gb496) (o := .cells #[.bool a0_0, .slice A0_1 l0_1.length c0_1, .slice A0_2 l0_2.length c0_2, .slice A0_3 l0_3.length c0_3, .int .i64 a0_4, .slice A0_5 l0_5.length c0_5] 72 (0, 0)) (by refine sqt ?_; refine blk_far ?_ NB496_543.out _; refine sqt ?_; refine blk_far ?_ NB496_543.out _; refine sqt ?_; refine blk_far ?_ NB496_543.out _; refine sqt ?_; refine blk_far ?_ NB496_543.out _; refine sqt ?_; refine blk_far ?_ NB496_543.out _; refine sqt ?_; refine blk_far ?_ NB496_543.out _; refine sqt ?_; exact BK496.out) hb); have n17_ := Aside0.mk (blk_below (g := gb497) (o := .cells #[.bool a1_0, .slice A1_1 l1_1.length c1_1, .slice A1_2 l1_2.length c1_2, .slice A1_3 l1_3.length c1_3, .int .i64 a1_4, .slice A1_5 l1_5.length c1_5] 72 (0, 0)) (by refine sqt ?_; refine blk_far ?_ NB497_543.out _; refine sqt ?_; refine blk_far ?_ NB497_543.out _; refine sqt ?_; refine blk_far ?_ NB497_543.out _; refine sqt ?_; refine blk_far ?_ NB497_543.out _; refine sqt ?_; refine blk_far ?_ NB497_543.out _; refine sqt ?_; refine blk_far ?_ NB497_543.out _; refine sqt ?_; exact BK497.out) hb); have n18_ := Aside0.mk (blk_below (g := gb543) (o := .cells #[.bool t529, .slice Ao99 t530.length co99, .slice Ao100 t533.length co100, .slice Ao101 t536.length co101, .int .i64 t539, .slice Ao102 t540.length co102] 78 (0, 0)) (by refine sqt ?_; refine blk_put (cs := #[.bool t529, .slice Ao99 t530.length co99, .slice Ao100 t533.length co100, .slice Ao101 t536.length co101, .int .i64 t539, .slice none 0 0]) ?_ 5 _ rfl; refine sqt ?_; refine blk_put (cs := #[.bool t529, .slice Ao99 t530.length co99, .slice Ao100 t533.length co100, .slice Ao101 t536.length co101, .int .i64 0, .slice none 0 0]) ?_ 4 _ rfl; refine sqt ?_; refine blk_put (cs := #[.bool t529, .slice Ao99 t530.length co99, .slice Ao100 t533.length co100, .slice none 0 0, .int .i64 0, .slice none 0 0]) ?_ 3 _ rfl; refine sqt ?_; refine blk_put (cs := #[.bool t529, .slice Ao99 t530.length co99, .slice none 0 0, .slice none 0 0, .int .i64 0, .slice none 0 0]) ?_ 2 _ rfl; refine sqt ?_; refine blk_put (cs := #[.bool t529, .slice none 0 0, .slice none 0 0, .slice none 0 0, .int .i64 0, .slice none 0 0]) ?_ 1 _ rfl; refine sqt ?_; refine blk_put (cs := #[.bool false, .slice none 0 0, .slice none 0 0, .slice none 0 0, .int .i64 0, .slice none 0 0]) ?_ 0 _ rfl; refine sqt ?_; exact BK543.out) hb); have n19_ := sqs HB hb; clear HO503; clear HO506; clear HO509; clear HO513; clear HO517; clear HO520; clear HO523; clear HO527; clear HO532; clear HO535; clear HO538; clear HO542; clear BK496; clear BK497; clear BK543; clear HB; have HO503 := n0_; have HO506 := n1_; have HO509 := n2_; have HO513 := n3_; have HO517 := n4_; have HO520 := n5_; have HO523 := n6_; have HO527 := n7_; have HO532 := n8_; have HO535 := n9_; have HO538 := n10_; have HO542 := n11_; have HO547 := n12_; have HO550 := n13_; have HO553 := n14_; have HO557 := n15_; have BK496 := n16_; have BK497 := n17_; have BK543 := n18_; have HB := n19_; clear n0_ n1_ n2_ n3_ n4_ n5_ n6_ n7_ n8_ n9_ n10_ n11_ n12_ n13_ n14_ n15_ n16_ n17_ n18_ n19_; (try clear hb); (try clear hb2); (try clear hk); (try clear hi); (try clear ho0); (try clear ho1); (try clear ho2); (try clear ho3)) | ((with_reducible refine gate_dst (N := 8) rfl ?_); refine sqx 8 #[.bool false, .slice none 0 0, .slice none 0 0, .slice none 0 0, .int .i64 0, .slice none 0 0] 78 ?_; intro gb558 hg w105 hbox hb; have n0_ := Aside0.mk (Kd.R_below (sqy HO503.out) hb); have n1_ := Aside0.mk (Kd.S_below (by (with_reducible repeat (first | apply Kd.S_alloc | apply Kd.S_drewN | apply Kd.S_drew)); exact HO506.out) hb); have n2_ := Aside0.mk (Kd.R_below (sqy HO509.out) hb); have n3_ := Aside0.mk (Kd.R_below (sqy HO513.out) hb); have n4_ := Aside0.mk (Kd.R_below (sqy HO517.out) hb); have n5_ := Aside0.mk (Kd.S_below (by (with_reducible repeat (first | apply Kd.S_alloc | apply Kd.S_drewN | apply Kd.S_drew)); exact HO520.out) hb); have n6_ := Aside0.mk (Kd.R_below (sqy HO523.out) hb); have n7_ := Aside0.mk (Kd.R_below (sqy HO527.out) hb); have n8_ := Aside0.mk (Kd.R_below (sqy HO532.out) hb); have n9_ := Aside0.mk (Kd.S_below (by (with_reducible repeat (first | apply Kd.S_alloc | apply Kd.S_drewN | apply Kd.S_drew)); exact HO535.out) hb); have n10_ := Aside0.mk (Kd.R_below (sqy HO538.out) hb); have n11_ := Aside0.mk (Kd.R_below (sqy HO542.out) hb); have n12_ := Aside0.mk (Kd.R_below (sqy HO547.out) hb); have n13_ := Aside0.mk (Kd.S_below (by (with_reducible repeat (first | apply Kd.S_alloc | apply Kd.S_drewN | apply Kd.S_drew)); exact HO550.out) hb); have n14_ := Aside0.mk (Kd.R_below (sqy HO553.out) hb); have n15_ := Aside0.mk (Kd.R_below (sqy HO557.out) hb); have n16_ := sqb BK496 hb; have n17_ := sqb BK497 hb; have n18_ := sqb BK543 hb; have n19_ := sqs HB hb; have n20_ := Aside0.mk (hbox); have n21_ := sqg HB hg; have n22_ := sqg HB hg; have n23_ := sqn BK496 hg; have n24_ := sqm BK496 hg; have n25_ := sqn BK497 hg; have n26_ := sqm BK497 hg; have n27_ := sqn BK543 hg; have n28_ := sqm BK543 hg; clear HO503; clear HO506; clear HO509; clear HO513; clear HO517; clear HO520; clear HO523; clear HO527; clear HO532; clear HO535; clear HO538; clear HO542; clear HO547; clear HO550; clear HO553; clear HO557; clear BK496; clear BK497; clear BK543; clear HB; have HO503 := n0_; have HO506 := n1_; have HO509 := n2_; have HO513 := n3_; have HO517 := n4_; have HO520 := n5_; have HO523 := n6_; have HO527 := n7_; have HO532 := n8_; have HO535 := n9_; have HO538 := n10_; have HO542 := n11_; have HO547 := n12_; have HO550 := n13_; have HO553 := n14_; have HO557 := n15_; have BK496 := n16_; have BK497 := n17_; have BK543 := n18_; have HB := n19_; have BK558 := n20_; have GW558 := n21_; have GE558 := n22_; have NB496_558 := n23_; have NB558_496 := n24_; have NB497_558 := n25_; have NB558_497 := n26_; have NB543_558 := n27_; have NB558_543 := n28_; clear n0_ n1_ n2_ n3_ n4_ n5_ n6_ n7_ n8_ n9_ n10_ n11_ n12_ n13_ n14_ n15_ n16_ n17_ n18_ n19_ n20_ n21_ n22_ n23_ n24_ n25_ n26_ n27_ n28_; clear hb hbox hg; have hnb106 := NB558_496.out; have hnc106 := NB496_558.out; have hnb107 := NB558_497.out; have hnc107 := NB497_558.out; have hnb108 := NB558_543.out; have hnc108 := NB543_558.out; obtain ⟨hcz109_0, hcz109_1, hcz109_2, hcz109_3, hcz109_4, hcz109_5, hfz109_0, hfz109_1, hfz109_2, hfz109_3, hfz109_4, hfz109_5⟩ := sqc6 BK558; obtain ⟨Ao110, co110, eo110⟩ := Kd.R_slice HO547.out; subst eo110; obtain ⟨Ao111, co111, eo111⟩ := Kd.S_slice HO550.out; subst eo111; obtain ⟨Ao112, co112, eo112⟩ := Kd.R_slice HO553.out; subst eo112; obtain ⟨Ao113, co113, eo113⟩ := Kd.R_slice HO557.out; subst eo113; obtain ⟨hcz114_0, hcz114_1, hcz114_2, hcz114_3, hcz114_4, hcz114_5, hfz114_0, hfz114_1, hfz114_2, hfz114_3, hfz114_4, hfz114_5⟩ := sqc6 BK543) | ((with_reducible refine gate_callee (f := 70) rfl ?_); refine sqL (some 31) Try.func70 #[.agg #[.bool t529, .slice Ao99 t530.length co99, .slice Ao100 t533.length co100, .slice Ao101 t536.length co101, .int .i64 t539, .slice Ao102 t540.length co102], .agg #[.bool t544, .slice Ao110 t545.length co110, .slice Ao111 t548.length co111, .slice Ao112 t551.length co112, .int .i64 t554, .slice Ao113 t555.length co113]] ?_; (with_reducible refine (impl_AbsIn.calls k t529 _ _ t530 _ _ t533 _ _ t536 t539 _ _ t540 t544 _ _ t545 _ _ t548 _ _ t551 t554 _ _ t555 t559 _ ?side1 ?side2 ?side3 ?side4 ?side5 ?side6 ?side7 ?side8 ?side9 ?side10 ?side11 ?side12 ?side13 ?side14 ?side15 ?side16 A24.out).mono ?_); (case side1 => refine (Kd.R_reads' (e := 30) (base := w.heap.size) (ok := fun k_ => ((((((some k_ ≠ (.slice Ao101 t536.length co101 : Value).ownBlock ∧ some k_ ≠ (.slice Ao84 t501.length co84 : Value).ownBlock) ∧ some k_ ≠ (.slice Ao86 t507.length co86 : Value).ownBlock) ∧ some k_ ≠ (.slice Ao88 t515.length co88 : Value).ownBlock) ∧ some k_ ≠ (.slice Ao90 t521.length co90 : Value).ownBlock) ∧ some k_ ≠ (.slice Ao110 t545.length co110 : Value).ownBlock) ∧ some k_ ≠ (.slice Ao112 t551.length co112 : Value).ownBlock)) (n := t530.length) (c := co99) ?_).2.2; exact (by (with_reducible repeat (first | apply Kd.R_alloc | apply Kd.R_drewN | apply Kd.R_drew)); exact (Kd.R_mono (Kd.R_far (p := ⟨gb558, 5, none⟩) (Kd.R_far (p := ⟨gb558, 4, none⟩) (Kd.R_far (p := ⟨gb558, 3, none⟩) (Kd.R_far (p := ⟨gb558, 2, none⟩) (Kd.R_far (p := ⟨gb558, 1, none⟩) (Kd.R_far (p := ⟨gb558, 0, none⟩) (Kd.R_types HO532.out BK558.out (by decide)) (fun _ hk => hk.2) (.bool t544)) (fun _ hk => hk.2) (.slice Ao110 t545.length co110)) (fun _ hk => hk.2) (.slice Ao111 t548.length co111)) (fun _ hk => hk.2) (.slice Ao112 t551.length co112)) (fun _ hk => hk.2) (.int .i64 t554)) (fun _ hk => hk.2) (.slice Ao113 t555.length co113)) (fun _ h_ => h_.1)))); (case side2 => exact (Kd.R_reads' HO532.out).2.1); (case side3 => refine (Kd.S_reads' (e := 132) (base := w.heap.size) (ok := fun k_ => ((((((some k_ ≠ (.slice Ao102 t540.length co102 : Value).ownBlock ∧ some k_ ≠ (.slice Ao85 t504.length co85 : Value).ownBlock) ∧ some k_ ≠ (.slice Ao87 t511.length co87 : Value).ownBlock) ∧ some k_ ≠ (.slice Ao89 t518.length co89 : Value).ownBlock) ∧ some k_ ≠ (.slice Ao91 t525.length co91 : Value).ownBlock) ∧ some k_ ≠ (.slice Ao111 t548.length co111 : Value).ownBlock) ∧ some k_ ≠ (.slice Ao113 t555.length co113 : Value).ownBlock)) (n := t533.length) (c := co100) ?_).2.2; exact (by (with_reducible repeat (first | apply Kd.S_alloc | apply Kd.S_drewN | apply Kd.S_drew)); exact (Kd.S_mono (Kd.S_far (p := ⟨gb558, 5, none⟩) (Kd.S_far (p := ⟨gb558, 4, none⟩) (Kd.S_far (p := ⟨gb558, 3, none⟩) (Kd.S_far (p := ⟨gb558, 2, none⟩) (Kd.S_far (p := ⟨gb558, 1, none⟩) (Kd.S_far (p := ⟨gb558, 0, none⟩) (Kd.S_types HO535.out BK558.out (by decide)) (fun _ hk => hk.2) (.bool t544)) (fun _ hk => hk.2) (.slice Ao110 t545.length co110)) (fun _ hk => hk.2) (.slice Ao111 t548.length co111)) (fun _ hk => hk.2) (.slice Ao112 t551.length co112)) (fun _ hk => hk.2) (.int .i64 t554)) (fun _ hk => hk.2) (.slice Ao113 t555.length co113)) (fun _ h_ => h_.1)))); (case side4 => exact (Kd.S_reads' HO535.out).2.1); (case side5 => refine (Kd.R_reads' (e := 30) (base := w.heap.size) (ok := fun k_ => ((((((some k_ ≠ (.slice Ao99 t530.length co99 : Value).ownBlock ∧ some k_ ≠ (.slice Ao84 t501.length co84 : Value).ownBlock) ∧ some k_ ≠ (.slice Ao86 t507.length co86 : Value).ownBlock) ∧ some k_ ≠ (.slice Ao88 t515.length co88 : Value).ownBlock) ∧ some k_ ≠ (.slice Ao90 t521.length co90 : Value).ownBlock) ∧ some k_ ≠ (.slice Ao110 t545.length co110 : Value).ownBlock) ∧ some k_ ≠ (.slice Ao112 t551.length co112 : Value).ownBlock)) (n := t536.length) (c := co101) ?_).2.2; exact (by (with_reducible repeat (first | apply Kd.R_alloc | apply Kd.R_drewN | apply Kd.R_drew)); exact (Kd.R_mono (Kd.R_far (p := ⟨gb558, 5, none⟩) (Kd.R_far (p := ⟨gb558, 4, none⟩) (Kd.R_far (p := ⟨gb558, 3, none⟩) (Kd.R_far (p := ⟨gb558, 2, none⟩) (Kd.R_far (p := ⟨gb558, 1, none⟩) (Kd.R_far (p := ⟨gb558, 0, none⟩) (Kd.R_types HO538.out BK558.out (by decide)) (fun _ hk => hk.2) (.bool t544)) (fun _ hk => hk.2) (.slice Ao110 t545.length co110)) (fun _ hk => hk.2) (.slice Ao111 t548.length co111)) (fun _ hk => hk.2) (.slice Ao112 t551.length co112)) (fun _ hk => hk.2) (.int .i64 t554)) (fun _ hk => hk.2) (.slice Ao113 t555.length co113)) (fun _ h_ => h_.1)))); (case side6 => exact (Kd.R_reads' HO538.out).2.1); (case side7 => refine (Kd.R_reads' (e := 3) (base := w.heap.size) (ok := fun k_ => (((True ∧ some k_ ≠ (.slice Ao87 t511.length co87 : Value).ownBlock) ∧ some k_ ≠ (.slice Ao91 t525.length co91 : Value).ownBlock) ∧ some k_ ≠ (.slice Ao113 t555.length co113 : Value).ownBlock)) (n := t540.length) (c := co102) ?_).2.2; exact (by (with_reducible repeat (first | apply Kd.R_alloc | apply Kd.R_drewN | apply Kd.R_drew)); exact (Kd.R_mono (Kd.R_far (p := ⟨gb558, 5, none⟩) (Kd.R_far (p := ⟨gb558, 4, none⟩) (Kd.R_far (p := ⟨gb558, 3, none⟩) (Kd.R_far (p := ⟨gb558, 2, none⟩) (Kd.R_far (p := ⟨gb558, 1, none⟩) (Kd.R_far (p := ⟨gb558, 0, none⟩) (Kd.R_types HO542.out BK558.out (by decide)) (fun _ hk => hk.2) (.bool t544)) (fun _ hk => hk.2) (.slice Ao110 t545.length co110)) (fun _ hk => hk.2) (.slice Ao111 t548.length co111)) (fun _ hk => hk.2) (.slice Ao112 t551.length co112)) (fun _ hk => hk.2) (.int .i64 t554)) (fun _ hk => hk.2) (.slice Ao113 t555.length co113)) (fun _ h_ => h_.1)))); (case side8 => exact (Kd.R_reads' HO542.out).2.1); (case side9 => refine (Kd.R_reads' (e := 30) (base := w.heap.size) (ok := fun k_ => ((((((some k_ ≠ (.slice Ao112 t551.length co112 : Value).ownBlock ∧ some k_ ≠ (.slice Ao84 t501.length co84 : Value).ownBlock) ∧ some k_ ≠ (.slice Ao86 t507.length co86 : Value).ownBlock) ∧ some k_ ≠ (.slice Ao88 t515.length co88 : Value).ownBlock) ∧ some k_ ≠ (.slice Ao90 t521.length co90 : Value).ownBlock) ∧ some k_ ≠ (.slice Ao99 t530.length co99 : Value).ownBlock) ∧ some k_ ≠ (.slice Ao101 t536.length co101 : Value).ownBlock)) (n := t545.length) (c := co110) ?_).2.2; exact (by (with_reducible repeat (first | apply Kd.R_alloc | apply Kd.R_drewN | apply Kd.R_drew)); exact (Kd.R_mono (Kd.R_far (p := ⟨gb558, 5, none⟩) (Kd.R_far (p := ⟨gb558, 4, none⟩) (Kd.R_far (p := ⟨gb558, 3, none⟩) (Kd.R_far (p := ⟨gb558, 2, none⟩) (Kd.R_far (p := ⟨gb558, 1, none⟩) (Kd.R_far (p := ⟨gb558, 0, none⟩) (Kd.R_types HO547.out BK558.out (by decide)) (fun _ hk => hk.2) (.bool t544)) (fun _ hk => hk.2) (.slice Ao110 t545.length co110)) (fun _ hk => hk.2) (.slice Ao111 t548.length co111)) (fun _ hk => hk.2) (.slice Ao112 t551.length co112)) (fun _ hk => hk.2) (.int .i64 t554)) (fun _ hk => hk.2) (.slice Ao113 t555.length co113)) (fun _ h_ => h_.1)))); (case side10 => exact (Kd.R_reads' HO547.out).2.1); (case side11 => refine (Kd.S_reads' (e := 132) (base := w.heap.size) (ok := fun k_ => ((((((some k_ ≠ (.slice Ao113 t555.length co113 : Value).ownBlock ∧ some k_ ≠ (.slice Ao85 t504.length co85 : Value).ownBlock) ∧ some k_ ≠ (.slice Ao87 t511.length co87 : Value).ownBlock) ∧ some k_ ≠ (.slice Ao89 t518.length co89 : Value).ownBlock) ∧ some k_ ≠ (.slice Ao91 t525.length co91 : Value).ownBlock) ∧ some k_ ≠ (.slice Ao100 t533.length co100 : Value).ownBlock) ∧ some k_ ≠ (.slice Ao102 t540.length co102 : Value).ownBlock)) (n := t548.length) (c := co111) ?_).2.2; exact (by (with_reducible repeat (first | apply Kd.S_alloc | apply Kd.S_drewN | apply Kd.S_drew)); exact (Kd.S_mono (Kd.S_far (p := ⟨gb558, 5, none⟩) (Kd.S_far (p := ⟨gb558, 4, none⟩) (Kd.S_far (p := ⟨gb558, 3, none⟩) (Kd.S_far (p := ⟨gb558, 2, none⟩) (Kd.S_far (p := ⟨gb558, 1, none⟩) (Kd.S_far (p := ⟨gb558, 0, none⟩) (Kd.S_types HO550.out BK558.out (by decide)) (fun _ hk => hk.2) (.bool t544)) (fun _ hk => hk.2) (.slice Ao110 t545.length co110)) (fun _ hk => hk.2) (.slice Ao111 t548.length co111)) (fun _ hk => hk.2) (.slice Ao112 t551.length co112)) (fun _ hk => hk.2) (.int .i64 t554)) (fun _ hk => hk.2) (.slice Ao113 t555.length co113)) (fun _ h_ => h_.1)))); (case side12 => exact (Kd.S_reads' HO550.out).2.1); (case side13 => refine (Kd.R_reads' (e := 30) (base := w.heap.size) (ok := fun k_ => ((((((some k_ ≠ (.slice Ao110 t545.length co110 : Value).ownBlock ∧ some k_ ≠ (.slice Ao84 t501.length co84 : Value).ownBlock) ∧ some k_ ≠ (.slice Ao86 t507.length co86 : Value).ownBlock) ∧ some k_ ≠ (.slice Ao88 t515.length co88 : Value).ownBlock) ∧ some k_ ≠ (.slice Ao90 t521.length co90 : Value).ownBlock) ∧ some k_ ≠ (.slice Ao99 t530.length co99 : Value).ownBlock) ∧ some k_ ≠ (.slice Ao101 t536.length co101 : Value).ownBlock)) (n := t551.length) (c := co112) ?_).2.2; exact (by (with_reducible repeat (first | apply Kd.R_alloc | apply Kd.R_drewN | apply Kd.R_drew)); exact (Kd.R_mono (Kd.R_far (p := ⟨gb558, 5, none⟩) (Kd.R_far (p := ⟨gb558, 4, none⟩) (Kd.R_far (p := ⟨gb558, 3, none⟩) (Kd.R_far (p := ⟨gb558, 2, none⟩) (Kd.R_far (p := ⟨gb558, 1, none⟩) (Kd.R_far (p := ⟨gb558, 0, none⟩) (Kd.R_types HO553.out BK558.out (by decide)) (fun _ hk => hk.2) (.bool t544)) (fun _ hk => hk.2) (.slice Ao110 t545.length co110)) (fun _ hk => hk.2) (.slice Ao111 t548.length co111)) (fun _ hk => hk.2) (.slice Ao112 t551.length co112)) (fun _ hk => hk.2) (.int .i64 t554)) (fun _ hk => hk.2) (.slice Ao113 t555.length co113)) (fun _ h_ => h_.1)))); (case side14 => exact (Kd.R_reads' HO553.out).2.1); (case side15 => refine (Kd.R_reads' (e := 3) (base := w.heap.size) (ok := fun k_ => (((True ∧ some k_ ≠ (.slice Ao87 t511.length co87 : Value).ownBlock) ∧ some k_ ≠ (.slice Ao91 t525.length co91 : Value).ownBlock) ∧ some k_ ≠ (.slice Ao102 t540.length co102 : Value).ownBlock)) (n := t555.length) (c := co113) ?_).2.2; exact (by (with_reducible repeat (first | apply Kd.R_alloc | apply Kd.R_drewN | apply Kd.R_drew)); exact (Kd.R_mono (Kd.R_far (p := ⟨gb558, 5, none⟩) (Kd.R_far (p := ⟨gb558, 4, none⟩) (Kd.R_far (p := ⟨gb558, 3, none⟩) (Kd.R_far (p := ⟨gb558, 2, none⟩) (Kd.R_far (p := ⟨gb558, 1, none⟩) (Kd.R_far (p := ⟨gb558, 0, none⟩) (Kd.R_types HO557.out BK558.out (by decide)) (fun _ hk => hk.2) (.bool t544)) (fun _ hk => hk.2) (.slice Ao110 t545.length co110)) (fun _ hk => hk.2) (.slice Ao111 t548.length co111)) (fun _ hk => hk.2) (.slice Ao112 t551.length co112)) (fun _ hk => hk.2) (.int .i64 t554)) (fun _ hk => hk.2) (.slice Ao113 t555.length co113)) (fun _ h_ => h_.1)))); (case side16 => exact (Kd.R_reads' HO557.out).2.1); rintro e w115 ⟨rfl, hb⟩; refine ⟨_, rfl, ?_⟩; have n0_ := Aside0.mk (Kd.R_below (by (with_reducible repeat (first | apply Kd.R_alloc | apply Kd.R_drewN | apply Kd.R_drew)); exact (Kd.R_mono (Kd.R_far (p := ⟨gb558, 5, none⟩) (Kd.R_far (p := ⟨gb558, 4, none⟩) (Kd.R_far (p := ⟨gb558, 3, none⟩) (Kd.R_far (p := ⟨gb558, 2, none⟩) (Kd.R_far (p := ⟨gb558, 1, none⟩) (Kd.R_far (p := ⟨gb558, 0, none⟩) (Kd.R_types HO503.out BK558.out (by decide)) (fun _ hk => hk.2) (.bool t544)) (fun _ hk => hk.2) (.slice Ao110 t545.length co110)) (fun _ hk => hk.2) (.slice Ao111 t548.length co111)) (fun _ hk => hk.2) (.slice Ao112 t551.length co112)) (fun _ hk => hk.2) (.int .i64 t554)) (fun _ hk => hk.2) (.slice Ao113 t555.length co113)) (fun _ h_ => h_.1))) hb); have n1_ := Aside0.mk (Kd.S_below (by (with_reducible repeat (first | apply Kd.S_alloc | apply Kd.S_drewN | apply Kd.S_drew)); exact (Kd.S_mono (Kd.S_far (p := ⟨gb558, 5, none⟩) (Kd.S_far (p := ⟨gb558, 4, none⟩) (Kd.S_far (p := ⟨gb558, 3, none⟩) (Kd.S_far (p := ⟨gb558, 2, none⟩) (Kd.S_far (p := ⟨gb558, 1, none⟩) (Kd.S_far (p := ⟨gb558, 0, none⟩) (Kd.S_types HO506.out BK558.out (by decide)) (fun _ hk => hk.2) (.bool t544)) (fun _ hk => hk.2) (.slice Ao110 t545.length co110)) (fun _ hk => hk.2) (.slice Ao111 t548.length co111)) (fun _ hk => hk.2) (.slice Ao112 t551.length co112)) (fun _ hk => hk.2) (.int .i64 t554)) (fun _ hk => hk.2) (.slice Ao113 t555.length co113)) (fun _ h_ => h_.1))) hb); have n2_ := Aside0.mk (Kd.R_below (by (with_reducible repeat (first | apply Kd.R_alloc | apply Kd.R_drewN | apply Kd.R_drew)); exact (Kd.R_mono (Kd.R_far (p := ⟨gb558, 5, none⟩) (Kd.R_far (p := ⟨gb558, 4, none⟩) (Kd.R_far (p := ⟨gb558, 3, none⟩) (Kd.R_far (p := ⟨gb558, 2, none⟩) (Kd.R_far (p := ⟨gb558, 1, none⟩) (Kd.R_far (p := ⟨gb558, 0, none⟩) (Kd.R_types HO509.out BK558.out (by decide)) (fun _ hk => hk.2) (.bool t544)) (fun _ hk => hk.2) (.slice Ao110 t545.length co110)) (fun _ hk => hk.2) (.slice Ao111 t548.length co111)) (fun _ hk => hk.2) (.slice Ao112 t551.length co112)) (fun _ hk => hk.2) (.int .i64 t554)) (fun _ hk => hk.2) (.slice Ao113 t555.length co113)) (fun _ h_ => h_.1))) hb); have n3_ := Aside0.mk (Kd.R_below (by (with_reducible repeat (first | apply Kd.R_alloc | apply Kd.R_drewN | apply Kd.R_drew)); exact (Kd.R_mono (Kd.R_far (p := ⟨gb558, 5, none⟩) (Kd.R_far (p := ⟨gb558, 4, none⟩) (Kd.R_far (p := ⟨gb558, 3, none⟩) (Kd.R_far (p := ⟨gb558, 2, none⟩) (Kd.R_far (p := ⟨gb558, 1, none⟩) (Kd.R_far (p := ⟨gb558, 0, none⟩) (Kd.R_types HO513.out BK558.out (by decide)) (fun _ hk => hk.2) (.bool t544)) (fun _ hk => hk.2) (.slice Ao110 t545.length co110)) (fun _ hk => hk.2) (.slice Ao111 t548.length co111)) (fun _ hk => hk.2) (.slice Ao112 t551.length co112)) (fun _ hk => hk.2) (.int .i64 t554)) (fun _ hk => hk.2) (.slice Ao113 t555.length co113)) (fun _ h_ => h_.1))) hb); have n4_ := Aside0.mk (Kd.R_below (by (with_reducible repeat (first | apply Kd.R_alloc | apply Kd.R_drewN | apply Kd.R_drew)); exact (Kd.R_mono (Kd.R_far (p := ⟨gb558, 5, none⟩) (Kd.R_far (p := ⟨gb558, 4, none⟩) (Kd.R_far (p := ⟨gb558, 3, none⟩) (Kd.R_far (p := ⟨gb558, 2, none⟩) (Kd.R_far (p := ⟨gb558, 1, none⟩) (Kd.R_far (p := ⟨gb558, 0, none⟩) (Kd.R_types HO517.out BK558.out (by decide)) (fun _ hk => hk.2) (.bool t544)) (fun _ hk => hk.2) (.slice Ao110 t545.length co110)) (fun _ hk => hk.2) (.slice Ao111 t548.length co111)) (fun _ hk => hk.2) (.slice Ao112 t551.length co112)) (fun _ hk => hk.2) (.int .i64 t554)) (fun _ hk => hk.2) (.slice Ao113 t555.length co113)) (fun _ h_ => h_.1))) hb); have n5_ := Aside0.mk (Kd.S_below (by (with_reducible repeat (first | apply Kd.S_alloc | apply Kd.S_drewN | apply Kd.S_drew)); exact (Kd.S_mono (Kd.S_far (p := ⟨gb558, 5, none⟩) (Kd.S_far (p := ⟨gb558, 4, none⟩) (Kd.S_far (p := ⟨gb558, 3, none⟩) (Kd.S_far (p := ⟨gb558, 2, none⟩) (Kd.S_far (p := ⟨gb558, 1, none⟩) (Kd.S_far (p := ⟨gb558, 0, none⟩) (Kd.S_types HO520.out BK558.out (by decide)) (fun _ hk => hk.2) (.bool t544)) (fun _ hk => hk.2) (.slice Ao110 t545.length co110)) (fun _ hk => hk.2) (.slice Ao111 t548.length co111)) (fun _ hk => hk.2) (.slice Ao112 t551.length co112)) (fun _ hk => hk.2) (.int .i64 t554)) (fun _ hk => hk.2) (.slice Ao113 t555.length co113)) (fun _ h_ => h_.1))) hb); have n6_ := Aside0.mk (Kd.R_below (by (with_reducible repeat (first | apply Kd.R_alloc | apply Kd.R_drewN | apply Kd.R_drew)); exact (Kd.R_mono (Kd.R_far (p := ⟨gb558, 5, none⟩) (Kd.R_far (p := ⟨gb558, 4, none⟩) (Kd.R_far (p := ⟨gb558, 3, none⟩) (Kd.R_far (p := ⟨gb558, 2, none⟩) (Kd.R_far (p := ⟨gb558, 1, none⟩) (Kd.R_far (p := ⟨gb558, 0, none⟩) (Kd.R_types HO523.out BK558.out (by decide)) (fun _ hk => hk.2) (.bool t544)) (fun _ hk => hk.2) (.slice Ao110 t545.length co110)) (fun _ hk => hk.2) (.slice Ao111 t548.length co111)) (fun _ hk => hk.2) (.slice Ao112 t551.length co112)) (fun _ hk => hk.2) (.int .i64 t554)) (fun _ hk => hk.2) (.slice Ao113 t555.length co113)) (fun _ h_ => h_.1))) hb); have n7_ := Aside0.mk (Kd.R_below (by (with_reducible repeat (first | apply Kd.R_alloc | apply Kd.R_drewN | apply Kd.R_drew)); exact (Kd.R_mono (Kd.R_far (p := ⟨gb558, 5, none⟩) (Kd.R_far (p := ⟨gb558, 4, none⟩) (Kd.R_far (p := ⟨gb558, 3, none⟩) (Kd.R_far (p := ⟨gb558, 2, none⟩) (Kd.R_far (p := ⟨gb558, 1, none⟩) (Kd.R_far (p := ⟨gb558, 0, none⟩) (Kd.R_types HO527.out BK558.out (by decide)) (fun _ hk => hk.2) (.bool t544)) (fun _ hk => hk.2) (.slice Ao110 t545.length co110)) (fun _ hk => hk.2) (.slice Ao111 t548.length co111)) (fun _ hk => hk.2) (.slice Ao112 t551.length co112)) (fun _ hk => hk.2) (.int .i64 t554)) (fun _ hk => hk.2) (.slice Ao113 t555.length co113)) (fun _ h_ => h_.1))) hb); have n8_ := Aside0.mk (Kd.R_below (by (with_reducible repeat (first | apply Kd.R_alloc | apply Kd.R_drewN | apply Kd.R_drew)); exact (Kd.R_mono (Kd.R_far (p := ⟨gb558, 5, none⟩) (Kd.R_far (p := ⟨gb558, 4, none⟩) (Kd.R_far (p := ⟨gb558, 3, none⟩) (Kd.R_far (p := ⟨gb558, 2, none⟩) (Kd.R_far (p := ⟨gb558, 1, none⟩) (Kd.R_far (p := ⟨gb558, 0, none⟩) (Kd.R_types HO532.out BK558.out (by decide)) (fun _ hk => hk.2) (.bool t544)) (fun _ hk => hk.2) (.slice Ao110 t545.length co110)) (fun _ hk => hk.2) (.slice Ao111 t548.length co111)) (fun _ hk => hk.2) (.slice Ao112 t551.length co112)) (fun _ hk => hk.2) (.int .i64 t554)) (fun _ hk => hk.2) (.slice Ao113 t555.length co113)) (fun _ h_ => h_.1))) hb); have n9_ := Aside0.mk (Kd.S_below (by (with_reducible repeat (first | apply Kd.S_alloc | apply Kd.S_drewN | apply Kd.S_drew)); exact (Kd.S_mono (Kd.S_far (p := ⟨gb558, 5, none⟩) (Kd.S_far (p := ⟨gb558, 4, none⟩) (Kd.S_far (p := ⟨gb558, 3, none⟩) (Kd.S_far (p := ⟨gb558, 2, none⟩) (Kd.S_far (p := ⟨gb558, 1, none⟩) (Kd.S_far (p := ⟨gb558, 0, none⟩) (Kd.S_types HO535.out BK558.out (by decide)) (fun _ hk => hk.2) (.bool t544)) (fun _ hk => hk.2) (.slice Ao110 t545.length co110)) (fun _ hk => hk.2) (.slice Ao111 t548.length co111)) (fun _ hk => hk.2) (.slice Ao112 t551.length co112)) (fun _ hk => hk.2) (.int .i64 t554)) (fun _ hk => hk.2) (.slice Ao113 t555.length co113)) (fun _ h_ => h_.1))) hb); have n10_ := Aside0.mk (Kd.R_below (by (with_reducible repeat (first | apply Kd.R_alloc | apply Kd.R_drewN | apply Kd.R_drew)); exact (Kd.R_mono (Kd.R_far (p := ⟨gb558, 5, none⟩) (Kd.R_far (p := ⟨gb558, 4, none⟩) (Kd.R_far (p := ⟨gb558, 3, none⟩) (Kd.R_far (p := ⟨gb558, 2, none⟩) (Kd.R_far (p := ⟨gb558, 1, none⟩) (Kd.R_far (p := ⟨gb558, 0, none⟩) (Kd.R_types HO538.out BK558.out (by decide)) (fun _ hk => hk.2) (.bool t544)) (fun _ hk => hk.2) (.slice Ao110 t545.length co110)) (fun _ hk => hk.2) (.slice Ao111 t548.length co111)) (fun _ hk => hk.2) (.slice Ao112 t551.length co112)) (fun _ hk => hk.2) (.int .i64 t554)) (fun _ hk => hk.2) (.slice Ao113 t555.length co113)) (fun _ h_ => h_.1))) hb); have n11_ := Aside0.mk (Kd.R_below (by (with_reducible repeat (first | apply Kd.R_alloc | apply Kd.R_drewN | apply Kd.R_drew)); exact (Kd.R_mono (Kd.R_far (p := ⟨gb558, 5, none⟩) (Kd.R_far (p := ⟨gb558, 4, none⟩) (Kd.R_far (p := ⟨gb558, 3, none⟩) (Kd.R_far (p := ⟨gb558, 2, none⟩) (Kd.R_far (p := ⟨gb558, 1, none⟩) (Kd.R_far (p := ⟨gb558, 0, none⟩) (Kd.R_types HO542.out BK558.out (by decide)) (fun _ hk => hk.2) (.bool t544)) (fun _ hk => hk.2) (.slice Ao110 t545.length co110)) (fun _ hk => hk.2) (.slice Ao111 t548.length co111)) (fun _ hk => hk.2) (.slice Ao112 t551.length co112)) (fun _ hk => hk.2) (.int .i64 t554)) (fun _ hk => hk.2) (.slice Ao113 t555.length co113)) (fun _ h_ => h_.1))) hb); have n12_ := Aside0.mk (Kd.R_below (by (with_reducible repeat (first | apply Kd.R_alloc | apply Kd.R_drewN | apply Kd.R_drew)); exact (Kd.R_mono (Kd.R_far (p := ⟨gb558, 5, none⟩) (Kd.R_far (p := ⟨gb558, 4, none⟩) (Kd.R_far (p := ⟨gb558, 3, none⟩) (Kd.R_far (p := ⟨gb558, 2, none⟩) (Kd.R_far (p := ⟨gb558, 1, none⟩) (Kd.R_far (p := ⟨gb558, 0, none⟩) (Kd.R_types HO547.out BK558.out (by decide)) (fun _ hk => hk.2) (.bool t544)) (fun _ hk => hk.2) (.slice Ao110 t545.length co110)) (fun _ hk => hk.2) (.slice Ao111 t548.length co111)) (fun _ hk => hk.2) (.slice Ao112 t551.length co112)) (fun _ hk => hk.2) (.int .i64 t554)) (fun _ hk => hk.2) (.slice Ao113 t555.length co113)) (fun _ h_ => h_.1))) hb); have n13_ := Aside0.mk (Kd.S_below (by (with_reducible repeat (first | apply Kd.S_alloc | apply Kd.S_drewN | apply Kd.S_drew)); exact (Kd.S_mono (Kd.S_far (p := ⟨gb558, 5, none⟩) (Kd.S_far (p := ⟨gb558, 4, none⟩) (Kd.S_far (p := ⟨gb558, 3, none⟩) (Kd.S_far (p := ⟨gb558, 2, none⟩) (Kd.S_far (p := ⟨gb558, 1, none⟩) (Kd.S_far (p := ⟨gb558, 0, none⟩) (Kd.S_types HO550.out BK558.out (by decide)) (fun _ hk => hk.2) (.bool t544)) (fun _ hk => hk.2) (.slice Ao110 t545.length co110)) (fun _ hk => hk.2) (.slice Ao111 t548.length co111)) (fun _ hk => hk.2) (.slice Ao112 t551.length co112)) (fun _ hk => hk.2) (.int .i64 t554)) (fun _ hk => hk.2) (.slice Ao113 t555.length co113)) (fun _ h_ => h_.1))) hb); have n14_ := Aside0.mk (Kd.R_below (by (with_reducible repeat (first | apply Kd.R_alloc | apply Kd.R_drewN | apply Kd.R_drew)); exact (Kd.R_mono (Kd.R_far (p := ⟨gb558, 5, none⟩) (Kd.R_far (p := ⟨gb558, 4, none⟩) (Kd.R_far (p := ⟨gb558, 3, none⟩) (Kd.R_far (p := ⟨gb558, 2, none⟩) (Kd.R_far (p := ⟨gb558, 1, none⟩) (Kd.R_far (p := ⟨gb558, 0, none⟩) (Kd.R_types HO553.out BK558.out (by decide)) (fun _ hk => hk.2) (.bool t544)) (fun _ hk => hk.2) (.slice Ao110 t545.length co110)) (fun _ hk => hk.2) (.slice Ao111 t548.length co111)) (fun _ hk => hk.2) (.slice Ao112 t551.length co112)) (fun _ hk => hk.2) (.int .i64 t554)) (fun _ hk => hk.2) (.slice Ao113 t555.length co113)) (fun _ h_ => h_.1))) hb); have n15_ := Aside0.mk (Kd.R_below (by (with_reducible repeat (first | apply Kd.R_alloc | apply Kd.R_drewN | apply Kd.R_drew)); exact (Kd.R_mono (Kd.R_far (p := ⟨gb558, 5, none⟩) (Kd.R_far (p := ⟨gb558, 4, none⟩) (Kd.R_far (p := ⟨gb558, 3, none⟩) (Kd.R_far (p := ⟨gb558, 2, none⟩) (Kd.R_far (p := ⟨gb558, 1, none⟩) (Kd.R_far (p := ⟨gb558, 0, none⟩) (Kd.R_types HO557.out BK558.out (by decide)) (fun _ hk => hk.2) (.bool t544)) (fun _ hk => hk.2) (.slice Ao110 t545.length co110)) (fun _ hk => hk.2) (.slice Ao111 t548.length co111)) (fun _ hk => hk.2) (.slice Ao112 t551.length co112)) (fun _ hk => hk.2) (.int .i64 t554)) (fun _ hk => hk.2) (.slice Ao113 t555.length co113)) (fun _ h_ => h_.1))) hb); have n16_ := Aside0.mk (blk_below (g := gb496) (o := .cells #[.bool a0_0, .slice A0_1 l0_1.length c0_1, .slice A0_2 l0_2.length c0_2, .slice A0_3 l0_3.length c0_3, .int .i64 a0_4, .slice A0_5 l0_5.length c0_5] 72 (0, 0)) (by refine sqt ?_; refine blk_far ?_ NB496_558.out _; refine sqt ?_; refine blk_far ?_ NB496_558.out _; refine sqt ?_; refine blk_far ?_ NB496_558.out _; refine sqt ?_; refine blk_far ?_ NB496_558.out _; refine sqt ?_; refine blk_far ?_ NB496_558.out _; refine sqt ?_; refine blk_far ?_ NB496_558.out _; refine sqt ?_; exact BK496.out) hb); have n17_ := Aside0.mk (blk_below (g := gb497) (o := .cells #[.bool a1_0, .slice A1_1 l1_1.length c1_1, .slice A1_2 l1_2.length c1_2, .slice A1_3 l1_3.length c1_3, .int .i64 a1_4, .slice A1_5 l1_5.length c1_5] 72 (0, 0)) (by refine sqt ?_; refine blk_far ?_ NB497_558.out _; refine sqt ?_; refine blk_far ?_ NB497_558.out _; refine sqt ?_; refine blk_far ?_ NB497_558.out _; refine sqt ?_; refine blk_far ?_ NB497_558.out _; refine sqt ?_; refine blk_far ?_ NB497_558.out _; refine sqt ?_; refine blk_far ?_ NB497_558.out _; refine sqt ?_; exact BK497.out) hb); have n18_ := Aside0.mk (blk_below (g := gb543) (o := .cells #[.bool t529, .slice Ao99 t530.length co99, .slice Ao100 t533.length co100, .slice Ao101 t536.length co101, .int .i64 t539, .slice Ao102 t540.length co102] 78 (0, 0)) (by refine sqt ?_; refine blk_far ?_ NB543_558.out _; refine sqt ?_; refine blk_far ?_ NB543_558.out _; refine sqt ?_; refine blk_far ?_ NB543_558.out _; refine sqt ?_; refine blk_far ?_ NB543_558.out _; refine sqt ?_; refine blk_far ?_ NB543_558.out _; refine sqt ?_; refine blk_far ?_ NB543_558.out _; refine sqt ?_; exact BK543.out) hb); have n19_ := Aside0.mk (blk_below (g := gb558) (o := .cells #[.bool t544, .slice Ao110 t545.length co110, .slice Ao111 t548.length co111, .slice Ao112 t551.length co112, .int .i64 t554, .slice Ao113 t555.length co113] 78 (0, 0)) (by refine sqt ?_; refine blk_put (cs := #[.bool t544, .slice Ao110 t545.length co110, .slice Ao111 t548.length co111, .slice Ao112 t551.length co112, .int .i64 t554, .slice none 0 0]) ?_ 5 _ rfl; refine sqt ?_; refine blk_put (cs := #[.bool t544, .slice Ao110 t545.length co110, .slice Ao111 t548.length co111, .slice Ao112 t551.length co112, .int .i64 0, .slice none 0 0]) ?_ 4 _ rfl; refine sqt ?_; refine blk_put (cs := #[.bool t544, .slice Ao110 t545.length co110, .slice Ao111 t548.length co111, .slice none 0 0, .int .i64 0, .slice none 0 0]) ?_ 3 _ rfl; refine sqt ?_; refine blk_put (cs := #[.bool t544, .slice Ao110 t545.length co110, .slice none 0 0, .slice none 0 0, .int .i64 0, .slice none 0 0]) ?_ 2 _ rfl; refine sqt ?_; refine blk_put (cs := #[.bool t544, .slice none 0 0, .slice none 0 0, .slice none 0 0, .int .i64 0, .slice none 0 0]) ?_ 1 _ rfl; refine sqt ?_; refine blk_put (cs := #[.bool false, .slice none 0 0, .slice none 0 0, .slice none 0 0, .int .i64 0, .slice none 0 0]) ?_ 0 _ rfl; refine sqt ?_; exact BK558.out) hb); have n20_ := sqs HB hb; clear HO503; clear HO506; clear HO509; clear HO513; clear HO517; clear HO520; clear HO523; clear HO527; clear HO532; clear HO535; clear HO538; clear HO542; clear HO547; clear HO550; clear HO553; clear HO557; clear BK496; clear BK497; clear BK543; clear BK558; clear HB; have HO503 := n0_; have HO506 := n1_; have HO509 := n2_; have HO513 := n3_; have HO517 := n4_; have HO520 := n5_; have HO523 := n6_; have HO527 := n7_; have HO532 := n8_; have HO535 := n9_; have HO538 := n10_; have HO542 := n11_; have HO547 := n12_; have HO550 := n13_; have HO553 := n14_; have HO557 := n15_; have BK496 := n16_; have BK497 := n17_; have BK543 := n18_; have BK558 := n19_; have HB := n20_; clear n0_ n1_ n2_ n3_ n4_ n5_ n6_ n7_ n8_ n9_ n10_ n11_ n12_ n13_ n14_ n15_ n16_ n17_ n18_ n19_ n20_; (try clear hb); (try clear hb2); (try clear hk); (try clear hi)))
 replace HO503 := Aside0.mk (Kd.R_drew HO503.out)
 replace HO506 := Aside0.mk (Kd.S_drew HO506.out)
 replace HO509 := Aside0.mk (Kd.R_drew HO509.out)
 replace HO513 := Aside0.mk (Kd.R_drew HO513.out)
 replace HO517 := Aside0.mk (Kd.R_drew HO517.out)
 replace HO520 := Aside0.mk (Kd.S_drew HO520.out)
 replace HO523 := Aside0.mk (Kd.R_drew HO523.out)
 replace HO527 := Aside0.mk (Kd.R_drew HO527.out)
 replace HO532 := Aside0.mk (Kd.R_drew HO532.out)
 replace HO535 := Aside0.mk (Kd.S_drew HO535.out)
 replace HO538 := Aside0.mk (Kd.R_drew HO538.out)
 replace HO542 := Aside0.mk (Kd.R_drew HO542.out)
 replace HO547 := Aside0.mk (Kd.R_drew HO547.out)
 replace HO550 := Aside0.mk (Kd.S_drew HO550.out)
 replace HO553 := Aside0.mk (Kd.R_drew HO553.out)
 replace HO557 := Aside0.mk (Kd.R_drew HO557.out)
 replace BK496 := Aside0.mk (blk_drew BK496.out)
 replace BK497 := Aside0.mk (blk_drew BK497.out)
 replace BK543 := Aside0.mk (blk_drew BK543.out)
 replace BK558 := Aside0.mk (blk_drew BK558.out)
 replace HB := Aside0.mk (below_drew1 HB.out)
 refine start_ (n := 5) (S := fun w' => w'.cell? ⟨gb543, 0, none⟩ = some (.bool t529) ∧ w'.cell? ⟨gb543, 1, none⟩ = some (.slice Ao99 t530.length co99) ∧ w'.cell? ⟨gb543, 2, none⟩ = some (.slice Ao100 t533.length co100) ∧ w'.cell? ⟨gb543, 3, none⟩ = some (.slice Ao101 t536.length co101) ∧ w'.cell? ⟨gb543, 4, none⟩ = some (.int .i64 t539) ∧ w'.cell? ⟨gb543, 5, none⟩ = some (.slice Ao102 t540.length co102) ∧ w'.cell? ⟨gb496, 0, none⟩ = some (.bool a0_0) ∧ w'.cell? ⟨gb496, 1, none⟩ = some (.slice A0_1 l0_1.length c0_1) ∧ w'.cell? ⟨gb496, 2, none⟩ = some (.slice A0_2 l0_2.length c0_2) ∧ w'.cell? ⟨gb496, 3, none⟩ = some (.slice A0_3 l0_3.length c0_3) ∧ w'.cell? ⟨gb496, 4, none⟩ = some (.int .i64 a0_4) ∧ w'.cell? ⟨gb496, 5, none⟩ = some (.slice A0_5 l0_5.length c0_5)) (ds := []) #[false, false, false, false, false] (by kernel_rfl) rfl rfl sqz (fun hHeld => ?_)
 generalize w115.drew = w116 at HO503 HO506 HO509 HO513 HO517 HO520 HO523 HO527 HO532 HO535 HO538 HO542 HO547 HO550 HO553 HO557 BK496 BK497 BK543 BK558 HB hHeld ⊢
 refine take_ (i := 0) (N := some 35) (v := ?_) (a' := ?_) #[true, false, false, false, false] rfl rfl (by kernel_rfl) (fun _ _ _ h => h) (Or.inl ⟨by rfl, ?_⟩) hHeld ?_ ?_
 rotate_left
 ·rintro w' ⟨s0, s1, s2, s3, s4, s5, s6, s7, s8, s9, s10, s11⟩
  go_simp
  with_reducible rfl
 rotate_left
 ·simp only [Act.put, List.setIfInBounds_toArray, List.set_cons_zero, List.set_cons_succ, i64_w, i32_w]
  rfl
 refine take_ (i := 1) (N := some 36) (v := ?_) (a' := ?_) #[true, true, false, false, false] rfl rfl (by kernel_rfl) (fun _ _ _ h => h) (Or.inl ⟨by rfl, ?_⟩) hHeld ?_ ?_
 rotate_left
 ·rintro w' ⟨s0, s1, s2, s3, s4, s5, s6, s7, s8, s9, s10, s11⟩
  go_simp
  with_reducible rfl
 rotate_left
 ·simp only [Act.put, List.setIfInBounds_toArray, List.set_cons_zero, List.set_cons_succ, i64_w, i32_w]
  rfl
 refine one_ (i := 2) (N := some 37) #[true, true, true, false, false] rfl rfl (by kernel_rfl) (by decide) (fun K hK => ?_)
 refine sqG Try.func59 #[.agg #[.bool a0_0, .slice A0_1 l0_1.length c0_1, .slice A0_2 l0_2.length c0_2, .slice A0_3 l0_3.length c0_3, .int .i64 a0_4, .slice A0_5 l0_5.length c0_5]] ?_
 with_reducible refine (laws_toAbs.calls k a0_0 _ _ l0_1 _ _ l0_2 _ _ l0_3 a0_4 _ _ l0_5 t560 t561 t564 t567 t570 t571 _ ?side1 ?side2 ?side3 ?side4 ?side5 ?side6 ?side7 ?side8 A68.out).mono ?_
 (case side1 => exact sqC (Kd.C_below HR0_1.out HB.out))
 (case side2 => exact HC0_1.out)
 (case side3 => exact sqC (Kd.C_below HR0_2.out HB.out))
 (case side4 => exact HC0_2.out)
 (case side5 => exact sqC (Kd.C_below HR0_3.out HB.out))
 (case side6 => exact HC0_3.out)
 (case side7 => exact sqC (Kd.C_below HR0_5.out HB.out))
 (case side8 => exact HC0_5.out)
 rintro e w117 ⟨v562, v565, v568, v572, rfl, ho0, ho1, ho2, ho3, hb⟩
 refine ⟨_, rfl, ?_⟩
 have n0_ := Aside0.mk (Kd.R_mono (Kd.R_told (Kd.R_told (Kd.R_old (sqy HO503.out) hb) (Kd.R_base ho0)) (Kd.R_base ho2)) (fun _ h_ => h_.1))
 have n1_ := Aside0.mk (Kd.S_mono (Kd.S_told (Kd.S_told (Kd.S_old (by (with_reducible repeat (first | apply Kd.S_alloc | apply Kd.S_drewN | apply Kd.S_drew)); exact HO506.out) hb) (Kd.S_base ho1)) (Kd.R_base ho3)) (fun _ h_ => h_.1))
 have n2_ := Aside0.mk (Kd.R_mono (Kd.R_told (Kd.R_told (Kd.R_old (sqy HO509.out) hb) (Kd.R_base ho0)) (Kd.R_base ho2)) (fun _ h_ => h_.1))
 have n3_ := Aside0.mk (Kd.R_elder' (sqy HO513.out) (Kd.R_base ho3) hb)
 have n4_ := Aside0.mk (Kd.R_mono (Kd.R_told (Kd.R_told (Kd.R_old (sqy HO517.out) hb) (Kd.R_base ho0)) (Kd.R_base ho2)) (fun _ h_ => h_.1))
 have n5_ := Aside0.mk (Kd.S_mono (Kd.S_told (Kd.S_told (Kd.S_old (by (with_reducible repeat (first | apply Kd.S_alloc | apply Kd.S_drewN | apply Kd.S_drew)); exact HO520.out) hb) (Kd.S_base ho1)) (Kd.R_base ho3)) (fun _ h_ => h_.1))
 have n6_ := Aside0.mk (Kd.R_mono (Kd.R_told (Kd.R_told (Kd.R_old (sqy HO523.out) hb) (Kd.R_base ho0)) (Kd.R_base ho2)) (fun _ h_ => h_.1))
 have n7_ := Aside0.mk (Kd.R_elder' (sqy HO527.out) (Kd.R_base ho3) hb)
 have n8_ := Aside0.mk (Kd.R_mono (Kd.R_told (Kd.R_told (Kd.R_old (sqy HO532.out) hb) (Kd.R_base ho0)) (Kd.R_base ho2)) (fun _ h_ => h_.1))
 have n9_ := Aside0.mk (Kd.S_mono (Kd.S_told (Kd.S_told (Kd.S_old (by (with_reducible repeat (first | apply Kd.S_alloc | apply Kd.S_drewN | apply Kd.S_drew)); exact HO535.out) hb) (Kd.S_base ho1)) (Kd.R_base ho3)) (fun _ h_ => h_.1))
 have n10_ := Aside0.mk (Kd.R_mono (Kd.R_told (Kd.R_told (Kd.R_old (sqy HO538.out) hb) (Kd.R_base ho0)) (Kd.R_base ho2)) (fun _ h_ => h_.1))
 have n11_ := Aside0.mk (Kd.R_elder' (sqy HO542.out) (Kd.R_base ho3) hb)
 have n12_ := Aside0.mk (Kd.R_mono (Kd.R_told (Kd.R_told (Kd.R_old (sqy HO547.out) hb) (Kd.R_base ho0)) (Kd.R_base ho2)) (fun _ h_ => h_.1))
 have n13_ := Aside0.mk (Kd.S_mono (Kd.S_told (Kd.S_told (Kd.S_old (by (with_reducible repeat (first | apply Kd.S_alloc | apply Kd.S_drewN | apply Kd.S_drew)); exact HO550.out) hb) (Kd.S_base ho1)) (Kd.R_base ho3)) (fun _ h_ => h_.1))
 have n14_ := Aside0.mk (Kd.R_mono (Kd.R_told (Kd.R_told (Kd.R_old (sqy HO553.out) hb) (Kd.R_base ho0)) (Kd.R_base ho2)) (fun _ h_ => h_.1))
 have n15_ := Aside0.mk (Kd.R_elder' (sqy HO557.out) (Kd.R_base ho3) hb)
 have n16_ := Aside0.mk (Kd.R_lower (Kd.R_new' (Kd.R_new' (Kd.R_new' (Kd.R_new' (Kd.R_new' (Kd.R_new' (Kd.R_new' (Kd.R_new' ho0 (Kd.R_lt (sqy HO503.out))) (Kd.R_lt (sqy HO509.out))) (Kd.R_lt (sqy HO517.out))) (Kd.R_lt (sqy HO523.out))) (Kd.R_lt (sqy HO532.out))) (Kd.R_lt (sqy HO538.out))) (Kd.R_lt (sqy HO547.out))) (Kd.R_lt (sqy HO553.out))) (below_size (sqB HB)))
 have n17_ := Aside0.mk (Kd.S_lower (Kd.S_new' (Kd.S_new' (Kd.S_new' (Kd.S_new' (Kd.S_new' (Kd.S_new' (Kd.S_new' (Kd.S_new' ho1 (Kd.S_lt (by (with_reducible repeat (first | apply Kd.S_alloc | apply Kd.S_drewN | apply Kd.S_drew)); exact HO506.out))) (Kd.R_lt (sqy HO513.out))) (Kd.S_lt (by (with_reducible repeat (first | apply Kd.S_alloc | apply Kd.S_drewN | apply Kd.S_drew)); exact HO520.out))) (Kd.R_lt (sqy HO527.out))) (Kd.S_lt (by (with_reducible repeat (first | apply Kd.S_alloc | apply Kd.S_drewN | apply Kd.S_drew)); exact HO535.out))) (Kd.R_lt (sqy HO542.out))) (Kd.S_lt (by (with_reducible repeat (first | apply Kd.S_alloc | apply Kd.S_drewN | apply Kd.S_drew)); exact HO550.out))) (Kd.R_lt (sqy HO557.out))) (below_size (sqB HB)))
 have n18_ := Aside0.mk (Kd.R_lower (Kd.R_new' (Kd.R_new' (Kd.R_new' (Kd.R_new' (Kd.R_new' (Kd.R_new' (Kd.R_new' (Kd.R_new' ho2 (Kd.R_lt (sqy HO503.out))) (Kd.R_lt (sqy HO509.out))) (Kd.R_lt (sqy HO517.out))) (Kd.R_lt (sqy HO523.out))) (Kd.R_lt (sqy HO532.out))) (Kd.R_lt (sqy HO538.out))) (Kd.R_lt (sqy HO547.out))) (Kd.R_lt (sqy HO553.out))) (below_size (sqB HB)))
 have n19_ := Aside0.mk (Kd.R_lower (Kd.R_new' (Kd.R_new' (Kd.R_new' (Kd.R_new' ho3 (Kd.R_lt (sqy HO513.out))) (Kd.R_lt (sqy HO527.out))) (Kd.R_lt (sqy HO542.out))) (Kd.R_lt (sqy HO557.out))) (below_size (sqB HB)))
 have n20_ := sqb BK496 hb
 have n21_ := sqb BK497 hb
 have n22_ := sqb BK543 hb
 have n23_ := sqb BK558 hb
 have n24_ := sqs HB hb
 clear HO503
 clear HO506
 clear HO509
 clear HO513
 clear HO517
 clear HO520
 clear HO523
 clear HO527
 clear HO532
 clear HO535
 clear HO538
 clear HO542
 clear HO547
 clear HO550
 clear HO553
 clear HO557
 clear BK496
 clear BK497
 clear BK543
 clear BK558
 clear HB
 have HO503 := n0_
 have HO506 := n1_
 have HO509 := n2_
 have HO513 := n3_
 have HO517 := n4_
 have HO520 := n5_
 have HO523 := n6_
 have HO527 := n7_
 have HO532 := n8_
 have HO535 := n9_
 have HO538 := n10_
 have HO542 := n11_
 have HO547 := n12_
 have HO550 := n13_
 have HO553 := n14_
 have HO557 := n15_
 have HO563 := n16_
 have HO566 := n17_
 have HO569 := n18_
 have HO573 := n19_
 have BK496 := n20_
 have BK497 := n21_
 have BK543 := n22_
 have BK558 := n23_
 have HB := n24_
 clear n0_ n1_ n2_ n3_ n4_ n5_ n6_ n7_ n8_ n9_ n10_ n11_ n12_ n13_ n14_ n15_ n16_ n17_ n18_ n19_ n20_ n21_ n22_ n23_ n24_
 (try clear hb)
 (try clear hb2)
 (try clear hk)
 (try clear hi)
 (try clear ho0)
 (try clear ho1)
 (try clear ho2)
 (try clear ho3)
 obtain ⟨Ao118, co118, eo118⟩ := Kd.R_slice HO563.out
 (first | subst eo118 | (injection eo118 with f1_ f2_ f3_; have f4_ := f1_.symm; have f5_ := f3_.symm; clear f1_ f2_ f3_; subst f4_; subst f5_))
 obtain ⟨Ao119, co119, eo119⟩ := Kd.S_slice HO566.out
 (first | subst eo119 | (injection eo119 with f1_ f2_ f3_; have f4_ := f1_.symm; have f5_ := f3_.symm; clear f1_ f2_ f3_; subst f4_; subst f5_))
 obtain ⟨Ao120, co120, eo120⟩ := Kd.R_slice HO569.out
 (first | subst eo120 | (injection eo120 with f1_ f2_ f3_; have f4_ := f1_.symm; have f5_ := f3_.symm; clear f1_ f2_ f3_; subst f4_; subst f5_))
 obtain ⟨Ao121, co121, eo121⟩ := Kd.R_slice HO573.out
 (first | subst eo121 | (injection eo121 with f1_ f2_ f3_; have f4_ := f1_.symm; have f5_ := f3_.symm; clear f1_ f2_ f3_; subst f4_; subst f5_))
 refine hK.out _ _ sqz (fun hHeld => ?_)
 clear hK K
 refine sqnm ?_
 refine one_ (i := 3) (N := some 38) #[true, true, true, true, false] rfl rfl (by kernel_rfl) (by decide) (fun K hK => ?_)
 refine sqG Try.func61 #[.agg #[.bool t529, .slice Ao99 t530.length co99, .slice Ao100 t533.length co100, .slice Ao101 t536.length co101, .int .i64 t539, .slice Ao102 t540.length co102], .agg #[.bool t560, .slice Ao118 t561.length co118, .slice Ao119 t564.length co119, .slice Ao120 t567.length co120, .int .i64 t570, .slice Ao121 t571.length co121]] ?_
 with_reducible refine (laws_eqAbs.calls k t529 _ _ t530 _ _ t533 _ _ t536 t539 _ _ t540 t560 _ _ t561 _ _ t564 _ _ t567 t570 _ _ t571 true _ ?side1 ?side2 ?side3 ?side4 ?side5 ?side6 ?side7 ?side8 ?side9 ?side10 ?side11 ?side12 ?side13 ?side14 ?side15 ?side16 A69.out).mono ?_
 (case side1 => exact sqC (Kd.R_reads' HO532.out).2.2)
 (case side2 => exact (Kd.R_reads' HO532.out).2.1)
 (case side3 => repeat (first | exact (Kd.S_reads' HO535.out).2.2 | (with_reducible refine Kd.C_alloc ?_ _) | (with_reducible refine Kd.C_drewN ?_ _) | (with_reducible refine Kd.C_drew ?_)))
 (case side4 => exact (Kd.S_reads' HO535.out).2.1)
 (case side5 => exact sqC (Kd.R_reads' HO538.out).2.2)
 (case side6 => exact (Kd.R_reads' HO538.out).2.1)
 (case side7 => exact sqC (Kd.R_reads' HO542.out).2.2)
 (case side8 => exact (Kd.R_reads' HO542.out).2.1)
 (case side9 => exact sqC (Kd.R_reads' HO563.out).2.2)
 (case side10 => exact (Kd.R_reads' HO563.out).2.1)
 (case side11 => repeat (first | exact (Kd.S_reads' HO566.out).2.2 | (with_reducible refine Kd.C_alloc ?_ _) | (with_reducible refine Kd.C_drewN ?_ _) | (with_reducible refine Kd.C_drew ?_)))
 (case side12 => exact (Kd.S_reads' HO566.out).2.1)
 (case side13 => exact sqC (Kd.R_reads' HO569.out).2.2)
 (case side14 => exact (Kd.R_reads' HO569.out).2.1)
 (case side15 => exact sqC (Kd.R_reads' HO573.out).2.2)
 (case side16 => exact (Kd.R_reads' HO573.out).2.1)
 rintro e w122 ⟨rfl, hb⟩
 refine ⟨_, rfl, ?_⟩
 have n0_ := Aside0.mk (Kd.R_below (sqy HO503.out) hb)
 have n1_ := Aside0.mk (Kd.S_below (by (with_reducible repeat (first | apply Kd.S_alloc | apply Kd.S_drewN | apply Kd.S_drew)); exact HO506.out) hb)
 have n2_ := Aside0.mk (Kd.R_below (sqy HO509.out) hb)
 have n3_ := Aside0.mk (Kd.R_below (sqy HO513.out) hb)
 have n4_ := Aside0.mk (Kd.R_below (sqy HO517.out) hb)
 have n5_ := Aside0.mk (Kd.S_below (by (with_reducible repeat (first | apply Kd.S_alloc | apply Kd.S_drewN | apply Kd.S_drew)); exact HO520.out) hb)
 have n6_ := Aside0.mk (Kd.R_below (sqy HO523.out) hb)
 have n7_ := Aside0.mk (Kd.R_below (sqy HO527.out) hb)
 have n8_ := Aside0.mk (Kd.R_below (sqy HO532.out) hb)
 have n9_ := Aside0.mk (Kd.S_below (by (with_reducible repeat (first | apply Kd.S_alloc | apply Kd.S_drewN | apply Kd.S_drew)); exact HO535.out) hb)
 have n10_ := Aside0.mk (Kd.R_below (sqy HO538.out) hb)
 have n11_ := Aside0.mk (Kd.R_below (sqy HO542.out) hb)
 have n12_ := Aside0.mk (Kd.R_below (sqy HO547.out) hb)
 have n13_ := Aside0.mk (Kd.S_below (by (with_reducible repeat (first | apply Kd.S_alloc | apply Kd.S_drewN | apply Kd.S_drew)); exact HO550.out) hb)
 have n14_ := Aside0.mk (Kd.R_below (sqy HO553.out) hb)
 have n15_ := Aside0.mk (Kd.R_below (sqy HO557.out) hb)
 have n16_ := Aside0.mk (Kd.R_below (sqy HO563.out) hb)
 have n17_ := Aside0.mk (Kd.S_below (by (with_reducible repeat (first | apply Kd.S_alloc | apply Kd.S_drewN | apply Kd.S_drew)); exact HO566.out) hb)
 have n18_ := Aside0.mk (Kd.R_below (sqy HO569.out) hb)
 have n19_ := Aside0.mk (Kd.R_below (sqy HO573.out) hb)
 have n20_ := sqb BK496 hb
 have n21_ := sqb BK497 hb
 have n22_ := sqb BK543 hb
 have n23_ := sqb BK558 hb
 have n24_ := sqs HB hb
 clear HO503
 clear HO506
 clear HO509
 clear HO513
 clear HO517
 clear HO520
 clear HO523
 clear HO527
 clear HO532
 clear HO535
 clear HO538
 clear HO542
 clear HO547
 clear HO550
 clear HO553
 clear HO557
 clear HO563
 clear HO566
 clear HO569
 clear HO573
 clear BK496
 clear BK497
 clear BK543
 clear BK558
 clear HB
 have HO503 := n0_
 have HO506 := n1_
 have HO509 := n2_
 have HO513 := n3_
 have HO517 := n4_
 have HO520 := n5_
 have HO523 := n6_
 have HO527 := n7_
 have HO532 := n8_
 have HO535 := n9_
 have HO538 := n10_
 have HO542 := n11_
 have HO547 := n12_
 have HO550 := n13_
 have HO553 := n14_
 have HO557 := n15_
 have HO563 := n16_
 have HO566 := n17_
 have HO569 := n18_
 have HO573 := n19_
 have BK496 := n20_
 have BK497 := n21_
 have BK543 := n22_
 have BK558 := n23_
 have HB := n24_
 clear n0_ n1_ n2_ n3_ n4_ n5_ n6_ n7_ n8_ n9_ n10_ n11_ n12_ n13_ n14_ n15_ n16_ n17_ n18_ n19_ n20_ n21_ n22_ n23_ n24_
 (try clear hb)
 refine hK.out _ _ sqz (fun hHeld => ?_)
 clear hK K
 refine sqnm ?_
 refine pure_ (i := 4) (N := some 39) (v := ?_) (a' := ?_) #[true, true, true, true, true] rfl rfl (by kernel_rfl) (fun _ _ _ h => h) (Or.inl ⟨by rfl, ?_⟩) ?_ ?_
 rotate_left
 ·intro w'
  go_simp
  with_reducible rfl
 rotate_left
 ·simp only [Act.put, List.setIfInBounds_toArray, List.set_cons_zero, List.set_cons_succ, i64_w, i32_w]
  rfl
 refine done_ (by kernel_rfl) ?_
 try go_wp2
 replace HO503 := Aside0.mk (Kd.R_drew HO503.out)
 replace HO506 := Aside0.mk (Kd.S_drew HO506.out)
 replace HO509 := Aside0.mk (Kd.R_drew HO509.out)
 replace HO513 := Aside0.mk (Kd.R_drew HO513.out)
 replace HO517 := Aside0.mk (Kd.R_drew HO517.out)
 replace HO520 := Aside0.mk (Kd.S_drew HO520.out)
 replace HO523 := Aside0.mk (Kd.R_drew HO523.out)
 replace HO527 := Aside0.mk (Kd.R_drew HO527.out)
 replace HO532 := Aside0.mk (Kd.R_drew HO532.out)
 replace HO535 := Aside0.mk (Kd.S_drew HO535.out)
 replace HO538 := Aside0.mk (Kd.R_drew HO538.out)
 replace HO542 := Aside0.mk (Kd.R_drew HO542.out)
 replace HO547 := Aside0.mk (Kd.R_drew HO547.out)
 replace HO550 := Aside0.mk (Kd.S_drew HO550.out)
 replace HO553 := Aside0.mk (Kd.R_drew HO553.out)
 replace HO557 := Aside0.mk (Kd.R_drew HO557.out)
 replace HO563 := Aside0.mk (Kd.R_drew HO563.out)
 replace HO566 := Aside0.mk (Kd.S_drew HO566.out)
 replace HO569 := Aside0.mk (Kd.R_drew HO569.out)
 replace HO573 := Aside0.mk (Kd.R_drew HO573.out)
 replace BK496 := Aside0.mk (blk_drew BK496.out)
 replace BK497 := Aside0.mk (blk_drew BK497.out)
 replace BK543 := Aside0.mk (blk_drew BK543.out)
 replace BK558 := Aside0.mk (blk_drew BK558.out)
 replace HB := Aside0.mk (below_drew1 HB.out)
 refine start_ (n := 5) (S := fun w' => w'.cell? ⟨gb558, 0, none⟩ = some (.bool t544) ∧ w'.cell? ⟨gb558, 1, none⟩ = some (.slice Ao110 t545.length co110) ∧ w'.cell? ⟨gb558, 2, none⟩ = some (.slice Ao111 t548.length co111) ∧ w'.cell? ⟨gb558, 3, none⟩ = some (.slice Ao112 t551.length co112) ∧ w'.cell? ⟨gb558, 4, none⟩ = some (.int .i64 t554) ∧ w'.cell? ⟨gb558, 5, none⟩ = some (.slice Ao113 t555.length co113) ∧ w'.cell? ⟨gb497, 0, none⟩ = some (.bool a1_0) ∧ w'.cell? ⟨gb497, 1, none⟩ = some (.slice A1_1 l1_1.length c1_1) ∧ w'.cell? ⟨gb497, 2, none⟩ = some (.slice A1_2 l1_2.length c1_2) ∧ w'.cell? ⟨gb497, 3, none⟩ = some (.slice A1_3 l1_3.length c1_3) ∧ w'.cell? ⟨gb497, 4, none⟩ = some (.int .i64 a1_4) ∧ w'.cell? ⟨gb497, 5, none⟩ = some (.slice A1_5 l1_5.length c1_5)) (ds := []) #[false, false, false, false, false] (by kernel_rfl) rfl rfl sqz (fun hHeld => ?_)
 generalize w122.drew = w123 at HO503 HO506 HO509 HO513 HO517 HO520 HO523 HO527 HO532 HO535 HO538 HO542 HO547 HO550 HO553 HO557 HO563 HO566 HO569 HO573 BK496 BK497 BK543 BK558 HB hHeld ⊢
 refine take_ (i := 0) (N := some 40) (v := ?_) (a' := ?_) #[true, false, false, false, false] rfl rfl (by kernel_rfl) (fun _ _ _ h => h) (Or.inl ⟨by rfl, ?_⟩) hHeld ?_ ?_
 rotate_left
 ·rintro w' ⟨s0, s1, s2, s3, s4, s5, s6, s7, s8, s9, s10, s11⟩
  go_simp
  with_reducible rfl
 rotate_left
 ·simp only [Act.put, List.setIfInBounds_toArray, List.set_cons_zero, List.set_cons_succ, i64_w, i32_w]
  rfl
 refine take_ (i := 1) (N := some 41) (v := ?_) (a' := ?_) #[true, true, false, false, false] rfl rfl (by kernel_rfl) (fun _ _ _ h => h) (Or.inl ⟨by rfl, ?_⟩) hHeld ?_ ?_
 rotate_left
 ·rintro w' ⟨s0, s1, s2, s3, s4, s5, s6, s7, s8, s9, s10, s11⟩
  go_simp
  with_reducible rfl
 rotate_left
 ·simp only [Act.put, List.setIfInBounds_toArray, List.set_cons_zero, List.set_cons_succ, i64_w, i32_w]
  rfl
 refine one_ (i := 2) (N := some 42) #[true, true, true, false, false] rfl rfl (by kernel_rfl) (by decide) (fun K hK => ?_)
 refine sqG Try.func59 #[.agg #[.bool a1_0, .slice A1_1 l1_1.length c1_1, .slice A1_2 l1_2.length c1_2, .slice A1_3 l1_3.length c1_3, .int .i64 a1_4, .slice A1_5 l1_5.length c1_5]] ?_
 with_reducible refine (laws_toAbs.calls k a1_0 _ _ l1_1 _ _ l1_2 _ _ l1_3 a1_4 _ _ l1_5 t575 t576 t579 t582 t585 t586 _ ?side1 ?side2 ?side3 ?side4 ?side5 ?side6 ?side7 ?side8 A71.out).mono ?_
 (case side1 => exact sqC (Kd.C_below HR1_1.out HB.out))
 (case side2 => exact HC1_1.out)
 (case side3 => exact sqC (Kd.C_below HR1_2.out HB.out))
 (case side4 => exact HC1_2.out)
 (case side5 => exact sqC (Kd.C_below HR1_3.out HB.out))
 (case side6 => exact HC1_3.out)
 (case side7 => exact sqC (Kd.C_below HR1_5.out HB.out))
 (case side8 => exact HC1_5.out)
 rintro e w124 ⟨v577, v580, v583, v587, rfl, ho0, ho1, ho2, ho3, hb⟩
 refine ⟨_, rfl, ?_⟩
 have n0_ := Aside0.mk (Kd.R_mono (Kd.R_told (Kd.R_told (Kd.R_old (sqy HO503.out) hb) (Kd.R_base ho0)) (Kd.R_base ho2)) (fun _ h_ => h_.1))
 have n1_ := Aside0.mk (Kd.S_mono (Kd.S_told (Kd.S_told (Kd.S_old (by (with_reducible repeat (first | apply Kd.S_alloc | apply Kd.S_drewN | apply Kd.S_drew)); exact HO506.out) hb) (Kd.S_base ho1)) (Kd.R_base ho3)) (fun _ h_ => h_.1))
 have n2_ := Aside0.mk (Kd.R_mono (Kd.R_told (Kd.R_told (Kd.R_old (sqy HO509.out) hb) (Kd.R_base ho0)) (Kd.R_base ho2)) (fun _ h_ => h_.1))
 have n3_ := Aside0.mk (Kd.R_elder' (sqy HO513.out) (Kd.R_base ho3) hb)
 have n4_ := Aside0.mk (Kd.R_mono (Kd.R_told (Kd.R_told (Kd.R_old (sqy HO517.out) hb) (Kd.R_base ho0)) (Kd.R_base ho2)) (fun _ h_ => h_.1))
 have n5_ := Aside0.mk (Kd.S_mono (Kd.S_told (Kd.S_told (Kd.S_old (by (with_reducible repeat (first | apply Kd.S_alloc | apply Kd.S_drewN | apply Kd.S_drew)); exact HO520.out) hb) (Kd.S_base ho1)) (Kd.R_base ho3)) (fun _ h_ => h_.1))
 have n6_ := Aside0.mk (Kd.R_mono (Kd.R_told (Kd.R_told (Kd.R_old (sqy HO523.out) hb) (Kd.R_base ho0)) (Kd.R_base ho2)) (fun _ h_ => h_.1))
 have n7_ := Aside0.mk (Kd.R_elder' (sqy HO527.out) (Kd.R_base ho3) hb)
 have n8_ := Aside0.mk (Kd.R_mono (Kd.R_told (Kd.R_told (Kd.R_old (sqy HO532.out) hb) (Kd.R_base ho0)) (Kd.R_base ho2)) (fun _ h_ => h_.1))
 have n9_ := Aside0.mk (Kd.S_mono (Kd.S_told (Kd.S_told (Kd.S_old (by (with_reducible repeat (first | apply Kd.S_alloc | apply Kd.S_drewN | apply Kd.S_drew)); exact HO535.out) hb) (Kd.S_base ho1)) (Kd.R_base ho3)) (fun _ h_ => h_.1))
 have n10_ := Aside0.mk (Kd.R_mono (Kd.R_told (Kd.R_told (Kd.R_old (sqy HO538.out) hb) (Kd.R_base ho0)) (Kd.R_base ho2)) (fun _ h_ => h_.1))
 have n11_ := Aside0.mk (Kd.R_elder' (sqy HO542.out) (Kd.R_base ho3) hb)
 have n12_ := Aside0.mk (Kd.R_mono (Kd.R_told (Kd.R_told (Kd.R_old (sqy HO547.out) hb) (Kd.R_base ho0)) (Kd.R_base ho2)) (fun _ h_ => h_.1))
 have n13_ := Aside0.mk (Kd.S_mono (Kd.S_told (Kd.S_told (Kd.S_old (by (with_reducible repeat (first | apply Kd.S_alloc | apply Kd.S_drewN | apply Kd.S_drew)); exact HO550.out) hb) (Kd.S_base ho1)) (Kd.R_base ho3)) (fun _ h_ => h_.1))
 have n14_ := Aside0.mk (Kd.R_mono (Kd.R_told (Kd.R_told (Kd.R_old (sqy HO553.out) hb) (Kd.R_base ho0)) (Kd.R_base ho2)) (fun _ h_ => h_.1))
 have n15_ := Aside0.mk (Kd.R_elder' (sqy HO557.out) (Kd.R_base ho3) hb)
 have n16_ := Aside0.mk (Kd.R_mono (Kd.R_told (Kd.R_told (Kd.R_old (sqy HO563.out) hb) (Kd.R_base ho0)) (Kd.R_base ho2)) (fun _ h_ => h_.1))
 have n17_ := Aside0.mk (Kd.S_mono (Kd.S_told (Kd.S_told (Kd.S_old (by (with_reducible repeat (first | apply Kd.S_alloc | apply Kd.S_drewN | apply Kd.S_drew)); exact HO566.out) hb) (Kd.S_base ho1)) (Kd.R_base ho3)) (fun _ h_ => h_.1))
 have n18_ := Aside0.mk (Kd.R_mono (Kd.R_told (Kd.R_told (Kd.R_old (sqy HO569.out) hb) (Kd.R_base ho0)) (Kd.R_base ho2)) (fun _ h_ => h_.1))
 have n19_ := Aside0.mk (Kd.R_elder' (sqy HO573.out) (Kd.R_base ho3) hb)
 have n20_ := Aside0.mk (Kd.R_lower (Kd.R_new' (Kd.R_new' (Kd.R_new' (Kd.R_new' (Kd.R_new' (Kd.R_new' (Kd.R_new' (Kd.R_new' (Kd.R_new' (Kd.R_new' ho0 (Kd.R_lt (sqy HO503.out))) (Kd.R_lt (sqy HO509.out))) (Kd.R_lt (sqy HO517.out))) (Kd.R_lt (sqy HO523.out))) (Kd.R_lt (sqy HO532.out))) (Kd.R_lt (sqy HO538.out))) (Kd.R_lt (sqy HO547.out))) (Kd.R_lt (sqy HO553.out))) (Kd.R_lt (sqy HO563.out))) (Kd.R_lt (sqy HO569.out))) (below_size (sqB HB)))
 have n21_ := Aside0.mk (Kd.S_lower (Kd.S_new' (Kd.S_new' (Kd.S_new' (Kd.S_new' (Kd.S_new' (Kd.S_new' (Kd.S_new' (Kd.S_new' (Kd.S_new' (Kd.S_new' ho1 (Kd.S_lt (by (with_reducible repeat (first | apply Kd.S_alloc | apply Kd.S_drewN | apply Kd.S_drew)); exact HO506.out))) (Kd.R_lt (sqy HO513.out))) (Kd.S_lt (by (with_reducible repeat (first | apply Kd.S_alloc | apply Kd.S_drewN | apply Kd.S_drew)); exact HO520.out))) (Kd.R_lt (sqy HO527.out))) (Kd.S_lt (by (with_reducible repeat (first | apply Kd.S_alloc | apply Kd.S_drewN | apply Kd.S_drew)); exact HO535.out))) (Kd.R_lt (sqy HO542.out))) (Kd.S_lt (by (with_reducible repeat (first | apply Kd.S_alloc | apply Kd.S_drewN | apply Kd.S_drew)); exact HO550.out))) (Kd.R_lt (sqy HO557.out))) (Kd.S_lt (by (with_reducible repeat (first | apply Kd.S_alloc | apply Kd.S_drewN | apply Kd.S_drew)); exact HO566.out))) (Kd.R_lt (sqy HO573.out))) (below_size (sqB HB)))
 have n22_ := Aside0.mk (Kd.R_lower (Kd.R_new' (Kd.R_new' (Kd.R_new' (Kd.R_new' (Kd.R_new' (Kd.R_new' (Kd.R_new' (Kd.R_new' (Kd.R_new' (Kd.R_new' ho2 (Kd.R_lt (sqy HO503.out))) (Kd.R_lt (sqy HO509.out))) (Kd.R_lt (sqy HO517.out))) (Kd.R_lt (sqy HO523.out))) (Kd.R_lt (sqy HO532.out))) (Kd.R_lt (sqy HO538.out))) (Kd.R_lt (sqy HO547.out))) (Kd.R_lt (sqy HO553.out))) (Kd.R_lt (sqy HO563.out))) (Kd.R_lt (sqy HO569.out))) (below_size (sqB HB)))
 have n23_ := Aside0.mk (Kd.R_lower (Kd.R_new' (Kd.R_new' (Kd.R_new' (Kd.R_new' (Kd.R_new' ho3 (Kd.R_lt (sqy HO513.out))) (Kd.R_lt (sqy HO527.out))) (Kd.R_lt (sqy HO542.out))) (Kd.R_lt (sqy HO557.out))) (Kd.R_lt (sqy HO573.out))) (below_size (sqB HB)))
 have n24_ := sqb BK496 hb
 have n25_ := sqb BK497 hb
 have n26_ := sqb BK543 hb
 have n27_ := sqb BK558 hb
 have n28_ := sqs HB hb
 clear HO503
 clear HO506
 clear HO509
 clear HO513
 clear HO517
 clear HO520
 clear HO523
 clear HO527
 clear HO532
 clear HO535
 clear HO538
 clear HO542
 clear HO547
 clear HO550
 clear HO553
 clear HO557
 clear HO563
 clear HO566
 clear HO569
 clear HO573
 clear BK496
 clear BK497
 clear BK543
 clear BK558
 clear HB
 have HO503 := n0_
 have HO506 := n1_
 have HO509 := n2_
 have HO513 := n3_
 have HO517 := n4_
 have HO520 := n5_
 have HO523 := n6_
 have HO527 := n7_
 have HO532 := n8_
 have HO535 := n9_
 have HO538 := n10_
 have HO542 := n11_
 have HO547 := n12_
 have HO550 := n13_
 have HO553 := n14_
 have HO557 := n15_
 have HO563 := n16_
 have HO566 := n17_
 have HO569 := n18_
 have HO573 := n19_
 have HO578 := n20_
 have HO581 := n21_
 have HO584 := n22_
 have HO588 := n23_
 have BK496 := n24_
 have BK497 := n25_
 have BK543 := n26_
 have BK558 := n27_
 have HB := n28_
 clear n0_ n1_ n2_ n3_ n4_ n5_ n6_ n7_ n8_ n9_ n10_ n11_ n12_ n13_ n14_ n15_ n16_ n17_ n18_ n19_ n20_ n21_ n22_ n23_ n24_ n25_ n26_ n27_ n28_
 (try clear hb)
 (try clear hb2)
 (try clear hk)
 (try clear hi)
 (try clear ho0)
 (try clear ho1)
 (try clear ho2)
 (try clear ho3)
 obtain ⟨Ao125, co125, eo125⟩ := Kd.R_slice HO578.out
 (first | subst eo125 | (injection eo125 with f1_ f2_ f3_; have f4_ := f1_.symm; have f5_ := f3_.symm; clear f1_ f2_ f3_; subst f4_; subst f5_))
 obtain ⟨Ao126, co126, eo126⟩ := Kd.S_slice HO581.out
 (first | subst eo126 | (injection eo126 with f1_ f2_ f3_; have f4_ := f1_.symm; have f5_ := f3_.symm; clear f1_ f2_ f3_; subst f4_; subst f5_))
 obtain ⟨Ao127, co127, eo127⟩ := Kd.R_slice HO584.out
 (first | subst eo127 | (injection eo127 with f1_ f2_ f3_; have f4_ := f1_.symm; have f5_ := f3_.symm; clear f1_ f2_ f3_; subst f4_; subst f5_))
 obtain ⟨Ao128, co128, eo128⟩ := Kd.R_slice HO588.out
 (first | subst eo128 | (injection eo128 with f1_ f2_ f3_; have f4_ := f1_.symm; have f5_ := f3_.symm; clear f1_ f2_ f3_; subst f4_; subst f5_))
 refine hK.out _ _ sqz (fun hHeld => ?_)
 clear hK K
 refine sqnm ?_
 refine one_ (i := 3) (N := some 43) #[true, true, true, true, false] rfl rfl (by kernel_rfl) (by decide) (fun K hK => ?_)
 refine sqG Try.func61 #[.agg #[.bool t544, .slice Ao110 t545.length co110, .slice Ao111 t548.length co111, .slice Ao112 t551.length co112, .int .i64 t554, .slice Ao113 t555.length co113], .agg #[.bool t575, .slice Ao125 t576.length co125, .slice Ao126 t579.length co126, .slice Ao127 t582.length co127, .int .i64 t585, .slice Ao128 t586.length co128]] ?_
 with_reducible refine (laws_eqAbs.calls k t544 _ _ t545 _ _ t548 _ _ t551 t554 _ _ t555 t575 _ _ t576 _ _ t579 _ _ t582 t585 _ _ t586 true _ ?side1 ?side2 ?side3 ?side4 ?side5 ?side6 ?side7 ?side8 ?side9 ?side10 ?side11 ?side12 ?side13 ?side14 ?side15 ?side16 A72.out).mono ?_
 (case side1 => exact sqC (Kd.R_reads' HO547.out).2.2)
 (case side2 => exact (Kd.R_reads' HO547.out).2.1)
 (case side3 => repeat (first | exact (Kd.S_reads' HO550.out).2.2 | (with_reducible refine Kd.C_alloc ?_ _) | (with_reducible refine Kd.C_drewN ?_ _) | (with_reducible refine Kd.C_drew ?_)))
 (case side4 => exact (Kd.S_reads' HO550.out).2.1)
 (case side5 => exact sqC (Kd.R_reads' HO553.out).2.2)
 (case side6 => exact (Kd.R_reads' HO553.out).2.1)
 (case side7 => exact sqC (Kd.R_reads' HO557.out).2.2)
 (case side8 => exact (Kd.R_reads' HO557.out).2.1)
 (case side9 => exact sqC (Kd.R_reads' HO578.out).2.2)
 (case side10 => exact (Kd.R_reads' HO578.out).2.1)
 (case side11 => repeat (first | exact (Kd.S_reads' HO581.out).2.2 | (with_reducible refine Kd.C_alloc ?_ _) | (with_reducible refine Kd.C_drewN ?_ _) | (with_reducible refine Kd.C_drew ?_)))
 (case side12 => exact (Kd.S_reads' HO581.out).2.1)
 (case side13 => exact sqC (Kd.R_reads' HO584.out).2.2)
 (case side14 => exact (Kd.R_reads' HO584.out).2.1)
 (case side15 => exact sqC (Kd.R_reads' HO588.out).2.2)
 (case side16 => exact (Kd.R_reads' HO588.out).2.1)
 rintro e w129 ⟨rfl, hb⟩
 refine ⟨_, rfl, ?_⟩
 have n0_ := Aside0.mk (Kd.R_below (sqy HO503.out) hb)
 have n1_ := Aside0.mk (Kd.S_below (by (with_reducible repeat (first | apply Kd.S_alloc | apply Kd.S_drewN | apply Kd.S_drew)); exact HO506.out) hb)
 have n2_ := Aside0.mk (Kd.R_below (sqy HO509.out) hb)
 have n3_ := Aside0.mk (Kd.R_below (sqy HO513.out) hb)
 have n4_ := Aside0.mk (Kd.R_below (sqy HO517.out) hb)
 have n5_ := Aside0.mk (Kd.S_below (by (with_reducible repeat (first | apply Kd.S_alloc | apply Kd.S_drewN | apply Kd.S_drew)); exact HO520.out) hb)
 have n6_ := Aside0.mk (Kd.R_below (sqy HO523.out) hb)
 have n7_ := Aside0.mk (Kd.R_below (sqy HO527.out) hb)
 have n8_ := Aside0.mk (Kd.R_below (sqy HO532.out) hb)
 have n9_ := Aside0.mk (Kd.S_below (by (with_reducible repeat (first | apply Kd.S_alloc | apply Kd.S_drewN | apply Kd.S_drew)); exact HO535.out) hb)
 have n10_ := Aside0.mk (Kd.R_below (sqy HO538.out) hb)
 have n11_ := Aside0.mk (Kd.R_below (sqy HO542.out) hb)
 have n12_ := Aside0.mk (Kd.R_below (sqy HO547.out) hb)
 have n13_ := Aside0.mk (Kd.S_below (by (with_reducible repeat (first | apply Kd.S_alloc | apply Kd.S_drewN | apply Kd.S_drew)); exact HO550.out) hb)
 have n14_ := Aside0.mk (Kd.R_below (sqy HO553.out) hb)
 have n15_ := Aside0.mk (Kd.R_below (sqy HO557.out) hb)
 have n16_ := Aside0.mk (Kd.R_below (sqy HO563.out) hb)
 have n17_ := Aside0.mk (Kd.S_below (by (with_reducible repeat (first | apply Kd.S_alloc | apply Kd.S_drewN | apply Kd.S_drew)); exact HO566.out) hb)
 have n18_ := Aside0.mk (Kd.R_below (sqy HO569.out) hb)
 have n19_ := Aside0.mk (Kd.R_below (sqy HO573.out) hb)
 have n20_ := Aside0.mk (Kd.R_below (sqy HO578.out) hb)
 have n21_ := Aside0.mk (Kd.S_below (by (with_reducible repeat (first | apply Kd.S_alloc | apply Kd.S_drewN | apply Kd.S_drew)); exact HO581.out) hb)
 have n22_ := Aside0.mk (Kd.R_below (sqy HO584.out) hb)
 have n23_ := Aside0.mk (Kd.R_below (sqy HO588.out) hb)
 have n24_ := sqb BK496 hb
 have n25_ := sqb BK497 hb
 have n26_ := sqb BK543 hb
 have n27_ := sqb BK558 hb
 have n28_ := sqs HB hb
 clear HO503
 clear HO506
 clear HO509
 clear HO513
 clear HO517
 clear HO520
 clear HO523
 clear HO527
 clear HO532
 clear HO535
 clear HO538
 clear HO542
 clear HO547
 clear HO550
 clear HO553
 clear HO557
 clear HO563
 clear HO566
 clear HO569
 clear HO573
 clear HO578
 clear HO581
 clear HO584
 clear HO588
 clear BK496
 clear BK497
 clear BK543
 clear BK558
 clear HB
 have HO503 := n0_
 have HO506 := n1_
 have HO509 := n2_
 have HO513 := n3_
 have HO517 := n4_
 have HO520 := n5_
 have HO523 := n6_
 have HO527 := n7_
 have HO532 := n8_
 have HO535 := n9_
 have HO538 := n10_
 have HO542 := n11_
 have HO547 := n12_
 have HO550 := n13_
 have HO553 := n14_
 have HO557 := n15_
 have HO563 := n16_
 have HO566 := n17_
 have HO569 := n18_
 have HO573 := n19_
 have HO578 := n20_
 have HO581 := n21_
 have HO584 := n22_
 have HO588 := n23_
 have BK496 := n24_
 have BK497 := n25_
 have BK543 := n26_
 have BK558 := n27_
 have HB := n28_
 clear n0_ n1_ n2_ n3_ n4_ n5_ n6_ n7_ n8_ n9_ n10_ n11_ n12_ n13_ n14_ n15_ n16_ n17_ n18_ n19_ n20_ n21_ n22_ n23_ n24_ n25_ n26_ n27_ n28_
 (try clear hb)
 refine hK.out _ _ sqz (fun hHeld => ?_)
 clear hK K
 refine sqnm ?_
 refine pure_ (i := 4) (N := some 44) (v := ?_) (a' := ?_) #[true, true, true, true, true] rfl rfl (by kernel_rfl) (fun _ _ _ h => h) (Or.inl ⟨by rfl, ?_⟩) ?_ ?_
 rotate_left
 ·intro w'
  go_simp
  with_reducible rfl
 rotate_left
 ·simp only [Act.put, List.setIfInBounds_toArray, List.set_cons_zero, List.set_cons_succ, i64_w, i32_w]
  rfl
 refine done_ (by kernel_rfl) ?_
 try go_wp2
 go_ret
 exact sqe HB
end Go.Proofs.Ytkekcenlleebeaa.PFnExactAbsIn
