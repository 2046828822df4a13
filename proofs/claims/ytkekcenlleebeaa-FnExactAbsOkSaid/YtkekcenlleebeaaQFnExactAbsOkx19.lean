/- Functions of the program as plain Lean functions, and that calls of them come to what these tell. Conditions: those in each law. -/
import Derived.Test.YtkekcenlleebeaaSq
import Derived.Test.YtkekcenlleebeaaDFnExactAbsOk
import Derived.Test.YtkekcenlleebeaaQFnExactAbsOkx0
import Derived.Test.YtkekcenlleebeaaQFnExactAbsOkx3
import Derived.Test.YtkekcenlleebeaaQFnExactAbsOkx11
import Derived.Test.YtkekcenlleebeaaQFnExactAbsOkx12
import Derived.Test.YtkekcenlleebeaaQFnExactAbsOkx16
import Derived.Test.YtkekcenlleebeaaQFnExactAbsOkx18
namespace Go.Proofs.Ytkekcenlleebeaa.PFnExactAbsOk
open Go.RowKit Go.Proofs.Ytkekcenlleebeaa.Sq Go.Proofs.YtkekcenlleebeaaW.PrintWords Go.Proofs.YtkekcenlleebeaaW.PrintLast Go.Proofs.YtkekcenlleebeaaW.PrintMore
attribute [local go_sem] max2_int min2_int max_two min_two max_three min_three max_four min_four   -- for this text's walks alone
set_option linter.unusedVariables false
set_option linter.unusedSimpArgs false

/-! ### laws_FnExactAbsOk: function 9 -/
theorem laws_FnExactAbsOk.mono : ∀ a0 a1 a2 a3 a4 a5 k, LeO (laws_FnExactAbsOk.f k a0 a1 a2 a3 a4 a5) (laws_FnExactAbsOk.f (k + 1) a0 a1 a2 a3 a4 a5) := by
 intro a0 a1 a2 a3 a4 a5 k
 unfold laws_FnExactAbsOk.f
 repeat' first
   | (with_reducible exact impl_AbsOk.mono _ _ _ _ _ _ _)
   | (with_reducible exact laws_eqAbs.mono _ _ _ _ _ _ _ _ _ _ _ _ _)
   | (with_reducible exact laws_szAbs.mono _ _ _ _ _ _ _ _)
   | (with_reducible exact laws_toAbs.mono _ _ _ _ _ _ _)
   | (with_reducible exact spec_AbsOk.mono _ _ _ _ _ _ _)
   | (with_reducible exact LeO.refl _)
   | (with_reducible exact LeO.none _)
   | (with_reducible refine LeO.ite ?_ ?_)
   | (with_reducible refine LeO.bind ?_ (fun _ => ?_))
   | exact impl_AbsOk.mono _ _ _ _ _ _ _
   | exact laws_eqAbs.mono _ _ _ _ _ _ _ _ _ _ _ _ _
   | exact laws_szAbs.mono _ _ _ _ _ _ _ _
   | exact laws_toAbs.mono _ _ _ _ _ _ _
   | exact spec_AbsOk.mono _ _ _ _ _ _ _
   | exact LeO.none _
   | refine LeO.ite ?_ ?_
   | refine LeO.bind ?_ (fun _ => ?_)
set_option maxHeartbeats 8000000 in
set_option maxRecDepth 100000 in
theorem laws_FnExactAbsOk.calls (k : Nat) (a0_0 : Bool) (A0_1 : Option Addr) (c0_1 : Nat) (l0_1 : List (S165)) (A0_2 : Option Addr) (c0_2 : Nat) (l0_2 : List (S167)) (A0_3 : Option Addr) (c0_3 : Nat) (l0_3 : List (S165)) (a0_4 : Int) (A0_5 : Option Addr) (c0_5 : Nat) (l0_5 : List Int) (r : Bool) (w : World) (hr0_1 : Kd.C k165 w A0_1 l0_1.length l0_1) (hc0_1 : l0_1.length ≤ c0_1) (hr0_2 : Kd.C k167 w A0_2 l0_2.length l0_2) (hc0_2 : l0_2.length ≤ c0_2) (hr0_3 : Kd.C k165 w A0_3 l0_3.length l0_3) (hc0_3 : l0_3.length ≤ c0_3) (hr0_5 : Kd.C (Kd.int .i64) w A0_5 l0_5.length l0_5) (hc0_5 : l0_5.length ≤ c0_5) (h : laws_FnExactAbsOk.f k a0_0 l0_1 l0_2 l0_3 a0_4 l0_5 = some r) (hr_ : r = true := by rfl) :
  Calls Try.prog 9 #[.agg #[.bool a0_0, .slice A0_1 l0_1.length c0_1, .slice A0_2 l0_2.length c0_2, .slice A0_3 l0_3.length c0_3, .int .i64 a0_4, .slice A0_5 l0_5.length c0_5]] w fun e w' => e = .returned (.bool r) ∧ Below w.heap.size w w' := by
 subst hr_
 have hu72 := Try.underlying72
 have hu78 := Try.underlying78
 have HR0_1 := Aside0.mk hr0_1
 have HC0_1 := Aside0.mk hc0_1
 clear hr0_1 hc0_1
 have HR0_2 := Aside0.mk hr0_2
 have HC0_2 := Aside0.mk hc0_2
 clear hr0_2 hc0_2
 have HR0_3 := Aside0.mk hr0_3
 have HC0_3 := Aside0.mk hc0_3
 clear hr0_3 hc0_3
 have HR0_5 := Aside0.mk hr0_5
 have HC0_5 := Aside0.mk hc0_5
 clear hr0_5 hc0_5
 have HB := Aside0.mk (Below.refl w.heap.size w)
 have H : ((laws_szAbs.f k a0_0 l0_1 l0_2 l0_3 a0_4 l0_5 1048576).bind fun t377 => (if t377 < 0 then (some true) else ((laws_toAbs.f k a0_0 l0_1 l0_2 l0_3 a0_4 l0_5).bind fun bt378 => ((spec_AbsOk.f k bt378.1 bt378.2.1 bt378.2.2.1 bt378.2.2.2.1 bt378.2.2.2.2.1 bt378.2.2.2.2.2).bind fun t392 => ((laws_toAbs.f k a0_0 l0_1 l0_2 l0_3 a0_4 l0_5).bind fun bt393 => ((impl_AbsOk.f k bt393.1 bt393.2.1 bt393.2.2.1 bt393.2.2.2.1 bt393.2.2.2.2.1 bt393.2.2.2.2.2).bind fun t408 => (if (t408 != t392) = true then (some false) else ((laws_toAbs.f k a0_0 l0_1 l0_2 l0_3 a0_4 l0_5).bind fun bt409 => ((laws_eqAbs.f k bt393.1 bt393.2.1 bt393.2.2.1 bt393.2.2.2.1 bt393.2.2.2.2.1 bt393.2.2.2.2.2 bt409.1 bt409.2.1 bt409.2.2.1 bt409.2.2.2.1 bt409.2.2.2.2.1 bt409.2.2.2.2.2).bind fun t423 => (if t423 = true then (some true) else (some false))))))))))) = some true := h
 clear h
 replace H := Option.bind_eq_some_iff.mp H
 obtain ⟨t377, A20, H⟩ := H
 replace H : (if t377 < 0 then (some true) else ((laws_toAbs.f k a0_0 l0_1 l0_2 l0_3 a0_4 l0_5).bind fun bt378 => ((spec_AbsOk.f k bt378.1 bt378.2.1 bt378.2.2.1 bt378.2.2.2.1 bt378.2.2.2.2.1 bt378.2.2.2.2.2).bind fun t392 => ((laws_toAbs.f k a0_0 l0_1 l0_2 l0_3 a0_4 l0_5).bind fun bt393 => ((impl_AbsOk.f k bt393.1 bt393.2.1 bt393.2.2.1 bt393.2.2.2.1 bt393.2.2.2.2.1 bt393.2.2.2.2.2).bind fun t408 => (if (t408 != t392) = true then (some false) else ((laws_toAbs.f k a0_0 l0_1 l0_2 l0_3 a0_4 l0_5).bind fun bt409 => ((laws_eqAbs.f k bt393.1 bt393.2.1 bt393.2.2.1 bt393.2.2.2.1 bt393.2.2.2.2.1 bt393.2.2.2.2.2 bt409.1 bt409.2.1 bt409.2.2.1 bt409.2.2.2.1 bt409.2.2.2.2.1 bt409.2.2.2.2.2).bind fun t423 => (if t423 = true then (some true) else (some false)))))))))) = some true := H
 have A2 := Aside0.mk A20
 clear A20
 by_cases c3 : t377 < 0
 ·rw [if_pos c3] at H
  have c3b0 : decide (t377 < 0) = true := decide_eq_true c3
  clear c3
  clear H
  go_enter Try.func9, Try.ntmps9
  go_wp2_with (first | ((with_reducible refine gate_dst (N := 1) rfl ?_); refine sqx 1 #[.bool a0_0, .slice A0_1 l0_1.length c0_1, .slice A0_2 l0_2.length c0_2, .slice A0_3 l0_3.length c0_3, .int .i64 a0_4, .slice A0_5 l0_5.length c0_5] 72 ?_; intro gb376 hg w4 hbox hb; have BK376 := Aside0.mk (hbox); have GW376 := sqg HB hg; have GE376 := sqg HB hg; replace HB := sqs HB hb; clear hb hbox hg; have hcz5_0 : w4.cell? ⟨gb376, 0, none⟩ = some (.bool a0_0) := (blk_cell BK376.out 0).trans rfl; have hcz5_1 : w4.cell? ⟨gb376, 1, none⟩ = some (.slice A0_1 l0_1.length c0_1) := (blk_cell BK376.out 1).trans rfl; have hcz5_2 : w4.cell? ⟨gb376, 2, none⟩ = some (.slice A0_2 l0_2.length c0_2) := (blk_cell BK376.out 2).trans rfl; have hcz5_3 : w4.cell? ⟨gb376, 3, none⟩ = some (.slice A0_3 l0_3.length c0_3) := (blk_cell BK376.out 3).trans rfl; have hcz5_4 : w4.cell? ⟨gb376, 4, none⟩ = some (.int .i64 a0_4) := (blk_cell BK376.out 4).trans rfl; have hcz5_5 : w4.cell? ⟨gb376, 5, none⟩ = some (.slice A0_5 l0_5.length c0_5) := (blk_cell BK376.out 5).trans rfl; have hfz5_0 := blk_frozen BK376.out 0; have hfz5_1 := blk_frozen BK376.out 1; have hfz5_2 := blk_frozen BK376.out 2; have hfz5_3 := blk_frozen BK376.out 3; have hfz5_4 := blk_frozen BK376.out 4; have hfz5_5 := blk_frozen BK376.out 5) | ((with_reducible refine gate_callee (f := 57) rfl ?_); refine sqL (some 9) Try.func57 #[.agg #[.bool a0_0, .slice A0_1 l0_1.length c0_1, .slice A0_2 l0_2.length c0_2, .slice A0_3 l0_3.length c0_3, .int .i64 a0_4, .slice A0_5 l0_5.length c0_5], .int .i64 1048576] ?_; (with_reducible refine (laws_szAbs.calls k a0_0 _ _ l0_1 _ _ l0_2 _ _ l0_3 a0_4 _ _ l0_5 1048576 t377 _ ?side1 ?side2 ?side3 ?side4 ?side5 ?side6 ?side7 ?side8 A2.out).mono ?_); (case side1 => repeat (first | exact (Kd.C_below HR0_1.out HB.out) | (with_reducible refine Kd.C_alloc ?_ _) | (with_reducible refine Kd.C_drewN ?_ _) | (with_reducible refine Kd.C_drew ?_))); (case side2 => exact HC0_1.out); (case side3 => repeat (first | exact (Kd.C_below HR0_2.out HB.out) | (with_reducible refine Kd.C_alloc ?_ _) | (with_reducible refine Kd.C_drewN ?_ _) | (with_reducible refine Kd.C_drew ?_))); (case side4 => exact HC0_2.out); (case side5 => repeat (first | exact (Kd.C_below HR0_3.out HB.out) | (with_reducible refine Kd.C_alloc ?_ _) | (with_reducible refine Kd.C_drewN ?_ _) | (with_reducible refine Kd.C_drew ?_))); (case side6 => exact HC0_3.out); (case side7 => repeat (first | exact (Kd.C_below HR0_5.out HB.out) | (with_reducible refine Kd.C_alloc ?_ _) | (with_reducible refine Kd.C_drewN ?_ _) | (with_reducible refine Kd.C_drew ?_))); (case side8 => exact HC0_5.out); rintro e w6 ⟨rfl, hb⟩; refine ⟨_, rfl, ?_⟩; replace BK376 := sqb BK376 hb; replace HB := sqs HB hb; (try clear hb)))
  go_ret
  exact sqe HB
 ·rw [if_neg c3] at H
  have c3b0 : decide (t377 < 0) = false := decide_eq_false c3
  clear c3
  replace H := Option.bind_eq_some_iff.mp H
  obtain ⟨⟨t378, t379, t382, t385, t388, t389⟩, A70, H⟩ := H
  replace H : ((spec_AbsOk.f k t378 t379 t382 t385 t388 t389).bind fun t392 => ((laws_toAbs.f k a0_0 l0_1 l0_2 l0_3 a0_4 l0_5).bind fun bt393 => ((impl_AbsOk.f k bt393.1 bt393.2.1 bt393.2.2.1 bt393.2.2.2.1 bt393.2.2.2.2.1 bt393.2.2.2.2.2).bind fun t408 => (if (t408 != t392) = true then (some false) else ((laws_toAbs.f k a0_0 l0_1 l0_2 l0_3 a0_4 l0_5).bind fun bt409 => ((laws_eqAbs.f k bt393.1 bt393.2.1 bt393.2.2.1 bt393.2.2.2.1 bt393.2.2.2.2.1 bt393.2.2.2.2.2 bt409.1 bt409.2.1 bt409.2.2.1 bt409.2.2.2.1 bt409.2.2.2.2.1 bt409.2.2.2.2.2).bind fun t423 => (if t423 = true then (some true) else (some false)))))))) = some true := H
  have A7 := Aside0.mk A70
  clear A70
  replace H := Option.bind_eq_some_iff.mp H
  obtain ⟨t392, A80, H⟩ := H
  replace H : ((laws_toAbs.f k a0_0 l0_1 l0_2 l0_3 a0_4 l0_5).bind fun bt393 => ((impl_AbsOk.f k bt393.1 bt393.2.1 bt393.2.2.1 bt393.2.2.2.1 bt393.2.2.2.2.1 bt393.2.2.2.2.2).bind fun t408 => (if (t408 != t392) = true then (some false) else ((laws_toAbs.f k a0_0 l0_1 l0_2 l0_3 a0_4 l0_5).bind fun bt409 => ((laws_eqAbs.f k bt393.1 bt393.2.1 bt393.2.2.1 bt393.2.2.2.1 bt393.2.2.2.2.1 bt393.2.2.2.2.2 bt409.1 bt409.2.1 bt409.2.2.1 bt409.2.2.2.1 bt409.2.2.2.2.1 bt409.2.2.2.2.2).bind fun t423 => (if t423 = true then (some true) else (some false))))))) = some true := H
  have A8 := Aside0.mk A80
  clear A80
  replace H := Option.bind_eq_some_iff.mp H
  obtain ⟨⟨t393, t394, t397, t400, t403, t404⟩, A90, H⟩ := H
  replace H : ((impl_AbsOk.f k t393 t394 t397 t400 t403 t404).bind fun t408 => (if (t408 != t392) = true then (some false) else ((laws_toAbs.f k a0_0 l0_1 l0_2 l0_3 a0_4 l0_5).bind fun bt409 => ((laws_eqAbs.f k t393 t394 t397 t400 t403 t404 bt409.1 bt409.2.1 bt409.2.2.1 bt409.2.2.2.1 bt409.2.2.2.2.1 bt409.2.2.2.2.2).bind fun t423 => (if t423 = true then (some true) else (some false)))))) = some true := H
  have A9 := Aside0.mk A90
  clear A90
  replace H := Option.bind_eq_some_iff.mp H
  obtain ⟨t408, A100, H⟩ := H
  replace H : (if (t408 != t392) = true then (some false) else ((laws_toAbs.f k a0_0 l0_1 l0_2 l0_3 a0_4 l0_5).bind fun bt409 => ((laws_eqAbs.f k t393 t394 t397 t400 t403 t404 bt409.1 bt409.2.1 bt409.2.2.1 bt409.2.2.2.1 bt409.2.2.2.2.1 bt409.2.2.2.2.2).bind fun t423 => (if t423 = true then (some true) else (some false))))) = some true := H
  have A10 := Aside0.mk A100
  clear A100
  by_cases c11 : (t408 != t392) = true
  ·rw [if_pos c11] at H
   have c11b0 : (t408 != t392) = true := c11
   (try (have c11b1 : decide (t408 = t392) = false := by simpa using c11))
   (try (have c11b2 : (t408 == t392) = false := by simpa using c11))
   (try (have c11b3 : ¬ (t408 = t392) := by simpa using c11))
   clear c11
   exact absurd (Option.some.inj H) (by decide)
  ·rw [if_neg c11] at H
   have c11b0 : (t408 != t392) = false := by simpa using c11
   (try (have c11b1 : decide (t408 = t392) = true := by simpa using c11))
   (try (have c11b2 : (t408 == t392) = true := by simpa using c11))
   clear c11
   replace H := Option.bind_eq_some_iff.mp H
   obtain ⟨⟨t409, t410, t413, t416, t419, t420⟩, A320, H⟩ := H
   replace H : ((laws_eqAbs.f k t393 t394 t397 t400 t403 t404 t409 t410 t413 t416 t419 t420).bind fun t423 => (if t423 = true then (some true) else (some false))) = some true := H
   have A32 := Aside0.mk A320
   clear A320
   replace H := Option.bind_eq_some_iff.mp H
   obtain ⟨t423, A330, H⟩ := H
   replace H : (if t423 = true then (some true) else (some false)) = some true := H
   have A33 := Aside0.mk A330
   clear A330
   by_cases c34 : t423 = true
   ·subst c34
    have H1 : (some true) = some true := rfl
    clear H
    have H := H1
    clear H1
    clear H
    go_enter Try.func9, Try.ntmps9
    try go_wp2_with (first | ((with_reducible refine gate_dst (N := 1) rfl ?_); refine sqx 1 #[.bool a0_0, .slice A0_1 l0_1.length c0_1, .slice A0_2 l0_2.length c0_2, .slice A0_3 l0_3.length c0_3, .int .i64 a0_4, .slice A0_5 l0_5.length c0_5] 72 ?_; intro gb376 hg w35 hbox hb; have BK376 := Aside0.mk (hbox); have GW376 := sqg HB hg; have GE376 := sqg HB hg; replace HB := sqs HB hb; clear hb hbox hg; have hcz36_0 : w35.cell? ⟨gb376, 0, none⟩ = some (.bool a0_0) := (blk_cell BK376.out 0).trans rfl; have hcz36_1 : w35.cell? ⟨gb376, 1, none⟩ = some (.slice A0_1 l0_1.length c0_1) := (blk_cell BK376.out 1).trans rfl; have hcz36_2 : w35.cell? ⟨gb376, 2, none⟩ = some (.slice A0_2 l0_2.length c0_2) := (blk_cell BK376.out 2).trans rfl; have hcz36_3 : w35.cell? ⟨gb376, 3, none⟩ = some (.slice A0_3 l0_3.length c0_3) := (blk_cell BK376.out 3).trans rfl; have hcz36_4 : w35.cell? ⟨gb376, 4, none⟩ = some (.int .i64 a0_4) := (blk_cell BK376.out 4).trans rfl; have hcz36_5 : w35.cell? ⟨gb376, 5, none⟩ = some (.slice A0_5 l0_5.length c0_5) := (blk_cell BK376.out 5).trans rfl; have hfz36_0 := blk_frozen BK376.out 0; have hfz36_1 := blk_frozen BK376.out 1; have hfz36_2 := blk_frozen BK376.out 2; have hfz36_3 := blk_frozen BK376.out 3; have hfz36_4 := blk_frozen BK376.out 4; have hfz36_5 := blk_frozen BK376.out 5) | ((with_reducible refine gate_callee (f := 57) rfl ?_); refine sqL (some 9) Try.func57 #[.agg #[.bool a0_0, .slice A0_1 l0_1.length c0_1, .slice A0_2 l0_2.length c0_2, .slice A0_3 l0_3.length c0_3, .int .i64 a0_4, .slice A0_5 l0_5.length c0_5], .int .i64 1048576] ?_; (with_reducible refine (laws_szAbs.calls k a0_0 _ _ l0_1 _ _ l0_2 _ _ l0_3 a0_4 _ _ l0_5 1048576 t377 _ ?side1 ?side2 ?side3 ?side4 ?side5 ?side6 ?side7 ?side8 A2.out).mono ?_); (case side1 => repeat (first | exact (Kd.C_below HR0_1.out HB.out) | (with_reducible refine Kd.C_alloc ?_ _) | (with_reducible refine Kd.C_drewN ?_ _) | (with_reducible refine Kd.C_drew ?_))); (case side2 => exact HC0_1.out); (case side3 => repeat (first | exact (Kd.C_below HR0_2.out HB.out) | (with_reducible refine Kd.C_alloc ?_ _) | (with_reducible refine Kd.C_drewN ?_ _) | (with_reducible refine Kd.C_drew ?_))); (case side4 => exact HC0_2.out); (case side5 => repeat (first | exact (Kd.C_below HR0_3.out HB.out) | (with_reducible refine Kd.C_alloc ?_ _) | (with_reducible refine Kd.C_drewN ?_ _) | (with_reducible refine Kd.C_drew ?_))); (case side6 => exact HC0_3.out); (case side7 => repeat (first | exact (Kd.C_below HR0_5.out HB.out) | (with_reducible refine Kd.C_alloc ?_ _) | (with_reducible refine Kd.C_drewN ?_ _) | (with_reducible refine Kd.C_drew ?_))); (case side8 => exact HC0_5.out); rintro e w37 ⟨rfl, hb⟩; refine ⟨_, rfl, ?_⟩; replace BK376 := sqb BK376 hb; replace HB := sqs HB hb; (try clear hb); have hcz38_0 : w37.cell? ⟨gb376, 0, none⟩ = some (.bool a0_0) := (blk_cell BK376.out 0).trans rfl; have hcz38_1 : w37.cell? ⟨gb376, 1, none⟩ = some (.slice A0_1 l0_1.length c0_1) := (blk_cell BK376.out 1).trans rfl; have hcz38_2 : w37.cell? ⟨gb376, 2, none⟩ = some (.slice A0_2 l0_2.length c0_2) := (blk_cell BK376.out 2).trans rfl; have hcz38_3 : w37.cell? ⟨gb376, 3, none⟩ = some (.slice A0_3 l0_3.length c0_3) := (blk_cell BK376.out 3).trans rfl; have hcz38_4 : w37.cell? ⟨gb376, 4, none⟩ = some (.int .i64 a0_4) := (blk_cell BK376.out 4).trans rfl; have hcz38_5 : w37.cell? ⟨gb376, 5, none⟩ = some (.slice A0_5 l0_5.length c0_5) := (blk_cell BK376.out 5).trans rfl; have hfz38_0 := blk_frozen BK376.out 0; have hfz38_1 := blk_frozen BK376.out 1; have hfz38_2 := blk_frozen BK376.out 2; have hfz38_3 := blk_frozen BK376.out 3; have hfz38_4 := blk_frozen BK376.out 4; have hfz38_5 := blk_frozen BK376.out 5) | ((with_reducible refine gate_callee (f := 59) rfl ?_); refine sqL (some 13) Try.func59 #[.agg #[.bool a0_0, .slice A0_1 l0_1.length c0_1, .slice A0_2 l0_2.length c0_2, .slice A0_3 l0_3.length c0_3, .int .i64 a0_4, .slice A0_5 l0_5.length c0_5]] ?_; (with_reducible refine (laws_toAbs.calls k a0_0 _ _ l0_1 _ _ l0_2 _ _ l0_3 a0_4 _ _ l0_5 t378 t379 t382 t385 t388 t389 _ ?side1 ?side2 ?side3 ?side4 ?side5 ?side6 ?side7 ?side8 A7.out).mono ?_); (case side1 => repeat (first | exact (Kd.C_below HR0_1.out HB.out) | (with_reducible refine Kd.C_alloc ?_ _) | (with_reducible refine Kd.C_drewN ?_ _) | (with_reducible refine Kd.C_drew ?_))); (case side2 => exact HC0_1.out); (case side3 => repeat (first | exact (Kd.C_below HR0_2.out HB.out) | (with_reducible refine Kd.C_alloc ?_ _) | (with_reducible refine Kd.C_drewN ?_ _) | (with_reducible refine Kd.C_drew ?_))); (case side4 => exact HC0_2.out); (case side5 => repeat (first | exact (Kd.C_below HR0_3.out HB.out) | (with_reducible refine Kd.C_alloc ?_ _) | (with_reducible refine Kd.C_drewN ?_ _) | (with_reducible refine Kd.C_drew ?_))); (case side6 => exact HC0_3.out); (case side7 => repeat (first | exact (Kd.C_below HR0_5.out HB.out) | (with_reducible refine Kd.C_alloc ?_ _) | (with_reducible refine Kd.C_drewN ?_ _) | (with_reducible refine Kd.C_drew ?_))); (case side8 => exact HC0_5.out); rintro e w39 ⟨v380, v383, v386, v390, rfl, ho0, ho1, ho2, ho3, hb⟩; refine ⟨_, rfl, ?_⟩; have HO381 := Aside0.mk (Kd.R_lower ho0 (below_size (by repeat (first | (with_reducible first | exact HB.out | apply below_alloc | apply pw_below_drewN | apply below_drew1 | refine below_set ?_ GE376.out) | exact HB.out)))); have HO384 := Aside0.mk (Kd.S_lower ho1 (below_size (by repeat (first | (with_reducible first | exact HB.out | apply below_alloc | apply pw_below_drewN | apply below_drew1 | refine below_set ?_ GE376.out) | exact HB.out)))); have HO387 := Aside0.mk (Kd.R_lower ho2 (below_size (by repeat (first | (with_reducible first | exact HB.out | apply below_alloc | apply pw_below_drewN | apply below_drew1 | refine below_set ?_ GE376.out) | exact HB.out)))); have HO391 := Aside0.mk (Kd.R_lower ho3 (below_size (by repeat (first | (with_reducible first | exact HB.out | apply below_alloc | apply pw_below_drewN | apply below_drew1 | refine below_set ?_ GE376.out) | exact HB.out)))); replace BK376 := sqb BK376 hb; replace HB := sqs HB hb; (try clear hb); (try clear hb2); (try clear hk); (try clear hi); (try clear ho0); (try clear ho1); (try clear ho2); (try clear ho3); obtain ⟨Ao40, co40, eo40⟩ := Kd.R_slice HO381.out; subst eo40; obtain ⟨Ao41, co41, eo41⟩ := Kd.S_slice HO384.out; subst eo41; obtain ⟨Ao42, co42, eo42⟩ := Kd.R_slice HO387.out; subst eo42; obtain ⟨Ao43, co43, eo43⟩ := Kd.R_slice HO391.out; subst eo43) | ((with_reducible refine gate_callee (f := 58) rfl ?_); refine sqL (some 14) Try.func58 #[.agg #[.bool t378, .slice Ao40 t379.length co40, .slice Ao41 t382.length co41, .slice Ao42 t385.length co42, .int .i64 t388, .slice Ao43 t389.length co43]] ?_; (with_reducible refine (spec_AbsOk.calls k t378 _ _ t379 _ _ t382 _ _ t385 t388 _ _ t389 t392 _ ?side1 ?side2 ?side3 ?side4 ?side5 ?side6 ?side7 ?side8 A8.out).mono ?_); (case side1 => repeat (first | exact (Kd.R_reads' HO381.out).2.2 | (with_reducible refine Kd.C_alloc ?_ _) | (with_reducible refine Kd.C_drewN ?_ _) | (with_reducible refine Kd.C_drew ?_))); (case side2 => exact (Kd.R_reads' HO381.out).2.1); (case side3 => repeat (first | exact (Kd.S_reads' HO384.out).2.2 | (with_reducible refine Kd.C_alloc ?_ _) | (with_reducible refine Kd.C_drewN ?_ _) | (with_reducible refine Kd.C_drew ?_))); (case side4 => exact (Kd.S_reads' HO384.out).2.1); (case side5 => repeat (first | exact (Kd.R_reads' HO387.out).2.2 | (with_reducible refine Kd.C_alloc ?_ _) | (with_reducible refine Kd.C_drewN ?_ _) | (with_reducible refine Kd.C_drew ?_))); (case side6 => exact (Kd.R_reads' HO387.out).2.1); (case side7 => repeat (first | exact (Kd.R_reads' HO391.out).2.2 | (with_reducible refine Kd.C_alloc ?_ _) | (with_reducible refine Kd.C_drewN ?_ _) | (with_reducible refine Kd.C_drew ?_))); (case side8 => exact (Kd.R_reads' HO391.out).2.1); rintro e w44 ⟨rfl, hb⟩; refine ⟨_, rfl, ?_⟩; have n0_ := Aside0.mk (Kd.R_below (sqy HO381.out) hb); have n1_ := Aside0.mk (Kd.S_below (by (with_reducible repeat (first | apply Kd.S_alloc | apply Kd.S_drewN | apply Kd.S_drew)); exact HO384.out) hb); have n2_ := Aside0.mk (Kd.R_below (sqy HO387.out) hb); have n3_ := Aside0.mk (Kd.R_below (sqy HO391.out) hb); have n4_ := sqb BK376 hb; have n5_ := sqs HB hb; clear HO381; clear HO384; clear HO387; clear HO391; clear BK376; clear HB; have HO381 := n0_; have HO384 := n1_; have HO387 := n2_; have HO391 := n3_; have BK376 := n4_; have HB := n5_; clear n0_ n1_ n2_ n3_ n4_ n5_; (try clear hb); have hcz45_0 : w44.cell? ⟨gb376, 0, none⟩ = some (.bool a0_0) := (blk_cell BK376.out 0).trans rfl; have hcz45_1 : w44.cell? ⟨gb376, 1, none⟩ = some (.slice A0_1 l0_1.length c0_1) := (blk_cell BK376.out 1).trans rfl; have hcz45_2 : w44.cell? ⟨gb376, 2, none⟩ = some (.slice A0_2 l0_2.length c0_2) := (blk_cell BK376.out 2).trans rfl; have hcz45_3 : w44.cell? ⟨gb376, 3, none⟩ = some (.slice A0_3 l0_3.length c0_3) := (blk_cell BK376.out 3).trans rfl; have hcz45_4 : w44.cell? ⟨gb376, 4, none⟩ = some (.int .i64 a0_4) := (blk_cell BK376.out 4).trans rfl; have hcz45_5 : w44.cell? ⟨gb376, 5, none⟩ = some (.slice A0_5 l0_5.length c0_5) := (blk_cell BK376.out 5).trans rfl; have hfz45_0 := blk_frozen BK376.out 0; have hfz45_1 := blk_frozen BK376.out 1; have hfz45_2 := blk_frozen BK376.out 2; have hfz45_3 := blk_frozen BK376.out 3; have hfz45_4 := blk_frozen BK376.out 4; have hfz45_5 := blk_frozen BK376.out 5) | ((with_reducible refine gate_callee (f := 59) rfl ?_); refine sqL (some 16) Try.func59 #[.agg #[.bool a0_0, .slice A0_1 l0_1.length c0_1, .slice A0_2 l0_2.length c0_2, .slice A0_3 l0_3.length c0_3, .int .i64 a0_4, .slice A0_5 l0_5.length c0_5]] ?_; (with_reducible refine (laws_toAbs.calls k a0_0 _ _ l0_1 _ _ l0_2 _ _ l0_3 a0_4 _ _ l0_5 t393 t394 t397 t400 t403 t404 _ ?side1 ?side2 ?side3 ?side4 ?side5 ?side6 ?side7 ?side8 A9.out).mono ?_); (case side1 => repeat (first | exact (Kd.C_below HR0_1.out HB.out) | (with_reducible refine Kd.C_alloc ?_ _) | (with_reducible refine Kd.C_drewN ?_ _) | (with_reducible refine Kd.C_drew ?_))); (case side2 => exact HC0_1.out); (case side3 => repeat (first | exact (Kd.C_below HR0_2.out HB.out) | (with_reducible refine Kd.C_alloc ?_ _) | (with_reducible refine Kd.C_drewN ?_ _) | (with_reducible refine Kd.C_drew ?_))); (case side4 => exact HC0_2.out); (case side5 => repeat (first | exact (Kd.C_below HR0_3.out HB.out) | (with_reducible refine Kd.C_alloc ?_ _) | (with_reducible refine Kd.C_drewN ?_ _) | (with_reducible refine Kd.C_drew ?_))); (case side6 => exact HC0_3.out); (case side7 => repeat (first | exact (Kd.C_below HR0_5.out HB.out) | (with_reducible refine Kd.C_alloc ?_ _) | (with_reducible refine Kd.C_drewN ?_ _) | (with_reducible refine Kd.C_drew ?_))); (case side8 => exact HC0_5.out); rintro e w46 ⟨v395, v398, v401, v405, rfl, ho0, ho1, ho2, ho3, hb⟩; refine ⟨_, rfl, ?_⟩; have n0_ := Aside0.mk (Kd.R_mono (Kd.R_told (Kd.R_told (Kd.R_old (sqy HO381.out) hb) (Kd.R_base ho0)) (Kd.R_base ho2)) (fun _ h_ => h_.1)); have n1_ := Aside0.mk (Kd.S_mono (Kd.S_told (Kd.S_told (Kd.S_old (by (with_reducible repeat (first | apply Kd.S_alloc | apply Kd.S_drewN | apply Kd.S_drew)); exact HO384.out) hb) (Kd.S_base ho1)) (Kd.R_base ho3)) (fun _ h_ => h_.1)); have n2_ := Aside0.mk (Kd.R_mono (Kd.R_told (Kd.R_told (Kd.R_old (sqy HO387.out) hb) (Kd.R_base ho0)) (Kd.R_base ho2)) (fun _ h_ => h_.1)); have n3_ := Aside0.mk (Kd.R_elder' (sqy HO391.out) (Kd.R_base ho3) hb); have n4_ := Aside0.mk (Kd.R_lower (Kd.R_new' (Kd.R_new' ho0 (Kd.R_lt (sqy HO381.out))) (Kd.R_lt (sqy HO387.out))) (below_size (by repeat (first | (with_reducible first | exact HB.out | apply below_alloc | apply pw_below_drewN | apply below_drew1 | refine below_set ?_ GE376.out) | exact HB.out)))); have n5_ := Aside0.mk (Kd.S_lower (Kd.S_new' (Kd.S_new' ho1 (Kd.S_lt (by (with_reducible repeat (first | apply Kd.S_alloc | apply Kd.S_drewN | apply Kd.S_drew)); exact HO384.out))) (Kd.R_lt (sqy HO391.out))) (below_size (by repeat (first | (with_reducible first | exact HB.out | apply below_alloc | apply pw_below_drewN | apply below_drew1 | refine below_set ?_ GE376.out) | exact HB.out)))); have n6_ := Aside0.mk (Kd.R_lower (Kd.R_new' (Kd.R_new' ho2 (Kd.R_lt (sqy HO381.out))) (Kd.R_lt (sqy HO387.out))) (below_size (by repeat (first | (with_reducible first | exact HB.out | apply below_alloc | apply pw_below_drewN | apply below_drew1 | refine below_set ?_ GE376.out) | exact HB.out)))); have n7_ := Aside0.mk (Kd.R_lower (Kd.R_new' ho3 (Kd.R_lt (sqy HO391.out))) (below_size (by repeat (first | (with_reducible first | exact HB.out | apply below_alloc | apply pw_below_drewN | apply below_drew1 | refine below_set ?_ GE376.out) | exact HB.out)))); have n8_ := sqb BK376 hb; have n9_ := sqs HB hb; clear HO381; clear HO384; clear HO387; clear HO391; clear BK376; clear HB; have HO381 := n0_; have HO384 := n1_; have HO387 := n2_; have HO391 := n3_; have HO396 := n4_; have HO399 := n5_; have HO402 := n6_; have HO406 := n7_; have BK376 := n8_; have HB := n9_; clear n0_ n1_ n2_ n3_ n4_ n5_ n6_ n7_ n8_ n9_; (try clear hb); (try clear hb2); (try clear hk); (try clear hi); (try clear ho0); (try clear ho1); (try clear ho2); (try clear ho3)) | ((with_reducible refine gate_dst (N := 5) rfl ?_); refine sqx 5 #[.bool false, .slice none 0 0, .slice none 0 0, .slice none 0 0, .int .i64 0, .slice none 0 0] 78 ?_; intro gb407 hg w47 hbox hb; have n0_ := Aside0.mk (Kd.R_below (sqy HO381.out) hb); have n1_ := Aside0.mk (Kd.S_below (by (with_reducible repeat (first | apply Kd.S_alloc | apply Kd.S_drewN | apply Kd.S_drew)); exact HO384.out) hb); have n2_ := Aside0.mk (Kd.R_below (sqy HO387.out) hb); have n3_ := Aside0.mk (Kd.R_below (sqy HO391.out) hb); have n4_ := Aside0.mk (Kd.R_below (sqy HO396.out) hb); have n5_ := Aside0.mk (Kd.S_below (by (with_reducible repeat (first | apply Kd.S_alloc | apply Kd.S_drewN | apply Kd.S_drew)); exact HO399.out) hb); have n6_ := Aside0.mk (Kd.R_below (sqy HO402.out) hb); have n7_ := Aside0.mk (Kd.R_below (sqy HO406.out) hb); have n8_ := sqb BK376 hb; have n9_ := sqs HB hb; have n10_ := Aside0.mk (hbox); have n11_ := sqg HB hg; have n12_ := sqg HB hg; have n13_ := sqn BK376 hg; have n14_ := sqm BK376 hg; clear HO381; clear HO384; clear HO387; clear HO391; clear HO396; clear HO399; clear HO402; clear HO406; clear BK376; clear HB; have HO381 := n0_; have HO384 := n1_; have HO387 := n2_; have HO391 := n3_; have HO396 := n4_; have HO399 := n5_; have HO402 := n6_; have HO406 := n7_; have BK376 := n8_; have HB := n9_; have BK407 := n10_; have GW407 := n11_; have GE407 := n12_; have NB376_407 := n13_; have NB407_376 := n14_; clear n0_ n1_ n2_ n3_ n4_ n5_ n6_ n7_ n8_ n9_ n10_ n11_ n12_ n13_ n14_; clear hb hbox hg; have hnb48 := NB407_376.out; have hnc48 := NB376_407.out; have hcz49_0 : w47.cell? ⟨gb407, 0, none⟩ = some (.bool false) := (blk_cell BK407.out 0).trans rfl; have hcz49_1 : w47.cell? ⟨gb407, 1, none⟩ = some (.slice none 0 0) := (blk_cell BK407.out 1).trans rfl; have hcz49_2 : w47.cell? ⟨gb407, 2, none⟩ = some (.slice none 0 0) := (blk_cell BK407.out 2).trans rfl; have hcz49_3 : w47.cell? ⟨gb407, 3, none⟩ = some (.slice none 0 0) := (blk_cell BK407.out 3).trans rfl; have hcz49_4 : w47.cell? ⟨gb407, 4, none⟩ = some (.int .i64 0) := (blk_cell BK407.out 4).trans rfl; have hcz49_5 : w47.cell? ⟨gb407, 5, none⟩ = some (.slice none 0 0) := (blk_cell BK407.out 5).trans rfl; have hfz49_0 := blk_frozen BK407.out 0; have hfz49_1 := blk_frozen BK407.out 1; have hfz49_2 := blk_frozen BK407.out 2; have hfz49_3 := blk_frozen BK407.out 3; have hfz49_4 := blk_frozen BK407.out 4; have hfz49_5 := blk_frozen BK407.out 5; obtain ⟨Ao50, co50, eo50⟩ := Kd.R_slice HO396.out; subst eo50; obtain ⟨Ao51, co51, eo51⟩ := Kd.S_slice HO399.out; subst eo51; obtain ⟨Ao52, co52, eo52⟩ := Kd.R_slice HO402.out; subst eo52; obtain ⟨Ao53, co53, eo53⟩ := Kd.R_slice HO406.out; subst eo53) | ((with_reducible refine gate_callee (f := 60) rfl ?_); refine sqL (some 18) Try.func60 #[.agg #[.bool t393, .slice Ao50 t394.length co50, .slice Ao51 t397.length co51, .slice Ao52 t400.length co52, .int .i64 t403, .slice Ao53 t404.length co53]] ?_; (with_reducible refine (impl_AbsOk.calls k t393 _ _ t394 _ _ t397 _ _ t400 t403 _ _ t404 t408 _ ?side1 ?side2 ?side3 ?side4 ?side5 ?side6 ?side7 ?side8 A10.out).mono ?_); (case side1 => refine (Kd.R_reads' (e := 30) (base := w.heap.size) (ok := fun k_ => ((some k_ ≠ (.slice Ao52 t400.length co52 : Value).ownBlock ∧ some k_ ≠ (.slice Ao40 t379.length co40 : Value).ownBlock) ∧ some k_ ≠ (.slice Ao42 t385.length co42 : Value).ownBlock)) (n := t394.length) (c := co50) ?_).2.2; exact (by (with_reducible repeat (first | apply Kd.R_alloc | apply Kd.R_drewN | apply Kd.R_drew)); exact (Kd.R_mono (Kd.R_far (p := ⟨gb407, 5, none⟩) (Kd.R_far (p := ⟨gb407, 4, none⟩) (Kd.R_far (p := ⟨gb407, 3, none⟩) (Kd.R_far (p := ⟨gb407, 2, none⟩) (Kd.R_far (p := ⟨gb407, 1, none⟩) (Kd.R_far (p := ⟨gb407, 0, none⟩) (Kd.R_types HO396.out BK407.out (by decide)) (fun _ hk => hk.2) (.bool t393)) (fun _ hk => hk.2) (.slice Ao50 t394.length co50)) (fun _ hk => hk.2) (.slice Ao51 t397.length co51)) (fun _ hk => hk.2) (.slice Ao52 t400.length co52)) (fun _ hk => hk.2) (.int .i64 t403)) (fun _ hk => hk.2) (.slice Ao53 t404.length co53)) (fun _ h_ => h_.1)))); (case side2 => exact (Kd.R_reads' HO396.out).2.1); (case side3 => refine (Kd.S_reads' (e := 132) (base := w.heap.size) (ok := fun k_ => ((some k_ ≠ (.slice Ao53 t404.length co53 : Value).ownBlock ∧ some k_ ≠ (.slice Ao41 t382.length co41 : Value).ownBlock) ∧ some k_ ≠ (.slice Ao43 t389.length co43 : Value).ownBlock)) (n := t397.length) (c := co51) ?_).2.2; exact (by (with_reducible repeat (first | apply Kd.S_alloc | apply Kd.S_drewN | apply Kd.S_drew)); exact (Kd.S_mono (Kd.S_far (p := ⟨gb407, 5, none⟩) (Kd.S_far (p := ⟨gb407, 4, none⟩) (Kd.S_far (p := ⟨gb407, 3, none⟩) (Kd.S_far (p := ⟨gb407, 2, none⟩) (Kd.S_far (p := ⟨gb407, 1, none⟩) (Kd.S_far (p := ⟨gb407, 0, none⟩) (Kd.S_types HO399.out BK407.out (by decide)) (fun _ hk => hk.2) (.bool t393)) (fun _ hk => hk.2) (.slice Ao50 t394.length co50)) (fun _ hk => hk.2) (.slice Ao51 t397.length co51)) (fun _ hk => hk.2) (.slice Ao52 t400.length co52)) (fun _ hk => hk.2) (.int .i64 t403)) (fun _ hk => hk.2) (.slice Ao53 t404.length co53)) (fun _ h_ => h_.1)))); (case side4 => exact (Kd.S_reads' HO399.out).2.1); (case side5 => refine (Kd.R_reads' (e := 30) (base := w.heap.size) (ok := fun k_ => ((some k_ ≠ (.slice Ao50 t394.length co50 : Value).ownBlock ∧ some k_ ≠ (.slice Ao40 t379.length co40 : Value).ownBlock) ∧ some k_ ≠ (.slice Ao42 t385.length co42 : Value).ownBlock)) (n := t400.length) (c := co52) ?_).2.2; exact (by (with_reducible repeat (first | apply Kd.R_alloc | apply Kd.R_drewN | apply Kd.R_drew)); exact (Kd.R_mono (Kd.R_far (p := ⟨gb407, 5, none⟩) (Kd.R_far (p := ⟨gb407, 4, none⟩) (Kd.R_far (p := ⟨gb407, 3, none⟩) (Kd.R_far (p := ⟨gb407, 2, none⟩) (Kd.R_far (p := ⟨gb407, 1, none⟩) (Kd.R_far (p := ⟨gb407, 0, none⟩) (Kd.R_types HO402.out BK407.out (by decide)) (fun _ hk => hk.2) (.bool t393)) (fun _ hk => hk.2) (.slice Ao50 t394.length co50)) (fun _ hk => hk.2) (.slice Ao51 t397.length co51)) (fun _ hk => hk.2) (.slice Ao52 t400.length co52)) (fun _ hk => hk.2) (.int .i64 t403)) (fun _ hk => hk.2) (.slice Ao53 t404.length co53)) (fun _ h_ => h_.1)))); (case side6 => exact (Kd.R_reads' HO402.out).2.1); (case side7 => refine (Kd.R_reads' (e := 3) (base := w.heap.size) (ok := fun k_ => (True ∧ some k_ ≠ (.slice Ao43 t389.length co43 : Value).ownBlock)) (n := t404.length) (c := co53) ?_).2.2; exact (by (with_reducible repeat (first | apply Kd.R_alloc | apply Kd.R_drewN | apply Kd.R_drew)); exact (Kd.R_mono (Kd.R_far (p := ⟨gb407, 5, none⟩) (Kd.R_far (p := ⟨gb407, 4, none⟩) (Kd.R_far (p := ⟨gb407, 3, none⟩) (Kd.R_far (p := ⟨gb407, 2, none⟩) (Kd.R_far (p := ⟨gb407, 1, none⟩) (Kd.R_far (p := ⟨gb407, 0, none⟩) (Kd.R_types HO406.out BK407.out (by decide)) (fun _ hk => hk.2) (.bool t393)) (fun _ hk => hk.2) (.slice Ao50 t394.length co50)) (fun _ hk => hk.2) (.slice Ao51 t397.length co51)) (fun _ hk => hk.2) (.slice Ao52 t400.length co52)) (fun _ hk => hk.2) (.int .i64 t403)) (fun _ hk => hk.2) (.slice Ao53 t404.length co53)) (fun _ h_ => h_.1)))); (case side8 => exact (Kd.R_reads' HO406.out).2.1); rintro e w54 ⟨rfl, hb⟩; refine ⟨_, rfl, ?_⟩; have n0_ := Aside0.mk (Kd.R_below (by (with_reducible repeat (first | apply Kd.R_alloc | apply Kd.R_drewN | apply Kd.R_drew)); exact (Kd.R_mono (Kd.R_far (p := ⟨gb407, 5, none⟩) (Kd.R_far (p := ⟨gb407, 4, none⟩) (Kd.R_far (p := ⟨gb407, 3, none⟩) (Kd.R_far (p := ⟨gb407, 2, none⟩) (Kd.R_far (p := ⟨gb407, 1, none⟩) (Kd.R_far (p := ⟨gb407, 0, none⟩) (Kd.R_types HO381.out BK407.out (by decide)) (fun _ hk => hk.2) (.bool t393)) (fun _ hk => hk.2) (.slice Ao50 t394.length co50)) (fun _ hk => hk.2) (.slice Ao51 t397.length co51)) (fun _ hk => hk.2) (.slice Ao52 t400.length co52)) (fun _ hk => hk.2) (.int .i64 t403)) (fun _ hk => hk.2) (.slice Ao53 t404.length co53)) (fun _ h_ => h_.1))) hb); have n1_ := Aside0.mk (Kd.S_below (by (with_reducible repeat (first | apply Kd.S_alloc | apply Kd.S_drewN | apply Kd.S_drew)); exact (Kd.S_mono (Kd.S_far (p := ⟨gb407, 5, none⟩) (Kd.S_far (p := ⟨gb407, 4, none⟩) (Kd.S_far (p := ⟨gb407, 3, none⟩) (Kd.S_far (p := ⟨gb407, 2, none⟩) (Kd.S_far (p := ⟨gb407, 1, none⟩) (Kd.S_far (p := ⟨gb407, 0, none⟩) (Kd.S_types HO384.out BK407.out (by decide)) (fun _ hk => hk.2) (.bool t393)) (fun _ hk => hk.2) (.slice Ao50 t394.length co50)) (fun _ hk => hk.2) (.slice Ao51 t397.length co51)) (fun _ hk => hk.2) (.slice Ao52 t400.length co52)) (fun _ hk => hk.2) (.int .i64 t403)) (fun _ hk => hk.2) (.slice Ao53 t404.length co53)) (fun _ h_ => h_.1))) hb); have n2_ := Aside0.mk (Kd.R_below (by (with_reducible repeat (first | apply Kd.R_alloc | apply Kd.R_drewN | apply Kd.R_drew)); exact (Kd.R_mono (Kd.R_far (p := ⟨gb407, 5, none⟩) (Kd.R_far (p := ⟨gb407, 4, none⟩) (Kd.R_far (p := ⟨gb407, 3, none⟩) (Kd.R_far (p := ⟨gb407, 2, none⟩) (Kd.R_far (p := ⟨gb407, 1, none⟩) (Kd.R_far (p := ⟨gb407, 0, none⟩) (Kd.R_types HO387.out BK407.out (by decide)) (fun _ hk => hk.2) (.bool t393)) (fun _ hk => hk.2) (.slice Ao50 t394.length co50)) (fun _ hk => hk.2) (.slice Ao51 t397.length co51)) (fun _ hk => hk.2) (.slice Ao52 t400.length co52)) (fun _ hk => hk.2) (.int .i64 t403)) (fun _ hk => hk.2) (.slice Ao53 t404.length co53)) (fun _ h_ => h_.1))) hb); have n3_ := Aside0.mk (Kd.R_below (by (with_reducible repeat (first | apply Kd.R_alloc | apply Kd.R_drewN | apply Kd.R_drew)); exact (Kd.R_mono (Kd.R_far (p := ⟨gb407, 5, none⟩) (Kd.R_far (p := ⟨gb407, 4, none⟩) (Kd.R_far (p := ⟨gb407, 3, none⟩) (Kd.R_far (p := ⟨gb407, 2, none⟩) (Kd.R_far (p := ⟨gb407, 1, none⟩) (Kd.R_far (p := ⟨gb407, 0, none⟩) (Kd.R_types HO391.out BK407.out (by decide)) (fun _ hk => hk.2) (.bool t393)) (fun _ hk => hk.2) (.slice Ao50 t394.length co50)) (fun _ hk => hk.2) (.slice Ao51 t397.length co51)) (fun _ hk => hk.2) (.slice Ao52 t400.length co52)) (fun _ hk => hk.2) (.int .i64 t403)) (fun _ hk => hk.2) (.slice Ao53 t404.length co53)) (fun _ h_ => h_.1))) hb); have n4_ := Aside0.mk (Kd.R_below (by (with_reducible repeat (first | apply Kd.R_alloc | apply Kd.R_drewN | apply Kd.R_drew)); exact (Kd.R_mono (Kd.R_far (p := ⟨gb407, 5, none⟩) (Kd.R_far (p := ⟨gb407, 4, none⟩) (Kd.R_far (p := ⟨gb407, 3, none⟩) (Kd.R_far (p := ⟨gb407, 2, none⟩) (Kd.R_far (p := ⟨gb407, 1, none⟩) (Kd.R_far (p := ⟨gb407, 0, none⟩) (Kd.R_types HO396.out BK407.out (by decide)) (fun _ hk => hk.2) (.bool t393)) (fun _ hk => hk.2) (.slice Ao50 t394.length co50)) (fun _ hk => hk.2) (.slice Ao51 t397.length co51)) (fun _ hk => hk.2) (.slice Ao52 t400.length co52)) (fun _ hk => hk.2) (.int .i64 t403)) (fun _ hk => hk.2) (.slice Ao53 t404.length co53)) (fun _ h_ => h_.1))) hb); have n5_ := Aside0.mk (Kd.S_below (by (with_reducible repeat (first | apply Kd.S_alloc | apply Kd.S_drewN | apply Kd.S_drew)); exact (Kd.S_mono (Kd.S_far (p := ⟨gb407, 5, none⟩) (Kd.S_far (p := ⟨gb407, 4, none⟩) (Kd.S_far (p := ⟨gb407, 3, none⟩) (Kd.S_far (p := ⟨gb407, 2, none⟩) (Kd.S_far (p := ⟨gb407, 1, none⟩) (Kd.S_far (p := ⟨gb407, 0, none⟩) (Kd.S_types HO399.out BK407.out (by decide)) (fun _ hk => hk.2) (.bool t393)) (fun _ hk => hk.2) (.slice Ao50 t394.length co50)) (fun _ hk => hk.2) (.slice Ao51 t397.length co51)) (fun _ hk => hk.2) (.slice Ao52 t400.length co52)) (fun _ hk => hk.2) (.int .i64 t403)) (fun _ hk => hk.2) (.slice Ao53 t404.length co53)) (fun _ h_ => h_.1))) hb); have n6_ := Aside0.mk (Kd.R_below (by (with_reducible repeat (first | apply Kd.R_alloc | apply Kd.R_drewN | apply Kd.R_drew)); exact (Kd.R_mono (Kd.R_far (p := ⟨gb407, 5, none⟩) (Kd.R_far (p := ⟨gb407, 4, none⟩) (Kd.R_far (p := ⟨gb407, 3, none⟩) (Kd.R_far (p := ⟨gb407, 2, none⟩) (Kd.R_far (p := ⟨gb407, 1, none⟩) (Kd.R_far (p := ⟨gb407, 0, none⟩) (Kd.R_types HO402.out BK407.out (by decide)) (fun _ hk => hk.2) (.bool t393)) (fun _ hk => hk.2) (.slice Ao50 t394.length co50)) (fun _ hk => hk.2) (.slice Ao51 t397.length co51)) (fun _ hk => hk.2) (.slice Ao52 t400.length co52)) (fun _ hk => hk.2) (.int .i64 t403)) (fun _ hk => hk.2) (.slice Ao53 t404.length co53)) (fun _ h_ => h_.1))) hb); have n7_ := Aside0.mk (Kd.R_below (by (with_reducible repeat (first | apply Kd.R_alloc | apply Kd.R_drewN | apply Kd.R_drew)); exact (Kd.R_mono (Kd.R_far (p := ⟨gb407, 5, none⟩) (Kd.R_far (p := ⟨gb407, 4, none⟩) (Kd.R_far (p := ⟨gb407, 3, none⟩) (Kd.R_far (p := ⟨gb407, 2, none⟩) (Kd.R_far (p := ⟨gb407, 1, none⟩) (Kd.R_far (p := ⟨gb407, 0, none⟩) (Kd.R_types HO406.out BK407.out (by decide)) (fun _ hk => hk.2) (.bool t393)) (fun _ hk => hk.2) (.slice Ao50 t394.length co50)) (fun _ hk => hk.2) (.slice Ao51 t397.length co51)) (fun _ hk => hk.2) (.slice Ao52 t400.length co52)) (fun _ hk => hk.2) (.int .i64 t403)) (fun _ hk => hk.2) (.slice Ao53 t404.length co53)) (fun _ h_ => h_.1))) hb); have n8_ := Aside0.mk (blk_below (g := gb376) (o := .cells #[.bool a0_0, .slice A0_1 l0_1.length c0_1, .slice A0_2 l0_2.length c0_2, .slice A0_3 l0_3.length c0_3, .int .i64 a0_4, .slice A0_5 l0_5.length c0_5] 72 (0, 0)) (by refine sqt ?_; refine blk_far ?_ NB376_407.out _; refine sqt ?_; refine blk_far ?_ NB376_407.out _; refine sqt ?_; refine blk_far ?_ NB376_407.out _; refine sqt ?_; refine blk_far ?_ NB376_407.out _; refine sqt ?_; refine blk_far ?_ NB376_407.out _; refine sqt ?_; refine blk_far ?_ NB376_407.out _; refine sqt ?_; exact BK376.out) hb); have n9_ := Aside0.mk (blk_below (g := gb407) (o := .cells #[.bool t393, .slice Ao50 t394.length co50, .slice Ao51 t397.length co51, .slice Ao52 t400.length co52, .int .i64 t403, .slice Ao53 t404.length co53] 78 (0, 0)) (by refine sqt ?_; refine blk_put (cs := #[.bool t393, .slice Ao50 t394.length co50, .slice Ao51 t397.length co51, .slice Ao52 t400.length co52, .int .i64 t403, .slice none 0 0]) ?_ 5 _ rfl; refine sqt ?_; refine blk_put (cs := #[.bool t393, .slice Ao50 t394.length co50, .slice Ao51 t397.length co51, .slice Ao52 t400.length co52, .int .i64 0, .slice none 0 0]) ?_ 4 _ rfl; refine sqt ?_; refine blk_put (cs := #[.bool t393, .slice Ao50 t394.length co50, .slice Ao51 t397.length co51, .slice none 0 0, .int .i64 0, .slice none 0 0]) ?_ 3 _ rfl; refine sqt ?_; refine blk_put (cs := #[.bool t393, .slice Ao50 t394.length co50, .slice none 0 0, .slice none 0 0, .int .i64 0, .slice none 0 0]) ?_ 2 _ rfl; refine sqt ?_; refine blk_put (cs := #[.bool t393, .slice none 0 0, .slice none 0 0, .slice none 0 0, .int .i64 0, .slice none 0 0]) ?_ 1 _ rfl; refine sqt ?_; refine blk_put (cs := #[.bool false, .slice none 0 0, .slice none 0 0, .slice none 0 0, .int .i64 0, .slice none 0 0]) ?_ 0 _ rfl; refine sqt ?_; exact BK407.out) hb); have n10_ := sqs HB hb; clear HO381; clear HO384; clear HO387; clear HO391; clear HO396; clear HO399; clear HO402; clear HO406; clear BK376; clear BK407; clear HB; have HO381 := n0_; have HO384 := n1_; have HO387 := n2_; have HO391 := n3_; have HO396 := n4_; have HO399 := n5_; have HO402 := n6_; have HO406 := n7_; have BK376 := n8_; have BK407 := n9_; have HB := n10_; clear n0_ n1_ n2_ n3_ n4_ n5_ n6_ n7_ n8_ n9_ n10_; (try clear hb); (try clear hb2); (try clear hk); (try clear hi)))
    replace HO381 := Aside0.mk (Kd.R_drew HO381.out)
    replace HO384 := Aside0.mk (Kd.S_drew HO384.out)
    replace HO387 := Aside0.mk (Kd.R_drew HO387.out)
    replace HO391 := Aside0.mk (Kd.R_drew HO391.out)
    replace HO396 := Aside0.mk (Kd.R_drew HO396.out)
    replace HO399 := Aside0.mk (Kd.S_drew HO399.out)
    replace HO402 := Aside0.mk (Kd.R_drew HO402.out)
    replace HO406 := Aside0.mk (Kd.R_drew HO406.out)
    replace BK376 := Aside0.mk (blk_drew BK376.out)
    replace BK407 := Aside0.mk (blk_drew BK407.out)
    replace HB := Aside0.mk (below_drew1 HB.out)
    refine start_ (n := 5) (S := fun w' => w'.cell? ⟨gb407, 0, none⟩ = some (.bool t393) ∧ w'.cell? ⟨gb407, 1, none⟩ = some (.slice Ao50 t394.length co50) ∧ w'.cell? ⟨gb407, 2, none⟩ = some (.slice Ao51 t397.length co51) ∧ w'.cell? ⟨gb407, 3, none⟩ = some (.slice Ao52 t400.length co52) ∧ w'.cell? ⟨gb407, 4, none⟩ = some (.int .i64 t403) ∧ w'.cell? ⟨gb407, 5, none⟩ = some (.slice Ao53 t404.length co53) ∧ w'.cell? ⟨gb376, 0, none⟩ = some (.bool a0_0) ∧ w'.cell? ⟨gb376, 1, none⟩ = some (.slice A0_1 l0_1.length c0_1) ∧ w'.cell? ⟨gb376, 2, none⟩ = some (.slice A0_2 l0_2.length c0_2) ∧ w'.cell? ⟨gb376, 3, none⟩ = some (.slice A0_3 l0_3.length c0_3) ∧ w'.cell? ⟨gb376, 4, none⟩ = some (.int .i64 a0_4) ∧ w'.cell? ⟨gb376, 5, none⟩ = some (.slice A0_5 l0_5.length c0_5)) (ds := []) #[false, false, false, false, false] (by kernel_rfl) rfl rfl ⟨(blk_cell BK407.out 0).trans rfl, (blk_cell BK407.out 1).trans rfl, (blk_cell BK407.out 2).trans rfl, (blk_cell BK407.out 3).trans rfl, (blk_cell BK407.out 4).trans rfl, (blk_cell BK407.out 5).trans rfl, (blk_cell BK376.out 0).trans rfl, (blk_cell BK376.out 1).trans rfl, (blk_cell BK376.out 2).trans rfl, (blk_cell BK376.out 3).trans rfl, (blk_cell BK376.out 4).trans rfl, (blk_cell BK376.out 5).trans rfl⟩ (fun hHeld => ?_)
    generalize w54.drew = w55 at HO381 HO384 HO387 HO391 HO396 HO399 HO402 HO406 BK376 BK407 HB hHeld ⊢
    refine take_ (i := 0) (N := some 22) (v := ?_) (a' := ?_) #[true, false, false, false, false] rfl rfl (by kernel_rfl) (fun _ _ _ h => h) (Or.inl ⟨by rfl, ?_⟩) hHeld ?_ ?_
    rotate_left
    ·rintro w' ⟨s0, s1, s2, s3, s4, s5, s6, s7, s8, s9, s10, s11⟩
     go_simp
     with_reducible rfl
    rotate_left
    ·simp only [Act.put, List.setIfInBounds_toArray, List.set_cons_zero, List.set_cons_succ, i64_w, i32_w]
     rfl
    refine take_ (i := 1) (N := some 23) (v := ?_) (a' := ?_) #[true, true, false, false, false] rfl rfl (by kernel_rfl) (fun _ _ _ h => h) (Or.inl ⟨by rfl, ?_⟩) hHeld ?_ ?_
    rotate_left
    ·rintro w' ⟨s0, s1, s2, s3, s4, s5, s6, s7, s8, s9, s10, s11⟩
     go_simp
     with_reducible rfl
    rotate_left
    ·simp only [Act.put, List.setIfInBounds_toArray, List.set_cons_zero, List.set_cons_succ, i64_w, i32_w]
     rfl
    refine one_ (i := 2) (N := some 24) #[true, true, true, false, false] rfl rfl (by kernel_rfl) (by decide) (fun K hK => ?_)
    refine sqG Try.func59 #[.agg #[.bool a0_0, .slice A0_1 l0_1.length c0_1, .slice A0_2 l0_2.length c0_2, .slice A0_3 l0_3.length c0_3, .int .i64 a0_4, .slice A0_5 l0_5.length c0_5]] ?_
    with_reducible refine (laws_toAbs.calls k a0_0 _ _ l0_1 _ _ l0_2 _ _ l0_3 a0_4 _ _ l0_5 t409 t410 t413 t416 t419 t420 _ ?side1 ?side2 ?side3 ?side4 ?side5 ?side6 ?side7 ?side8 A32.out).mono ?_
    (case side1 => repeat (first | exact (Kd.C_below HR0_1.out HB.out) | (with_reducible refine Kd.C_alloc ?_ _) | (with_reducible refine Kd.C_drewN ?_ _) | (with_reducible refine Kd.C_drew ?_)))
    (case side2 => exact HC0_1.out)
    (case side3 => repeat (first | exact (Kd.C_below HR0_2.out HB.out) | (with_reducible refine Kd.C_alloc ?_ _) | (with_reducible refine Kd.C_drewN ?_ _) | (with_reducible refine Kd.C_drew ?_)))
    (case side4 => exact HC0_2.out)
    (case side5 => repeat (first | exact (Kd.C_below HR0_3.out HB.out) | (with_reducible refine Kd.C_alloc ?_ _) | (with_reducible refine Kd.C_drewN ?_ _) | (with_reducible refine Kd.C_drew ?_)))
    (case side6 => exact HC0_3.out)
    (case side7 => repeat (first | exact (Kd.C_below HR0_5.out HB.out) | (with_reducible refine Kd.C_alloc ?_ _) | (with_reducible refine Kd.C_drewN ?_ _) | (with_reducible refine Kd.C_drew ?_)))
    (case side8 => exact HC0_5.out)
    rintro e w56 ⟨v411, v414, v417, v421, rfl, ho0, ho1, ho2, ho3, hb⟩
    refine ⟨_, rfl, ?_⟩
    have n0_ := Aside0.mk (Kd.R_mono (Kd.R_told (Kd.R_told (Kd.R_old (sqy HO381.out) hb) (Kd.R_base ho0)) (Kd.R_base ho2)) (fun _ h_ => h_.1))
    have n1_ := Aside0.mk (Kd.S_mono (Kd.S_told (Kd.S_told (Kd.S_old (by (with_reducible repeat (first | apply Kd.S_alloc | apply Kd.S_drewN | apply Kd.S_drew)); exact HO384.out) hb) (Kd.S_base ho1)) (Kd.R_base ho3)) (fun _ h_ => h_.1))
    have n2_ := Aside0.mk (Kd.R_mono (Kd.R_told (Kd.R_told (Kd.R_old (sqy HO387.out) hb) (Kd.R_base ho0)) (Kd.R_base ho2)) (fun _ h_ => h_.1))
    have n3_ := Aside0.mk (Kd.R_elder' (sqy HO391.out) (Kd.R_base ho3) hb)
    have n4_ := Aside0.mk (Kd.R_mono (Kd.R_told (Kd.R_told (Kd.R_old (sqy HO396.out) hb) (Kd.R_base ho0)) (Kd.R_base ho2)) (fun _ h_ => h_.1))
    have n5_ := Aside0.mk (Kd.S_mono (Kd.S_told (Kd.S_told (Kd.S_old (by (with_reducible repeat (first | apply Kd.S_alloc | apply Kd.S_drewN | apply Kd.S_drew)); exact HO399.out) hb) (Kd.S_base ho1)) (Kd.R_base ho3)) (fun _ h_ => h_.1))
    have n6_ := Aside0.mk (Kd.R_mono (Kd.R_told (Kd.R_told (Kd.R_old (sqy HO402.out) hb) (Kd.R_base ho0)) (Kd.R_base ho2)) (fun _ h_ => h_.1))
    have n7_ := Aside0.mk (Kd.R_elder' (sqy HO406.out) (Kd.R_base ho3) hb)
    have n8_ := Aside0.mk (Kd.R_lower (Kd.R_new' (Kd.R_new' (Kd.R_new' (Kd.R_new' ho0 (Kd.R_lt (sqy HO381.out))) (Kd.R_lt (sqy HO387.out))) (Kd.R_lt (sqy HO396.out))) (Kd.R_lt (sqy HO402.out))) (below_size (by repeat (first | (with_reducible first | exact HB.out | apply below_alloc | apply pw_below_drewN | apply below_drew1 | refine below_set ?_ GE376.out | refine below_set ?_ GE407.out) | exact HB.out))))
    have n9_ := Aside0.mk (Kd.S_lower (Kd.S_new' (Kd.S_new' (Kd.S_new' (Kd.S_new' ho1 (Kd.S_lt (by (with_reducible repeat (first | apply Kd.S_alloc | apply Kd.S_drewN | apply Kd.S_drew)); exact HO384.out))) (Kd.R_lt (sqy HO391.out))) (Kd.S_lt (by (with_reducible repeat (first | apply Kd.S_alloc | apply Kd.S_drewN | apply Kd.S_drew)); exact HO399.out))) (Kd.R_lt (sqy HO406.out))) (below_size (by repeat (first | (with_reducible first | exact HB.out | apply below_alloc | apply pw_below_drewN | apply below_drew1 | refine below_set ?_ GE376.out | refine below_set ?_ GE407.out) | exact HB.out))))
    have n10_ := Aside0.mk (Kd.R_lower (Kd.R_new' (Kd.R_new' (Kd.R_new' (Kd.R_new' ho2 (Kd.R_lt (sqy HO381.out))) (Kd.R_lt (sqy HO387.out))) (Kd.R_lt (sqy HO396.out))) (Kd.R_lt (sqy HO402.out))) (below_size (by repeat (first | (with_reducible first | exact HB.out | apply below_alloc | apply pw_below_drewN | apply below_drew1 | refine below_set ?_ GE376.out | refine below_set ?_ GE407.out) | exact HB.out))))
    have n11_ := Aside0.mk (Kd.R_lower (Kd.R_new' (Kd.R_new' ho3 (Kd.R_lt (sqy HO391.out))) (Kd.R_lt (sqy HO406.out))) (below_size (by repeat (first | (with_reducible first | exact HB.out | apply below_alloc | apply pw_below_drewN | apply below_drew1 | refine below_set ?_ GE376.out | refine below_set ?_ GE407.out) | exact HB.out))))
    have n12_ := sqb BK376 hb
    have n13_ := sqb BK407 hb
    have n14_ := sqs HB hb
    clear HO381
    clear HO384
    clear HO387
    clear HO391
    clear HO396
    clear HO399
    clear HO402
    clear HO406
    clear BK376
    clear BK407
    clear HB
    have HO381 := n0_
    have HO384 := n1_
    have HO387 := n2_
    have HO391 := n3_
    have HO396 := n4_
    have HO399 := n5_
    have HO402 := n6_
    have HO406 := n7_
    have HO412 := n8_
    have HO415 := n9_
    have HO418 := n10_
    have HO422 := n11_
    have BK376 := n12_
    have BK407 := n13_
    have HB := n14_
    clear n0_ n1_ n2_ n3_ n4_ n5_ n6_ n7_ n8_ n9_ n10_ n11_ n12_ n13_ n14_
    (try clear hb)
    (try clear hb2)
    (try clear hk)
    (try clear hi)
    (try clear ho0)
    (try clear ho1)
    (try clear ho2)
    (try clear ho3)
    obtain ⟨Ao57, co57, eo57⟩ := Kd.R_slice HO412.out
    (first | subst eo57 | (injection eo57 with f1_ f2_ f3_; have f4_ := f1_.symm; have f5_ := f3_.symm; clear f1_ f2_ f3_; subst f4_; subst f5_))
    obtain ⟨Ao58, co58, eo58⟩ := Kd.S_slice HO415.out
    (first | subst eo58 | (injection eo58 with f1_ f2_ f3_; have f4_ := f1_.symm; have f5_ := f3_.symm; clear f1_ f2_ f3_; subst f4_; subst f5_))
    obtain ⟨Ao59, co59, eo59⟩ := Kd.R_slice HO418.out
    (first | subst eo59 | (injection eo59 with f1_ f2_ f3_; have f4_ := f1_.symm; have f5_ := f3_.symm; clear f1_ f2_ f3_; subst f4_; subst f5_))
    obtain ⟨Ao60, co60, eo60⟩ := Kd.R_slice HO422.out
    (first | subst eo60 | (injection eo60 with f1_ f2_ f3_; have f4_ := f1_.symm; have f5_ := f3_.symm; clear f1_ f2_ f3_; subst f4_; subst f5_))
    refine hK.out _ _ sqz (fun hHeld => ?_)
    clear hK K
    refine sqnm ?_
    refine one_ (i := 3) (N := some 25) #[true, true, true, true, false] rfl rfl (by kernel_rfl) (by decide) (fun K hK => ?_)
    refine sqG Try.func61 #[.agg #[.bool t393, .slice Ao50 t394.length co50, .slice Ao51 t397.length co51, .slice Ao52 t400.length co52, .int .i64 t403, .slice Ao53 t404.length co53], .agg #[.bool t409, .slice Ao57 t410.length co57, .slice Ao58 t413.length co58, .slice Ao59 t416.length co59, .int .i64 t419, .slice Ao60 t420.length co60]] ?_
    with_reducible refine (laws_eqAbs.calls k t393 _ _ t394 _ _ t397 _ _ t400 t403 _ _ t404 t409 _ _ t410 _ _ t413 _ _ t416 t419 _ _ t420 true _ ?side1 ?side2 ?side3 ?side4 ?side5 ?side6 ?side7 ?side8 ?side9 ?side10 ?side11 ?side12 ?side13 ?side14 ?side15 ?side16 A33.out).mono ?_
    (case side1 => repeat (first | exact (Kd.R_reads' HO396.out).2.2 | (with_reducible refine Kd.C_alloc ?_ _) | (with_reducible refine Kd.C_drewN ?_ _) | (with_reducible refine Kd.C_drew ?_)))
    (case side2 => exact (Kd.R_reads' HO396.out).2.1)
    (case side3 => repeat (first | exact (Kd.S_reads' HO399.out).2.2 | (with_reducible refine Kd.C_alloc ?_ _) | (with_reducible refine Kd.C_drewN ?_ _) | (with_reducible refine Kd.C_drew ?_)))
    (case side4 => exact (Kd.S_reads' HO399.out).2.1)
    (case side5 => repeat (first | exact (Kd.R_reads' HO402.out).2.2 | (with_reducible refine Kd.C_alloc ?_ _) | (with_reducible refine Kd.C_drewN ?_ _) | (with_reducible refine Kd.C_drew ?_)))
    (case side6 => exact (Kd.R_reads' HO402.out).2.1)
    (case side7 => repeat (first | exact (Kd.R_reads' HO406.out).2.2 | (with_reducible refine Kd.C_alloc ?_ _) | (with_reducible refine Kd.C_drewN ?_ _) | (with_reducible refine Kd.C_drew ?_)))
    (case side8 => exact (Kd.R_reads' HO406.out).2.1)
    (case side9 => repeat (first | exact (Kd.R_reads' HO412.out).2.2 | (with_reducible refine Kd.C_alloc ?_ _) | (with_reducible refine Kd.C_drewN ?_ _) | (with_reducible refine Kd.C_drew ?_)))
    (case side10 => exact (Kd.R_reads' HO412.out).2.1)
    (case side11 => repeat (first | exact (Kd.S_reads' HO415.out).2.2 | (with_reducible refine Kd.C_alloc ?_ _) | (with_reducible refine Kd.C_drewN ?_ _) | (with_reducible refine Kd.C_drew ?_)))
    (case side12 => exact (Kd.S_reads' HO415.out).2.1)
    (case side13 => repeat (first | exact (Kd.R_reads' HO418.out).2.2 | (with_reducible refine Kd.C_alloc ?_ _) | (with_reducible refine Kd.C_drewN ?_ _) | (with_reducible refine Kd.C_drew ?_)))
    (case side14 => exact (Kd.R_reads' HO418.out).2.1)
    (case side15 => repeat (first | exact (Kd.R_reads' HO422.out).2.2 | (with_reducible refine Kd.C_alloc ?_ _) | (with_reducible refine Kd.C_drewN ?_ _) | (with_reducible refine Kd.C_drew ?_)))
    (case side16 => exact (Kd.R_reads' HO422.out).2.1)
    rintro e w61 ⟨rfl, hb⟩
    refine ⟨_, rfl, ?_⟩
    have n0_ := Aside0.mk (Kd.R_below (sqy HO381.out) hb)
    have n1_ := Aside0.mk (Kd.S_below (by (with_reducible repeat (first | apply Kd.S_alloc | apply Kd.S_drewN | apply Kd.S_drew)); exact HO384.out) hb)
    have n2_ := Aside0.mk (Kd.R_below (sqy HO387.out) hb)
    have n3_ := Aside0.mk (Kd.R_below (sqy HO391.out) hb)
    have n4_ := Aside0.mk (Kd.R_below (sqy HO396.out) hb)
    have n5_ := Aside0.mk (Kd.S_below (by (with_reducible repeat (first | apply Kd.S_alloc | apply Kd.S_drewN | apply Kd.S_drew)); exact HO399.out) hb)
    have n6_ := Aside0.mk (Kd.R_below (sqy HO402.out) hb)
    have n7_ := Aside0.mk (Kd.R_below (sqy HO406.out) hb)
    have n8_ := Aside0.mk (Kd.R_below (sqy HO412.out) hb)
    have n9_ := Aside0.mk (Kd.S_below (by (with_reducible repeat (first | apply Kd.S_alloc | apply Kd.S_drewN | apply Kd.S_drew)); exact HO415.out) hb)
    have n10_ := Aside0.mk (Kd.R_below (sqy HO418.out) hb)
    have n11_ := Aside0.mk (Kd.R_below (sqy HO422.out) hb)
    have n12_ := sqb BK376 hb
    have n13_ := sqb BK407 hb
    have n14_ := sqs HB hb
    clear HO381
    clear HO384
    clear HO387
    clear HO391
    clear HO396
    clear HO399
    clear HO402
    clear HO406
    clear HO412
    clear HO415
    clear HO418
    clear HO422
    clear BK376
    clear BK407
    clear HB
    have HO381 := n0_
    have HO384 := n1_
    have HO387 := n2_
    have HO391 := n3_
    have HO396 := n4_
    have HO399 := n5_
    have HO402 := n6_
    have HO406 := n7_
    have HO412 := n8_
    have HO415 := n9_
    have HO418 := n10_
    have HO422 := n11_
    have BK376 := n12_
    have BK407 := n13_
    have HB := n14_
    clear n0_ n1_ n2_ n3_ n4_ n5_ n6_ n7_ n8_ n9_ n10_ n11_ n12_ n13_ n14_
    (try clear hb)
    refine hK.out _ _ sqz (fun hHeld => ?_)
    clear hK K
    refine sqnm ?_
    refine pure_ (i := 4) (N := some 26) (v := ?_) (a' := ?_) #[true, true, true, true, true] rfl rfl (by kernel_rfl) (fun _ _ _ h => h) (Or.inl ⟨by rfl, ?_⟩) ?_ ?_
    rotate_left
    ·intro w'
     go_simp
     with_reducible rfl
    rotate_left
    ·simp only [Act.put, List.setIfInBounds_toArray, List.set_cons_zero, List.set_cons_succ, i64_w, i32_w]
     rfl
    refine done_ (by kernel_rfl) ?_
    try go_wp2
    go_ret
    exact sqe HB
   ·replace c34 := Bool.eq_false_iff.mpr c34
    subst c34
    have H1 : (some false) = some true := by rw [if_neg (show ¬ (false = true) by decide)] at H; exact H
    clear H
    have H := H1
    clear H1
    exact absurd (Option.some.inj H) (by decide)
end Go.Proofs.Ytkekcenlleebeaa.PFnExactAbsOk
