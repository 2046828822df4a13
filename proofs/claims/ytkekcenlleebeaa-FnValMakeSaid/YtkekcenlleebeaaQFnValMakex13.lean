/- Functions of the program as plain Lean functions, and that calls of them come to what these tell. Conditions: those in each law. -/
import Derived.Test.YtkekcenlleebeaaSq
import Derived.Test.YtkekcenlleebeaaDFnValMake
import Derived.Test.YtkekcenlleebeaaQFnValMakex0
import Derived.Test.YtkekcenlleebeaaQFnValMakex2
import Derived.Test.YtkekcenlleebeaaQFnValMakex5
import Derived.Test.YtkekcenlleebeaaQFnValMakex7
import Derived.Test.YtkekcenlleebeaaQFnValMakex8
import Derived.Test.YtkekcenlleebeaaQFnValMakex10
import Derived.Test.YtkekcenlleebeaaQFnValMakex11
import Derived.Test.YtkekcenlleebeaaQFnValMakex12
namespace Go.Proofs.Ytkekcenlleebeaa.PFnValMake
open Go.RowKit Go.Proofs.Ytkekcenlleebeaa.Sq Go.Proofs.YtkekcenlleebeaaW.PrintWords Go.Proofs.YtkekcenlleebeaaW.PrintLast Go.Proofs.YtkekcenlleebeaaW.PrintMore
attribute [local go_sem] max2_int min2_int max_two min_two max_three min_three max_four min_four   -- for this text's walks alone
set_option linter.unusedVariables false
set_option linter.unusedSimpArgs false

attribute [local go_sem high] eqA30
/-! ### laws_FnValMake: function 3 -/
theorem laws_FnValMake.mono_l : ∀ k, (∀ y0 y1 y2 y3 y4 y5 y6 y7 y8 y9, LeO (laws_FnValMake.j0 k y0 y1 y2 y3 y4 y5 y6 y7 y8 y9) (laws_FnValMake.j0 (k + 1) y0 y1 y2 y3 y4 y5 y6 y7 y8 y9)) ∧ (∀ y0 y1 y2 y3 y4 y5 y6 y7 y8 y9, LeO (laws_FnValMake.j1 k y0 y1 y2 y3 y4 y5 y6 y7 y8 y9) (laws_FnValMake.j1 (k + 1) y0 y1 y2 y3 y4 y5 y6 y7 y8 y9)) ∧ (∀ y0 y1 y2 y3 y4 y5 y6 y7 y8 y9, LeO (laws_FnValMake.l0 k y0 y1 y2 y3 y4 y5 y6 y7 y8 y9) (laws_FnValMake.l0 (k + 1) y0 y1 y2 y3 y4 y5 y6 y7 y8 y9)) ∧ (∀ y0 y1 y2 y3 y4 y5 y6 y7 y8 y9 y10, LeO (laws_FnValMake.j3 k y0 y1 y2 y3 y4 y5 y6 y7 y8 y9 y10) (laws_FnValMake.j3 (k + 1) y0 y1 y2 y3 y4 y5 y6 y7 y8 y9 y10))
  | 0 => ⟨fun _ _ _ _ _ _ _ _ _ _ r h => by simp [laws_FnValMake.j0] at h, fun _ _ _ _ _ _ _ _ _ _ r h => by simp [laws_FnValMake.j1] at h, fun _ _ _ _ _ _ _ _ _ _ r h => by simp [laws_FnValMake.l0] at h, fun _ _ _ _ _ _ _ _ _ _ _ r h => by simp [laws_FnValMake.j3] at h⟩
  | k + 1 => by
    obtain ⟨ih0, ih1, ih2, ih3⟩ := laws_FnValMake.mono_l k
    refine ⟨?_, ?_, ?_, ?_⟩
    · intro y0 y1 y2 y3 y4 y5 y6 y7 y8 y9
      unfold laws_FnValMake.j0
      repeat' first
      | (with_reducible exact ih0 _ _ _ _ _ _ _ _ _ _)
      | (with_reducible exact ih1 _ _ _ _ _ _ _ _ _ _)
      | (with_reducible exact ih2 _ _ _ _ _ _ _ _ _ _)
      | (with_reducible exact ih3 _ _ _ _ _ _ _ _ _ _ _)
      | (with_reducible exact impl_ValHas.mono _ _ _ _ _ _)
      | (with_reducible exact impl_ValMake.mono _ _ _ _ _)
      | (with_reducible exact impl_ValOk.mono _ _ _ _ _)
      | (with_reducible exact laws_ofRest.mono _ _ _ _ _)
      | (with_reducible exact laws_within.mono _ _ _ _ _)
      | (with_reducible exact spec_DrawValMake.mono _ _)
      | (with_reducible exact spec_RestHas.mono _ _ _ _)
      | (with_reducible exact spec_ValMake.mono _ _ _ _ _)
      | (with_reducible exact LeO.refl _)
      | (with_reducible exact LeO.none _)
      | (with_reducible refine LeO.ite ?_ ?_)
      | (with_reducible refine LeO.bind ?_ (fun _ => ?_))
      | exact ih0 _ _ _ _ _ _ _ _ _ _
      | exact ih1 _ _ _ _ _ _ _ _ _ _
      | exact ih2 _ _ _ _ _ _ _ _ _ _
      | exact ih3 _ _ _ _ _ _ _ _ _ _ _
      | exact impl_ValHas.mono _ _ _ _ _ _
      | exact impl_ValMake.mono _ _ _ _ _
      | exact impl_ValOk.mono _ _ _ _ _
      | exact laws_ofRest.mono _ _ _ _ _
      | exact laws_within.mono _ _ _ _ _
      | exact spec_DrawValMake.mono _ _
      | exact spec_RestHas.mono _ _ _ _
      | exact spec_ValMake.mono _ _ _ _ _
      | exact LeO.none _
      | refine LeO.ite ?_ ?_
      | refine LeO.bind ?_ (fun _ => ?_)
    · intro y0 y1 y2 y3 y4 y5 y6 y7 y8 y9
      unfold laws_FnValMake.j1
      repeat' first
      | (with_reducible exact ih0 _ _ _ _ _ _ _ _ _ _)
      | (with_reducible exact ih1 _ _ _ _ _ _ _ _ _ _)
      | (with_reducible exact ih2 _ _ _ _ _ _ _ _ _ _)
      | (with_reducible exact ih3 _ _ _ _ _ _ _ _ _ _ _)
      | (with_reducible exact impl_ValHas.mono _ _ _ _ _ _)
      | (with_reducible exact impl_ValMake.mono _ _ _ _ _)
      | (with_reducible exact impl_ValOk.mono _ _ _ _ _)
      | (with_reducible exact laws_ofRest.mono _ _ _ _ _)
      | (with_reducible exact laws_within.mono _ _ _ _ _)
      | (with_reducible exact spec_DrawValMake.mono _ _)
      | (with_reducible exact spec_RestHas.mono _ _ _ _)
      | (with_reducible exact spec_ValMake.mono _ _ _ _ _)
      | (with_reducible exact LeO.refl _)
      | (with_reducible exact LeO.none _)
      | (with_reducible refine LeO.ite ?_ ?_)
      | (with_reducible refine LeO.bind ?_ (fun _ => ?_))
      | exact ih0 _ _ _ _ _ _ _ _ _ _
      | exact ih1 _ _ _ _ _ _ _ _ _ _
      | exact ih2 _ _ _ _ _ _ _ _ _ _
      | exact ih3 _ _ _ _ _ _ _ _ _ _ _
      | exact impl_ValHas.mono _ _ _ _ _ _
      | exact impl_ValMake.mono _ _ _ _ _
      | exact impl_ValOk.mono _ _ _ _ _
      | exact laws_ofRest.mono _ _ _ _ _
      | exact laws_within.mono _ _ _ _ _
      | exact spec_DrawValMake.mono _ _
      | exact spec_RestHas.mono _ _ _ _
      | exact spec_ValMake.mono _ _ _ _ _
      | exact LeO.none _
      | refine LeO.ite ?_ ?_
      | refine LeO.bind ?_ (fun _ => ?_)
    · intro y0 y1 y2 y3 y4 y5 y6 y7 y8 y9
      unfold laws_FnValMake.l0
      repeat' first
      | (with_reducible exact ih0 _ _ _ _ _ _ _ _ _ _)
      | (with_reducible exact ih1 _ _ _ _ _ _ _ _ _ _)
      | (with_reducible exact ih2 _ _ _ _ _ _ _ _ _ _)
      | (with_reducible exact ih3 _ _ _ _ _ _ _ _ _ _ _)
      | (with_reducible exact impl_ValHas.mono _ _ _ _ _ _)
      | (with_reducible exact impl_ValMake.mono _ _ _ _ _)
      | (with_reducible exact impl_ValOk.mono _ _ _ _ _)
      | (with_reducible exact laws_ofRest.mono _ _ _ _ _)
      | (with_reducible exact laws_within.mono _ _ _ _ _)
      | (with_reducible exact spec_DrawValMake.mono _ _)
      | (with_reducible exact spec_RestHas.mono _ _ _ _)
      | (with_reducible exact spec_ValMake.mono _ _ _ _ _)
      | (with_reducible exact LeO.refl _)
      | (with_reducible exact LeO.none _)
      | (with_reducible refine LeO.ite ?_ ?_)
      | (with_reducible refine LeO.bind ?_ (fun _ => ?_))
      | exact ih0 _ _ _ _ _ _ _ _ _ _
      | exact ih1 _ _ _ _ _ _ _ _ _ _
      | exact ih2 _ _ _ _ _ _ _ _ _ _
      | exact ih3 _ _ _ _ _ _ _ _ _ _ _
      | exact impl_ValHas.mono _ _ _ _ _ _
      | exact impl_ValMake.mono _ _ _ _ _
      | exact impl_ValOk.mono _ _ _ _ _
      | exact laws_ofRest.mono _ _ _ _ _
      | exact laws_within.mono _ _ _ _ _
      | exact spec_DrawValMake.mono _ _
      | exact spec_RestHas.mono _ _ _ _
      | exact spec_ValMake.mono _ _ _ _ _
      | exact LeO.none _
      | refine LeO.ite ?_ ?_
      | refine LeO.bind ?_ (fun _ => ?_)
    · intro y0 y1 y2 y3 y4 y5 y6 y7 y8 y9 y10
      unfold laws_FnValMake.j3
      repeat' first
      | (with_reducible exact ih0 _ _ _ _ _ _ _ _ _ _)
      | (with_reducible exact ih1 _ _ _ _ _ _ _ _ _ _)
      | (with_reducible exact ih2 _ _ _ _ _ _ _ _ _ _)
      | (with_reducible exact ih3 _ _ _ _ _ _ _ _ _ _ _)
      | (with_reducible exact impl_ValHas.mono _ _ _ _ _ _)
      | (with_reducible exact impl_ValMake.mono _ _ _ _ _)
      | (with_reducible exact impl_ValOk.mono _ _ _ _ _)
      | (with_reducible exact laws_ofRest.mono _ _ _ _ _)
      | (with_reducible exact laws_within.mono _ _ _ _ _)
      | (with_reducible exact spec_DrawValMake.mono _ _)
      | (with_reducible exact spec_RestHas.mono _ _ _ _)
      | (with_reducible exact spec_ValMake.mono _ _ _ _ _)
      | (with_reducible exact LeO.refl _)
      | (with_reducible exact LeO.none _)
      | (with_reducible refine LeO.ite ?_ ?_)
      | (with_reducible refine LeO.bind ?_ (fun _ => ?_))
      | exact ih0 _ _ _ _ _ _ _ _ _ _
      | exact ih1 _ _ _ _ _ _ _ _ _ _
      | exact ih2 _ _ _ _ _ _ _ _ _ _
      | exact ih3 _ _ _ _ _ _ _ _ _ _ _
      | exact impl_ValHas.mono _ _ _ _ _ _
      | exact impl_ValMake.mono _ _ _ _ _
      | exact impl_ValOk.mono _ _ _ _ _
      | exact laws_ofRest.mono _ _ _ _ _
      | exact laws_within.mono _ _ _ _ _
      | exact spec_DrawValMake.mono _ _
      | exact spec_RestHas.mono _ _ _ _
      | exact spec_ValMake.mono _ _ _ _ _
      | exact LeO.none _
      | refine LeO.ite ?_ ?_
      | refine LeO.bind ?_ (fun _ => ?_)
theorem laws_FnValMake.mono : ∀ a0 k, LeO (laws_FnValMake.f k a0) (laws_FnValMake.f (k + 1) a0) := by
  intro a0 k
  obtain ⟨ih0, ih1, ih2, ih3⟩ := laws_FnValMake.mono_l k
  unfold laws_FnValMake.f
  repeat' first
      | (with_reducible exact ih0 _ _ _ _ _ _ _ _ _ _)
      | (with_reducible exact ih1 _ _ _ _ _ _ _ _ _ _)
      | (with_reducible exact ih2 _ _ _ _ _ _ _ _ _ _)
      | (with_reducible exact ih3 _ _ _ _ _ _ _ _ _ _ _)
      | (with_reducible exact impl_ValHas.mono _ _ _ _ _ _)
      | (with_reducible exact impl_ValMake.mono _ _ _ _ _)
      | (with_reducible exact impl_ValOk.mono _ _ _ _ _)
      | (with_reducible exact laws_ofRest.mono _ _ _ _ _)
      | (with_reducible exact laws_within.mono _ _ _ _ _)
      | (with_reducible exact spec_DrawValMake.mono _ _)
      | (with_reducible exact spec_RestHas.mono _ _ _ _)
      | (with_reducible exact spec_ValMake.mono _ _ _ _ _)
      | (with_reducible exact LeO.refl _)
      | (with_reducible exact LeO.none _)
      | (with_reducible refine LeO.ite ?_ ?_)
      | (with_reducible refine LeO.bind ?_ (fun _ => ?_))
      | exact ih0 _ _ _ _ _ _ _ _ _ _
      | exact ih1 _ _ _ _ _ _ _ _ _ _
      | exact ih2 _ _ _ _ _ _ _ _ _ _
      | exact ih3 _ _ _ _ _ _ _ _ _ _ _
      | exact impl_ValHas.mono _ _ _ _ _ _
      | exact impl_ValMake.mono _ _ _ _ _
      | exact impl_ValOk.mono _ _ _ _ _
      | exact laws_ofRest.mono _ _ _ _ _
      | exact laws_within.mono _ _ _ _ _
      | exact spec_DrawValMake.mono _ _
      | exact spec_RestHas.mono _ _ _ _
      | exact spec_ValMake.mono _ _ _ _ _
      | exact LeO.none _
      | refine LeO.ite ?_ ?_
      | refine LeO.bind ?_ (fun _ => ?_)
def laws_FnValMake.T5 : Bool × List (List Nat × List Nat) := (true, [([], []), ([], []), ([], []), ([1, 2], [1, 2]), ([0, 3], [0, 3]), ([4, 3], [4]), ([5], [5]), ([6, 5, 5], [5, 6]), ([7, 5], [5, 7]), ([5, 8], [5, 8])])
def laws_FnValMake.B5 : List Nat := [0, 0, 0, 6, 15, 31, 63, 127, 255, 511]
theorem laws_FnValMake.tab5 : rtab .any (opsOf Try.f3 5) = laws_FnValMake.T5 := by kernel_rfl
theorem laws_FnValMake.bits5 : waitsOk laws_FnValMake.T5.2 laws_FnValMake.B5 = true := by kernel_rfl
def laws_FnValMake.T15 : Bool × List (List Nat × List Nat) := (true, [([], []), ([], []), ([0, 1], [0, 1]), ([], []), ([], []), ([3, 4, 2], [3, 4]), ([5, 5], [5]), ([6], [6]), ([6], [6]), ([7, 8, 6, 6], [6, 7, 8]), ([6, 9], [6, 9]), ([2, 10], [2, 10])])
def laws_FnValMake.B15 : List Nat := [0, 0, 3, 0, 0, 31, 63, 127, 127, 511, 1023, 2047]
theorem laws_FnValMake.tab15 : rtab .any (opsOf Try.f3 15) = laws_FnValMake.T15 := by kernel_rfl
theorem laws_FnValMake.bits15 : waitsOk laws_FnValMake.T15.2 laws_FnValMake.B15 = true := by kernel_rfl
set_option maxHeartbeats 8000000 in
set_option maxRecDepth 100000 in
theorem laws_FnValMake.calls (k : Nat) (A0 : Option Addr) (c0 : Nat) (l0 : List Int) (r : Bool) (w : World) (hr0 : Kd.C (Kd.int .u8) w A0 l0.length l0) (hc0 : l0.length ≤ c0) (h : laws_FnValMake.f k l0 = some r) :
    Calls Try.prog 3 #[.slice A0 l0.length c0] w fun e w' => e = .returned (.bool r) ∧ Below w.heap.size w w' := by
  have hu24 := Try.underlying24
  have hu26 := Try.underlying26
  have hu30 := Try.underlying30
  have HR0 := Aside0.mk hr0
  have HC0 := Aside0.mk hc0
  clear hr0 hc0
  have HB := Aside0.mk (Below.refl w.heap.size w)
  have H : (if (l0.length : Int) > 1048576 then (some true) else ((spec_DrawValMake.f k l0).bind fun bt361 => ((impl_ValMake.f k bt361.1 bt361.2.1 bt361.2.2.1 bt361.2.2.2).bind fun bt367 => ((spec_ValMake.f k bt361.1 bt361.2.1 bt361.2.2.1 bt361.2.2.2).bind fun bt372 => (if (!(bt367.1 == bt372.1) || (!(bt367.2.1 == bt372.2.1) || (!(bt367.2.2.1 == bt372.2.2.1) || (!(bt367.2.2.2 == bt372.2.2.2))))) = true then (laws_FnValMake.j0 k l0 true bt361.1 bt361.2.1 bt361.2.2.1 bt361.2.2.2 bt367.1 bt367.2.1 bt367.2.2.1 bt367.2.2.2) else ((impl_ValOk.f k bt367.1 bt367.2.1 bt367.2.2.1 bt367.2.2.2).bind fun t376 => (laws_FnValMake.j0 k l0 (!t376) bt361.1 bt361.2.1 bt361.2.2.1 bt361.2.2.2 bt367.1 bt367.2.1 bt367.2.2.1 bt367.2.2.2))))))) = some r := h
  clear h
  by_cases c2 : (l0.length : Int) > 1048576
  · rw [if_pos c2] at H
    have c2b0 : decide (1048576 < (l0.length : Int)) = true := decide_eq_true c2
    have c2b1 : decide (1048576 < l0.length) = true := decide_eq_true (by omega)
    clear c2
    obtain rfl := Option.some.inj H
    go_enter Try.func3, Try.ntmps3
    go_wp2
    go_ret
    exact sqe HB
  · rw [if_neg c2] at H
    have c2b0 : decide (1048576 < (l0.length : Int)) = false := decide_eq_false c2
    have c2b1 : decide (1048576 < l0.length) = false := decide_eq_false (by omega)
    clear c2
    replace H := Option.bind_eq_some_iff.mp H
    obtain ⟨⟨t361, t362, t363, t364⟩, A30, H⟩ := H
    replace H : ((impl_ValMake.f k t361 t362 t363 t364).bind fun bt367 => ((spec_ValMake.f k t361 t362 t363 t364).bind fun bt372 => (if (!(bt367.1 == bt372.1) || (!(bt367.2.1 == bt372.2.1) || (!(bt367.2.2.1 == bt372.2.2.1) || (!(bt367.2.2.2 == bt372.2.2.2))))) = true then (laws_FnValMake.j0 k l0 true t361 t362 t363 t364 bt367.1 bt367.2.1 bt367.2.2.1 bt367.2.2.2) else ((impl_ValOk.f k bt367.1 bt367.2.1 bt367.2.2.1 bt367.2.2.2).bind fun t376 => (laws_FnValMake.j0 k l0 (!t376) t361 t362 t363 t364 bt367.1 bt367.2.1 bt367.2.2.1 bt367.2.2.2))))) = some r := H
    have A3 := Aside0.mk A30
    clear A30
    replace H := Option.bind_eq_some_iff.mp H
    obtain ⟨⟨t367, t368, t369, t370⟩, A40, H⟩ := H
    replace H : ((spec_ValMake.f k t361 t362 t363 t364).bind fun bt372 => (if (!(t367 == bt372.1) || (!(t368 == bt372.2.1) || (!(t369 == bt372.2.2.1) || (!(t370 == bt372.2.2.2))))) = true then (laws_FnValMake.j0 k l0 true t361 t362 t363 t364 t367 t368 t369 t370) else ((impl_ValOk.f k t367 t368 t369 t370).bind fun t376 => (laws_FnValMake.j0 k l0 (!t376) t361 t362 t363 t364 t367 t368 t369 t370)))) = some r := H
    have A4 := Aside0.mk A40
    clear A40
    have HC5 := Aside0.mk H
    clear H
    go_enter Try.func3, Try.ntmps3
    go_upto_region 5 with (first | ((with_reducible refine gate_callee (f := 15) rfl ?_); refine sqL (some 13) Try.func15 #[.slice A0 l0.length c0] ?_; (with_reducible refine (spec_DrawValMake.calls k _ _ l0 t361 t362 t363 t364 _ ?side1 ?side2 A3.out).mono ?_); (case side1 => repeat (first | exact HR0.out | (with_reducible refine Kd.C_alloc ?_ _) | (with_reducible refine Kd.C_drewN ?_ _) | (with_reducible refine Kd.C_drew ?_))); (case side2 => exact HC0.out); rintro e w6 ⟨rfl, hb⟩; refine ⟨_, rfl, ?_⟩; replace HB := sqs HB hb; (try clear hb)) | ((with_reducible refine gate_dst (N := 3) rfl ?_); refine sqx 3 #[.int .i64 0, .int .i64 0] 24 ?_; intro gb365 hg w7 hbox hb; have BK365 := Aside0.mk (hbox); have GW365 := sqg HB hg; have GE365 := sqg HB hg; replace HB := sqs HB hb; clear hb hbox hg) | ((with_reducible refine gate_dst (N := 4) rfl ?_); refine sqx 4 #[.int .i64 0, .int .i64 0] 26 ?_; intro gb366 hg w8 hbox hb; have BK366 := Aside0.mk (hbox); have GW366 := sqg HB hg; have GE366 := sqg HB hg; have NB365_366 := sqn BK365 hg; have NB366_365 := sqm BK365 hg; replace BK365 := sqb BK365 hb; replace HB := sqs HB hb; clear hb hbox hg; have hnb9 := NB365_366.out; have hnc9 := NB366_365.out; obtain ⟨hcz10_0, hcz10_1, hfz10_0, hfz10_1⟩ := sqc2 BK365; obtain ⟨hcz11_0, hcz11_1, hfz11_0, hfz11_1⟩ := sqc2 BK366) | ((with_reducible refine gate_callee (f := 16) rfl ?_); refine sqL (some 18) Try.func16 #[.agg #[.int .i64 t361, .int .i64 t362], .agg #[.int .i64 t363, .int .i64 t364]] ?_; (with_reducible refine (impl_ValMake.calls k t361 t362 t363 t364 t367 t368 t369 t370 _ A4.out).mono ?_); rintro e w12 ⟨rfl, hb⟩; refine ⟨_, rfl, ?_⟩; have n0_ := Aside0.mk (blk_below (g := gb365) (o := .cells #[.int .i64 t361, .int .i64 t362] 24 (0, 0)) (by refine sqt ?_; refine blk_far ?_ NB365_366.out _; refine sqt ?_; refine blk_far ?_ NB365_366.out _; refine sqt ?_; refine blk_put (cs := #[.int .i64 t361, .int .i64 0]) ?_ 1 _ rfl; refine sqt ?_; refine blk_put (cs := #[.int .i64 0, .int .i64 0]) ?_ 0 _ rfl; refine sqt ?_; exact BK365.out) hb); have n1_ := Aside0.mk (blk_below (g := gb366) (o := .cells #[.int .i64 t363, .int .i64 t364] 26 (0, 0)) (by refine sqt ?_; refine blk_put (cs := #[.int .i64 t363, .int .i64 0]) ?_ 1 _ rfl; refine sqt ?_; refine blk_put (cs := #[.int .i64 0, .int .i64 0]) ?_ 0 _ rfl; refine sqt ?_; refine blk_far ?_ NB366_365.out _; refine sqt ?_; refine blk_far ?_ NB366_365.out _; refine sqt ?_; exact BK366.out) hb); have n2_ := sqs HB hb; clear BK365; clear BK366; clear HB; have BK365 := n0_; have BK366 := n1_; have HB := n2_; clear n0_ n1_ n2_; (try clear hb)) | ((with_reducible refine gate_dst (N := 5) rfl ?_); refine sqx 5 #[.int .i64 0, .int .i64 0, .int .i64 0, .int .i64 0] 30 ?_; intro gb371 hg w13 hbox hb; have BK371 := Aside0.mk (hbox); have GW371 := sqg HB hg; have GE371 := sqg HB hg; have NB365_371 := sqn BK365 hg; have NB371_365 := sqm BK365 hg; have NB366_371 := sqn BK366 hg; have NB371_366 := sqm BK366 hg; replace BK365 := sqb BK365 hb; replace BK366 := sqb BK366 hb; replace HB := sqs HB hb; clear hb hbox hg; have hnb14 := NB371_365.out; have hnc14 := NB365_371.out; have hnb15 := NB371_366.out; have hnc15 := NB366_371.out; obtain ⟨hcz16_0, hcz16_1, hcz16_2, hcz16_3, hfz16_0, hfz16_1, hfz16_2, hfz16_3⟩ := sqc4 BK371))
    (try simp only [Act.put, List.setIfInBounds_toArray, List.set_cons_zero, List.set_cons_succ])
    go_cut [28] (fun v28 wc => ∃ (kq : Nat) (x28_4 : Bool), v28 = .bool x28_4 ∧ Aside0 (laws_FnValMake.j0 kq l0 x28_4 t361 t362 t363 t364 t367 t368 t369 t370 = some r) ∧ Aside0 (kq ≤ k) ∧ Aside0 (wc.heap[gb365]? = some (.cells #[.int .i64 t361, .int .i64 t362] 24 (0, 0))) ∧ Aside0 (wc.heap[gb366]? = some (.cells #[.int .i64 t363, .int .i64 t364] 26 (0, 0))) ∧ Aside0 (wc.heap[gb371]? = some (.cells #[.int .i64 t367, .int .i64 t368, .int .i64 t369, .int .i64 t370] 30 (0, 0))) ∧ Aside0 (Below w.heap.size w wc))
    case first =>
      as_aux_lemma =>
      have H := HC5.out
      clear HC5
      replace H := Option.bind_eq_some_iff.mp H
      obtain ⟨⟨t372, t373, t374, t375⟩, A170, H⟩ := H
      replace H : (if (!(t367 == t372) || (!(t368 == t373) || (!(t369 == t374) || (!(t370 == t375))))) = true then (laws_FnValMake.j0 k l0 true t361 t362 t363 t364 t367 t368 t369 t370) else ((impl_ValOk.f k t367 t368 t369 t370).bind fun t376 => (laws_FnValMake.j0 k l0 (!t376) t361 t362 t363 t364 t367 t368 t369 t370))) = some r := H
      have A17 := Aside0.mk A170
      clear A170
      by_cases c18 : (!(t367 == t372) || (!(t368 == t373) || (!(t369 == t374) || (!(t370 == t375))))) = true
      · rw [if_pos c18] at H
        have c18b0 : (!(t367 == t372) || (!(t368 == t373) || (!(t369 == t374) || (!(t370 == t375))))) = true := c18
        clear c18
        (first | rw [c18b0] | (simp only [i64_w, i32_w]; rw [c18b0]) | skip)
        have H' := Aside0.mk H
        clear H
        try go_wp2
        have n0_ : Aside0 (((((w13.setCell ⟨gb371, 0, none⟩ (.int .i64 t367)).setCell ⟨gb371, 1, none⟩ (.int .i64 t368)).setCell ⟨gb371, 2, none⟩ (.int .i64 t369)).setCell ⟨gb371, 3, none⟩ (.int .i64 t370)).heap[gb365]? = some (.cells #[.int .i64 t361, .int .i64 t362] 24 (0, 0))) := ⟨by refine sqt ?_; refine blk_far ?_ NB365_371.out _; refine sqt ?_; refine blk_far ?_ NB365_371.out _; refine sqt ?_; refine blk_far ?_ NB365_371.out _; refine sqt ?_; refine blk_far ?_ NB365_371.out _; refine sqt ?_; exact BK365.out⟩
        have n1_ : Aside0 (((((w13.setCell ⟨gb371, 0, none⟩ (.int .i64 t367)).setCell ⟨gb371, 1, none⟩ (.int .i64 t368)).setCell ⟨gb371, 2, none⟩ (.int .i64 t369)).setCell ⟨gb371, 3, none⟩ (.int .i64 t370)).heap[gb366]? = some (.cells #[.int .i64 t363, .int .i64 t364] 26 (0, 0))) := ⟨by refine sqt ?_; refine blk_far ?_ NB366_371.out _; refine sqt ?_; refine blk_far ?_ NB366_371.out _; refine sqt ?_; refine blk_far ?_ NB366_371.out _; refine sqt ?_; refine blk_far ?_ NB366_371.out _; refine sqt ?_; exact BK366.out⟩
        have n2_ : Aside0 (((((w13.setCell ⟨gb371, 0, none⟩ (.int .i64 t367)).setCell ⟨gb371, 1, none⟩ (.int .i64 t368)).setCell ⟨gb371, 2, none⟩ (.int .i64 t369)).setCell ⟨gb371, 3, none⟩ (.int .i64 t370)).heap[gb371]? = some (.cells #[.int .i64 t367, .int .i64 t368, .int .i64 t369, .int .i64 t370] 30 (0, 0))) := ⟨by refine sqt ?_; refine blk_put (cs := #[.int .i64 t367, .int .i64 t368, .int .i64 t369, .int .i64 0]) ?_ 3 _ rfl; refine sqt ?_; refine blk_put (cs := #[.int .i64 t367, .int .i64 t368, .int .i64 0, .int .i64 0]) ?_ 2 _ rfl; refine sqt ?_; refine blk_put (cs := #[.int .i64 t367, .int .i64 0, .int .i64 0, .int .i64 0]) ?_ 1 _ rfl; refine sqt ?_; refine blk_put (cs := #[.int .i64 0, .int .i64 0, .int .i64 0, .int .i64 0]) ?_ 0 _ rfl; refine sqt ?_; exact BK371.out⟩
        have n3_ : Aside0 (Below w.heap.size w ((((w13.setCell ⟨gb371, 0, none⟩ (.int .i64 t367)).setCell ⟨gb371, 1, none⟩ (.int .i64 t368)).setCell ⟨gb371, 2, none⟩ (.int .i64 t369)).setCell ⟨gb371, 3, none⟩ (.int .i64 t370))) := sqh HB
        (try clear BK365)
        (try clear BK366)
        (try clear BK371)
        (try clear HB)
        generalize ((((w13.setCell ⟨gb371, 0, none⟩ (.int .i64 t367)).setCell ⟨gb371, 1, none⟩ (.int .i64 t368)).setCell ⟨gb371, 2, none⟩ (.int .i64 t369)).setCell ⟨gb371, 3, none⟩ (.int .i64 t370)) = w19 at n0_ n1_ n2_ n3_ ⊢
        have BK365 := n0_
        have BK366 := n1_
        have BK371 := n2_
        have HB := n3_
        clear n0_ n1_ n2_ n3_
        replace BK365 := Aside0.mk (blk_drew BK365.out)
        replace BK366 := Aside0.mk (blk_drew BK366.out)
        replace BK371 := Aside0.mk (blk_drew BK371.out)
        replace HB := Aside0.mk (below_drew1 HB.out)
        refine start_ (n := 10) (S := fun w' => w'.cell? ⟨gb371, 0, none⟩ = some (.int .i64 t367) ∧ w'.cell? ⟨gb371, 1, none⟩ = some (.int .i64 t368) ∧ w'.cell? ⟨gb371, 2, none⟩ = some (.int .i64 t369) ∧ w'.cell? ⟨gb371, 3, none⟩ = some (.int .i64 t370) ∧ w'.cell? ⟨gb365, 0, none⟩ = some (.int .i64 t361) ∧ w'.cell? ⟨gb365, 1, none⟩ = some (.int .i64 t362) ∧ w'.cell? ⟨gb366, 0, none⟩ = some (.int .i64 t363) ∧ w'.cell? ⟨gb366, 1, none⟩ = some (.int .i64 t364)) (ds := []) #[false, false, false, false, false, false, false, false, false, false] (by kernel_rfl) rfl rfl ⟨(blk_cell BK371.out 0).trans rfl, (blk_cell BK371.out 1).trans rfl, (blk_cell BK371.out 2).trans rfl, (blk_cell BK371.out 3).trans rfl, (blk_cell BK365.out 0).trans rfl, (blk_cell BK365.out 1).trans rfl, (blk_cell BK366.out 0).trans rfl, (blk_cell BK366.out 1).trans rfl⟩ (fun hHeld => ?_); refine with_tabW laws_FnValMake.tab5 laws_FnValMake.bits5 (fun HT_ HW_ => ?_)
        generalize w19.drew = w20 at BK365 BK366 BK371 HB hHeld ⊢
        refine sqw HT_ HW_ 0 19 hHeld ?_
        refine sqw HT_ HW_ 1 20 hHeld ?_
        refine sqw HT_ HW_ 2 21 hHeld ?_
        refine sqo HT_ 3 22 (fun K hK => ?_)
        refine sqG Try.func17 #[.agg #[.int .i64 t361, .int .i64 t362], .agg #[.int .i64 t363, .int .i64 t364]] ?_
        with_reducible refine (spec_ValMake.calls k t361 t362 t363 t364 t372 t373 t374 t375 _ A17.out).mono ?_
        rintro e w21 ⟨rfl, hb⟩
        refine ⟨_, rfl, ?_⟩
        replace BK365 := sqb BK365 hb
        replace BK366 := sqb BK366 hb
        replace BK371 := sqb BK371 hb
        replace HB := sqs HB hb
        (try clear hb)
        refine hK.out _ _ sqz (fun hHeld => ?_)
        clear hK K
        refine sqnm ?_
        refine sqp HT_ 4 23 ?_
        refine sqp HT_ 5 24 ?_
        refine sqpu HT_ 6 25 ?_
        refine sqpu HT_ 7 26 ?_
        refine sqpu HT_ 8 27 ?_
        refine sqp HT_ 9 28 ?_
        refine done_ (done_of HT_.out (by kernel_rfl)) ?_
        try go_wp2
        go_meet
        case rel => exact ⟨_, (true), (by first | rfl | (simp; done) | (simp [*]; done)), H', ⟨by first | omega | exact Nat.le_refl _⟩, sqk BK365, sqk BK366, sqk BK371, sqh HB⟩
      · rw [if_neg c18] at H
        have c18b0 : (!(t367 == t372) || (!(t368 == t373) || (!(t369 == t374) || (!(t370 == t375))))) = false := by simpa using c18
        clear c18
        (first | rw [c18b0] | (simp only [i64_w, i32_w]; rw [c18b0]) | skip)
        replace H := Option.bind_eq_some_iff.mp H
        obtain ⟨t376, A220, H⟩ := H
        replace H : (laws_FnValMake.j0 k l0 (!t376) t361 t362 t363 t364 t367 t368 t369 t370) = some r := H
        have A22 := Aside0.mk A220
        clear A220
        have H' := Aside0.mk H
        clear H
        try go_wp2
        have n0_ : Aside0 (((((w13.setCell ⟨gb371, 0, none⟩ (.int .i64 t367)).setCell ⟨gb371, 1, none⟩ (.int .i64 t368)).setCell ⟨gb371, 2, none⟩ (.int .i64 t369)).setCell ⟨gb371, 3, none⟩ (.int .i64 t370)).heap[gb365]? = some (.cells #[.int .i64 t361, .int .i64 t362] 24 (0, 0))) := ⟨by refine sqt ?_; refine blk_far ?_ NB365_371.out _; refine sqt ?_; refine blk_far ?_ NB365_371.out _; refine sqt ?_; refine blk_far ?_ NB365_371.out _; refine sqt ?_; refine blk_far ?_ NB365_371.out _; refine sqt ?_; exact BK365.out⟩
        have n1_ : Aside0 (((((w13.setCell ⟨gb371, 0, none⟩ (.int .i64 t367)).setCell ⟨gb371, 1, none⟩ (.int .i64 t368)).setCell ⟨gb371, 2, none⟩ (.int .i64 t369)).setCell ⟨gb371, 3, none⟩ (.int .i64 t370)).heap[gb366]? = some (.cells #[.int .i64 t363, .int .i64 t364] 26 (0, 0))) := ⟨by refine sqt ?_; refine blk_far ?_ NB366_371.out _; refine sqt ?_; refine blk_far ?_ NB366_371.out _; refine sqt ?_; refine blk_far ?_ NB366_371.out _; refine sqt ?_; refine blk_far ?_ NB366_371.out _; refine sqt ?_; exact BK366.out⟩
        have n2_ : Aside0 (((((w13.setCell ⟨gb371, 0, none⟩ (.int .i64 t367)).setCell ⟨gb371, 1, none⟩ (.int .i64 t368)).setCell ⟨gb371, 2, none⟩ (.int .i64 t369)).setCell ⟨gb371, 3, none⟩ (.int .i64 t370)).heap[gb371]? = some (.cells #[.int .i64 t367, .int .i64 t368, .int .i64 t369, .int .i64 t370] 30 (0, 0))) := ⟨by refine sqt ?_; refine blk_put (cs := #[.int .i64 t367, .int .i64 t368, .int .i64 t369, .int .i64 0]) ?_ 3 _ rfl; refine sqt ?_; refine blk_put (cs := #[.int .i64 t367, .int .i64 t368, .int .i64 0, .int .i64 0]) ?_ 2 _ rfl; refine sqt ?_; refine blk_put (cs := #[.int .i64 t367, .int .i64 0, .int .i64 0, .int .i64 0]) ?_ 1 _ rfl; refine sqt ?_; refine blk_put (cs := #[.int .i64 0, .int .i64 0, .int .i64 0, .int .i64 0]) ?_ 0 _ rfl; refine sqt ?_; exact BK371.out⟩
        have n3_ : Aside0 (Below w.heap.size w ((((w13.setCell ⟨gb371, 0, none⟩ (.int .i64 t367)).setCell ⟨gb371, 1, none⟩ (.int .i64 t368)).setCell ⟨gb371, 2, none⟩ (.int .i64 t369)).setCell ⟨gb371, 3, none⟩ (.int .i64 t370))) := sqh HB
        (try clear BK365)
        (try clear BK366)
        (try clear BK371)
        (try clear HB)
        generalize ((((w13.setCell ⟨gb371, 0, none⟩ (.int .i64 t367)).setCell ⟨gb371, 1, none⟩ (.int .i64 t368)).setCell ⟨gb371, 2, none⟩ (.int .i64 t369)).setCell ⟨gb371, 3, none⟩ (.int .i64 t370)) = w23 at n0_ n1_ n2_ n3_ ⊢
        have BK365 := n0_
        have BK366 := n1_
        have BK371 := n2_
        have HB := n3_
        clear n0_ n1_ n2_ n3_
        replace BK365 := Aside0.mk (blk_drew BK365.out)
        replace BK366 := Aside0.mk (blk_drew BK366.out)
        replace BK371 := Aside0.mk (blk_drew BK371.out)
        replace HB := Aside0.mk (below_drew1 HB.out)
        refine start_ (n := 10) (S := fun w' => w'.cell? ⟨gb371, 0, none⟩ = some (.int .i64 t367) ∧ w'.cell? ⟨gb371, 1, none⟩ = some (.int .i64 t368) ∧ w'.cell? ⟨gb371, 2, none⟩ = some (.int .i64 t369) ∧ w'.cell? ⟨gb371, 3, none⟩ = some (.int .i64 t370) ∧ w'.cell? ⟨gb365, 0, none⟩ = some (.int .i64 t361) ∧ w'.cell? ⟨gb365, 1, none⟩ = some (.int .i64 t362) ∧ w'.cell? ⟨gb366, 0, none⟩ = some (.int .i64 t363) ∧ w'.cell? ⟨gb366, 1, none⟩ = some (.int .i64 t364)) (ds := []) #[false, false, false, false, false, false, false, false, false, false] (by kernel_rfl) rfl rfl ⟨(blk_cell BK371.out 0).trans rfl, (blk_cell BK371.out 1).trans rfl, (blk_cell BK371.out 2).trans rfl, (blk_cell BK371.out 3).trans rfl, (blk_cell BK365.out 0).trans rfl, (blk_cell BK365.out 1).trans rfl, (blk_cell BK366.out 0).trans rfl, (blk_cell BK366.out 1).trans rfl⟩ (fun hHeld => ?_); refine with_tabW laws_FnValMake.tab5 laws_FnValMake.bits5 (fun HT_ HW_ => ?_)
        generalize w23.drew = w24 at BK365 BK366 BK371 HB hHeld ⊢
        refine sqw HT_ HW_ 0 19 hHeld ?_
        refine sqw HT_ HW_ 1 20 hHeld ?_
        refine sqw HT_ HW_ 2 21 hHeld ?_
        refine sqo HT_ 3 22 (fun K hK => ?_)
        refine sqG Try.func17 #[.agg #[.int .i64 t361, .int .i64 t362], .agg #[.int .i64 t363, .int .i64 t364]] ?_
        with_reducible refine (spec_ValMake.calls k t361 t362 t363 t364 t372 t373 t374 t375 _ A17.out).mono ?_
        rintro e w25 ⟨rfl, hb⟩
        refine ⟨_, rfl, ?_⟩
        replace BK365 := sqb BK365 hb
        replace BK366 := sqb BK366 hb
        replace BK371 := sqb BK371 hb
        replace HB := sqs HB hb
        (try clear hb)
        refine hK.out _ _ sqz (fun hHeld => ?_)
        clear hK K
        refine sqnm ?_
        refine sqp HT_ 4 23 ?_
        refine sqp HT_ 5 24 ?_
        refine sqw HT_ HW_ 6 25 hHeld ?_
        refine sqo HT_ 7 26 (fun K hK => ?_)
        refine sqG Try.func18 #[.agg #[.int .i64 t367, .int .i64 t368, .int .i64 t369, .int .i64 t370]] ?_
        with_reducible refine (impl_ValOk.calls k t367 t368 t369 t370 t376 _ A22.out).mono ?_
        rintro e w26 ⟨rfl, hb⟩
        refine ⟨_, rfl, ?_⟩
        replace BK365 := sqb BK365 hb
        replace BK366 := sqb BK366 hb
        replace BK371 := sqb BK371 hb
        replace HB := sqs HB hb
        (try clear hb)
        refine hK.out _ _ sqz (fun hHeld => ?_)
        clear hK K
        refine sqnm ?_
        refine sqp HT_ 8 27 ?_
        refine sqp HT_ 9 28 ?_
        refine done_ (done_of HT_.out (by kernel_rfl)) ?_
        try go_wp2
        go_meet
        case rel => exact ⟨_, (!t376), (by first | rfl | (simp; done) | (simp [*]; done)), H', ⟨by first | omega | exact Nat.le_refl _⟩, sqk BK365, sqk BK366, sqk BK371, sqh HB⟩
    case rest =>
      as_aux_lemma =>
      clear HC5
      try clear c2
      try clear c2b0
      try clear c2b1
      try clear hcz10_0
      try clear hcz10_1
      try clear hcz11_0
      try clear hcz11_1
      try clear hcz16_0
      try clear hcz16_1
      try clear hcz16_2
      try clear hcz16_3
      try clear hfz10_0
      try clear hfz10_1
      try clear hfz11_0
      try clear hfz11_1
      try clear hfz16_0
      try clear hfz16_1
      try clear hfz16_2
      try clear hfz16_3
      obtain ⟨kq, x28_4, rfl, HA, HJ4, BK365, BK366, BK371, HB⟩ := hcut
      cases kq with
      | zero => exact absurd HA.out (by simp [laws_FnValMake.j0])
      | succ kj4 =>
        have H := HA.out
        clear HA
        simp only [laws_FnValMake.j0] at H
        by_cases c27 : x28_4 = true
        · subst c27
          have H1 : (some false) = some r := by rw [if_pos rfl] at H; exact H
          clear H
          have H := H1
          clear H1
          obtain rfl := Option.some.inj H
          go_wp2
          go_ret
          exact sqe HB
        · replace c27 := Bool.eq_false_iff.mpr c27
          subst c27
          have H1 : (if t367 ≤ t368 then ((impl_ValHas.f kj4 t367 t368 t369 t370 t367).bind fun t377 => (if t377 = true then ((impl_ValHas.f kj4 t367 t368 t369 t370 t368).bind fun t378 => (laws_FnValMake.j1 kj4 l0 (!t378) t361 t362 t363 t364 t367 t368 t369 t370)) else (laws_FnValMake.j1 kj4 l0 true t361 t362 t363 t364 t367 t368 t369 t370))) else (laws_FnValMake.j1 kj4 l0 false t361 t362 t363 t364 t367 t368 t369 t370)) = some r := by rw [if_neg (show ¬ (false = true) by decide)] at H; exact H
          clear H
          have H := H1
          clear H1
          have HC28 := Aside0.mk H
          clear H
          go_upto_region 7 with (fail)
          go_cut [47] (fun v47 wc => ∃ (kq : Nat) (x47_27 : Bool), v47 = .bool x47_27 ∧ Aside0 (laws_FnValMake.j1 kq l0 x47_27 t361 t362 t363 t364 t367 t368 t369 t370 = some r) ∧ Aside0 (kq ≤ kj4) ∧ Aside0 (wc.heap[gb365]? = some (.cells #[.int .i64 t361, .int .i64 t362] 24 (0, 0))) ∧ Aside0 (wc.heap[gb366]? = some (.cells #[.int .i64 t363, .int .i64 t364] 26 (0, 0))) ∧ Aside0 (wc.heap[gb371]? = some (.cells #[.int .i64 t367, .int .i64 t368, .int .i64 t369, .int .i64 t370] 30 (0, 0))) ∧ Aside0 (Below w.heap.size w wc))
          case first =>
            as_aux_lemma =>
            have H := HC28.out
            clear HC28
            by_cases c29 : t367 ≤ t368
            · rw [if_pos c29] at H
              have c29b0 : decide (t367 ≤ t368) = true := decide_eq_true c29
              clear c29
              (first | rw [c29b0] | (simp only [i64_w, i32_w]; rw [c29b0]) | skip)
              replace H := Option.bind_eq_some_iff.mp H
              obtain ⟨t377, A300, H⟩ := H
              replace H : (if t377 = true then ((impl_ValHas.f kj4 t367 t368 t369 t370 t368).bind fun t378 => (laws_FnValMake.j1 kj4 l0 (!t378) t361 t362 t363 t364 t367 t368 t369 t370)) else (laws_FnValMake.j1 kj4 l0 true t361 t362 t363 t364 t367 t368 t369 t370)) = some r := H
              have A30 := Aside0.mk A300
              clear A300
              by_cases c31 : t377 = true
              · subst c31
                have H1 : ((impl_ValHas.f kj4 t367 t368 t369 t370 t368).bind fun t378 => (laws_FnValMake.j1 kj4 l0 (!t378) t361 t362 t363 t364 t367 t368 t369 t370)) = some r := by rw [if_pos rfl] at H; exact H
                clear H
                have H := H1
                clear H1
                replace H := Option.bind_eq_some_iff.mp H
                obtain ⟨t378, A320, H⟩ := H
                replace H : (laws_FnValMake.j1 kj4 l0 (!t378) t361 t362 t363 t364 t367 t368 t369 t370) = some r := H
                have A32 := Aside0.mk A320
                clear A320
                have H' := Aside0.mk H
                clear H
                have hnb33 := NB371_365.out
                have hnc33 := NB365_371.out
                have hnb34 := NB371_366.out
                have hnc34 := NB366_371.out
                obtain ⟨hcz35_0, hcz35_1, hcz35_2, hcz35_3, hfz35_0, hfz35_1, hfz35_2, hfz35_3⟩ := sqc4 BK371
                go_wp2_with (first | (go_at_call 19; (with_reducible refine (impl_ValHas.calls kj4 t367 t368 t369 t370 t367 true _ A30.out).mono ?_); rintro e w36 ⟨rfl, hb⟩; replace BK365 := sqb BK365 hb; replace BK366 := sqb BK366 hb; replace BK371 := sqb BK371 hb; replace HB := sqs HB hb; (try clear hb); obtain ⟨hcz37_0, hcz37_1, hcz37_2, hcz37_3, hfz37_0, hfz37_1, hfz37_2, hfz37_3⟩ := sqc4 BK371) | (go_at_call 19; (with_reducible refine (impl_ValHas.calls kj4 t367 t368 t369 t370 t368 t378 _ A32.out).mono ?_); rintro e w38 ⟨rfl, hb⟩; replace BK365 := sqb BK365 hb; replace BK366 := sqb BK366 hb; replace BK371 := sqb BK371 hb; replace HB := sqs HB hb; (try clear hb)))
                go_meet
                case rel => exact ⟨_, (!t378), (by first | rfl | (simp; done) | (simp [*]; done)), H', ⟨by have := HJ4.out; first | omega | exact Nat.le_refl _⟩, sqk BK365, sqk BK366, sqk BK371, sqh HB⟩
              · replace c31 := Bool.eq_false_iff.mpr c31
                subst c31
                have H1 : (laws_FnValMake.j1 kj4 l0 true t361 t362 t363 t364 t367 t368 t369 t370) = some r := by rw [if_neg (show ¬ (false = true) by decide)] at H; exact H
                clear H
                have H := H1
                clear H1
                have H' := Aside0.mk H
                clear H
                have hnb39 := NB371_365.out
                have hnc39 := NB365_371.out
                have hnb40 := NB371_366.out
                have hnc40 := NB366_371.out
                obtain ⟨hcz41_0, hcz41_1, hcz41_2, hcz41_3, hfz41_0, hfz41_1, hfz41_2, hfz41_3⟩ := sqc4 BK371
                go_wp2_with (first | (go_at_call 19; (with_reducible refine (impl_ValHas.calls kj4 t367 t368 t369 t370 t367 false _ A30.out).mono ?_); rintro e w42 ⟨rfl, hb⟩; replace BK365 := sqb BK365 hb; replace BK366 := sqb BK366 hb; replace BK371 := sqb BK371 hb; replace HB := sqs HB hb; (try clear hb)))
                go_meet
                case rel => exact ⟨_, (true), (by first | rfl | (simp; done) | (simp [*]; done)), H', ⟨by have := HJ4.out; first | omega | exact Nat.le_refl _⟩, sqk BK365, sqk BK366, sqk BK371, sqh HB⟩
            · rw [if_neg c29] at H
              have c29b0 : decide (t367 ≤ t368) = false := decide_eq_false c29
              clear c29
              (first | rw [c29b0] | (simp only [i64_w, i32_w]; rw [c29b0]) | skip)
              have H' := Aside0.mk H
              clear H
              have hnb43 := NB371_365.out
              have hnc43 := NB365_371.out
              have hnb44 := NB371_366.out
              have hnc44 := NB366_371.out
              obtain ⟨hcz45_0, hcz45_1, hcz45_2, hcz45_3, hfz45_0, hfz45_1, hfz45_2, hfz45_3⟩ := sqc4 BK371
              go_wp2
              go_meet
              case rel => exact ⟨_, (false), (by first | rfl | (simp; done) | (simp [*]; done)), H', ⟨by have := HJ4.out; first | omega | exact Nat.le_refl _⟩, sqk BK365, sqk BK366, sqk BK371, sqh HB⟩
          case rest =>
            as_aux_lemma =>
            clear HC28
            try clear c2
            try clear c2b0
            try clear c2b1
            try clear c18
            try clear c18b0
            try clear c27
            try clear hcz10_0
            try clear hcz10_1
            try clear hcz11_0
            try clear hcz11_1
            try clear hcz16_0
            try clear hcz16_1
            try clear hcz16_2
            try clear hcz16_3
            try clear hfz10_0
            try clear hfz10_1
            try clear hfz11_0
            try clear hfz11_1
            try clear hfz16_0
            try clear hfz16_1
            try clear hfz16_2
            try clear hfz16_3
            obtain ⟨kq, x47_27, rfl, HA, HJ27, BK365, BK366, BK371, HB⟩ := hcut
            cases kq with
            | zero => exact absurd HA.out (by simp [laws_FnValMake.j1])
            | succ kj27 =>
              have H := HA.out
              clear HA
              simp only [laws_FnValMake.j1] at H
              by_cases c46 : x47_27 = true
              · subst c46
                have H1 : (some false) = some r := by rw [if_pos rfl] at H; exact H
                clear H
                have H := H1
                clear H1
                obtain rfl := Option.some.inj H
                go_wp2
                go_ret
                exact sqe HB
              · replace c46 := Bool.eq_false_iff.mpr c46
                subst c46
                have H1 : (laws_FnValMake.l0 kj27 l0 0 t361 t362 t363 t364 t367 t368 t369 t370) = some r := by rw [if_neg (show ¬ (false = true) by decide)] at H; exact H
                clear H
                have H := H1
                clear H1
                have H' := Aside0.mk H
                clear H
                go_wp2
                go_loopg [6] kj27 (fun kq v6 w' => ∃ (x6_3 : Int), v6 = .int .i64 x6_3 ∧ Aside0 (laws_FnValMake.l0 kq l0 x6_3 t361 t362 t363 t364 t367 t368 t369 t370 = some r) ∧ Aside0 (kq ≤ kj27) ∧ Aside0 (w'.heap[gb365]? = some (.cells #[.int .i64 t361, .int .i64 t362] 24 (0, 0))) ∧ Aside0 (w'.heap[gb366]? = some (.cells #[.int .i64 t363, .int .i64 t364] 26 (0, 0))) ∧ Aside0 (w'.heap[gb371]? = some (.cells #[.int .i64 t367, .int .i64 t368, .int .i64 t369, .int .i64 t370] 30 (0, 0))) ∧ Aside0 (Below w.heap.size w w'))
                case atStart => exact ⟨(0), (by first | rfl | (simp; done) | (simp [*]; done)), H', ⟨Nat.le_refl _⟩, sqk BK365, sqk BK366, sqk BK371, sqh HB⟩
                case round =>
                  clear H'
                  try clear c1
                  try clear c2
                  try clear c2b0
                  try clear c2b1
                  try clear p2
                  try clear c3
                  try clear c4
                  try clear c9
                  try clear c14
                  try clear c15
                  try clear c16
                  try clear c17
                  try clear c18
                  try clear c18b0
                  try clear c27
                  try clear c29
                  try clear c29b0
                  try clear c31
                  try clear c33
                  try clear c34
                  try clear c39
                  try clear c40
                  try clear c43
                  try clear c44
                  try clear c46
                  try clear hcz10_0
                  try clear hcz10_1
                  try clear hcz11_0
                  try clear hcz11_1
                  try clear hcz16_0
                  try clear hcz16_1
                  try clear hcz16_2
                  try clear hcz16_3
                  try clear hcz35_0
                  try clear hcz35_1
                  try clear hcz35_2
                  try clear hcz35_3
                  try clear hcz37_0
                  try clear hcz37_1
                  try clear hcz37_2
                  try clear hcz37_3
                  try clear hcz41_0
                  try clear hcz41_1
                  try clear hcz41_2
                  try clear hcz41_3
                  try clear hcz45_0
                  try clear hcz45_1
                  try clear hcz45_2
                  try clear hcz45_3
                  try clear hfz10_0
                  try clear hfz10_1
                  try clear hfz11_0
                  try clear hfz11_1
                  try clear hfz16_0
                  try clear hfz16_1
                  try clear hfz16_2
                  try clear hfz16_3
                  try clear hfz35_0
                  try clear hfz35_1
                  try clear hfz35_2
                  try clear hfz35_3
                  try clear hfz37_0
                  try clear hfz37_1
                  try clear hfz37_2
                  try clear hfz37_3
                  try clear hfz41_0
                  try clear hfz41_1
                  try clear hfz41_2
                  try clear hfz41_3
                  try clear hfz45_0
                  try clear hfz45_1
                  try clear hfz45_2
                  try clear hfz45_3
                  try clear p2
                  obtain ⟨x6_3, rfl, HA, HK3, BK365, BK366, BK371, HB⟩ := hrel
                  cases gk with
                  | zero => exact absurd HA.out (by simp [laws_FnValMake.l0])
                  | succ k3 =>
                    have H := HA.out
                    clear HA
                    simp only [laws_FnValMake.l0] at H
                    by_cases c47 : x6_3 < 6
                    · rw [if_pos c47] at H
                      have c47b0 : decide (x6_3 < 6) = true := decide_eq_true c47
                      clear c47
                      replace H := Option.bind_eq_some_iff.mp H
                      obtain ⟨t379, A480, H⟩ := H
                      replace H : (if x6_3 > 2 then ((laws_ofRest.f k3 t363 t364 l0 x6_3).bind fun t380 => (laws_FnValMake.j3 k3 l0 x6_3 t380 t361 t362 t363 t364 t367 t368 t369 t370)) else (laws_FnValMake.j3 k3 l0 x6_3 t379 t361 t362 t363 t364 t367 t368 t369 t370)) = some r := H
                      have A48 := Aside0.mk A480
                      clear A480
                      have HC49 := Aside0.mk H
                      clear H
                      have hnb50 := NB365_366.out
                      have hnc50 := NB366_365.out
                      have hnb51 := NB365_371.out
                      have hnc51 := NB371_365.out
                      obtain ⟨hcz52_0, hcz52_1, hfz52_0, hfz52_1⟩ := sqc2 BK365
                      go_upto_if 57 with (first | ((with_reducible refine gate_callee (f := 20) rfl ?_); refine sqL (some 55) Try.func20 #[.agg #[.int .i64 t361, .int .i64 t362], .slice A0 l0.length c0, .int .i64 x6_3] ?_; (with_reducible refine (laws_within.calls k3 t361 t362 _ _ l0 x6_3 t379 _ ?side1 ?side2 A48.out).mono ?_); (case side1 => repeat (first | exact (Kd.C_below HR0.out HB.out) | (with_reducible refine Kd.C_alloc ?_ _) | (with_reducible refine Kd.C_drewN ?_ _) | (with_reducible refine Kd.C_drew ?_))); (case side2 => exact HC0.out); rintro e w53 ⟨rfl, hb⟩; refine ⟨_, rfl, ?_⟩; replace BK365 := sqb BK365 hb; replace BK366 := sqb BK366 hb; replace BK371 := sqb BK371 hb; replace HB := sqs HB hb; (try clear hb)))
                      (try simp only [Act.put, List.setIfInBounds_toArray, List.set_cons_zero, List.set_cons_succ])
                      go_cut [7] (fun v7 wc => ∃ (kq : Nat) (x7_48 : Int), v7 = .int .i64 x7_48 ∧ Aside0 (laws_FnValMake.j3 kq l0 x6_3 x7_48 t361 t362 t363 t364 t367 t368 t369 t370 = some r) ∧ Aside0 (kq ≤ k3) ∧ Aside0 (wc.heap[gb365]? = some (.cells #[.int .i64 t361, .int .i64 t362] 24 (0, 0))) ∧ Aside0 (wc.heap[gb366]? = some (.cells #[.int .i64 t363, .int .i64 t364] 26 (0, 0))) ∧ Aside0 (wc.heap[gb371]? = some (.cells #[.int .i64 t367, .int .i64 t368, .int .i64 t369, .int .i64 t370] 30 (0, 0))) ∧ Aside0 (Below w.heap.size w wc))
                      case first =>
                        as_aux_lemma =>
                        have H := HC49.out
                        clear HC49
                        by_cases c54 : x6_3 > 2
                        · rw [if_pos c54] at H
                          have c54b0 : decide (2 < x6_3) = true := decide_eq_true c54
                          clear c54
                          (first | rw [c54b0] | (simp only [i64_w, i32_w]; rw [c54b0]) | skip)
                          replace H := Option.bind_eq_some_iff.mp H
                          obtain ⟨t380, A550, H⟩ := H
                          replace H : (laws_FnValMake.j3 k3 l0 x6_3 t380 t361 t362 t363 t364 t367 t368 t369 t370) = some r := H
                          have A55 := Aside0.mk A550
                          clear A550
                          have H' := Aside0.mk H
                          clear H
                          have hnb56 := NB366_365.out
                          have hnc56 := NB365_366.out
                          have hnb57 := NB366_371.out
                          have hnc57 := NB371_366.out
                          obtain ⟨hcz58_0, hcz58_1, hfz58_0, hfz58_1⟩ := sqc2 BK366
                          go_wp2_with (first | ((with_reducible refine gate_callee (f := 21) rfl ?_); refine sqL (some 61) Try.func21 #[.agg #[.int .i64 t363, .int .i64 t364], .slice A0 l0.length c0, .int .i64 x6_3] ?_; (with_reducible refine (laws_ofRest.calls k3 t363 t364 _ _ l0 x6_3 t380 _ ?side1 ?side2 A55.out).mono ?_); (case side1 => repeat (first | exact (Kd.C_below HR0.out HB.out) | (with_reducible refine Kd.C_alloc ?_ _) | (with_reducible refine Kd.C_drewN ?_ _) | (with_reducible refine Kd.C_drew ?_))); (case side2 => exact HC0.out); rintro e w59 ⟨rfl, hb⟩; refine ⟨_, rfl, ?_⟩; replace BK365 := sqb BK365 hb; replace BK366 := sqb BK366 hb; replace BK371 := sqb BK371 hb; replace HB := sqs HB hb; (try clear hb)))
                          go_meet
                          case rel => exact ⟨_, (t380), (by first | rfl | (simp; done) | (simp [*]; done)), H', ⟨by have := HJ4.out; have := HJ27.out; have := HK3.out; first | omega | exact Nat.le_refl _⟩, sqk BK365, sqk BK366, sqk BK371, sqh HB⟩
                        · rw [if_neg c54] at H
                          have c54b0 : decide (2 < x6_3) = false := decide_eq_false c54
                          clear c54
                          (first | rw [c54b0] | (simp only [i64_w, i32_w]; rw [c54b0]) | skip)
                          have H' := Aside0.mk H
                          clear H
                          go_wp2
                          go_meet
                          case rel => exact ⟨_, (t379), (by first | rfl | (simp; done) | (simp [*]; done)), H', ⟨by have := HJ4.out; have := HJ27.out; have := HK3.out; first | omega | exact Nat.le_refl _⟩, sqk BK365, sqk BK366, sqk BK371, sqh HB⟩
                      case rest =>
                        as_aux_lemma =>
                        clear HC49
                        try clear c1
                        try clear c2
                        try clear c2b0
                        try clear c2b1
                        try clear p2
                        try clear c3
                        try clear c4
                        try clear c9
                        try clear c14
                        try clear c15
                        try clear c16
                        try clear c17
                        try clear c18
                        try clear c18b0
                        try clear c27
                        try clear c29
                        try clear c29b0
                        try clear c31
                        try clear c33
                        try clear c34
                        try clear c39
                        try clear c40
                        try clear c43
                        try clear c44
                        try clear c46
                        try clear c47
                        try clear c47b0
                        try clear hcz10_0
                        try clear hcz10_1
                        try clear hcz11_0
                        try clear hcz11_1
                        try clear hcz16_0
                        try clear hcz16_1
                        try clear hcz16_2
                        try clear hcz16_3
                        try clear hcz35_0
                        try clear hcz35_1
                        try clear hcz35_2
                        try clear hcz35_3
                        try clear hcz37_0
                        try clear hcz37_1
                        try clear hcz37_2
                        try clear hcz37_3
                        try clear hcz41_0
                        try clear hcz41_1
                        try clear hcz41_2
                        try clear hcz41_3
                        try clear hcz45_0
                        try clear hcz45_1
                        try clear hcz45_2
                        try clear hcz45_3
                        try clear hcz52_0
                        try clear hcz52_1
                        try clear hfz10_0
                        try clear hfz10_1
                        try clear hfz11_0
                        try clear hfz11_1
                        try clear hfz16_0
                        try clear hfz16_1
                        try clear hfz16_2
                        try clear hfz16_3
                        try clear hfz35_0
                        try clear hfz35_1
                        try clear hfz35_2
                        try clear hfz35_3
                        try clear hfz37_0
                        try clear hfz37_1
                        try clear hfz37_2
                        try clear hfz37_3
                        try clear hfz41_0
                        try clear hfz41_1
                        try clear hfz41_2
                        try clear hfz41_3
                        try clear hfz45_0
                        try clear hfz45_1
                        try clear hfz45_2
                        try clear hfz45_3
                        try clear hfz52_0
                        try clear hfz52_1
                        try clear p2
                        obtain ⟨kq, x7_48, rfl, HA, HJ48, BK365, BK366, BK371, HB⟩ := hcut
                        cases kq with
                        | zero => exact absurd HA.out (by simp [laws_FnValMake.j3])
                        | succ kj48 =>
                          have H := HA.out
                          clear HA
                          simp only [laws_FnValMake.j3] at H
                          replace H := Option.bind_eq_some_iff.mp H
                          obtain ⟨t381, A600, H⟩ := H
                          replace H : ((spec_RangeHas.f t361 t362 x7_48).bind fun t382 => (if t382 = true then ((spec_RestHas.f kj48 t363 t364 x7_48).bind fun t383 => (if (t381 != t383) = true then (some false) else (laws_FnValMake.l0 kj48 l0 (wrap64 (x6_3 + 1)) t361 t362 t363 t364 t367 t368 t369 t370))) else (if (t381 != false) = true then (some false) else (laws_FnValMake.l0 kj48 l0 (wrap64 (x6_3 + 1)) t361 t362 t363 t364 t367 t368 t369 t370)))) = some r := H
                          have A60 := Aside0.mk A600
                          clear A600
                          replace H := Option.bind_eq_some_iff.mp H
                          obtain ⟨t382, A610, H⟩ := H
                          replace H : (if t382 = true then ((spec_RestHas.f kj48 t363 t364 x7_48).bind fun t383 => (if (t381 != t383) = true then (some false) else (laws_FnValMake.l0 kj48 l0 (wrap64 (x6_3 + 1)) t361 t362 t363 t364 t367 t368 t369 t370))) else (if (t381 != false) = true then (some false) else (laws_FnValMake.l0 kj48 l0 (wrap64 (x6_3 + 1)) t361 t362 t363 t364 t367 t368 t369 t370))) = some r := H
                          have A61 := Aside0.mk A610
                          clear A610
                          by_cases c62 : t382 = true
                          · subst c62
                            have H1 : ((spec_RestHas.f kj48 t363 t364 x7_48).bind fun t383 => (if (t381 != t383) = true then (some false) else (laws_FnValMake.l0 kj48 l0 (wrap64 (x6_3 + 1)) t361 t362 t363 t364 t367 t368 t369 t370))) = some r := by rw [if_pos rfl] at H; exact H
                            clear H
                            have H := H1
                            clear H1
                            replace H := Option.bind_eq_some_iff.mp H
                            obtain ⟨t383, A630, H⟩ := H
                            replace H : (if (t381 != t383) = true then (some false) else (laws_FnValMake.l0 kj48 l0 (wrap64 (x6_3 + 1)) t361 t362 t363 t364 t367 t368 t369 t370)) = some r := H
                            have A63 := Aside0.mk A630
                            clear A630
                            by_cases c64 : (t381 != t383) = true
                            · rw [if_pos c64] at H
                              have c64b0 : (t381 != t383) = true := c64
                              (try (have c64b1 : decide (t381 = t383) = false := by simpa using c64))
                              (try (have c64b2 : (t381 == t383) = false := by simpa using c64))
                              (try (have c64b3 : ¬ (t381 = t383) := by simpa using c64))
                              clear c64
                              obtain rfl := Option.some.inj H
                              try go_wp2
                              replace BK365 := Aside0.mk (blk_drew BK365.out)
                              replace BK366 := Aside0.mk (blk_drew BK366.out)
                              replace BK371 := Aside0.mk (blk_drew BK371.out)
                              replace HB := Aside0.mk (below_drew1 HB.out)
                              refine start_ (n := 12) (S := fun w' => w'.cell? ⟨gb371, 0, none⟩ = some (.int .i64 t367) ∧ w'.cell? ⟨gb371, 1, none⟩ = some (.int .i64 t368) ∧ w'.cell? ⟨gb371, 2, none⟩ = some (.int .i64 t369) ∧ w'.cell? ⟨gb371, 3, none⟩ = some (.int .i64 t370) ∧ w'.cell? ⟨gb365, 0, none⟩ = some (.int .i64 t361) ∧ w'.cell? ⟨gb365, 1, none⟩ = some (.int .i64 t362) ∧ w'.cell? ⟨gb366, 0, none⟩ = some (.int .i64 t363) ∧ w'.cell? ⟨gb366, 1, none⟩ = some (.int .i64 t364)) (ds := []) #[false, false, false, false, false, false, false, false, false, false, false, false] (by kernel_rfl) rfl rfl ⟨(blk_cell BK371.out 0).trans rfl, (blk_cell BK371.out 1).trans rfl, (blk_cell BK371.out 2).trans rfl, (blk_cell BK371.out 3).trans rfl, (blk_cell BK365.out 0).trans rfl, (blk_cell BK365.out 1).trans rfl, (blk_cell BK366.out 0).trans rfl, (blk_cell BK366.out 1).trans rfl⟩ (fun hHeld => ?_); refine with_tabW laws_FnValMake.tab15 laws_FnValMake.bits15 (fun HT_ HW_ => ?_)
                              generalize wc.drew = w65 at BK365 BK366 BK371 HB hHeld ⊢
                              refine sqp HT_ 1 63 ?_
                              refine sqp HT_ 4 66 ?_
                              refine sqw HT_ HW_ 0 62 hHeld ?_
                              refine sqw HT_ HW_ 3 65 hHeld ?_
                              refine sqo HT_ 2 64 (fun K hK => ?_)
                              refine sqG Try.func19 #[.agg #[.int .i64 t367, .int .i64 t368, .int .i64 t369, .int .i64 t370], .int .i64 x7_48] ?_
                              with_reducible refine (impl_ValHas.calls kj48 t367 t368 t369 t370 x7_48 t381 _ A60.out).mono ?_
                              rintro e w66 ⟨rfl, hb⟩
                              refine ⟨_, rfl, ?_⟩
                              replace BK365 := sqb BK365 hb
                              replace BK366 := sqb BK366 hb
                              replace BK371 := sqb BK371 hb
                              replace HB := sqs HB hb
                              (try clear hb)
                              refine hK.out _ _ sqz (fun hHeld => ?_)
                              clear hK K
                              refine sqnm ?_
                              refine sqo HT_ 5 67 (fun K hK => ?_)
                              refine sqG Try.func22 #[.agg #[.int .i64 t361, .int .i64 t362], .int .i64 x7_48] ?_
                              with_reducible refine (spec_RangeHas.calls t361 t362 x7_48 true _ A61.out).mono ?_
                              rintro e w67 ⟨rfl, hb⟩
                              refine ⟨_, rfl, ?_⟩
                              replace BK365 := sqb BK365 hb
                              replace BK366 := sqb BK366 hb
                              replace BK371 := sqb BK371 hb
                              replace HB := sqs HB hb
                              (try clear hb)
                              refine hK.out _ _ sqz (fun hHeld => ?_)
                              clear hK K
                              refine sqnm ?_
                              refine sqp HT_ 6 68 ?_
                              refine sqp HT_ 8 70 ?_
                              refine sqw HT_ HW_ 7 69 hHeld ?_
                              refine sqo HT_ 9 71 (fun K hK => ?_)
                              refine sqG Try.func23 #[.agg #[.int .i64 t363, .int .i64 t364], .int .i64 x7_48] ?_
                              with_reducible refine (spec_RestHas.calls kj48 t363 t364 x7_48 t383 _ A63.out).mono ?_
                              rintro e w68 ⟨rfl, hb⟩
                              refine ⟨_, rfl, ?_⟩
                              replace BK365 := sqb BK365 hb
                              replace BK366 := sqb BK366 hb
                              replace BK371 := sqb BK371 hb
                              replace HB := sqs HB hb
                              (try clear hb)
                              refine hK.out _ _ sqz (fun hHeld => ?_)
                              clear hK K
                              refine sqnm ?_
                              refine sqp HT_ 10 72 ?_
                              refine sqp HT_ 11 73 ?_
                              refine done_ (done_of HT_.out (by kernel_rfl)) ?_
                              try go_wp2
                              go_ret
                              exact sqe HB
                            · rw [if_neg c64] at H
                              have c64b0 : (t381 != t383) = false := by simpa using c64
                              (try (have c64b1 : decide (t381 = t383) = true := by simpa using c64))
                              (try (have c64b2 : (t381 == t383) = true := by simpa using c64))
                              clear c64
                              have H' := Aside0.mk H
                              clear H
                              try go_wp2
                              replace BK365 := Aside0.mk (blk_drew BK365.out)
                              replace BK366 := Aside0.mk (blk_drew BK366.out)
                              replace BK371 := Aside0.mk (blk_drew BK371.out)
                              replace HB := Aside0.mk (below_drew1 HB.out)
                              refine start_ (n := 12) (S := fun w' => w'.cell? ⟨gb371, 0, none⟩ = some (.int .i64 t367) ∧ w'.cell? ⟨gb371, 1, none⟩ = some (.int .i64 t368) ∧ w'.cell? ⟨gb371, 2, none⟩ = some (.int .i64 t369) ∧ w'.cell? ⟨gb371, 3, none⟩ = some (.int .i64 t370) ∧ w'.cell? ⟨gb365, 0, none⟩ = some (.int .i64 t361) ∧ w'.cell? ⟨gb365, 1, none⟩ = some (.int .i64 t362) ∧ w'.cell? ⟨gb366, 0, none⟩ = some (.int .i64 t363) ∧ w'.cell? ⟨gb366, 1, none⟩ = some (.int .i64 t364)) (ds := []) #[false, false, false, false, false, false, false, false, false, false, false, false] (by kernel_rfl) rfl rfl ⟨(blk_cell BK371.out 0).trans rfl, (blk_cell BK371.out 1).trans rfl, (blk_cell BK371.out 2).trans rfl, (blk_cell BK371.out 3).trans rfl, (blk_cell BK365.out 0).trans rfl, (blk_cell BK365.out 1).trans rfl, (blk_cell BK366.out 0).trans rfl, (blk_cell BK366.out 1).trans rfl⟩ (fun hHeld => ?_); refine with_tabW laws_FnValMake.tab15 laws_FnValMake.bits15 (fun HT_ HW_ => ?_)
                              generalize wc.drew = w69 at BK365 BK366 BK371 HB hHeld ⊢
                              refine sqp HT_ 1 63 ?_
                              refine sqp HT_ 4 66 ?_
                              refine sqw HT_ HW_ 0 62 hHeld ?_
                              refine sqw HT_ HW_ 3 65 hHeld ?_
                              refine sqo HT_ 2 64 (fun K hK => ?_)
                              refine sqG Try.func19 #[.agg #[.int .i64 t367, .int .i64 t368, .int .i64 t369, .int .i64 t370], .int .i64 x7_48] ?_
                              with_reducible refine (impl_ValHas.calls kj48 t367 t368 t369 t370 x7_48 t381 _ A60.out).mono ?_
                              rintro e w70 ⟨rfl, hb⟩
                              refine ⟨_, rfl, ?_⟩
                              replace BK365 := sqb BK365 hb
                              replace BK366 := sqb BK366 hb
                              replace BK371 := sqb BK371 hb
                              replace HB := sqs HB hb
                              (try clear hb)
                              refine hK.out _ _ sqz (fun hHeld => ?_)
                              clear hK K
                              refine sqnm ?_
                              refine sqo HT_ 5 67 (fun K hK => ?_)
                              refine sqG Try.func22 #[.agg #[.int .i64 t361, .int .i64 t362], .int .i64 x7_48] ?_
                              with_reducible refine (spec_RangeHas.calls t361 t362 x7_48 true _ A61.out).mono ?_
                              rintro e w71 ⟨rfl, hb⟩
                              refine ⟨_, rfl, ?_⟩
                              replace BK365 := sqb BK365 hb
                              replace BK366 := sqb BK366 hb
                              replace BK371 := sqb BK371 hb
                              replace HB := sqs HB hb
                              (try clear hb)
                              refine hK.out _ _ sqz (fun hHeld => ?_)
                              clear hK K
                              refine sqnm ?_
                              refine sqp HT_ 6 68 ?_
                              refine sqp HT_ 8 70 ?_
                              refine sqw HT_ HW_ 7 69 hHeld ?_
                              refine sqo HT_ 9 71 (fun K hK => ?_)
                              refine sqG Try.func23 #[.agg #[.int .i64 t363, .int .i64 t364], .int .i64 x7_48] ?_
                              with_reducible refine (spec_RestHas.calls kj48 t363 t364 x7_48 t383 _ A63.out).mono ?_
                              rintro e w72 ⟨rfl, hb⟩
                              refine ⟨_, rfl, ?_⟩
                              replace BK365 := sqb BK365 hb
                              replace BK366 := sqb BK366 hb
                              replace BK371 := sqb BK371 hb
                              replace HB := sqs HB hb
                              (try clear hb)
                              refine hK.out _ _ sqz (fun hHeld => ?_)
                              clear hK K
                              refine sqnm ?_
                              refine sqp HT_ 10 72 ?_
                              refine sqp HT_ 11 73 ?_
                              refine done_ (done_of HT_.out (by kernel_rfl)) ?_
                              try go_wp2
                              go_roundg kj48
                              case measure => have := HJ4.out; have := HJ27.out; have := HK3.out; have := HJ48.out; omega
                              case rel => exact ⟨(wrap64 (x6_3 + 1)), (by first | rfl | (simp; done) | (simp [*]; done)), H', ⟨by have := HJ4.out; have := HJ27.out; have := HK3.out; have := HJ48.out; omega⟩, sqk BK365, sqk BK366, sqk BK371, sqh HB⟩
                          · replace c62 := Bool.eq_false_iff.mpr c62
                            subst c62
                            have H1 : (if (t381 != false) = true then (some false) else (laws_FnValMake.l0 kj48 l0 (wrap64 (x6_3 + 1)) t361 t362 t363 t364 t367 t368 t369 t370)) = some r := by rw [if_neg (show ¬ (false = true) by decide)] at H; exact H
                            clear H
                            have H := H1
                            clear H1
                            by_cases c73 : (t381 != false) = true
                            · rw [if_pos c73] at H
                              have c73b0 : (t381 != false) = true := c73
                              (try (have c73b1 : decide (t381 = false) = false := by simpa using c73))
                              (try (have c73b2 : (t381 == false) = false := by simpa using c73))
                              (try (have c73b3 : ¬ (t381 = false) := by simpa using c73))
                              clear c73
                              obtain rfl := Option.some.inj H
                              try go_wp2
                              replace BK365 := Aside0.mk (blk_drew BK365.out)
                              replace BK366 := Aside0.mk (blk_drew BK366.out)
                              replace BK371 := Aside0.mk (blk_drew BK371.out)
                              replace HB := Aside0.mk (below_drew1 HB.out)
                              refine start_ (n := 12) (S := fun w' => w'.cell? ⟨gb371, 0, none⟩ = some (.int .i64 t367) ∧ w'.cell? ⟨gb371, 1, none⟩ = some (.int .i64 t368) ∧ w'.cell? ⟨gb371, 2, none⟩ = some (.int .i64 t369) ∧ w'.cell? ⟨gb371, 3, none⟩ = some (.int .i64 t370) ∧ w'.cell? ⟨gb365, 0, none⟩ = some (.int .i64 t361) ∧ w'.cell? ⟨gb365, 1, none⟩ = some (.int .i64 t362)) (ds := []) #[false, false, false, false, false, false, false, false, false, false, false, false] (by kernel_rfl) rfl rfl ⟨(blk_cell BK371.out 0).trans rfl, (blk_cell BK371.out 1).trans rfl, (blk_cell BK371.out 2).trans rfl, (blk_cell BK371.out 3).trans rfl, (blk_cell BK365.out 0).trans rfl, (blk_cell BK365.out 1).trans rfl⟩ (fun hHeld => ?_); refine with_tabW laws_FnValMake.tab15 laws_FnValMake.bits15 (fun HT_ HW_ => ?_)
                              generalize wc.drew = w74 at BK365 BK366 BK371 HB hHeld ⊢
                              refine sqp HT_ 1 63 ?_
                              refine sqp HT_ 4 66 ?_
                              refine sqw HT_ HW_ 0 62 hHeld ?_
                              refine sqw HT_ HW_ 3 65 hHeld ?_
                              refine sqo HT_ 2 64 (fun K hK => ?_)
                              refine sqG Try.func19 #[.agg #[.int .i64 t367, .int .i64 t368, .int .i64 t369, .int .i64 t370], .int .i64 x7_48] ?_
                              with_reducible refine (impl_ValHas.calls kj48 t367 t368 t369 t370 x7_48 t381 _ A60.out).mono ?_
                              rintro e w75 ⟨rfl, hb⟩
                              refine ⟨_, rfl, ?_⟩
                              replace BK365 := sqb BK365 hb
                              replace BK366 := sqb BK366 hb
                              replace BK371 := sqb BK371 hb
                              replace HB := sqs HB hb
                              (try clear hb)
                              refine hK.out _ _ sqz (fun hHeld => ?_)
                              clear hK K
                              refine sqnm ?_
                              refine sqo HT_ 5 67 (fun K hK => ?_)
                              refine sqG Try.func22 #[.agg #[.int .i64 t361, .int .i64 t362], .int .i64 x7_48] ?_
                              with_reducible refine (spec_RangeHas.calls t361 t362 x7_48 false _ A61.out).mono ?_
                              rintro e w76 ⟨rfl, hb⟩
                              refine ⟨_, rfl, ?_⟩
                              replace BK365 := sqb BK365 hb
                              replace BK366 := sqb BK366 hb
                              replace BK371 := sqb BK371 hb
                              replace HB := sqs HB hb
                              (try clear hb)
                              refine hK.out _ _ sqz (fun hHeld => ?_)
                              clear hK K
                              refine sqnm ?_
                              refine sqp HT_ 6 68 ?_
                              refine sqpu HT_ 7 69 ?_
                              refine sqpu HT_ 8 70 ?_
                              refine sqpu HT_ 9 71 ?_
                              refine sqp HT_ 10 72 ?_
                              refine sqp HT_ 11 73 ?_
                              refine done_ (done_of HT_.out (by kernel_rfl)) ?_
                              try go_wp2
                              go_ret
                              exact sqe HB
                            · rw [if_neg c73] at H
                              have c73b0 : (t381 != false) = false := by simpa using c73
                              (try (have c73b1 : decide (t381 = false) = true := by simpa using c73))
                              (try (have c73b2 : (t381 == false) = true := by simpa using c73))
                              clear c73
                              have H' := Aside0.mk H
                              clear H
                              try go_wp2
                              replace BK365 := Aside0.mk (blk_drew BK365.out)
                              replace BK366 := Aside0.mk (blk_drew BK366.out)
                              replace BK371 := Aside0.mk (blk_drew BK371.out)
                              replace HB := Aside0.mk (below_drew1 HB.out)
                              refine start_ (n := 12) (S := fun w' => w'.cell? ⟨gb371, 0, none⟩ = some (.int .i64 t367) ∧ w'.cell? ⟨gb371, 1, none⟩ = some (.int .i64 t368) ∧ w'.cell? ⟨gb371, 2, none⟩ = some (.int .i64 t369) ∧ w'.cell? ⟨gb371, 3, none⟩ = some (.int .i64 t370) ∧ w'.cell? ⟨gb365, 0, none⟩ = some (.int .i64 t361) ∧ w'.cell? ⟨gb365, 1, none⟩ = some (.int .i64 t362)) (ds := []) #[false, false, false, false, false, false, false, false, false, false, false, false] (by kernel_rfl) rfl rfl ⟨(blk_cell BK371.out 0).trans rfl, (blk_cell BK371.out 1).trans rfl, (blk_cell BK371.out 2).trans rfl, (blk_cell BK371.out 3).trans rfl, (blk_cell BK365.out 0).trans rfl, (blk_cell BK365.out 1).trans rfl⟩ (fun hHeld => ?_); refine with_tabW laws_FnValMake.tab15 laws_FnValMake.bits15 (fun HT_ HW_ => ?_)
                              generalize wc.drew = w77 at BK365 BK366 BK371 HB hHeld ⊢
                              refine sqp HT_ 1 63 ?_
                              refine sqp HT_ 4 66 ?_
                              refine sqw HT_ HW_ 0 62 hHeld ?_
                              refine sqw HT_ HW_ 3 65 hHeld ?_
                              refine sqo HT_ 2 64 (fun K hK => ?_)
                              refine sqG Try.func19 #[.agg #[.int .i64 t367, .int .i64 t368, .int .i64 t369, .int .i64 t370], .int .i64 x7_48] ?_
                              with_reducible refine (impl_ValHas.calls kj48 t367 t368 t369 t370 x7_48 t381 _ A60.out).mono ?_
                              rintro e w78 ⟨rfl, hb⟩
                              refine ⟨_, rfl, ?_⟩
                              replace BK365 := sqb BK365 hb
                              replace BK366 := sqb BK366 hb
                              replace BK371 := sqb BK371 hb
                              replace HB := sqs HB hb
                              (try clear hb)
                              refine hK.out _ _ sqz (fun hHeld => ?_)
                              clear hK K
                              refine sqnm ?_
                              refine sqo HT_ 5 67 (fun K hK => ?_)
                              refine sqG Try.func22 #[.agg #[.int .i64 t361, .int .i64 t362], .int .i64 x7_48] ?_
                              with_reducible refine (spec_RangeHas.calls t361 t362 x7_48 false _ A61.out).mono ?_
                              rintro e w79 ⟨rfl, hb⟩
                              refine ⟨_, rfl, ?_⟩
                              replace BK365 := sqb BK365 hb
                              replace BK366 := sqb BK366 hb
                              replace BK371 := sqb BK371 hb
                              replace HB := sqs HB hb
                              (try clear hb)
                              refine hK.out _ _ sqz (fun hHeld => ?_)
                              clear hK K
                              refine sqnm ?_
                              refine sqp HT_ 6 68 ?_
                              refine sqpu HT_ 7 69 ?_
                              refine sqpu HT_ 8 70 ?_
                              refine sqpu HT_ 9 71 ?_
                              refine sqp HT_ 10 72 ?_
                              refine sqp HT_ 11 73 ?_
                              refine done_ (done_of HT_.out (by kernel_rfl)) ?_
                              try go_wp2
                              go_roundg kj48
                              case measure => have := HJ4.out; have := HJ27.out; have := HK3.out; have := HJ48.out; omega
                              case rel => exact ⟨(wrap64 (x6_3 + 1)), (by first | rfl | (simp; done) | (simp [*]; done)), H', ⟨by have := HJ4.out; have := HJ27.out; have := HK3.out; have := HJ48.out; omega⟩, sqk BK365, sqk BK366, sqk BK371, sqh HB⟩
                    · rw [if_neg c47] at H
                      have c47b0 : decide (x6_3 < 6) = false := decide_eq_false c47
                      clear c47
                      obtain rfl := Option.some.inj H
                      go_wp2
                      go_ret
                      exact sqe HB

/-- THE ONE PURE STATEMENT of laws_FnValMake: yours. -/
theorem laws_FnValMake.walk (P : laws_FnValMake.Pure) (a0 : Option Addr) (len0 cap0 : Nat) (z0 : List Int) (w : World) (w0 : (a0 = none ∧ len0 = 0 ∧ cap0 = 0 ∧ z0 = []) ∨ ∃ x, a0 = some x ∧ len0 ≤ cap0 ∧ cap0 ≤ maxLen ∧ z0.length = cap0 ∧ (∀ i, i < z0.length → w.cell? (x.add i) = some (.int .u8 (z0.getD i 0))) ∧ ∀ n ∈ z0, (Lit.int .u8 n).wf = true) (y0 : len0 * 1 ≤ 140737488351232) :
    Calls Try.prog 3 #[.slice a0 len0 cap0] w fun e w' => e = .returned (.bool true) ∧ Below w.heap.size w w' := by
  obtain ⟨l0, rfl, hr0, hm0, hw0, hc0⟩ := ReadsInt.ofRowC w0
  obtain ⟨k, h⟩ := P l0 hm0 y0 hw0
  refine (laws_FnValMake.calls k _ _ l0 true w (Kd.C_of_reads (d := (0 : Int)) (h1 := fun _ => rfl) hr0) hc0 h).mono ?_
  rintro e w' ⟨rfl, hd⟩
  exact ⟨rfl, hd⟩

end Go.Proofs.Ytkekcenlleebeaa.PFnValMake
