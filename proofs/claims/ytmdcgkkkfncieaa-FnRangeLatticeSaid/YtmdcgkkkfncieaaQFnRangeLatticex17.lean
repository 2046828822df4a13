/- Functions of the program as plain Lean functions, and that calls of them come to what these tell. Conditions: those in each law. -/
import Derived.Test.YtmdcgkkkfncieaaSq
import Derived.Test.YtmdcgkkkfncieaaDFnRangeLattice
import Derived.Test.YtmdcgkkkfncieaaQFnRangeLatticex0
import Derived.Test.YtmdcgkkkfncieaaQFnRangeLatticex1
import Derived.Test.YtmdcgkkkfncieaaQFnRangeLatticex3
import Derived.Test.YtmdcgkkkfncieaaQFnRangeLatticex7
import Derived.Test.YtmdcgkkkfncieaaQFnRangeLatticex9
import Derived.Test.YtmdcgkkkfncieaaQFnRangeLatticex10
import Derived.Test.YtmdcgkkkfncieaaQFnRangeLatticex11
import Derived.Test.YtmdcgkkkfncieaaQFnRangeLatticex13
import Derived.Test.YtmdcgkkkfncieaaQFnRangeLatticex14
import Derived.Test.YtmdcgkkkfncieaaQFnRangeLatticex15
import Derived.Test.YtmdcgkkkfncieaaQFnRangeLatticex16
namespace Go.Proofs.Ytmdcgkkkfncieaa.PFnRangeLattice
open Go.RowKit Go.Proofs.Ytmdcgkkkfncieaa.Sq Go.Proofs.YtmdcgkkkfncieaaW.PrintWords Go.Proofs.YtmdcgkkkfncieaaW.PrintLast Go.Proofs.YtmdcgkkkfncieaaW.PrintMore
attribute [local go_sem] max2_int min2_int max_two min_two max_three min_three max_four min_four   -- for this text's walks alone
set_option linter.unusedVariables false
set_option linter.unusedSimpArgs false

attribute [local go_sem high] eqA27
/-! ### laws_FnRangeLattice: function 12 -/
theorem laws_FnRangeLattice.mono_l : ∀ k, (∀ y0 y1 y2 y3 y4 y5 y6 y7 y8 y9 y10 y11 y12, LeO (laws_FnRangeLattice.j0 k y0 y1 y2 y3 y4 y5 y6 y7 y8 y9 y10 y11 y12) (laws_FnRangeLattice.j0 (k + 1) y0 y1 y2 y3 y4 y5 y6 y7 y8 y9 y10 y11 y12)) ∧ (∀ y0 y1 y2 y3 y4 y5 y6 y7 y8 y9 y10 y11 y12, LeO (laws_FnRangeLattice.j1 k y0 y1 y2 y3 y4 y5 y6 y7 y8 y9 y10 y11 y12) (laws_FnRangeLattice.j1 (k + 1) y0 y1 y2 y3 y4 y5 y6 y7 y8 y9 y10 y11 y12)) ∧ (∀ y0 y1 y2 y3 y4 y5 y6 y7 y8 y9 y10 y11 y12, LeO (laws_FnRangeLattice.j2 k y0 y1 y2 y3 y4 y5 y6 y7 y8 y9 y10 y11 y12) (laws_FnRangeLattice.j2 (k + 1) y0 y1 y2 y3 y4 y5 y6 y7 y8 y9 y10 y11 y12)) ∧ (∀ y0 y1 y2 y3 y4 y5 y6 y7 y8 y9 y10 y11 y12, LeO (laws_FnRangeLattice.l0 k y0 y1 y2 y3 y4 y5 y6 y7 y8 y9 y10 y11 y12) (laws_FnRangeLattice.l0 (k + 1) y0 y1 y2 y3 y4 y5 y6 y7 y8 y9 y10 y11 y12)) ∧ (∀ y0 y1 y2 y3 y4 y5 y6 y7, LeO (laws_FnRangeLattice.j4 k y0 y1 y2 y3 y4 y5 y6 y7) (laws_FnRangeLattice.j4 (k + 1) y0 y1 y2 y3 y4 y5 y6 y7))
  | 0 => ⟨fun _ _ _ _ _ _ _ _ _ _ _ _ _ r h => by simp [laws_FnRangeLattice.j0] at h, fun _ _ _ _ _ _ _ _ _ _ _ _ _ r h => by simp [laws_FnRangeLattice.j1] at h, fun _ _ _ _ _ _ _ _ _ _ _ _ _ r h => by simp [laws_FnRangeLattice.j2] at h, fun _ _ _ _ _ _ _ _ _ _ _ _ _ r h => by simp [laws_FnRangeLattice.l0] at h, fun _ _ _ _ _ _ _ _ r h => by simp [laws_FnRangeLattice.j4] at h⟩
  | k + 1 => by
    obtain ⟨ih0, ih1, ih2, ih3, ih4⟩ := laws_FnRangeLattice.mono_l k
    refine ⟨?_, ?_, ?_, ?_, ?_⟩
    · intro y0 y1 y2 y3 y4 y5 y6 y7 y8 y9 y10 y11 y12
      unfold laws_FnRangeLattice.j0
      repeat' first
      | (with_reducible exact ih0 _ _ _ _ _ _ _ _ _ _ _ _ _)
      | (with_reducible exact ih1 _ _ _ _ _ _ _ _ _ _ _ _ _)
      | (with_reducible exact ih2 _ _ _ _ _ _ _ _ _ _ _ _ _)
      | (with_reducible exact ih3 _ _ _ _ _ _ _ _ _ _ _ _ _)
      | (with_reducible exact ih4 _ _ _ _ _ _ _ _)
      | (with_reducible exact impl_RangeJoin.mono _ _ _ _ _)
      | (with_reducible exact impl_RangeMeet.mono _ _ _ _ _)
      | (with_reducible exact impl_RangeWiden.mono _ _ _ _ _ _)
      | (with_reducible exact laws_has.mono _ _ _)
      | (with_reducible exact laws_within.mono _ _ _ _ _)
      | (with_reducible exact spec_DrawRangeWiden.mono _ _)
      | (with_reducible exact spec_RangeJoin.mono _ _ _ _ _)
      | (with_reducible exact spec_RangeMeet.mono _ _ _ _ _)
      | (with_reducible exact spec_RangeWiden.mono _ _ _ _ _ _)
      | (with_reducible exact LeO.refl _)
      | (with_reducible exact LeO.none _)
      | (with_reducible refine LeO.ite ?_ ?_)
      | (with_reducible refine LeO.bind ?_ (fun _ => ?_))
      | exact ih0 _ _ _ _ _ _ _ _ _ _ _ _ _
      | exact ih1 _ _ _ _ _ _ _ _ _ _ _ _ _
      | exact ih2 _ _ _ _ _ _ _ _ _ _ _ _ _
      | exact ih3 _ _ _ _ _ _ _ _ _ _ _ _ _
      | exact ih4 _ _ _ _ _ _ _ _
      | exact impl_RangeJoin.mono _ _ _ _ _
      | exact impl_RangeMeet.mono _ _ _ _ _
      | exact impl_RangeWiden.mono _ _ _ _ _ _
      | exact laws_has.mono _ _ _
      | exact laws_within.mono _ _ _ _ _
      | exact spec_DrawRangeWiden.mono _ _
      | exact spec_RangeJoin.mono _ _ _ _ _
      | exact spec_RangeMeet.mono _ _ _ _ _
      | exact spec_RangeWiden.mono _ _ _ _ _ _
      | exact LeO.none _
      | refine LeO.ite ?_ ?_
      | refine LeO.bind ?_ (fun _ => ?_)
    · intro y0 y1 y2 y3 y4 y5 y6 y7 y8 y9 y10 y11 y12
      unfold laws_FnRangeLattice.j1
      repeat' first
      | (with_reducible exact ih0 _ _ _ _ _ _ _ _ _ _ _ _ _)
      | (with_reducible exact ih1 _ _ _ _ _ _ _ _ _ _ _ _ _)
      | (with_reducible exact ih2 _ _ _ _ _ _ _ _ _ _ _ _ _)
      | (with_reducible exact ih3 _ _ _ _ _ _ _ _ _ _ _ _ _)
      | (with_reducible exact ih4 _ _ _ _ _ _ _ _)
      | (with_reducible exact impl_RangeJoin.mono _ _ _ _ _)
      | (with_reducible exact impl_RangeMeet.mono _ _ _ _ _)
      | (with_reducible exact impl_RangeWiden.mono _ _ _ _ _ _)
      | (with_reducible exact laws_has.mono _ _ _)
      | (with_reducible exact laws_within.mono _ _ _ _ _)
      | (with_reducible exact spec_DrawRangeWiden.mono _ _)
      | (with_reducible exact spec_RangeJoin.mono _ _ _ _ _)
      | (with_reducible exact spec_RangeMeet.mono _ _ _ _ _)
      | (with_reducible exact spec_RangeWiden.mono _ _ _ _ _ _)
      | (with_reducible exact LeO.refl _)
      | (with_reducible exact LeO.none _)
      | (with_reducible refine LeO.ite ?_ ?_)
      | (with_reducible refine LeO.bind ?_ (fun _ => ?_))
      | exact ih0 _ _ _ _ _ _ _ _ _ _ _ _ _
      | exact ih1 _ _ _ _ _ _ _ _ _ _ _ _ _
      | exact ih2 _ _ _ _ _ _ _ _ _ _ _ _ _
      | exact ih3 _ _ _ _ _ _ _ _ _ _ _ _ _
      | exact ih4 _ _ _ _ _ _ _ _
      | exact impl_RangeJoin.mono _ _ _ _ _
      | exact impl_RangeMeet.mono _ _ _ _ _
      | exact impl_RangeWiden.mono _ _ _ _ _ _
      | exact laws_has.mono _ _ _
      | exact laws_within.mono _ _ _ _ _
      | exact spec_DrawRangeWiden.mono _ _
      | exact spec_RangeJoin.mono _ _ _ _ _
      | exact spec_RangeMeet.mono _ _ _ _ _
      | exact spec_RangeWiden.mono _ _ _ _ _ _
      | exact LeO.none _
      | refine LeO.ite ?_ ?_
      | refine LeO.bind ?_ (fun _ => ?_)
    · intro y0 y1 y2 y3 y4 y5 y6 y7 y8 y9 y10 y11 y12
      unfold laws_FnRangeLattice.j2
      repeat' first
      | (with_reducible exact ih0 _ _ _ _ _ _ _ _ _ _ _ _ _)
      | (with_reducible exact ih1 _ _ _ _ _ _ _ _ _ _ _ _ _)
      | (with_reducible exact ih2 _ _ _ _ _ _ _ _ _ _ _ _ _)
      | (with_reducible exact ih3 _ _ _ _ _ _ _ _ _ _ _ _ _)
      | (with_reducible exact ih4 _ _ _ _ _ _ _ _)
      | (with_reducible exact impl_RangeJoin.mono _ _ _ _ _)
      | (with_reducible exact impl_RangeMeet.mono _ _ _ _ _)
      | (with_reducible exact impl_RangeWiden.mono _ _ _ _ _ _)
      | (with_reducible exact laws_has.mono _ _ _)
      | (with_reducible exact laws_within.mono _ _ _ _ _)
      | (with_reducible exact spec_DrawRangeWiden.mono _ _)
      | (with_reducible exact spec_RangeJoin.mono _ _ _ _ _)
      | (with_reducible exact spec_RangeMeet.mono _ _ _ _ _)
      | (with_reducible exact spec_RangeWiden.mono _ _ _ _ _ _)
      | (with_reducible exact LeO.refl _)
      | (with_reducible exact LeO.none _)
      | (with_reducible refine LeO.ite ?_ ?_)
      | (with_reducible refine LeO.bind ?_ (fun _ => ?_))
      | exact ih0 _ _ _ _ _ _ _ _ _ _ _ _ _
      | exact ih1 _ _ _ _ _ _ _ _ _ _ _ _ _
      | exact ih2 _ _ _ _ _ _ _ _ _ _ _ _ _
      | exact ih3 _ _ _ _ _ _ _ _ _ _ _ _ _
      | exact ih4 _ _ _ _ _ _ _ _
      | exact impl_RangeJoin.mono _ _ _ _ _
      | exact impl_RangeMeet.mono _ _ _ _ _
      | exact impl_RangeWiden.mono _ _ _ _ _ _
      | exact laws_has.mono _ _ _
      | exact laws_within.mono _ _ _ _ _
      | exact spec_DrawRangeWiden.mono _ _
      | exact spec_RangeJoin.mono _ _ _ _ _
      | exact spec_RangeMeet.mono _ _ _ _ _
      | exact spec_RangeWiden.mono _ _ _ _ _ _
      | exact LeO.none _
      | refine LeO.ite ?_ ?_
      | refine LeO.bind ?_ (fun _ => ?_)
    · intro y0 y1 y2 y3 y4 y5 y6 y7 y8 y9 y10 y11 y12
      unfold laws_FnRangeLattice.l0
      repeat' first
      | (with_reducible exact ih0 _ _ _ _ _ _ _ _ _ _ _ _ _)
      | (with_reducible exact ih1 _ _ _ _ _ _ _ _ _ _ _ _ _)
      | (with_reducible exact ih2 _ _ _ _ _ _ _ _ _ _ _ _ _)
      | (with_reducible exact ih3 _ _ _ _ _ _ _ _ _ _ _ _ _)
      | (with_reducible exact ih4 _ _ _ _ _ _ _ _)
      | (with_reducible exact impl_RangeJoin.mono _ _ _ _ _)
      | (with_reducible exact impl_RangeMeet.mono _ _ _ _ _)
      | (with_reducible exact impl_RangeWiden.mono _ _ _ _ _ _)
      | (with_reducible exact laws_has.mono _ _ _)
      | (with_reducible exact laws_within.mono _ _ _ _ _)
      | (with_reducible exact spec_DrawRangeWiden.mono _ _)
      | (with_reducible exact spec_RangeJoin.mono _ _ _ _ _)
      | (with_reducible exact spec_RangeMeet.mono _ _ _ _ _)
      | (with_reducible exact spec_RangeWiden.mono _ _ _ _ _ _)
      | (with_reducible exact LeO.refl _)
      | (with_reducible exact LeO.none _)
      | (with_reducible refine LeO.ite ?_ ?_)
      | (with_reducible refine LeO.bind ?_ (fun _ => ?_))
      | exact ih0 _ _ _ _ _ _ _ _ _ _ _ _ _
      | exact ih1 _ _ _ _ _ _ _ _ _ _ _ _ _
      | exact ih2 _ _ _ _ _ _ _ _ _ _ _ _ _
      | exact ih3 _ _ _ _ _ _ _ _ _ _ _ _ _
      | exact ih4 _ _ _ _ _ _ _ _
      | exact impl_RangeJoin.mono _ _ _ _ _
      | exact impl_RangeMeet.mono _ _ _ _ _
      | exact impl_RangeWiden.mono _ _ _ _ _ _
      | exact laws_has.mono _ _ _
      | exact laws_within.mono _ _ _ _ _
      | exact spec_DrawRangeWiden.mono _ _
      | exact spec_RangeJoin.mono _ _ _ _ _
      | exact spec_RangeMeet.mono _ _ _ _ _
      | exact spec_RangeWiden.mono _ _ _ _ _ _
      | exact LeO.none _
      | refine LeO.ite ?_ ?_
      | refine LeO.bind ?_ (fun _ => ?_)
    · intro y0 y1 y2 y3 y4 y5 y6 y7
      unfold laws_FnRangeLattice.j4
      repeat' first
      | (with_reducible exact ih0 _ _ _ _ _ _ _ _ _ _ _ _ _)
      | (with_reducible exact ih1 _ _ _ _ _ _ _ _ _ _ _ _ _)
      | (with_reducible exact ih2 _ _ _ _ _ _ _ _ _ _ _ _ _)
      | (with_reducible exact ih3 _ _ _ _ _ _ _ _ _ _ _ _ _)
      | (with_reducible exact ih4 _ _ _ _ _ _ _ _)
      | (with_reducible exact impl_RangeJoin.mono _ _ _ _ _)
      | (with_reducible exact impl_RangeMeet.mono _ _ _ _ _)
      | (with_reducible exact impl_RangeWiden.mono _ _ _ _ _ _)
      | (with_reducible exact laws_has.mono _ _ _)
      | (with_reducible exact laws_within.mono _ _ _ _ _)
      | (with_reducible exact spec_DrawRangeWiden.mono _ _)
      | (with_reducible exact spec_RangeJoin.mono _ _ _ _ _)
      | (with_reducible exact spec_RangeMeet.mono _ _ _ _ _)
      | (with_reducible exact spec_RangeWiden.mono _ _ _ _ _ _)
      | (with_reducible exact LeO.refl _)
      | (with_reducible exact LeO.none _)
      | (with_reducible refine LeO.ite ?_ ?_)
      | (with_reducible refine LeO.bind ?_ (fun _ => ?_))
      | exact ih0 _ _ _ _ _ _ _ _ _ _ _ _ _
      | exact ih1 _ _ _ _ _ _ _ _ _ _ _ _ _
      | exact ih2 _ _ _ _ _ _ _ _ _ _ _ _ _
      | exact ih3 _ _ _ _ _ _ _ _ _ _ _ _ _
      | exact ih4 _ _ _ _ _ _ _ _
      | exact impl_RangeJoin.mono _ _ _ _ _
      | exact impl_RangeMeet.mono _ _ _ _ _
      | exact impl_RangeWiden.mono _ _ _ _ _ _
      | exact laws_has.mono _ _ _
      | exact laws_within.mono _ _ _ _ _
      | exact spec_DrawRangeWiden.mono _ _
      | exact spec_RangeJoin.mono _ _ _ _ _
      | exact spec_RangeMeet.mono _ _ _ _ _
      | exact spec_RangeWiden.mono _ _ _ _ _ _
      | exact LeO.none _
      | refine LeO.ite ?_ ?_
      | refine LeO.bind ?_ (fun _ => ?_)
theorem laws_FnRangeLattice.mono : ∀ a0 k, LeO (laws_FnRangeLattice.f k a0) (laws_FnRangeLattice.f (k + 1) a0) := by
  intro a0 k
  obtain ⟨ih0, ih1, ih2, ih3, ih4⟩ := laws_FnRangeLattice.mono_l k
  unfold laws_FnRangeLattice.f
  repeat' first
      | (with_reducible exact ih0 _ _ _ _ _ _ _ _ _ _ _ _ _)
      | (with_reducible exact ih1 _ _ _ _ _ _ _ _ _ _ _ _ _)
      | (with_reducible exact ih2 _ _ _ _ _ _ _ _ _ _ _ _ _)
      | (with_reducible exact ih3 _ _ _ _ _ _ _ _ _ _ _ _ _)
      | (with_reducible exact ih4 _ _ _ _ _ _ _ _)
      | (with_reducible exact impl_RangeJoin.mono _ _ _ _ _)
      | (with_reducible exact impl_RangeMeet.mono _ _ _ _ _)
      | (with_reducible exact impl_RangeWiden.mono _ _ _ _ _ _)
      | (with_reducible exact laws_has.mono _ _ _)
      | (with_reducible exact laws_within.mono _ _ _ _ _)
      | (with_reducible exact spec_DrawRangeWiden.mono _ _)
      | (with_reducible exact spec_RangeJoin.mono _ _ _ _ _)
      | (with_reducible exact spec_RangeMeet.mono _ _ _ _ _)
      | (with_reducible exact spec_RangeWiden.mono _ _ _ _ _ _)
      | (with_reducible exact LeO.refl _)
      | (with_reducible exact LeO.none _)
      | (with_reducible refine LeO.ite ?_ ?_)
      | (with_reducible refine LeO.bind ?_ (fun _ => ?_))
      | exact ih0 _ _ _ _ _ _ _ _ _ _ _ _ _
      | exact ih1 _ _ _ _ _ _ _ _ _ _ _ _ _
      | exact ih2 _ _ _ _ _ _ _ _ _ _ _ _ _
      | exact ih3 _ _ _ _ _ _ _ _ _ _ _ _ _
      | exact ih4 _ _ _ _ _ _ _ _
      | exact impl_RangeJoin.mono _ _ _ _ _
      | exact impl_RangeMeet.mono _ _ _ _ _
      | exact impl_RangeWiden.mono _ _ _ _ _ _
      | exact laws_has.mono _ _ _
      | exact laws_within.mono _ _ _ _ _
      | exact spec_DrawRangeWiden.mono _ _
      | exact spec_RangeJoin.mono _ _ _ _ _
      | exact spec_RangeMeet.mono _ _ _ _ _
      | exact spec_RangeWiden.mono _ _ _ _ _ _
      | exact LeO.none _
      | refine LeO.ite ?_ ?_
      | refine LeO.bind ?_ (fun _ => ?_)
def laws_FnRangeLattice.T7 : Bool × List (List Nat × List Nat) := (true, [([], []), ([], []), ([], []), ([1, 2], [1, 2]), ([0, 3], [0, 3]), ([4, 3], [4]), ([5], [5]), ([5], [5]), ([5], [5]), ([7, 8, 5, 5], [5, 7, 8]), ([6, 9, 5], [5, 6, 9]), ([5, 10], [5, 10]), ([11, 9], [11]), ([12], [12]), ([12], [12]), ([12], [12]), ([12], [12]), ([14, 15, 16, 12, 12], [12, 14, 15, 16]), ([13, 17, 12], [12, 13, 17]), ([12, 18], [12, 18])])
def laws_FnRangeLattice.B7 : List Nat := [0, 0, 0, 6, 15, 31, 63, 63, 63, 447, 1023, 2047, 4095, 8191, 8191, 8191, 8191, 122879, 262143, 524287]
theorem laws_FnRangeLattice.tab7 : rtab .any (opsOf Try.f12 7) = laws_FnRangeLattice.T7 := by kernel_rfl
theorem laws_FnRangeLattice.bits7 : waitsOk laws_FnRangeLattice.T7.2 laws_FnRangeLattice.B7 = true := by kernel_rfl
def laws_FnRangeLattice.T17 : Bool × List (List Nat × List Nat) := (true, [([], []), ([], []), ([0, 1], [0, 1]), ([], []), ([], []), ([3, 4, 2], [3, 4]), ([5, 5], [5]), ([6], [6]), ([6], [6]), ([7, 8, 6, 6], [6, 7, 8]), ([6, 9], [6, 9]), ([2, 10], [2, 10])])
def laws_FnRangeLattice.B17 : List Nat := [0, 0, 3, 0, 0, 31, 63, 127, 127, 511, 1023, 2047]
theorem laws_FnRangeLattice.tab17 : rtab .any (opsOf Try.f12 17) = laws_FnRangeLattice.T17 := by kernel_rfl
theorem laws_FnRangeLattice.bits17 : waitsOk laws_FnRangeLattice.T17.2 laws_FnRangeLattice.B17 = true := by kernel_rfl
set_option maxHeartbeats 8000000 in
set_option maxRecDepth 100000 in
theorem laws_FnRangeLattice.calls (k : Nat) (A0 : Option Addr) (c0 : Nat) (l0 : List Int) (r : Bool) (w : World) (hr0 : Kd.C (Kd.int .u8) w A0 l0.length l0) (hc0 : l0.length ≤ c0) (h : laws_FnRangeLattice.f k l0 = some r) :
    Calls Try.prog 12 #[.slice A0 l0.length c0] w fun e w' => e = .returned (.bool r) ∧ Below w.heap.size w w' := by
  have hu27 := Try.underlying27
  have HR0 := Aside0.mk hr0
  have HC0 := Aside0.mk hc0
  clear hr0 hc0
  have HB := Aside0.mk (Below.refl w.heap.size w)
  have H : (if (l0.length : Int) > 1048576 then (some true) else ((spec_DrawRangeWiden.f k l0).bind fun bt346 => ((impl_RangeJoin.f k bt346.1 bt346.2.1 bt346.2.2.1 bt346.2.2.2.1).bind fun bt355 => ((impl_RangeMeet.f k bt346.1 bt346.2.1 bt346.2.2.1 bt346.2.2.2.1).bind fun bt358 => ((impl_RangeWiden.f k bt346.1 bt346.2.1 bt346.2.2.1 bt346.2.2.2.1 bt346.2.2.2.2).bind fun bt361 => ((spec_RangeJoin.f k bt346.1 bt346.2.1 bt346.2.2.1 bt346.2.2.2.1).bind fun bt364 => (if (!(bt355.1 == bt364.1) || (!(bt355.2 == bt364.2))) = true then (laws_FnRangeLattice.j0 k l0 bt346.2.2.2.2 true bt346.1 bt346.2.1 bt346.2.2.1 bt346.2.2.2.1 bt355.1 bt355.2 bt358.1 bt358.2 bt361.1 bt361.2) else ((spec_RangeMeet.f k bt346.1 bt346.2.1 bt346.2.2.1 bt346.2.2.2.1).bind fun bt366 => (if (!(bt358.1 == bt366.1) || (!(bt358.2 == bt366.2))) = true then (laws_FnRangeLattice.j0 k l0 bt346.2.2.2.2 true bt346.1 bt346.2.1 bt346.2.2.1 bt346.2.2.2.1 bt355.1 bt355.2 bt358.1 bt358.2 bt361.1 bt361.2) else ((spec_RangeWiden.f k bt346.1 bt346.2.1 bt346.2.2.1 bt346.2.2.2.1 bt346.2.2.2.2).bind fun bt368 => (laws_FnRangeLattice.j0 k l0 bt346.2.2.2.2 (!(bt361.1 == bt368.1) || (!(bt361.2 == bt368.2))) bt346.1 bt346.2.1 bt346.2.2.1 bt346.2.2.2.1 bt355.1 bt355.2 bt358.1 bt358.2 bt361.1 bt361.2))))))))))) = some r := h
  clear h
  by_cases c2 : (l0.length : Int) > 1048576
  · rw [if_pos c2] at H
    have c2b0 : decide (1048576 < (l0.length : Int)) = true := decide_eq_true c2
    have c2b1 : decide (1048576 < l0.length) = true := decide_eq_true (by omega)
    clear c2
    obtain rfl := Option.some.inj H
    go_enter Try.func12, Try.ntmps12
    go_wp2
    go_ret
    exact sqe HB
  · rw [if_neg c2] at H
    have c2b0 : decide (1048576 < (l0.length : Int)) = false := decide_eq_false c2
    have c2b1 : decide (1048576 < l0.length) = false := decide_eq_false (by omega)
    clear c2
    replace H := Option.bind_eq_some_iff.mp H
    obtain ⟨⟨t346, t347, t348, t349, t350⟩, A30, H⟩ := H
    replace H : ((impl_RangeJoin.f k t346 t347 t348 t349).bind fun bt355 => ((impl_RangeMeet.f k t346 t347 t348 t349).bind fun bt358 => ((impl_RangeWiden.f k t346 t347 t348 t349 t350).bind fun bt361 => ((spec_RangeJoin.f k t346 t347 t348 t349).bind fun bt364 => (if (!(bt355.1 == bt364.1) || (!(bt355.2 == bt364.2))) = true then (laws_FnRangeLattice.j0 k l0 t350 true t346 t347 t348 t349 bt355.1 bt355.2 bt358.1 bt358.2 bt361.1 bt361.2) else ((spec_RangeMeet.f k t346 t347 t348 t349).bind fun bt366 => (if (!(bt358.1 == bt366.1) || (!(bt358.2 == bt366.2))) = true then (laws_FnRangeLattice.j0 k l0 t350 true t346 t347 t348 t349 bt355.1 bt355.2 bt358.1 bt358.2 bt361.1 bt361.2) else ((spec_RangeWiden.f k t346 t347 t348 t349 t350).bind fun bt368 => (laws_FnRangeLattice.j0 k l0 t350 (!(bt361.1 == bt368.1) || (!(bt361.2 == bt368.2))) t346 t347 t348 t349 bt355.1 bt355.2 bt358.1 bt358.2 bt361.1 bt361.2))))))))) = some r := H
    have A3 := Aside0.mk A30
    clear A30
    replace H := Option.bind_eq_some_iff.mp H
    obtain ⟨⟨t355, t356⟩, A40, H⟩ := H
    replace H : ((impl_RangeMeet.f k t346 t347 t348 t349).bind fun bt358 => ((impl_RangeWiden.f k t346 t347 t348 t349 t350).bind fun bt361 => ((spec_RangeJoin.f k t346 t347 t348 t349).bind fun bt364 => (if (!(t355 == bt364.1) || (!(t356 == bt364.2))) = true then (laws_FnRangeLattice.j0 k l0 t350 true t346 t347 t348 t349 t355 t356 bt358.1 bt358.2 bt361.1 bt361.2) else ((spec_RangeMeet.f k t346 t347 t348 t349).bind fun bt366 => (if (!(bt358.1 == bt366.1) || (!(bt358.2 == bt366.2))) = true then (laws_FnRangeLattice.j0 k l0 t350 true t346 t347 t348 t349 t355 t356 bt358.1 bt358.2 bt361.1 bt361.2) else ((spec_RangeWiden.f k t346 t347 t348 t349 t350).bind fun bt368 => (laws_FnRangeLattice.j0 k l0 t350 (!(bt361.1 == bt368.1) || (!(bt361.2 == bt368.2))) t346 t347 t348 t349 t355 t356 bt358.1 bt358.2 bt361.1 bt361.2)))))))) = some r := H
    have A4 := Aside0.mk A40
    clear A40
    replace H := Option.bind_eq_some_iff.mp H
    obtain ⟨⟨t358, t359⟩, A50, H⟩ := H
    replace H : ((impl_RangeWiden.f k t346 t347 t348 t349 t350).bind fun bt361 => ((spec_RangeJoin.f k t346 t347 t348 t349).bind fun bt364 => (if (!(t355 == bt364.1) || (!(t356 == bt364.2))) = true then (laws_FnRangeLattice.j0 k l0 t350 true t346 t347 t348 t349 t355 t356 t358 t359 bt361.1 bt361.2) else ((spec_RangeMeet.f k t346 t347 t348 t349).bind fun bt366 => (if (!(t358 == bt366.1) || (!(t359 == bt366.2))) = true then (laws_FnRangeLattice.j0 k l0 t350 true t346 t347 t348 t349 t355 t356 t358 t359 bt361.1 bt361.2) else ((spec_RangeWiden.f k t346 t347 t348 t349 t350).bind fun bt368 => (laws_FnRangeLattice.j0 k l0 t350 (!(bt361.1 == bt368.1) || (!(bt361.2 == bt368.2))) t346 t347 t348 t349 t355 t356 t358 t359 bt361.1 bt361.2))))))) = some r := H
    have A5 := Aside0.mk A50
    clear A50
    replace H := Option.bind_eq_some_iff.mp H
    obtain ⟨⟨t361, t362⟩, A60, H⟩ := H
    replace H : ((spec_RangeJoin.f k t346 t347 t348 t349).bind fun bt364 => (if (!(t355 == bt364.1) || (!(t356 == bt364.2))) = true then (laws_FnRangeLattice.j0 k l0 t350 true t346 t347 t348 t349 t355 t356 t358 t359 t361 t362) else ((spec_RangeMeet.f k t346 t347 t348 t349).bind fun bt366 => (if (!(t358 == bt366.1) || (!(t359 == bt366.2))) = true then (laws_FnRangeLattice.j0 k l0 t350 true t346 t347 t348 t349 t355 t356 t358 t359 t361 t362) else ((spec_RangeWiden.f k t346 t347 t348 t349 t350).bind fun bt368 => (laws_FnRangeLattice.j0 k l0 t350 (!(t361 == bt368.1) || (!(t362 == bt368.2))) t346 t347 t348 t349 t355 t356 t358 t359 t361 t362)))))) = some r := H
    have A6 := Aside0.mk A60
    clear A60
    have HC7 := Aside0.mk H
    clear H
    go_enter Try.func12, Try.ntmps12
    go_upto_region 7 with (first | ((with_reducible refine gate_callee (f := 39) rfl ?_); refine sqL (some 16) Try.func39 #[.slice A0 l0.length c0] ?_; (with_reducible refine (spec_DrawRangeWiden.calls k _ _ l0 t346 t347 t348 t349 t350 _ ?side1 ?side2 A3.out).mono ?_); (case side1 => repeat (first | exact HR0.out | (with_reducible refine Kd.C_alloc ?_ _) | (with_reducible refine Kd.C_drewN ?_ _) | (with_reducible refine Kd.C_drew ?_))); (case side2 => exact HC0.out); rintro e w8 ⟨v351, rfl, ho0, hb⟩; refine ⟨_, rfl, ?_⟩; have HO352 := Aside0.mk (Kd.R_lower ho0 (below_size (by repeat (first | (with_reducible first | exact HB.out | apply below_alloc | apply pw_below_drewN | apply below_drew1) | exact HB.out)))); replace HB := sqs HB hb; (try clear hb); (try clear hb2); (try clear hk); (try clear hi); (try clear ho0)) | ((with_reducible refine gate_dst (N := 3) rfl ?_); refine sqx 3 #[.int .i64 0, .int .i64 0] 27 ?_; intro gb353 hg w9 hbox hb; have n0_ := Aside0.mk (Kd.R_below (by (with_reducible repeat (first | apply Kd.R_alloc | apply Kd.R_drewN | apply Kd.R_drew)); exact HO352.out) hb); have n1_ := sqs HB hb; have n2_ := Aside0.mk (hbox); have n3_ := sqg HB hg; have n4_ := sqg HB hg; clear HO352; clear HB; have HO352 := n0_; have HB := n1_; have BK353 := n2_; have GW353 := n3_; have GE353 := n4_; clear n0_ n1_ n2_ n3_ n4_; clear hb hbox hg) | ((with_reducible refine gate_dst (N := 4) rfl ?_); refine sqx 4 #[.int .i64 0, .int .i64 0] 27 ?_; intro gb354 hg w10 hbox hb; have n0_ := Aside0.mk (Kd.R_below (by (with_reducible repeat (first | apply Kd.R_alloc | apply Kd.R_drewN | apply Kd.R_drew)); exact HO352.out) hb); have n1_ := sqb BK353 hb; have n2_ := sqs HB hb; have n3_ := Aside0.mk (hbox); have n4_ := sqg HB hg; have n5_ := sqg HB hg; have n6_ := sqn BK353 hg; have n7_ := sqm BK353 hg; clear HO352; clear BK353; clear HB; have HO352 := n0_; have BK353 := n1_; have HB := n2_; have BK354 := n3_; have GW354 := n4_; have GE354 := n5_; have NB353_354 := n6_; have NB354_353 := n7_; clear n0_ n1_ n2_ n3_ n4_ n5_ n6_ n7_; clear hb hbox hg; have hnb11 := NB353_354.out; have hnc11 := NB354_353.out; obtain ⟨hcz12_0, hcz12_1, hfz12_0, hfz12_1⟩ := sqc2 BK353; obtain ⟨hcz13_0, hcz13_1, hfz13_0, hfz13_1⟩ := sqc2 BK354) | ((with_reducible refine gate_callee (f := 46) rfl ?_); refine sqL (some 22) Try.func46 #[.agg #[.int .i64 t346, .int .i64 t347], .agg #[.int .i64 t348, .int .i64 t349]] ?_; (with_reducible refine (impl_RangeJoin.calls k t346 t347 t348 t349 t355 t356 _ A4.out).mono ?_); rintro e w14 ⟨rfl, hb⟩; refine ⟨_, rfl, ?_⟩; have n0_ := Aside0.mk (Kd.R_below (by (with_reducible repeat (first | apply Kd.R_alloc | apply Kd.R_drewN | apply Kd.R_drew)); exact (Kd.R_mono (Kd.R_mono (Kd.R_far (p := ⟨gb354, 1, none⟩) (Kd.R_far (p := ⟨gb354, 0, none⟩) (Kd.R_far (p := ⟨gb353, 1, none⟩) (Kd.R_far (p := ⟨gb353, 0, none⟩) (Kd.R_types (Kd.R_types HO352.out BK353.out (by decide)) BK354.out (by decide)) (fun _ hk => hk.1.2) (.int .i64 t346)) (fun _ hk => hk.1.2) (.int .i64 t347)) (fun _ hk => hk.2) (.int .i64 t348)) (fun _ hk => hk.2) (.int .i64 t349)) (fun _ h_ => h_.1)) (fun _ h_ => h_.1))) hb); have n1_ := Aside0.mk (blk_below (g := gb353) (o := .cells #[.int .i64 t346, .int .i64 t347] 27 (0, 0)) (by refine sqt ?_; refine blk_far ?_ NB353_354.out _; refine sqt ?_; refine blk_far ?_ NB353_354.out _; refine sqt ?_; refine blk_put (cs := #[.int .i64 t346, .int .i64 0]) ?_ 1 _ rfl; refine sqt ?_; refine blk_put (cs := #[.int .i64 0, .int .i64 0]) ?_ 0 _ rfl; refine sqt ?_; exact BK353.out) hb); have n2_ := Aside0.mk (blk_below (g := gb354) (o := .cells #[.int .i64 t348, .int .i64 t349] 27 (0, 0)) (by refine sqt ?_; refine blk_put (cs := #[.int .i64 t348, .int .i64 0]) ?_ 1 _ rfl; refine sqt ?_; refine blk_put (cs := #[.int .i64 0, .int .i64 0]) ?_ 0 _ rfl; refine sqt ?_; refine blk_far ?_ NB354_353.out _; refine sqt ?_; refine blk_far ?_ NB354_353.out _; refine sqt ?_; exact BK354.out) hb); have n3_ := sqs HB hb; clear HO352; clear BK353; clear BK354; clear HB; have HO352 := n0_; have BK353 := n1_; have BK354 := n2_; have HB := n3_; clear n0_ n1_ n2_ n3_; (try clear hb); (try clear hb2); (try clear hk); (try clear hi)) | ((with_reducible refine gate_dst (N := 6) rfl ?_); refine sqx 6 #[.int .i64 0, .int .i64 0] 27 ?_; intro gb357 hg w15 hbox hb; have n0_ := Aside0.mk (Kd.R_below (by (with_reducible repeat (first | apply Kd.R_alloc | apply Kd.R_drewN | apply Kd.R_drew)); exact HO352.out) hb); have n1_ := sqb BK353 hb; have n2_ := sqb BK354 hb; have n3_ := sqs HB hb; have n4_ := Aside0.mk (hbox); have n5_ := sqg HB hg; have n6_ := sqg HB hg; have n7_ := sqn BK353 hg; have n8_ := sqm BK353 hg; have n9_ := sqn BK354 hg; have n10_ := sqm BK354 hg; clear HO352; clear BK353; clear BK354; clear HB; have HO352 := n0_; have BK353 := n1_; have BK354 := n2_; have HB := n3_; have BK357 := n4_; have GW357 := n5_; have GE357 := n6_; have NB353_357 := n7_; have NB357_353 := n8_; have NB354_357 := n9_; have NB357_354 := n10_; clear n0_ n1_ n2_ n3_ n4_ n5_ n6_ n7_ n8_ n9_ n10_; clear hb hbox hg; have hnb16 := NB357_353.out; have hnc16 := NB353_357.out; have hnb17 := NB357_354.out; have hnc17 := NB354_357.out; obtain ⟨hcz18_0, hcz18_1, hfz18_0, hfz18_1⟩ := sqc2 BK357; obtain ⟨hcz19_0, hcz19_1, hfz19_0, hfz19_1⟩ := sqc2 BK353; obtain ⟨hcz20_0, hcz20_1, hfz20_0, hfz20_1⟩ := sqc2 BK354) | ((with_reducible refine gate_callee (f := 47) rfl ?_); refine sqL (some 25) Try.func47 #[.agg #[.int .i64 t346, .int .i64 t347], .agg #[.int .i64 t348, .int .i64 t349]] ?_; (with_reducible refine (impl_RangeMeet.calls k t346 t347 t348 t349 t358 t359 _ A5.out).mono ?_); rintro e w21 ⟨rfl, hb⟩; refine ⟨_, rfl, ?_⟩; have n0_ := Aside0.mk (Kd.R_below (by (with_reducible repeat (first | apply Kd.R_alloc | apply Kd.R_drewN | apply Kd.R_drew)); exact (Kd.R_mono (Kd.R_far (p := ⟨gb357, 1, none⟩) (Kd.R_far (p := ⟨gb357, 0, none⟩) (Kd.R_types HO352.out BK357.out (by decide)) (fun _ hk => hk.2) (.int .i64 t355)) (fun _ hk => hk.2) (.int .i64 t356)) (fun _ h_ => h_.1))) hb); have n1_ := Aside0.mk (blk_below (g := gb353) (o := .cells #[.int .i64 t346, .int .i64 t347] 27 (0, 0)) (by refine sqt ?_; refine blk_far ?_ NB353_357.out _; refine sqt ?_; refine blk_far ?_ NB353_357.out _; refine sqt ?_; exact BK353.out) hb); have n2_ := Aside0.mk (blk_below (g := gb354) (o := .cells #[.int .i64 t348, .int .i64 t349] 27 (0, 0)) (by refine sqt ?_; refine blk_far ?_ NB354_357.out _; refine sqt ?_; refine blk_far ?_ NB354_357.out _; refine sqt ?_; exact BK354.out) hb); have n3_ := Aside0.mk (blk_below (g := gb357) (o := .cells #[.int .i64 t355, .int .i64 t356] 27 (0, 0)) (by refine sqt ?_; refine blk_put (cs := #[.int .i64 t355, .int .i64 0]) ?_ 1 _ rfl; refine sqt ?_; refine blk_put (cs := #[.int .i64 0, .int .i64 0]) ?_ 0 _ rfl; refine sqt ?_; exact BK357.out) hb); have n4_ := sqs HB hb; clear HO352; clear BK353; clear BK354; clear BK357; clear HB; have HO352 := n0_; have BK353 := n1_; have BK354 := n2_; have BK357 := n3_; have HB := n4_; clear n0_ n1_ n2_ n3_ n4_; (try clear hb); (try clear hb2); (try clear hk); (try clear hi)) | ((with_reducible refine gate_dst (N := 7) rfl ?_); refine sqx 7 #[.int .i64 0, .int .i64 0] 27 ?_; intro gb360 hg w22 hbox hb; have n0_ := Aside0.mk (Kd.R_below (by (with_reducible repeat (first | apply Kd.R_alloc | apply Kd.R_drewN | apply Kd.R_drew)); exact HO352.out) hb); have n1_ := sqb BK353 hb; have n2_ := sqb BK354 hb; have n3_ := sqb BK357 hb; have n4_ := sqs HB hb; have n5_ := Aside0.mk (hbox); have n6_ := sqg HB hg; have n7_ := sqg HB hg; have n8_ := sqn BK353 hg; have n9_ := sqm BK353 hg; have n10_ := sqn BK354 hg; have n11_ := sqm BK354 hg; have n12_ := sqn BK357 hg; have n13_ := sqm BK357 hg; clear HO352; clear BK353; clear BK354; clear BK357; clear HB; have HO352 := n0_; have BK353 := n1_; have BK354 := n2_; have BK357 := n3_; have HB := n4_; have BK360 := n5_; have GW360 := n6_; have GE360 := n7_; have NB353_360 := n8_; have NB360_353 := n9_; have NB354_360 := n10_; have NB360_354 := n11_; have NB357_360 := n12_; have NB360_357 := n13_; clear n0_ n1_ n2_ n3_ n4_ n5_ n6_ n7_ n8_ n9_ n10_ n11_ n12_ n13_; clear hb hbox hg; have hnb23 := NB360_353.out; have hnc23 := NB353_360.out; have hnb24 := NB360_354.out; have hnc24 := NB354_360.out; have hnb25 := NB360_357.out; have hnc25 := NB357_360.out; obtain ⟨hcz26_0, hcz26_1, hfz26_0, hfz26_1⟩ := sqc2 BK360; obtain ⟨hcz27_0, hcz27_1, hfz27_0, hfz27_1⟩ := sqc2 BK353; obtain ⟨hcz28_0, hcz28_1, hfz28_0, hfz28_1⟩ := sqc2 BK354; obtain ⟨Ao29, co29, eo29⟩ := Kd.R_slice HO352.out; subst eo29) | ((with_reducible refine gate_callee (f := 41) rfl ?_); refine sqL (some 29) Try.func41 #[.agg #[.int .i64 t346, .int .i64 t347], .agg #[.int .i64 t348, .int .i64 t349], .slice Ao29 t350.length co29] ?_; (with_reducible refine (impl_RangeWiden.calls k t346 t347 t348 t349 _ _ t350 t361 t362 _ ?side1 ?side2 A6.out).mono ?_); (case side1 => refine (Kd.R_reads' (e := 3) (base := w.heap.size) (ok := fun k_ => True) (n := t350.length) (c := co29) ?_).2.2; exact (by (with_reducible repeat (first | apply Kd.R_alloc | apply Kd.R_drewN | apply Kd.R_drew)); exact (Kd.R_mono (Kd.R_far (p := ⟨gb360, 1, none⟩) (Kd.R_far (p := ⟨gb360, 0, none⟩) (Kd.R_types HO352.out BK360.out (by decide)) (fun _ hk => hk.2) (.int .i64 t358)) (fun _ hk => hk.2) (.int .i64 t359)) (fun _ h_ => h_.1)))); (case side2 => exact (Kd.R_reads' HO352.out).2.1); rintro e w30 ⟨rfl, hb⟩; refine ⟨_, rfl, ?_⟩; have n0_ := Aside0.mk (Kd.R_below (by (with_reducible repeat (first | apply Kd.R_alloc | apply Kd.R_drewN | apply Kd.R_drew)); exact (Kd.R_mono (Kd.R_far (p := ⟨gb360, 1, none⟩) (Kd.R_far (p := ⟨gb360, 0, none⟩) (Kd.R_types HO352.out BK360.out (by decide)) (fun _ hk => hk.2) (.int .i64 t358)) (fun _ hk => hk.2) (.int .i64 t359)) (fun _ h_ => h_.1))) hb); have n1_ := Aside0.mk (blk_below (g := gb353) (o := .cells #[.int .i64 t346, .int .i64 t347] 27 (0, 0)) (by refine sqt ?_; refine blk_far ?_ NB353_360.out _; refine sqt ?_; refine blk_far ?_ NB353_360.out _; refine sqt ?_; exact BK353.out) hb); have n2_ := Aside0.mk (blk_below (g := gb354) (o := .cells #[.int .i64 t348, .int .i64 t349] 27 (0, 0)) (by refine sqt ?_; refine blk_far ?_ NB354_360.out _; refine sqt ?_; refine blk_far ?_ NB354_360.out _; refine sqt ?_; exact BK354.out) hb); have n3_ := Aside0.mk (blk_below (g := gb357) (o := .cells #[.int .i64 t355, .int .i64 t356] 27 (0, 0)) (by refine sqt ?_; refine blk_far ?_ NB357_360.out _; refine sqt ?_; refine blk_far ?_ NB357_360.out _; refine sqt ?_; exact BK357.out) hb); have n4_ := Aside0.mk (blk_below (g := gb360) (o := .cells #[.int .i64 t358, .int .i64 t359] 27 (0, 0)) (by refine sqt ?_; refine blk_put (cs := #[.int .i64 t358, .int .i64 0]) ?_ 1 _ rfl; refine sqt ?_; refine blk_put (cs := #[.int .i64 0, .int .i64 0]) ?_ 0 _ rfl; refine sqt ?_; exact BK360.out) hb); have n5_ := sqs HB hb; clear HO352; clear BK353; clear BK354; clear BK357; clear BK360; clear HB; have HO352 := n0_; have BK353 := n1_; have BK354 := n2_; have BK357 := n3_; have BK360 := n4_; have HB := n5_; clear n0_ n1_ n2_ n3_ n4_ n5_; (try clear hb); (try clear hb2); (try clear hk); (try clear hi)) | ((with_reducible refine gate_dst (N := 8) rfl ?_); refine sqx 8 #[.int .i64 0, .int .i64 0] 27 ?_; intro gb363 hg w31 hbox hb; have n0_ := Aside0.mk (Kd.R_below (by (with_reducible repeat (first | apply Kd.R_alloc | apply Kd.R_drewN | apply Kd.R_drew)); exact HO352.out) hb); have n1_ := sqb BK353 hb; have n2_ := sqb BK354 hb; have n3_ := sqb BK357 hb; have n4_ := sqb BK360 hb; have n5_ := sqs HB hb; have n6_ := Aside0.mk (hbox); have n7_ := sqg HB hg; have n8_ := sqg HB hg; have n9_ := sqn BK353 hg; have n10_ := sqm BK353 hg; have n11_ := sqn BK354 hg; have n12_ := sqm BK354 hg; have n13_ := sqn BK357 hg; have n14_ := sqm BK357 hg; have n15_ := sqn BK360 hg; have n16_ := sqm BK360 hg; clear HO352; clear BK353; clear BK354; clear BK357; clear BK360; clear HB; have HO352 := n0_; have BK353 := n1_; have BK354 := n2_; have BK357 := n3_; have BK360 := n4_; have HB := n5_; have BK363 := n6_; have GW363 := n7_; have GE363 := n8_; have NB353_363 := n9_; have NB363_353 := n10_; have NB354_363 := n11_; have NB363_354 := n12_; have NB357_363 := n13_; have NB363_357 := n14_; have NB360_363 := n15_; have NB363_360 := n16_; clear n0_ n1_ n2_ n3_ n4_ n5_ n6_ n7_ n8_ n9_ n10_ n11_ n12_ n13_ n14_ n15_ n16_; clear hb hbox hg; have hnb32 := NB363_353.out; have hnc32 := NB353_363.out; have hnb33 := NB363_354.out; have hnc33 := NB354_363.out; have hnb34 := NB363_357.out; have hnc34 := NB357_363.out; have hnb35 := NB363_360.out; have hnc35 := NB360_363.out; obtain ⟨hcz36_0, hcz36_1, hfz36_0, hfz36_1⟩ := sqc2 BK363))
    (try simp only [Act.put, List.setIfInBounds_toArray, List.set_cons_zero, List.set_cons_succ])
    go_cut [49] (fun v49 wc => ∃ (kq : Nat) (x49_6 : Bool), v49 = .bool x49_6 ∧ Aside0 (laws_FnRangeLattice.j0 kq l0 t350 x49_6 t346 t347 t348 t349 t355 t356 t358 t359 t361 t362 = some r) ∧ Aside0 (kq ≤ k) ∧ Aside0 (Kd.R (Kd.int .i64) 3 wc w.heap.size (fun _ => True) (.slice Ao29 t350.length co29) t350) ∧ Aside0 (wc.heap[gb353]? = some (.cells #[.int .i64 t346, .int .i64 t347] 27 (0, 0))) ∧ Aside0 (wc.heap[gb354]? = some (.cells #[.int .i64 t348, .int .i64 t349] 27 (0, 0))) ∧ Aside0 (wc.heap[gb357]? = some (.cells #[.int .i64 t355, .int .i64 t356] 27 (0, 0))) ∧ Aside0 (wc.heap[gb360]? = some (.cells #[.int .i64 t358, .int .i64 t359] 27 (0, 0))) ∧ Aside0 (wc.heap[gb363]? = some (.cells #[.int .i64 t361, .int .i64 t362] 27 (0, 0))) ∧ Aside0 (Below w.heap.size w wc))
    case first =>
      as_aux_lemma =>
      have H := HC7.out
      clear HC7
      replace H := Option.bind_eq_some_iff.mp H
      obtain ⟨⟨t364, t365⟩, A370, H⟩ := H
      replace H : (if (!(t355 == t364) || (!(t356 == t365))) = true then (laws_FnRangeLattice.j0 k l0 t350 true t346 t347 t348 t349 t355 t356 t358 t359 t361 t362) else ((spec_RangeMeet.f k t346 t347 t348 t349).bind fun bt366 => (if (!(t358 == bt366.1) || (!(t359 == bt366.2))) = true then (laws_FnRangeLattice.j0 k l0 t350 true t346 t347 t348 t349 t355 t356 t358 t359 t361 t362) else ((spec_RangeWiden.f k t346 t347 t348 t349 t350).bind fun bt368 => (laws_FnRangeLattice.j0 k l0 t350 (!(t361 == bt368.1) || (!(t362 == bt368.2))) t346 t347 t348 t349 t355 t356 t358 t359 t361 t362))))) = some r := H
      have A37 := Aside0.mk A370
      clear A370
      by_cases c38 : (!(t355 == t364) || (!(t356 == t365))) = true
      · rw [if_pos c38] at H
        have c38b0 : (!(t355 == t364) || (!(t356 == t365))) = true := c38
        clear c38
        (first | rw [c38b0] | (simp only [i64_w, i32_w]; rw [c38b0]) | skip)
        have H' := Aside0.mk H
        clear H
        try go_wp2
        have n0_ : Aside0 (Kd.R (Kd.int .i64) 3 ((w31.setCell ⟨gb363, 0, none⟩ (.int .i64 t361)).setCell ⟨gb363, 1, none⟩ (.int .i64 t362)) w.heap.size (fun _ => True) (.slice Ao29 t350.length co29) t350) := ⟨by (with_reducible repeat (first | apply Kd.R_alloc | apply Kd.R_drewN | apply Kd.R_drew)); exact Kd.R_mono (Kd.R_far (p := ⟨gb363, 1, none⟩) (Kd.R_far (p := ⟨gb363, 0, none⟩) (Kd.R_types HO352.out BK363.out (by decide)) (fun _ hk => hk.2) (.int .i64 t361)) (fun _ hk => hk.2) (.int .i64 t362)) (fun _ hk => trivial)⟩
        have n1_ : Aside0 (((w31.setCell ⟨gb363, 0, none⟩ (.int .i64 t361)).setCell ⟨gb363, 1, none⟩ (.int .i64 t362)).heap[gb353]? = some (.cells #[.int .i64 t346, .int .i64 t347] 27 (0, 0))) := ⟨by refine sqt ?_; refine blk_far ?_ NB353_363.out _; refine sqt ?_; refine blk_far ?_ NB353_363.out _; refine sqt ?_; exact BK353.out⟩
        have n2_ : Aside0 (((w31.setCell ⟨gb363, 0, none⟩ (.int .i64 t361)).setCell ⟨gb363, 1, none⟩ (.int .i64 t362)).heap[gb354]? = some (.cells #[.int .i64 t348, .int .i64 t349] 27 (0, 0))) := ⟨by refine sqt ?_; refine blk_far ?_ NB354_363.out _; refine sqt ?_; refine blk_far ?_ NB354_363.out _; refine sqt ?_; exact BK354.out⟩
        have n3_ : Aside0 (((w31.setCell ⟨gb363, 0, none⟩ (.int .i64 t361)).setCell ⟨gb363, 1, none⟩ (.int .i64 t362)).heap[gb357]? = some (.cells #[.int .i64 t355, .int .i64 t356] 27 (0, 0))) := ⟨by refine sqt ?_; refine blk_far ?_ NB357_363.out _; refine sqt ?_; refine blk_far ?_ NB357_363.out _; refine sqt ?_; exact BK357.out⟩
        have n4_ : Aside0 (((w31.setCell ⟨gb363, 0, none⟩ (.int .i64 t361)).setCell ⟨gb363, 1, none⟩ (.int .i64 t362)).heap[gb360]? = some (.cells #[.int .i64 t358, .int .i64 t359] 27 (0, 0))) := ⟨by refine sqt ?_; refine blk_far ?_ NB360_363.out _; refine sqt ?_; refine blk_far ?_ NB360_363.out _; refine sqt ?_; exact BK360.out⟩
        have n5_ : Aside0 (((w31.setCell ⟨gb363, 0, none⟩ (.int .i64 t361)).setCell ⟨gb363, 1, none⟩ (.int .i64 t362)).heap[gb363]? = some (.cells #[.int .i64 t361, .int .i64 t362] 27 (0, 0))) := ⟨by refine sqt ?_; refine blk_put (cs := #[.int .i64 t361, .int .i64 0]) ?_ 1 _ rfl; refine sqt ?_; refine blk_put (cs := #[.int .i64 0, .int .i64 0]) ?_ 0 _ rfl; refine sqt ?_; exact BK363.out⟩
        have n6_ : Aside0 (Below w.heap.size w ((w31.setCell ⟨gb363, 0, none⟩ (.int .i64 t361)).setCell ⟨gb363, 1, none⟩ (.int .i64 t362))) := sqh HB
        (try clear HO352)
        (try clear BK353)
        (try clear BK354)
        (try clear BK357)
        (try clear BK360)
        (try clear BK363)
        (try clear HB)
        generalize ((w31.setCell ⟨gb363, 0, none⟩ (.int .i64 t361)).setCell ⟨gb363, 1, none⟩ (.int .i64 t362)) = w39 at n0_ n1_ n2_ n3_ n4_ n5_ n6_ ⊢
        have HO352 := n0_
        have BK353 := n1_
        have BK354 := n2_
        have BK357 := n3_
        have BK360 := n4_
        have BK363 := n5_
        have HB := n6_
        clear n0_ n1_ n2_ n3_ n4_ n5_ n6_
        replace HO352 := Aside0.mk (Kd.R_drew HO352.out)
        replace BK353 := Aside0.mk (blk_drew BK353.out)
        replace BK354 := Aside0.mk (blk_drew BK354.out)
        replace BK357 := Aside0.mk (blk_drew BK357.out)
        replace BK360 := Aside0.mk (blk_drew BK360.out)
        replace BK363 := Aside0.mk (blk_drew BK363.out)
        replace HB := Aside0.mk (below_drew1 HB.out)
        refine start_ (n := 20) (S := fun w' => w'.cell? ⟨gb357, 0, none⟩ = some (.int .i64 t355) ∧ w'.cell? ⟨gb357, 1, none⟩ = some (.int .i64 t356) ∧ w'.cell? ⟨gb353, 0, none⟩ = some (.int .i64 t346) ∧ w'.cell? ⟨gb353, 1, none⟩ = some (.int .i64 t347) ∧ w'.cell? ⟨gb354, 0, none⟩ = some (.int .i64 t348) ∧ w'.cell? ⟨gb354, 1, none⟩ = some (.int .i64 t349)) (ds := []) #[false, false, false, false, false, false, false, false, false, false, false, false, false, false, false, false, false, false, false, false] (by kernel_rfl) rfl rfl ⟨(blk_cell BK357.out 0).trans rfl, (blk_cell BK357.out 1).trans rfl, (blk_cell BK353.out 0).trans rfl, (blk_cell BK353.out 1).trans rfl, (blk_cell BK354.out 0).trans rfl, (blk_cell BK354.out 1).trans rfl⟩ (fun hHeld => ?_); refine with_tabW laws_FnRangeLattice.tab7 laws_FnRangeLattice.bits7 (fun HT_ HW_ => ?_)
        generalize w39.drew = w40 at HO352 BK353 BK354 BK357 BK360 BK363 HB hHeld ⊢
        refine sqw HT_ HW_ 0 30 hHeld ?_
        refine sqw HT_ HW_ 1 31 hHeld ?_
        refine sqw HT_ HW_ 2 32 hHeld ?_
        refine sqo HT_ 3 33 (fun K hK => ?_)
        refine sqG Try.func48 #[.agg #[.int .i64 t346, .int .i64 t347], .agg #[.int .i64 t348, .int .i64 t349]] ?_
        with_reducible refine (spec_RangeJoin.calls k t346 t347 t348 t349 t364 t365 _ A37.out).mono ?_
        rintro e w41 ⟨rfl, hb⟩
        refine ⟨_, rfl, ?_⟩
        have n0_ := Aside0.mk (Kd.R_below (by (with_reducible repeat (first | apply Kd.R_alloc | apply Kd.R_drewN | apply Kd.R_drew)); exact HO352.out) hb)
        have n1_ := sqb BK353 hb
        have n2_ := sqb BK354 hb
        have n3_ := sqb BK357 hb
        have n4_ := sqb BK360 hb
        have n5_ := sqb BK363 hb
        have n6_ := sqs HB hb
        clear HO352
        clear BK353
        clear BK354
        clear BK357
        clear BK360
        clear BK363
        clear HB
        have HO352 := n0_
        have BK353 := n1_
        have BK354 := n2_
        have BK357 := n3_
        have BK360 := n4_
        have BK363 := n5_
        have HB := n6_
        clear n0_ n1_ n2_ n3_ n4_ n5_ n6_
        (try clear hb)
        refine hK.out _ _ sqz (fun hHeld => ?_)
        clear hK K
        refine sqnm ?_
        refine sqp HT_ 4 34 ?_
        refine sqp HT_ 5 35 ?_
        refine sqpu HT_ 6 36 ?_
        refine sqpu HT_ 7 37 ?_
        refine sqpu HT_ 8 38 ?_
        refine sqpu HT_ 9 39 ?_
        refine sqpu HT_ 10 40 ?_
        refine sqp HT_ 11 41 ?_
        refine sqp HT_ 12 42 ?_
        refine sqpu HT_ 13 43 ?_
        refine sqpu HT_ 14 44 ?_
        refine sqpu HT_ 15 45 ?_
        refine sqpu HT_ 16 46 ?_
        refine sqpu HT_ 17 47 ?_
        refine sqpu HT_ 18 48 ?_
        refine sqp HT_ 19 49 ?_
        refine done_ (done_of HT_.out (by kernel_rfl)) ?_
        try go_wp2
        go_meet
        case rel => exact ⟨_, (true), (by first | rfl | (simp; done) | (simp [*]; done)), H', ⟨by first | omega | exact Nat.le_refl _⟩, ⟨by (with_reducible repeat (first | apply Kd.R_alloc | apply Kd.R_drewN | apply Kd.R_drew)); exact HO352.out⟩, sqk BK353, sqk BK354, sqk BK357, sqk BK360, sqk BK363, sqh HB⟩
      · rw [if_neg c38] at H
        have c38b0 : (!(t355 == t364) || (!(t356 == t365))) = false := by simpa using c38
        clear c38
        (first | rw [c38b0] | (simp only [i64_w, i32_w]; rw [c38b0]) | skip)
        replace H := Option.bind_eq_some_iff.mp H
        obtain ⟨⟨t366, t367⟩, A420, H⟩ := H
        replace H : (if (!(t358 == t366) || (!(t359 == t367))) = true then (laws_FnRangeLattice.j0 k l0 t350 true t346 t347 t348 t349 t355 t356 t358 t359 t361 t362) else ((spec_RangeWiden.f k t346 t347 t348 t349 t350).bind fun bt368 => (laws_FnRangeLattice.j0 k l0 t350 (!(t361 == bt368.1) || (!(t362 == bt368.2))) t346 t347 t348 t349 t355 t356 t358 t359 t361 t362))) = some r := H
        have A42 := Aside0.mk A420
        clear A420
        by_cases c43 : (!(t358 == t366) || (!(t359 == t367))) = true
        · rw [if_pos c43] at H
          have c43b0 : (!(t358 == t366) || (!(t359 == t367))) = true := c43
          clear c43
          have H' := Aside0.mk H
          clear H
          try go_wp2
          have n0_ : Aside0 (Kd.R (Kd.int .i64) 3 ((w31.setCell ⟨gb363, 0, none⟩ (.int .i64 t361)).setCell ⟨gb363, 1, none⟩ (.int .i64 t362)) w.heap.size (fun _ => True) (.slice Ao29 t350.length co29) t350) := ⟨by (with_reducible repeat (first | apply Kd.R_alloc | apply Kd.R_drewN | apply Kd.R_drew)); exact Kd.R_mono (Kd.R_far (p := ⟨gb363, 1, none⟩) (Kd.R_far (p := ⟨gb363, 0, none⟩) (Kd.R_types HO352.out BK363.out (by decide)) (fun _ hk => hk.2) (.int .i64 t361)) (fun _ hk => hk.2) (.int .i64 t362)) (fun _ hk => trivial)⟩
          have n1_ : Aside0 (((w31.setCell ⟨gb363, 0, none⟩ (.int .i64 t361)).setCell ⟨gb363, 1, none⟩ (.int .i64 t362)).heap[gb353]? = some (.cells #[.int .i64 t346, .int .i64 t347] 27 (0, 0))) := ⟨by refine sqt ?_; refine blk_far ?_ NB353_363.out _; refine sqt ?_; refine blk_far ?_ NB353_363.out _; refine sqt ?_; exact BK353.out⟩
          have n2_ : Aside0 (((w31.setCell ⟨gb363, 0, none⟩ (.int .i64 t361)).setCell ⟨gb363, 1, none⟩ (.int .i64 t362)).heap[gb354]? = some (.cells #[.int .i64 t348, .int .i64 t349] 27 (0, 0))) := ⟨by refine sqt ?_; refine blk_far ?_ NB354_363.out _; refine sqt ?_; refine blk_far ?_ NB354_363.out _; refine sqt ?_; exact BK354.out⟩
          have n3_ : Aside0 (((w31.setCell ⟨gb363, 0, none⟩ (.int .i64 t361)).setCell ⟨gb363, 1, none⟩ (.int .i64 t362)).heap[gb357]? = some (.cells #[.int .i64 t355, .int .i64 t356] 27 (0, 0))) := ⟨by refine sqt ?_; refine blk_far ?_ NB357_363.out _; refine sqt ?_; refine blk_far ?_ NB357_363.out _; refine sqt ?_; exact BK357.out⟩
          have n4_ : Aside0 (((w31.setCell ⟨gb363, 0, none⟩ (.int .i64 t361)).setCell ⟨gb363, 1, none⟩ (.int .i64 t362)).heap[gb360]? = some (.cells #[.int .i64 t358, .int .i64 t359] 27 (0, 0))) := ⟨by refine sqt ?_; refine blk_far ?_ NB360_363.out _; refine sqt ?_; refine blk_far ?_ NB360_363.out _; refine sqt ?_; exact BK360.out⟩
          have n5_ : Aside0 (((w31.setCell ⟨gb363, 0, none⟩ (.int .i64 t361)).setCell ⟨gb363, 1, none⟩ (.int .i64 t362)).heap[gb363]? = some (.cells #[.int .i64 t361, .int .i64 t362] 27 (0, 0))) := ⟨by refine sqt ?_; refine blk_put (cs := #[.int .i64 t361, .int .i64 0]) ?_ 1 _ rfl; refine sqt ?_; refine blk_put (cs := #[.int .i64 0, .int .i64 0]) ?_ 0 _ rfl; refine sqt ?_; exact BK363.out⟩
          have n6_ : Aside0 (Below w.heap.size w ((w31.setCell ⟨gb363, 0, none⟩ (.int .i64 t361)).setCell ⟨gb363, 1, none⟩ (.int .i64 t362))) := sqh HB
          (try clear HO352)
          (try clear BK353)
          (try clear BK354)
          (try clear BK357)
          (try clear BK360)
          (try clear BK363)
          (try clear HB)
          generalize ((w31.setCell ⟨gb363, 0, none⟩ (.int .i64 t361)).setCell ⟨gb363, 1, none⟩ (.int .i64 t362)) = w44 at n0_ n1_ n2_ n3_ n4_ n5_ n6_ ⊢
          have HO352 := n0_
          have BK353 := n1_
          have BK354 := n2_
          have BK357 := n3_
          have BK360 := n4_
          have BK363 := n5_
          have HB := n6_
          clear n0_ n1_ n2_ n3_ n4_ n5_ n6_
          replace HO352 := Aside0.mk (Kd.R_drew HO352.out)
          replace BK353 := Aside0.mk (blk_drew BK353.out)
          replace BK354 := Aside0.mk (blk_drew BK354.out)
          replace BK357 := Aside0.mk (blk_drew BK357.out)
          replace BK360 := Aside0.mk (blk_drew BK360.out)
          replace BK363 := Aside0.mk (blk_drew BK363.out)
          replace HB := Aside0.mk (below_drew1 HB.out)
          refine start_ (n := 20) (S := fun w' => w'.cell? ⟨gb357, 0, none⟩ = some (.int .i64 t355) ∧ w'.cell? ⟨gb357, 1, none⟩ = some (.int .i64 t356) ∧ w'.cell? ⟨gb353, 0, none⟩ = some (.int .i64 t346) ∧ w'.cell? ⟨gb353, 1, none⟩ = some (.int .i64 t347) ∧ w'.cell? ⟨gb354, 0, none⟩ = some (.int .i64 t348) ∧ w'.cell? ⟨gb354, 1, none⟩ = some (.int .i64 t349) ∧ w'.cell? ⟨gb360, 0, none⟩ = some (.int .i64 t358) ∧ w'.cell? ⟨gb360, 1, none⟩ = some (.int .i64 t359)) (ds := []) #[false, false, false, false, false, false, false, false, false, false, false, false, false, false, false, false, false, false, false, false] (by kernel_rfl) rfl rfl ⟨(blk_cell BK357.out 0).trans rfl, (blk_cell BK357.out 1).trans rfl, (blk_cell BK353.out 0).trans rfl, (blk_cell BK353.out 1).trans rfl, (blk_cell BK354.out 0).trans rfl, (blk_cell BK354.out 1).trans rfl, (blk_cell BK360.out 0).trans rfl, (blk_cell BK360.out 1).trans rfl⟩ (fun hHeld => ?_); refine with_tabW laws_FnRangeLattice.tab7 laws_FnRangeLattice.bits7 (fun HT_ HW_ => ?_)
          generalize w44.drew = w45 at HO352 BK353 BK354 BK357 BK360 BK363 HB hHeld ⊢
          refine sqw HT_ HW_ 0 30 hHeld ?_
          refine sqw HT_ HW_ 1 31 hHeld ?_
          refine sqw HT_ HW_ 2 32 hHeld ?_
          refine sqo HT_ 3 33 (fun K hK => ?_)
          refine sqG Try.func48 #[.agg #[.int .i64 t346, .int .i64 t347], .agg #[.int .i64 t348, .int .i64 t349]] ?_
          with_reducible refine (spec_RangeJoin.calls k t346 t347 t348 t349 t364 t365 _ A37.out).mono ?_
          rintro e w46 ⟨rfl, hb⟩
          refine ⟨_, rfl, ?_⟩
          have n0_ := Aside0.mk (Kd.R_below (by (with_reducible repeat (first | apply Kd.R_alloc | apply Kd.R_drewN | apply Kd.R_drew)); exact HO352.out) hb)
          have n1_ := sqb BK353 hb
          have n2_ := sqb BK354 hb
          have n3_ := sqb BK357 hb
          have n4_ := sqb BK360 hb
          have n5_ := sqb BK363 hb
          have n6_ := sqs HB hb
          clear HO352
          clear BK353
          clear BK354
          clear BK357
          clear BK360
          clear BK363
          clear HB
          have HO352 := n0_
          have BK353 := n1_
          have BK354 := n2_
          have BK357 := n3_
          have BK360 := n4_
          have BK363 := n5_
          have HB := n6_
          clear n0_ n1_ n2_ n3_ n4_ n5_ n6_
          (try clear hb)
          refine hK.out _ _ sqz (fun hHeld => ?_)
          clear hK K
          refine sqnm ?_
          refine sqp HT_ 4 34 ?_
          refine sqp HT_ 5 35 ?_
          refine sqw HT_ HW_ 6 36 hHeld ?_
          refine sqw HT_ HW_ 7 37 hHeld ?_
          refine sqw HT_ HW_ 8 38 hHeld ?_
          refine sqo HT_ 9 39 (fun K hK => ?_)
          refine sqG Try.func49 #[.agg #[.int .i64 t346, .int .i64 t347], .agg #[.int .i64 t348, .int .i64 t349]] ?_
          with_reducible refine (spec_RangeMeet.calls k t346 t347 t348 t349 t366 t367 _ A42.out).mono ?_
          rintro e w47 ⟨rfl, hb⟩
          refine ⟨_, rfl, ?_⟩
          have n0_ := Aside0.mk (Kd.R_below (by (with_reducible repeat (first | apply Kd.R_alloc | apply Kd.R_drewN | apply Kd.R_drew)); exact HO352.out) hb)
          have n1_ := sqb BK353 hb
          have n2_ := sqb BK354 hb
          have n3_ := sqb BK357 hb
          have n4_ := sqb BK360 hb
          have n5_ := sqb BK363 hb
          have n6_ := sqs HB hb
          clear HO352
          clear BK353
          clear BK354
          clear BK357
          clear BK360
          clear BK363
          clear HB
          have HO352 := n0_
          have BK353 := n1_
          have BK354 := n2_
          have BK357 := n3_
          have BK360 := n4_
          have BK363 := n5_
          have HB := n6_
          clear n0_ n1_ n2_ n3_ n4_ n5_ n6_
          (try clear hb)
          refine hK.out _ _ sqz (fun hHeld => ?_)
          clear hK K
          refine sqnm ?_
          refine sqp HT_ 10 40 ?_
          refine sqp HT_ 11 41 ?_
          refine sqp HT_ 12 42 ?_
          refine sqpu HT_ 13 43 ?_
          refine sqpu HT_ 14 44 ?_
          refine sqpu HT_ 15 45 ?_
          refine sqpu HT_ 16 46 ?_
          refine sqpu HT_ 17 47 ?_
          refine sqpu HT_ 18 48 ?_
          refine sqp HT_ 19 49 ?_
          refine done_ (done_of HT_.out (by kernel_rfl)) ?_
          try go_wp2
          go_meet
          case rel => exact ⟨_, (true), (by first | rfl | (simp; done) | (simp [*]; done)), H', ⟨by first | omega | exact Nat.le_refl _⟩, ⟨by (with_reducible repeat (first | apply Kd.R_alloc | apply Kd.R_drewN | apply Kd.R_drew)); exact HO352.out⟩, sqk BK353, sqk BK354, sqk BK357, sqk BK360, sqk BK363, sqh HB⟩
        · rw [if_neg c43] at H
          have c43b0 : (!(t358 == t366) || (!(t359 == t367))) = false := by simpa using c43
          clear c43
          replace H := Option.bind_eq_some_iff.mp H
          obtain ⟨⟨t368, t369⟩, A480, H⟩ := H
          replace H : (laws_FnRangeLattice.j0 k l0 t350 (!(t361 == t368) || (!(t362 == t369))) t346 t347 t348 t349 t355 t356 t358 t359 t361 t362) = some r := H
          have A48 := Aside0.mk A480
          clear A480
          have H' := Aside0.mk H
          clear H
          try go_wp2
          have n0_ : Aside0 (Kd.R (Kd.int .i64) 3 ((w31.setCell ⟨gb363, 0, none⟩ (.int .i64 t361)).setCell ⟨gb363, 1, none⟩ (.int .i64 t362)) w.heap.size (fun _ => True) (.slice Ao29 t350.length co29) t350) := ⟨by (with_reducible repeat (first | apply Kd.R_alloc | apply Kd.R_drewN | apply Kd.R_drew)); exact Kd.R_mono (Kd.R_far (p := ⟨gb363, 1, none⟩) (Kd.R_far (p := ⟨gb363, 0, none⟩) (Kd.R_types HO352.out BK363.out (by decide)) (fun _ hk => hk.2) (.int .i64 t361)) (fun _ hk => hk.2) (.int .i64 t362)) (fun _ hk => trivial)⟩
          have n1_ : Aside0 (((w31.setCell ⟨gb363, 0, none⟩ (.int .i64 t361)).setCell ⟨gb363, 1, none⟩ (.int .i64 t362)).heap[gb353]? = some (.cells #[.int .i64 t346, .int .i64 t347] 27 (0, 0))) := ⟨by refine sqt ?_; refine blk_far ?_ NB353_363.out _; refine sqt ?_; refine blk_far ?_ NB353_363.out _; refine sqt ?_; exact BK353.out⟩
          have n2_ : Aside0 (((w31.setCell ⟨gb363, 0, none⟩ (.int .i64 t361)).setCell ⟨gb363, 1, none⟩ (.int .i64 t362)).heap[gb354]? = some (.cells #[.int .i64 t348, .int .i64 t349] 27 (0, 0))) := ⟨by refine sqt ?_; refine blk_far ?_ NB354_363.out _; refine sqt ?_; refine blk_far ?_ NB354_363.out _; refine sqt ?_; exact BK354.out⟩
          have n3_ : Aside0 (((w31.setCell ⟨gb363, 0, none⟩ (.int .i64 t361)).setCell ⟨gb363, 1, none⟩ (.int .i64 t362)).heap[gb357]? = some (.cells #[.int .i64 t355, .int .i64 t356] 27 (0, 0))) := ⟨by refine sqt ?_; refine blk_far ?_ NB357_363.out _; refine sqt ?_; refine blk_far ?_ NB357_363.out _; refine sqt ?_; exact BK357.out⟩
          have n4_ : Aside0 (((w31.setCell ⟨gb363, 0, none⟩ (.int .i64 t361)).setCell ⟨gb363, 1, none⟩ (.int .i64 t362)).heap[gb360]? = some (.cells #[.int .i64 t358, .int .i64 t359] 27 (0, 0))) := ⟨by refine sqt ?_; refine blk_far ?_ NB360_363.out _; refine sqt ?_; refine blk_far ?_ NB360_363.out _; refine sqt ?_; exact BK360.out⟩
          have n5_ : Aside0 (((w31.setCell ⟨gb363, 0, none⟩ (.int .i64 t361)).setCell ⟨gb363, 1, none⟩ (.int .i64 t362)).heap[gb363]? = some (.cells #[.int .i64 t361, .int .i64 t362] 27 (0, 0))) := ⟨by refine sqt ?_; refine blk_put (cs := #[.int .i64 t361, .int .i64 0]) ?_ 1 _ rfl; refine sqt ?_; refine blk_put (cs := #[.int .i64 0, .int .i64 0]) ?_ 0 _ rfl; refine sqt ?_; exact BK363.out⟩
          have n6_ : Aside0 (Below w.heap.size w ((w31.setCell ⟨gb363, 0, none⟩ (.int .i64 t361)).setCell ⟨gb363, 1, none⟩ (.int .i64 t362))) := sqh HB
          (try clear HO352)
          (try clear BK353)
          (try clear BK354)
          (try clear BK357)
          (try clear BK360)
          (try clear BK363)
          (try clear HB)
          generalize ((w31.setCell ⟨gb363, 0, none⟩ (.int .i64 t361)).setCell ⟨gb363, 1, none⟩ (.int .i64 t362)) = w49 at n0_ n1_ n2_ n3_ n4_ n5_ n6_ ⊢
          have HO352 := n0_
          have BK353 := n1_
          have BK354 := n2_
          have BK357 := n3_
          have BK360 := n4_
          have BK363 := n5_
          have HB := n6_
          clear n0_ n1_ n2_ n3_ n4_ n5_ n6_
          replace HO352 := Aside0.mk (Kd.R_drew HO352.out)
          replace BK353 := Aside0.mk (blk_drew BK353.out)
          replace BK354 := Aside0.mk (blk_drew BK354.out)
          replace BK357 := Aside0.mk (blk_drew BK357.out)
          replace BK360 := Aside0.mk (blk_drew BK360.out)
          replace BK363 := Aside0.mk (blk_drew BK363.out)
          replace HB := Aside0.mk (below_drew1 HB.out)
          refine start_ (n := 20) (S := fun w' => w'.cell? ⟨gb357, 0, none⟩ = some (.int .i64 t355) ∧ w'.cell? ⟨gb357, 1, none⟩ = some (.int .i64 t356) ∧ w'.cell? ⟨gb353, 0, none⟩ = some (.int .i64 t346) ∧ w'.cell? ⟨gb353, 1, none⟩ = some (.int .i64 t347) ∧ w'.cell? ⟨gb354, 0, none⟩ = some (.int .i64 t348) ∧ w'.cell? ⟨gb354, 1, none⟩ = some (.int .i64 t349) ∧ w'.cell? ⟨gb360, 0, none⟩ = some (.int .i64 t358) ∧ w'.cell? ⟨gb360, 1, none⟩ = some (.int .i64 t359) ∧ w'.cell? ⟨gb363, 0, none⟩ = some (.int .i64 t361) ∧ w'.cell? ⟨gb363, 1, none⟩ = some (.int .i64 t362)) (ds := []) #[false, false, false, false, false, false, false, false, false, false, false, false, false, false, false, false, false, false, false, false] (by kernel_rfl) rfl rfl ⟨(blk_cell BK357.out 0).trans rfl, (blk_cell BK357.out 1).trans rfl, (blk_cell BK353.out 0).trans rfl, (blk_cell BK353.out 1).trans rfl, (blk_cell BK354.out 0).trans rfl, (blk_cell BK354.out 1).trans rfl, (blk_cell BK360.out 0).trans rfl, (blk_cell BK360.out 1).trans rfl, (blk_cell BK363.out 0).trans rfl, (blk_cell BK363.out 1).trans rfl⟩ (fun hHeld => ?_); refine with_tabW laws_FnRangeLattice.tab7 laws_FnRangeLattice.bits7 (fun HT_ HW_ => ?_)
          generalize w49.drew = w50 at HO352 BK353 BK354 BK357 BK360 BK363 HB hHeld ⊢
          refine sqw HT_ HW_ 0 30 hHeld ?_
          refine sqw HT_ HW_ 1 31 hHeld ?_
          refine sqw HT_ HW_ 2 32 hHeld ?_
          refine sqo HT_ 3 33 (fun K hK => ?_)
          refine sqG Try.func48 #[.agg #[.int .i64 t346, .int .i64 t347], .agg #[.int .i64 t348, .int .i64 t349]] ?_
          with_reducible refine (spec_RangeJoin.calls k t346 t347 t348 t349 t364 t365 _ A37.out).mono ?_
          rintro e w51 ⟨rfl, hb⟩
          refine ⟨_, rfl, ?_⟩
          have n0_ := Aside0.mk (Kd.R_below (by (with_reducible repeat (first | apply Kd.R_alloc | apply Kd.R_drewN | apply Kd.R_drew)); exact HO352.out) hb)
          have n1_ := sqb BK353 hb
          have n2_ := sqb BK354 hb
          have n3_ := sqb BK357 hb
          have n4_ := sqb BK360 hb
          have n5_ := sqb BK363 hb
          have n6_ := sqs HB hb
          clear HO352
          clear BK353
          clear BK354
          clear BK357
          clear BK360
          clear BK363
          clear HB
          have HO352 := n0_
          have BK353 := n1_
          have BK354 := n2_
          have BK357 := n3_
          have BK360 := n4_
          have BK363 := n5_
          have HB := n6_
          clear n0_ n1_ n2_ n3_ n4_ n5_ n6_
          (try clear hb)
          refine hK.out _ _ sqz (fun hHeld => ?_)
          clear hK K
          refine sqnm ?_
          refine sqp HT_ 4 34 ?_
          refine sqp HT_ 5 35 ?_
          refine sqw HT_ HW_ 6 36 hHeld ?_
          refine sqw HT_ HW_ 7 37 hHeld ?_
          refine sqw HT_ HW_ 8 38 hHeld ?_
          refine sqo HT_ 9 39 (fun K hK => ?_)
          refine sqG Try.func49 #[.agg #[.int .i64 t346, .int .i64 t347], .agg #[.int .i64 t348, .int .i64 t349]] ?_
          with_reducible refine (spec_RangeMeet.calls k t346 t347 t348 t349 t366 t367 _ A42.out).mono ?_
          rintro e w52 ⟨rfl, hb⟩
          refine ⟨_, rfl, ?_⟩
          have n0_ := Aside0.mk (Kd.R_below (by (with_reducible repeat (first | apply Kd.R_alloc | apply Kd.R_drewN | apply Kd.R_drew)); exact HO352.out) hb)
          have n1_ := sqb BK353 hb
          have n2_ := sqb BK354 hb
          have n3_ := sqb BK357 hb
          have n4_ := sqb BK360 hb
          have n5_ := sqb BK363 hb
          have n6_ := sqs HB hb
          clear HO352
          clear BK353
          clear BK354
          clear BK357
          clear BK360
          clear BK363
          clear HB
          have HO352 := n0_
          have BK353 := n1_
          have BK354 := n2_
          have BK357 := n3_
          have BK360 := n4_
          have BK363 := n5_
          have HB := n6_
          clear n0_ n1_ n2_ n3_ n4_ n5_ n6_
          (try clear hb)
          refine hK.out _ _ sqz (fun hHeld => ?_)
          clear hK K
          refine sqnm ?_
          refine sqp HT_ 10 40 ?_
          refine sqp HT_ 11 41 ?_
          refine sqp HT_ 12 42 ?_
          refine sqp HT_ 16 46 ?_
          refine sqw HT_ HW_ 13 43 hHeld ?_
          refine sqw HT_ HW_ 14 44 hHeld ?_
          refine sqw HT_ HW_ 15 45 hHeld ?_
          refine sqo HT_ 17 47 (fun K hK => ?_)
          refine sqG Try.func44 #[.agg #[.int .i64 t346, .int .i64 t347], .agg #[.int .i64 t348, .int .i64 t349], .slice Ao29 t350.length co29] ?_
          with_reducible refine (spec_RangeWiden.calls k t346 t347 t348 t349 _ _ t350 t368 t369 _ ?side1 ?side2 A48.out).mono ?_
          (case side1 => repeat (first | exact (Kd.R_reads' HO352.out).2.2 | (with_reducible refine Kd.C_alloc ?_ _) | (with_reducible refine Kd.C_drewN ?_ _) | (with_reducible refine Kd.C_drew ?_)))
          (case side2 => exact (Kd.R_reads' HO352.out).2.1)
          rintro e w53 ⟨rfl, hb⟩
          refine ⟨_, rfl, ?_⟩
          have n0_ := Aside0.mk (Kd.R_below (by (with_reducible repeat (first | apply Kd.R_alloc | apply Kd.R_drewN | apply Kd.R_drew)); exact HO352.out) hb)
          have n1_ := sqb BK353 hb
          have n2_ := sqb BK354 hb
          have n3_ := sqb BK357 hb
          have n4_ := sqb BK360 hb
          have n5_ := sqb BK363 hb
          have n6_ := sqs HB hb
          clear HO352
          clear BK353
          clear BK354
          clear BK357
          clear BK360
          clear BK363
          clear HB
          have HO352 := n0_
          have BK353 := n1_
          have BK354 := n2_
          have BK357 := n3_
          have BK360 := n4_
          have BK363 := n5_
          have HB := n6_
          clear n0_ n1_ n2_ n3_ n4_ n5_ n6_
          (try clear hb)
          refine hK.out _ _ sqz (fun hHeld => ?_)
          clear hK K
          refine sqnm ?_
          refine sqp HT_ 18 48 ?_
          refine sqp HT_ 19 49 ?_
          refine done_ (done_of HT_.out (by kernel_rfl)) ?_
          try go_wp2
          go_meet
          case rel => exact ⟨_, ((!(t361 == t368) || (!(t362 == t369)))), (by first | rfl | (simp; done) | (simp [*]; done)), H', ⟨by first | omega | exact Nat.le_refl _⟩, ⟨by (with_reducible repeat (first | apply Kd.R_alloc | apply Kd.R_drewN | apply Kd.R_drew)); exact HO352.out⟩, sqk BK353, sqk BK354, sqk BK357, sqk BK360, sqk BK363, sqh HB⟩
    case rest =>
      as_aux_lemma =>
      clear HC7
      obtain ⟨kq, x49_6, rfl, HA, HJ6, HO_5, BK353, BK354, BK357, BK360, BK363, HB⟩ := hcut
      cases kq with
      | zero => exact absurd HA.out (by simp [laws_FnRangeLattice.j0])
      | succ kj6 =>
        have H := HA.out
        clear HA
        simp only [laws_FnRangeLattice.j0] at H
        by_cases c54 : x49_6 = true
        · subst c54
          have H1 : (some false) = some r := by rw [if_pos rfl] at H; exact H
          clear H
          have H := H1
          clear H1
          obtain rfl := Option.some.inj H
          go_wp2
          go_ret
          exact sqe HB
        · replace c54 := Bool.eq_false_iff.mpr c54
          subst c54
          have H1 : ((spec_RangeOk.f t346 t347).bind fun t370 => (if t370 = true then ((spec_RangeOk.f t348 t349).bind fun t371 => (laws_FnRangeLattice.j1 kj6 l0 t350 (!t371) t346 t347 t348 t349 t355 t356 t358 t359 t361 t362)) else (laws_FnRangeLattice.j1 kj6 l0 t350 true t346 t347 t348 t349 t355 t356 t358 t359 t361 t362))) = some r := by rw [if_neg (show ¬ (false = true) by decide)] at H; exact H
          clear H
          have H := H1
          clear H1
          have HC55 := Aside0.mk H
          clear H
          go_upto_region 9 with (fail)
          go_cut [57] (fun v57 wc => ∃ (kq : Nat) (x57_54 : Bool), v57 = .bool x57_54 ∧ Aside0 (laws_FnRangeLattice.j1 kq l0 t350 x57_54 t346 t347 t348 t349 t355 t356 t358 t359 t361 t362 = some r) ∧ Aside0 (kq ≤ kj6) ∧ Aside0 (Kd.R (Kd.int .i64) 3 wc w.heap.size (fun _ => True) (.slice Ao29 t350.length co29) t350) ∧ Aside0 (wc.heap[gb353]? = some (.cells #[.int .i64 t346, .int .i64 t347] 27 (0, 0))) ∧ Aside0 (wc.heap[gb354]? = some (.cells #[.int .i64 t348, .int .i64 t349] 27 (0, 0))) ∧ Aside0 (wc.heap[gb357]? = some (.cells #[.int .i64 t355, .int .i64 t356] 27 (0, 0))) ∧ Aside0 (wc.heap[gb360]? = some (.cells #[.int .i64 t358, .int .i64 t359] 27 (0, 0))) ∧ Aside0 (wc.heap[gb363]? = some (.cells #[.int .i64 t361, .int .i64 t362] 27 (0, 0))) ∧ Aside0 (Below w.heap.size w wc))
          case first =>
            as_aux_lemma =>
            have H := HC55.out
            clear HC55
            replace H := Option.bind_eq_some_iff.mp H
            obtain ⟨t370, A560, H⟩ := H
            replace H : (if t370 = true then ((spec_RangeOk.f t348 t349).bind fun t371 => (laws_FnRangeLattice.j1 kj6 l0 t350 (!t371) t346 t347 t348 t349 t355 t356 t358 t359 t361 t362)) else (laws_FnRangeLattice.j1 kj6 l0 t350 true t346 t347 t348 t349 t355 t356 t358 t359 t361 t362)) = some r := H
            have A56 := Aside0.mk A560
            clear A560
            by_cases c57 : t370 = true
            · subst c57
              have H1 : ((spec_RangeOk.f t348 t349).bind fun t371 => (laws_FnRangeLattice.j1 kj6 l0 t350 (!t371) t346 t347 t348 t349 t355 t356 t358 t359 t361 t362)) = some r := by rw [if_pos rfl] at H; exact H
              clear H
              have H := H1
              clear H1
              replace H := Option.bind_eq_some_iff.mp H
              obtain ⟨t371, A580, H⟩ := H
              replace H : (laws_FnRangeLattice.j1 kj6 l0 t350 (!t371) t346 t347 t348 t349 t355 t356 t358 t359 t361 t362) = some r := H
              have A58 := Aside0.mk A580
              clear A580
              have H' := Aside0.mk H
              clear H
              have hnb59 := NB353_354.out
              have hnc59 := NB354_353.out
              have hnb60 := NB353_357.out
              have hnc60 := NB357_353.out
              have hnb61 := NB353_360.out
              have hnc61 := NB360_353.out
              have hnb62 := NB353_363.out
              have hnc62 := NB363_353.out
              obtain ⟨hcz63_0, hcz63_1, hfz63_0, hfz63_1⟩ := sqc2 BK353
              go_wp2_with (first | ((with_reducible refine gate_callee (f := 40) rfl ?_); refine sqL (some 51) Try.func40 #[.agg #[.int .i64 t346, .int .i64 t347]] ?_; (with_reducible refine (spec_RangeOk.calls t346 t347 true _ A56.out).mono ?_); rintro e w64 ⟨rfl, hb⟩; refine ⟨_, rfl, ?_⟩; have n0_ := Aside0.mk (Kd.R_below (by (with_reducible repeat (first | apply Kd.R_alloc | apply Kd.R_drewN | apply Kd.R_drew)); exact HO_5.out) hb); have n1_ := sqb BK353 hb; have n2_ := sqb BK354 hb; have n3_ := sqb BK357 hb; have n4_ := sqb BK360 hb; have n5_ := sqb BK363 hb; have n6_ := sqs HB hb; clear HO_5; clear BK353; clear BK354; clear BK357; clear BK360; clear BK363; clear HB; have HO_5 := n0_; have BK353 := n1_; have BK354 := n2_; have BK357 := n3_; have BK360 := n4_; have BK363 := n5_; have HB := n6_; clear n0_ n1_ n2_ n3_ n4_ n5_ n6_; (try clear hb); have hnb65 := NB354_357.out; have hnc65 := NB357_354.out; have hnb66 := NB354_360.out; have hnc66 := NB360_354.out; have hnb67 := NB354_363.out; have hnc67 := NB363_354.out; obtain ⟨hcz68_0, hcz68_1, hfz68_0, hfz68_1⟩ := sqc2 BK354) | (go_at_call 40; (with_reducible refine (spec_RangeOk.calls t348 t349 t371 _ A58.out).mono ?_); rintro e w69 ⟨rfl, hb⟩; have n0_ := Aside0.mk (Kd.R_below (by (with_reducible repeat (first | apply Kd.R_alloc | apply Kd.R_drewN | apply Kd.R_drew)); exact HO_5.out) hb); have n1_ := sqb BK353 hb; have n2_ := sqb BK354 hb; have n3_ := sqb BK357 hb; have n4_ := sqb BK360 hb; have n5_ := sqb BK363 hb; have n6_ := sqs HB hb; clear HO_5; clear BK353; clear BK354; clear BK357; clear BK360; clear BK363; clear HB; have HO_5 := n0_; have BK353 := n1_; have BK354 := n2_; have BK357 := n3_; have BK360 := n4_; have BK363 := n5_; have HB := n6_; clear n0_ n1_ n2_ n3_ n4_ n5_ n6_; (try clear hb)))
              go_meet
              case rel => exact ⟨_, (!t371), (by first | rfl | (simp; done) | (simp [*]; done)), H', ⟨by have := HJ6.out; first | omega | exact Nat.le_refl _⟩, ⟨by (with_reducible repeat (first | apply Kd.R_alloc | apply Kd.R_drewN | apply Kd.R_drew)); exact HO_5.out⟩, sqk BK353, sqk BK354, sqk BK357, sqk BK360, sqk BK363, sqh HB⟩
            · replace c57 := Bool.eq_false_iff.mpr c57
              subst c57
              have H1 : (laws_FnRangeLattice.j1 kj6 l0 t350 true t346 t347 t348 t349 t355 t356 t358 t359 t361 t362) = some r := by rw [if_neg (show ¬ (false = true) by decide)] at H; exact H
              clear H
              have H := H1
              clear H1
              have H' := Aside0.mk H
              clear H
              have hnb70 := NB353_354.out
              have hnc70 := NB354_353.out
              have hnb71 := NB353_357.out
              have hnc71 := NB357_353.out
              have hnb72 := NB353_360.out
              have hnc72 := NB360_353.out
              have hnb73 := NB353_363.out
              have hnc73 := NB363_353.out
              obtain ⟨hcz74_0, hcz74_1, hfz74_0, hfz74_1⟩ := sqc2 BK353
              go_wp2_with (first | ((with_reducible refine gate_callee (f := 40) rfl ?_); refine sqL (some 51) Try.func40 #[.agg #[.int .i64 t346, .int .i64 t347]] ?_; (with_reducible refine (spec_RangeOk.calls t346 t347 false _ A56.out).mono ?_); rintro e w75 ⟨rfl, hb⟩; refine ⟨_, rfl, ?_⟩; have n0_ := Aside0.mk (Kd.R_below (by (with_reducible repeat (first | apply Kd.R_alloc | apply Kd.R_drewN | apply Kd.R_drew)); exact HO_5.out) hb); have n1_ := sqb BK353 hb; have n2_ := sqb BK354 hb; have n3_ := sqb BK357 hb; have n4_ := sqb BK360 hb; have n5_ := sqb BK363 hb; have n6_ := sqs HB hb; clear HO_5; clear BK353; clear BK354; clear BK357; clear BK360; clear BK363; clear HB; have HO_5 := n0_; have BK353 := n1_; have BK354 := n2_; have BK357 := n3_; have BK360 := n4_; have BK363 := n5_; have HB := n6_; clear n0_ n1_ n2_ n3_ n4_ n5_ n6_; (try clear hb)))
              go_meet
              case rel => exact ⟨_, (true), (by first | rfl | (simp; done) | (simp [*]; done)), H', ⟨by have := HJ6.out; first | omega | exact Nat.le_refl _⟩, ⟨by (with_reducible repeat (first | apply Kd.R_alloc | apply Kd.R_drewN | apply Kd.R_drew)); exact HO_5.out⟩, sqk BK353, sqk BK354, sqk BK357, sqk BK360, sqk BK363, sqh HB⟩
          case rest =>
            as_aux_lemma =>
            clear HC55
            try clear c38
            try clear c38b0
            try clear c43
            try clear c43b0
            try clear c54
            obtain ⟨kq, x57_54, rfl, HA, HJ54, HO_5, BK353, BK354, BK357, BK360, BK363, HB⟩ := hcut
            cases kq with
            | zero => exact absurd HA.out (by simp [laws_FnRangeLattice.j1])
            | succ kj54 =>
              have H := HA.out
              clear HA
              simp only [laws_FnRangeLattice.j1] at H
              by_cases c76 : x57_54 = true
              · subst c76
                have H1 : (if t355 > t356 then (if t358 > t359 then (some (decide (t361 > t362))) else (some false)) else (some false)) = some r := by rw [if_pos rfl] at H; exact H
                clear H
                have H := H1
                clear H1
                by_cases c77 : t355 > t356
                · rw [if_pos c77] at H
                  have c77b0 : decide (t356 < t355) = true := decide_eq_true c77
                  clear c77
                  by_cases c78 : t358 > t359
                  · rw [if_pos c78] at H
                    have c78b0 : decide (t359 < t358) = true := decide_eq_true c78
                    clear c78
                    obtain rfl := Option.some.inj H
                    have hnb79 := NB357_353.out
                    have hnc79 := NB353_357.out
                    have hnb80 := NB357_354.out
                    have hnc80 := NB354_357.out
                    have hnb81 := NB357_360.out
                    have hnc81 := NB360_357.out
                    have hnb82 := NB357_363.out
                    have hnc82 := NB363_357.out
                    obtain ⟨hcz83_0, hcz83_1, hfz83_0, hfz83_1⟩ := sqc2 BK357
                    have hnb84 := NB360_353.out
                    have hnc84 := NB353_360.out
                    have hnb85 := NB360_354.out
                    have hnc85 := NB354_360.out
                    have hnb86 := NB360_363.out
                    have hnc86 := NB363_360.out
                    obtain ⟨hcz87_0, hcz87_1, hfz87_0, hfz87_1⟩ := sqc2 BK360
                    have hnb88 := NB363_353.out
                    have hnc88 := NB353_363.out
                    have hnb89 := NB363_354.out
                    have hnc89 := NB354_363.out
                    obtain ⟨hcz90_0, hcz90_1, hfz90_0, hfz90_1⟩ := sqc2 BK363
                    go_wp2
                    go_ret
                    exact sqe HB
                  · rw [if_neg c78] at H
                    have c78b0 : decide (t359 < t358) = false := decide_eq_false c78
                    clear c78
                    obtain rfl := Option.some.inj H
                    have hnb91 := NB357_353.out
                    have hnc91 := NB353_357.out
                    have hnb92 := NB357_354.out
                    have hnc92 := NB354_357.out
                    have hnb93 := NB357_360.out
                    have hnc93 := NB360_357.out
                    have hnb94 := NB357_363.out
                    have hnc94 := NB363_357.out
                    obtain ⟨hcz95_0, hcz95_1, hfz95_0, hfz95_1⟩ := sqc2 BK357
                    have hnb96 := NB360_353.out
                    have hnc96 := NB353_360.out
                    have hnb97 := NB360_354.out
                    have hnc97 := NB354_360.out
                    have hnb98 := NB360_363.out
                    have hnc98 := NB363_360.out
                    obtain ⟨hcz99_0, hcz99_1, hfz99_0, hfz99_1⟩ := sqc2 BK360
                    go_wp2
                    go_ret
                    exact sqe HB
                · rw [if_neg c77] at H
                  have c77b0 : decide (t356 < t355) = false := decide_eq_false c77
                  clear c77
                  obtain rfl := Option.some.inj H
                  have hnb100 := NB357_353.out
                  have hnc100 := NB353_357.out
                  have hnb101 := NB357_354.out
                  have hnc101 := NB354_357.out
                  have hnb102 := NB357_360.out
                  have hnc102 := NB360_357.out
                  have hnb103 := NB357_363.out
                  have hnc103 := NB363_357.out
                  obtain ⟨hcz104_0, hcz104_1, hfz104_0, hfz104_1⟩ := sqc2 BK357
                  go_wp2
                  go_ret
                  exact sqe HB
              · replace c76 := Bool.eq_false_iff.mpr c76
                subst c76
                have H1 : ((impl_RangeIn.f t346 t347 t355 t356).bind fun t372 => (if t372 = true then ((impl_RangeIn.f t348 t349 t355 t356).bind fun t373 => (if t373 = true then ((impl_RangeIn.f t355 t356 t361 t362).bind fun t374 => (if t374 = true then ((impl_RangeIn.f t358 t359 t346 t347).bind fun t375 => (if t375 = true then ((impl_RangeIn.f t358 t359 t348 t349).bind fun t376 => (laws_FnRangeLattice.j2 kj54 l0 t350 (!t376) t346 t347 t348 t349 t355 t356 t358 t359 t361 t362)) else (laws_FnRangeLattice.j2 kj54 l0 t350 true t346 t347 t348 t349 t355 t356 t358 t359 t361 t362))) else (laws_FnRangeLattice.j2 kj54 l0 t350 true t346 t347 t348 t349 t355 t356 t358 t359 t361 t362))) else (laws_FnRangeLattice.j2 kj54 l0 t350 true t346 t347 t348 t349 t355 t356 t358 t359 t361 t362))) else (laws_FnRangeLattice.j2 kj54 l0 t350 true t346 t347 t348 t349 t355 t356 t358 t359 t361 t362))) = some r := by rw [if_neg (show ¬ (false = true) by decide)] at H; exact H
                clear H
                have H := H1
                clear H1
                have HC105 := Aside0.mk H
                clear H
                go_upto_region 11 with (fail)
                go_cut [104] (fun v104 wc => ∃ (kq : Nat) (x104_104 : Bool), v104 = .bool x104_104 ∧ Aside0 (laws_FnRangeLattice.j2 kq l0 t350 x104_104 t346 t347 t348 t349 t355 t356 t358 t359 t361 t362 = some r) ∧ Aside0 (kq ≤ kj54) ∧ Aside0 (Kd.R (Kd.int .i64) 3 wc w.heap.size (fun _ => True) (.slice Ao29 t350.length co29) t350) ∧ Aside0 (wc.heap[gb353]? = some (.cells #[.int .i64 t346, .int .i64 t347] 27 (0, 0))) ∧ Aside0 (wc.heap[gb354]? = some (.cells #[.int .i64 t348, .int .i64 t349] 27 (0, 0))) ∧ Aside0 (wc.heap[gb357]? = some (.cells #[.int .i64 t355, .int .i64 t356] 27 (0, 0))) ∧ Aside0 (wc.heap[gb360]? = some (.cells #[.int .i64 t358, .int .i64 t359] 27 (0, 0))) ∧ Aside0 (wc.heap[gb363]? = some (.cells #[.int .i64 t361, .int .i64 t362] 27 (0, 0))) ∧ Aside0 (Below w.heap.size w wc))
                case first =>
                  as_aux_lemma =>
                  have H := HC105.out
                  clear HC105
                  replace H := Option.bind_eq_some_iff.mp H
                  obtain ⟨t372, A1060, H⟩ := H
                  replace H : (if t372 = true then ((impl_RangeIn.f t348 t349 t355 t356).bind fun t373 => (if t373 = true then ((impl_RangeIn.f t355 t356 t361 t362).bind fun t374 => (if t374 = true then ((impl_RangeIn.f t358 t359 t346 t347).bind fun t375 => (if t375 = true then ((impl_RangeIn.f t358 t359 t348 t349).bind fun t376 => (laws_FnRangeLattice.j2 kj54 l0 t350 (!t376) t346 t347 t348 t349 t355 t356 t358 t359 t361 t362)) else (laws_FnRangeLattice.j2 kj54 l0 t350 true t346 t347 t348 t349 t355 t356 t358 t359 t361 t362))) else (laws_FnRangeLattice.j2 kj54 l0 t350 true t346 t347 t348 t349 t355 t356 t358 t359 t361 t362))) else (laws_FnRangeLattice.j2 kj54 l0 t350 true t346 t347 t348 t349 t355 t356 t358 t359 t361 t362))) else (laws_FnRangeLattice.j2 kj54 l0 t350 true t346 t347 t348 t349 t355 t356 t358 t359 t361 t362)) = some r := H
                  have A106 := Aside0.mk A1060
                  clear A1060
                  by_cases c107 : t372 = true
                  · subst c107
                    have H1 : ((impl_RangeIn.f t348 t349 t355 t356).bind fun t373 => (if t373 = true then ((impl_RangeIn.f t355 t356 t361 t362).bind fun t374 => (if t374 = true then ((impl_RangeIn.f t358 t359 t346 t347).bind fun t375 => (if t375 = true then ((impl_RangeIn.f t358 t359 t348 t349).bind fun t376 => (laws_FnRangeLattice.j2 kj54 l0 t350 (!t376) t346 t347 t348 t349 t355 t356 t358 t359 t361 t362)) else (laws_FnRangeLattice.j2 kj54 l0 t350 true t346 t347 t348 t349 t355 t356 t358 t359 t361 t362))) else (laws_FnRangeLattice.j2 kj54 l0 t350 true t346 t347 t348 t349 t355 t356 t358 t359 t361 t362))) else (laws_FnRangeLattice.j2 kj54 l0 t350 true t346 t347 t348 t349 t355 t356 t358 t359 t361 t362))) = some r := by rw [if_pos rfl] at H; exact H
                    clear H
                    have H := H1
                    clear H1
                    replace H := Option.bind_eq_some_iff.mp H
                    obtain ⟨t373, A1080, H⟩ := H
                    replace H : (if t373 = true then ((impl_RangeIn.f t355 t356 t361 t362).bind fun t374 => (if t374 = true then ((impl_RangeIn.f t358 t359 t346 t347).bind fun t375 => (if t375 = true then ((impl_RangeIn.f t358 t359 t348 t349).bind fun t376 => (laws_FnRangeLattice.j2 kj54 l0 t350 (!t376) t346 t347 t348 t349 t355 t356 t358 t359 t361 t362)) else (laws_FnRangeLattice.j2 kj54 l0 t350 true t346 t347 t348 t349 t355 t356 t358 t359 t361 t362))) else (laws_FnRangeLattice.j2 kj54 l0 t350 true t346 t347 t348 t349 t355 t356 t358 t359 t361 t362))) else (laws_FnRangeLattice.j2 kj54 l0 t350 true t346 t347 t348 t349 t355 t356 t358 t359 t361 t362)) = some r := H
                    have A108 := Aside0.mk A1080
                    clear A1080
                    by_cases c109 : t373 = true
                    · subst c109
                      have H1 : ((impl_RangeIn.f t355 t356 t361 t362).bind fun t374 => (if t374 = true then ((impl_RangeIn.f t358 t359 t346 t347).bind fun t375 => (if t375 = true then ((impl_RangeIn.f t358 t359 t348 t349).bind fun t376 => (laws_FnRangeLattice.j2 kj54 l0 t350 (!t376) t346 t347 t348 t349 t355 t356 t358 t359 t361 t362)) else (laws_FnRangeLattice.j2 kj54 l0 t350 true t346 t347 t348 t349 t355 t356 t358 t359 t361 t362))) else (laws_FnRangeLattice.j2 kj54 l0 t350 true t346 t347 t348 t349 t355 t356 t358 t359 t361 t362))) = some r := by rw [if_pos rfl] at H; exact H
                      clear H
                      have H := H1
                      clear H1
                      replace H := Option.bind_eq_some_iff.mp H
                      obtain ⟨t374, A1100, H⟩ := H
                      replace H : (if t374 = true then ((impl_RangeIn.f t358 t359 t346 t347).bind fun t375 => (if t375 = true then ((impl_RangeIn.f t358 t359 t348 t349).bind fun t376 => (laws_FnRangeLattice.j2 kj54 l0 t350 (!t376) t346 t347 t348 t349 t355 t356 t358 t359 t361 t362)) else (laws_FnRangeLattice.j2 kj54 l0 t350 true t346 t347 t348 t349 t355 t356 t358 t359 t361 t362))) else (laws_FnRangeLattice.j2 kj54 l0 t350 true t346 t347 t348 t349 t355 t356 t358 t359 t361 t362)) = some r := H
                      have A110 := Aside0.mk A1100
                      clear A1100
                      by_cases c111 : t374 = true
                      · subst c111
                        have H1 : ((impl_RangeIn.f t358 t359 t346 t347).bind fun t375 => (if t375 = true then ((impl_RangeIn.f t358 t359 t348 t349).bind fun t376 => (laws_FnRangeLattice.j2 kj54 l0 t350 (!t376) t346 t347 t348 t349 t355 t356 t358 t359 t361 t362)) else (laws_FnRangeLattice.j2 kj54 l0 t350 true t346 t347 t348 t349 t355 t356 t358 t359 t361 t362))) = some r := by rw [if_pos rfl] at H; exact H
                        clear H
                        have H := H1
                        clear H1
                        replace H := Option.bind_eq_some_iff.mp H
                        obtain ⟨t375, A1120, H⟩ := H
                        replace H : (if t375 = true then ((impl_RangeIn.f t358 t359 t348 t349).bind fun t376 => (laws_FnRangeLattice.j2 kj54 l0 t350 (!t376) t346 t347 t348 t349 t355 t356 t358 t359 t361 t362)) else (laws_FnRangeLattice.j2 kj54 l0 t350 true t346 t347 t348 t349 t355 t356 t358 t359 t361 t362)) = some r := H
                        have A112 := Aside0.mk A1120
                        clear A1120
                        by_cases c113 : t375 = true
                        · subst c113
                          have H1 : ((impl_RangeIn.f t358 t359 t348 t349).bind fun t376 => (laws_FnRangeLattice.j2 kj54 l0 t350 (!t376) t346 t347 t348 t349 t355 t356 t358 t359 t361 t362)) = some r := by rw [if_pos rfl] at H; exact H
                          clear H
                          have H := H1
                          clear H1
                          replace H := Option.bind_eq_some_iff.mp H
                          obtain ⟨t376, A1140, H⟩ := H
                          replace H : (laws_FnRangeLattice.j2 kj54 l0 t350 (!t376) t346 t347 t348 t349 t355 t356 t358 t359 t361 t362) = some r := H
                          have A114 := Aside0.mk A1140
                          clear A1140
                          have H' := Aside0.mk H
                          clear H
                          have hnb115 := NB353_354.out
                          have hnc115 := NB354_353.out
                          have hnb116 := NB353_357.out
                          have hnc116 := NB357_353.out
                          have hnb117 := NB353_360.out
                          have hnc117 := NB360_353.out
                          have hnb118 := NB353_363.out
                          have hnc118 := NB363_353.out
                          obtain ⟨hcz119_0, hcz119_1, hfz119_0, hfz119_1⟩ := sqc2 BK353
                          have hnb120 := NB357_354.out
                          have hnc120 := NB354_357.out
                          have hnb121 := NB357_360.out
                          have hnc121 := NB360_357.out
                          have hnb122 := NB357_363.out
                          have hnc122 := NB363_357.out
                          obtain ⟨hcz123_0, hcz123_1, hfz123_0, hfz123_1⟩ := sqc2 BK357
                          go_wp2_with (first | ((with_reducible refine gate_callee (f := 45) rfl ?_); refine sqL (some 79) Try.func45 #[.agg #[.int .i64 t346, .int .i64 t347], .agg #[.int .i64 t355, .int .i64 t356]] ?_; (with_reducible refine (impl_RangeIn.calls t346 t347 t355 t356 true _ A106.out).mono ?_); rintro e w124 ⟨rfl, hb⟩; refine ⟨_, rfl, ?_⟩; have n0_ := Aside0.mk (Kd.R_below (by (with_reducible repeat (first | apply Kd.R_alloc | apply Kd.R_drewN | apply Kd.R_drew)); exact HO_5.out) hb); have n1_ := sqb BK353 hb; have n2_ := sqb BK354 hb; have n3_ := sqb BK357 hb; have n4_ := sqb BK360 hb; have n5_ := sqb BK363 hb; have n6_ := sqs HB hb; clear HO_5; clear BK353; clear BK354; clear BK357; clear BK360; clear BK363; clear HB; have HO_5 := n0_; have BK353 := n1_; have BK354 := n2_; have BK357 := n3_; have BK360 := n4_; have BK363 := n5_; have HB := n6_; clear n0_ n1_ n2_ n3_ n4_ n5_ n6_; (try clear hb); have hnb125 := NB354_360.out; have hnc125 := NB360_354.out; have hnb126 := NB354_363.out; have hnc126 := NB363_354.out; obtain ⟨hcz127_0, hcz127_1, hfz127_0, hfz127_1⟩ := sqc2 BK354; obtain ⟨hcz128_0, hcz128_1, hfz128_0, hfz128_1⟩ := sqc2 BK357) | (go_at_call 45; (with_reducible refine (impl_RangeIn.calls t348 t349 t355 t356 true _ A108.out).mono ?_); rintro e w129 ⟨rfl, hb⟩; have n0_ := Aside0.mk (Kd.R_below (by (with_reducible repeat (first | apply Kd.R_alloc | apply Kd.R_drewN | apply Kd.R_drew)); exact HO_5.out) hb); have n1_ := sqb BK353 hb; have n2_ := sqb BK354 hb; have n3_ := sqb BK357 hb; have n4_ := sqb BK360 hb; have n5_ := sqb BK363 hb; have n6_ := sqs HB hb; clear HO_5; clear BK353; clear BK354; clear BK357; clear BK360; clear BK363; clear HB; have HO_5 := n0_; have BK353 := n1_; have BK354 := n2_; have BK357 := n3_; have BK360 := n4_; have BK363 := n5_; have HB := n6_; clear n0_ n1_ n2_ n3_ n4_ n5_ n6_; (try clear hb); obtain ⟨hcz130_0, hcz130_1, hfz130_0, hfz130_1⟩ := sqc2 BK357; have hnb131 := NB363_360.out; have hnc131 := NB360_363.out; obtain ⟨hcz132_0, hcz132_1, hfz132_0, hfz132_1⟩ := sqc2 BK363) | (go_at_call 45; (with_reducible refine (impl_RangeIn.calls t355 t356 t361 t362 true _ A110.out).mono ?_); rintro e w133 ⟨rfl, hb⟩; have n0_ := Aside0.mk (Kd.R_below (by (with_reducible repeat (first | apply Kd.R_alloc | apply Kd.R_drewN | apply Kd.R_drew)); exact HO_5.out) hb); have n1_ := sqb BK353 hb; have n2_ := sqb BK354 hb; have n3_ := sqb BK357 hb; have n4_ := sqb BK360 hb; have n5_ := sqb BK363 hb; have n6_ := sqs HB hb; clear HO_5; clear BK353; clear BK354; clear BK357; clear BK360; clear BK363; clear HB; have HO_5 := n0_; have BK353 := n1_; have BK354 := n2_; have BK357 := n3_; have BK360 := n4_; have BK363 := n5_; have HB := n6_; clear n0_ n1_ n2_ n3_ n4_ n5_ n6_; (try clear hb); obtain ⟨hcz134_0, hcz134_1, hfz134_0, hfz134_1⟩ := sqc2 BK360; obtain ⟨hcz135_0, hcz135_1, hfz135_0, hfz135_1⟩ := sqc2 BK353) | (go_at_call 45; (with_reducible refine (impl_RangeIn.calls t358 t359 t346 t347 true _ A112.out).mono ?_); rintro e w136 ⟨rfl, hb⟩; have n0_ := Aside0.mk (Kd.R_below (by (with_reducible repeat (first | apply Kd.R_alloc | apply Kd.R_drewN | apply Kd.R_drew)); exact HO_5.out) hb); have n1_ := sqb BK353 hb; have n2_ := sqb BK354 hb; have n3_ := sqb BK357 hb; have n4_ := sqb BK360 hb; have n5_ := sqb BK363 hb; have n6_ := sqs HB hb; clear HO_5; clear BK353; clear BK354; clear BK357; clear BK360; clear BK363; clear HB; have HO_5 := n0_; have BK353 := n1_; have BK354 := n2_; have BK357 := n3_; have BK360 := n4_; have BK363 := n5_; have HB := n6_; clear n0_ n1_ n2_ n3_ n4_ n5_ n6_; (try clear hb); obtain ⟨hcz137_0, hcz137_1, hfz137_0, hfz137_1⟩ := sqc2 BK360; obtain ⟨hcz138_0, hcz138_1, hfz138_0, hfz138_1⟩ := sqc2 BK354) | (go_at_call 45; (with_reducible refine (impl_RangeIn.calls t358 t359 t348 t349 t376 _ A114.out).mono ?_); rintro e w139 ⟨rfl, hb⟩; have n0_ := Aside0.mk (Kd.R_below (by (with_reducible repeat (first | apply Kd.R_alloc | apply Kd.R_drewN | apply Kd.R_drew)); exact HO_5.out) hb); have n1_ := sqb BK353 hb; have n2_ := sqb BK354 hb; have n3_ := sqb BK357 hb; have n4_ := sqb BK360 hb; have n5_ := sqb BK363 hb; have n6_ := sqs HB hb; clear HO_5; clear BK353; clear BK354; clear BK357; clear BK360; clear BK363; clear HB; have HO_5 := n0_; have BK353 := n1_; have BK354 := n2_; have BK357 := n3_; have BK360 := n4_; have BK363 := n5_; have HB := n6_; clear n0_ n1_ n2_ n3_ n4_ n5_ n6_; (try clear hb)))
                          go_meet
                          case rel => exact ⟨_, (!t376), (by first | rfl | (simp; done) | (simp [*]; done)), H', ⟨by have := HJ6.out; have := HJ54.out; first | omega | exact Nat.le_refl _⟩, ⟨by (with_reducible repeat (first | apply Kd.R_alloc | apply Kd.R_drewN | apply Kd.R_drew)); exact HO_5.out⟩, sqk BK353, sqk BK354, sqk BK357, sqk BK360, sqk BK363, sqh HB⟩
                        · replace c113 := Bool.eq_false_iff.mpr c113
                          subst c113
                          have H1 : (laws_FnRangeLattice.j2 kj54 l0 t350 true t346 t347 t348 t349 t355 t356 t358 t359 t361 t362) = some r := by rw [if_neg (show ¬ (false = true) by decide)] at H; exact H
                          clear H
                          have H := H1
                          clear H1
                          have H' := Aside0.mk H
                          clear H
                          have hnb140 := NB353_354.out
                          have hnc140 := NB354_353.out
                          have hnb141 := NB353_357.out
                          have hnc141 := NB357_353.out
                          have hnb142 := NB353_360.out
                          have hnc142 := NB360_353.out
                          have hnb143 := NB353_363.out
                          have hnc143 := NB363_353.out
                          obtain ⟨hcz144_0, hcz144_1, hfz144_0, hfz144_1⟩ := sqc2 BK353
                          have hnb145 := NB357_354.out
                          have hnc145 := NB354_357.out
                          have hnb146 := NB357_360.out
                          have hnc146 := NB360_357.out
                          have hnb147 := NB357_363.out
                          have hnc147 := NB363_357.out
                          obtain ⟨hcz148_0, hcz148_1, hfz148_0, hfz148_1⟩ := sqc2 BK357
                          go_wp2_with (first | ((with_reducible refine gate_callee (f := 45) rfl ?_); refine sqL (some 79) Try.func45 #[.agg #[.int .i64 t346, .int .i64 t347], .agg #[.int .i64 t355, .int .i64 t356]] ?_; (with_reducible refine (impl_RangeIn.calls t346 t347 t355 t356 true _ A106.out).mono ?_); rintro e w149 ⟨rfl, hb⟩; refine ⟨_, rfl, ?_⟩; have n0_ := Aside0.mk (Kd.R_below (by (with_reducible repeat (first | apply Kd.R_alloc | apply Kd.R_drewN | apply Kd.R_drew)); exact HO_5.out) hb); have n1_ := sqb BK353 hb; have n2_ := sqb BK354 hb; have n3_ := sqb BK357 hb; have n4_ := sqb BK360 hb; have n5_ := sqb BK363 hb; have n6_ := sqs HB hb; clear HO_5; clear BK353; clear BK354; clear BK357; clear BK360; clear BK363; clear HB; have HO_5 := n0_; have BK353 := n1_; have BK354 := n2_; have BK357 := n3_; have BK360 := n4_; have BK363 := n5_; have HB := n6_; clear n0_ n1_ n2_ n3_ n4_ n5_ n6_; (try clear hb); have hnb150 := NB354_360.out; have hnc150 := NB360_354.out; have hnb151 := NB354_363.out; have hnc151 := NB363_354.out; obtain ⟨hcz152_0, hcz152_1, hfz152_0, hfz152_1⟩ := sqc2 BK354; obtain ⟨hcz153_0, hcz153_1, hfz153_0, hfz153_1⟩ := sqc2 BK357) | (go_at_call 45; (with_reducible refine (impl_RangeIn.calls t348 t349 t355 t356 true _ A108.out).mono ?_); rintro e w154 ⟨rfl, hb⟩; have n0_ := Aside0.mk (Kd.R_below (by (with_reducible repeat (first | apply Kd.R_alloc | apply Kd.R_drewN | apply Kd.R_drew)); exact HO_5.out) hb); have n1_ := sqb BK353 hb; have n2_ := sqb BK354 hb; have n3_ := sqb BK357 hb; have n4_ := sqb BK360 hb; have n5_ := sqb BK363 hb; have n6_ := sqs HB hb; clear HO_5; clear BK353; clear BK354; clear BK357; clear BK360; clear BK363; clear HB; have HO_5 := n0_; have BK353 := n1_; have BK354 := n2_; have BK357 := n3_; have BK360 := n4_; have BK363 := n5_; have HB := n6_; clear n0_ n1_ n2_ n3_ n4_ n5_ n6_; (try clear hb); obtain ⟨hcz155_0, hcz155_1, hfz155_0, hfz155_1⟩ := sqc2 BK357; have hnb156 := NB363_360.out; have hnc156 := NB360_363.out; obtain ⟨hcz157_0, hcz157_1, hfz157_0, hfz157_1⟩ := sqc2 BK363) | (go_at_call 45; (with_reducible refine (impl_RangeIn.calls t355 t356 t361 t362 true _ A110.out).mono ?_); rintro e w158 ⟨rfl, hb⟩; have n0_ := Aside0.mk (Kd.R_below (by (with_reducible repeat (first | apply Kd.R_alloc | apply Kd.R_drewN | apply Kd.R_drew)); exact HO_5.out) hb); have n1_ := sqb BK353 hb; have n2_ := sqb BK354 hb; have n3_ := sqb BK357 hb; have n4_ := sqb BK360 hb; have n5_ := sqb BK363 hb; have n6_ := sqs HB hb; clear HO_5; clear BK353; clear BK354; clear BK357; clear BK360; clear BK363; clear HB; have HO_5 := n0_; have BK353 := n1_; have BK354 := n2_; have BK357 := n3_; have BK360 := n4_; have BK363 := n5_; have HB := n6_; clear n0_ n1_ n2_ n3_ n4_ n5_ n6_; (try clear hb); obtain ⟨hcz159_0, hcz159_1, hfz159_0, hfz159_1⟩ := sqc2 BK360; obtain ⟨hcz160_0, hcz160_1, hfz160_0, hfz160_1⟩ := sqc2 BK353) | (go_at_call 45; (with_reducible refine (impl_RangeIn.calls t358 t359 t346 t347 false _ A112.out).mono ?_); rintro e w161 ⟨rfl, hb⟩; have n0_ := Aside0.mk (Kd.R_below (by (with_reducible repeat (first | apply Kd.R_alloc | apply Kd.R_drewN | apply Kd.R_drew)); exact HO_5.out) hb); have n1_ := sqb BK353 hb; have n2_ := sqb BK354 hb; have n3_ := sqb BK357 hb; have n4_ := sqb BK360 hb; have n5_ := sqb BK363 hb; have n6_ := sqs HB hb; clear HO_5; clear BK353; clear BK354; clear BK357; clear BK360; clear BK363; clear HB; have HO_5 := n0_; have BK353 := n1_; have BK354 := n2_; have BK357 := n3_; have BK360 := n4_; have BK363 := n5_; have HB := n6_; clear n0_ n1_ n2_ n3_ n4_ n5_ n6_; (try clear hb)))
                          go_meet
                          case rel => exact ⟨_, (true), (by first | rfl | (simp; done) | (simp [*]; done)), H', ⟨by have := HJ6.out; have := HJ54.out; first | omega | exact Nat.le_refl _⟩, ⟨by (with_reducible repeat (first | apply Kd.R_alloc | apply Kd.R_drewN | apply Kd.R_drew)); exact HO_5.out⟩, sqk BK353, sqk BK354, sqk BK357, sqk BK360, sqk BK363, sqh HB⟩
                      · replace c111 := Bool.eq_false_iff.mpr c111
                        subst c111
                        have H1 : (laws_FnRangeLattice.j2 kj54 l0 t350 true t346 t347 t348 t349 t355 t356 t358 t359 t361 t362) = some r := by rw [if_neg (show ¬ (false = true) by decide)] at H; exact H
                        clear H
                        have H := H1
                        clear H1
                        have H' := Aside0.mk H
                        clear H
                        have hnb162 := NB353_354.out
                        have hnc162 := NB354_353.out
                        have hnb163 := NB353_357.out
                        have hnc163 := NB357_353.out
                        have hnb164 := NB353_360.out
                        have hnc164 := NB360_353.out
                        have hnb165 := NB353_363.out
                        have hnc165 := NB363_353.out
                        obtain ⟨hcz166_0, hcz166_1, hfz166_0, hfz166_1⟩ := sqc2 BK353
                        have hnb167 := NB357_354.out
                        have hnc167 := NB354_357.out
                        have hnb168 := NB357_360.out
                        have hnc168 := NB360_357.out
                        have hnb169 := NB357_363.out
                        have hnc169 := NB363_357.out
                        obtain ⟨hcz170_0, hcz170_1, hfz170_0, hfz170_1⟩ := sqc2 BK357
                        go_wp2_with (first | ((with_reducible refine gate_callee (f := 45) rfl ?_); refine sqL (some 79) Try.func45 #[.agg #[.int .i64 t346, .int .i64 t347], .agg #[.int .i64 t355, .int .i64 t356]] ?_; (with_reducible refine (impl_RangeIn.calls t346 t347 t355 t356 true _ A106.out).mono ?_); rintro e w171 ⟨rfl, hb⟩; refine ⟨_, rfl, ?_⟩; have n0_ := Aside0.mk (Kd.R_below (by (with_reducible repeat (first | apply Kd.R_alloc | apply Kd.R_drewN | apply Kd.R_drew)); exact HO_5.out) hb); have n1_ := sqb BK353 hb; have n2_ := sqb BK354 hb; have n3_ := sqb BK357 hb; have n4_ := sqb BK360 hb; have n5_ := sqb BK363 hb; have n6_ := sqs HB hb; clear HO_5; clear BK353; clear BK354; clear BK357; clear BK360; clear BK363; clear HB; have HO_5 := n0_; have BK353 := n1_; have BK354 := n2_; have BK357 := n3_; have BK360 := n4_; have BK363 := n5_; have HB := n6_; clear n0_ n1_ n2_ n3_ n4_ n5_ n6_; (try clear hb); have hnb172 := NB354_360.out; have hnc172 := NB360_354.out; have hnb173 := NB354_363.out; have hnc173 := NB363_354.out; obtain ⟨hcz174_0, hcz174_1, hfz174_0, hfz174_1⟩ := sqc2 BK354; obtain ⟨hcz175_0, hcz175_1, hfz175_0, hfz175_1⟩ := sqc2 BK357) | (go_at_call 45; (with_reducible refine (impl_RangeIn.calls t348 t349 t355 t356 true _ A108.out).mono ?_); rintro e w176 ⟨rfl, hb⟩; have n0_ := Aside0.mk (Kd.R_below (by (with_reducible repeat (first | apply Kd.R_alloc | apply Kd.R_drewN | apply Kd.R_drew)); exact HO_5.out) hb); have n1_ := sqb BK353 hb; have n2_ := sqb BK354 hb; have n3_ := sqb BK357 hb; have n4_ := sqb BK360 hb; have n5_ := sqb BK363 hb; have n6_ := sqs HB hb; clear HO_5; clear BK353; clear BK354; clear BK357; clear BK360; clear BK363; clear HB; have HO_5 := n0_; have BK353 := n1_; have BK354 := n2_; have BK357 := n3_; have BK360 := n4_; have BK363 := n5_; have HB := n6_; clear n0_ n1_ n2_ n3_ n4_ n5_ n6_; (try clear hb); obtain ⟨hcz177_0, hcz177_1, hfz177_0, hfz177_1⟩ := sqc2 BK357; have hnb178 := NB363_360.out; have hnc178 := NB360_363.out; obtain ⟨hcz179_0, hcz179_1, hfz179_0, hfz179_1⟩ := sqc2 BK363) | (go_at_call 45; (with_reducible refine (impl_RangeIn.calls t355 t356 t361 t362 false _ A110.out).mono ?_); rintro e w180 ⟨rfl, hb⟩; have n0_ := Aside0.mk (Kd.R_below (by (with_reducible repeat (first | apply Kd.R_alloc | apply Kd.R_drewN | apply Kd.R_drew)); exact HO_5.out) hb); have n1_ := sqb BK353 hb; have n2_ := sqb BK354 hb; have n3_ := sqb BK357 hb; have n4_ := sqb BK360 hb; have n5_ := sqb BK363 hb; have n6_ := sqs HB hb; clear HO_5; clear BK353; clear BK354; clear BK357; clear BK360; clear BK363; clear HB; have HO_5 := n0_; have BK353 := n1_; have BK354 := n2_; have BK357 := n3_; have BK360 := n4_; have BK363 := n5_; have HB := n6_; clear n0_ n1_ n2_ n3_ n4_ n5_ n6_; (try clear hb)))
                        go_meet
                        case rel => exact ⟨_, (true), (by first | rfl | (simp; done) | (simp [*]; done)), H', ⟨by have := HJ6.out; have := HJ54.out; first | omega | exact Nat.le_refl _⟩, ⟨by (with_reducible repeat (first | apply Kd.R_alloc | apply Kd.R_drewN | apply Kd.R_drew)); exact HO_5.out⟩, sqk BK353, sqk BK354, sqk BK357, sqk BK360, sqk BK363, sqh HB⟩
                    · replace c109 := Bool.eq_false_iff.mpr c109
                      subst c109
                      have H1 : (laws_FnRangeLattice.j2 kj54 l0 t350 true t346 t347 t348 t349 t355 t356 t358 t359 t361 t362) = some r := by rw [if_neg (show ¬ (false = true) by decide)] at H; exact H
                      clear H
                      have H := H1
                      clear H1
                      have H' := Aside0.mk H
                      clear H
                      have hnb181 := NB353_354.out
                      have hnc181 := NB354_353.out
                      have hnb182 := NB353_357.out
                      have hnc182 := NB357_353.out
                      have hnb183 := NB353_360.out
                      have hnc183 := NB360_353.out
                      have hnb184 := NB353_363.out
                      have hnc184 := NB363_353.out
                      obtain ⟨hcz185_0, hcz185_1, hfz185_0, hfz185_1⟩ := sqc2 BK353
                      have hnb186 := NB357_354.out
                      have hnc186 := NB354_357.out
                      have hnb187 := NB357_360.out
                      have hnc187 := NB360_357.out
                      have hnb188 := NB357_363.out
                      have hnc188 := NB363_357.out
                      obtain ⟨hcz189_0, hcz189_1, hfz189_0, hfz189_1⟩ := sqc2 BK357
                      go_wp2_with (first | ((with_reducible refine gate_callee (f := 45) rfl ?_); refine sqL (some 79) Try.func45 #[.agg #[.int .i64 t346, .int .i64 t347], .agg #[.int .i64 t355, .int .i64 t356]] ?_; (with_reducible refine (impl_RangeIn.calls t346 t347 t355 t356 true _ A106.out).mono ?_); rintro e w190 ⟨rfl, hb⟩; refine ⟨_, rfl, ?_⟩; have n0_ := Aside0.mk (Kd.R_below (by (with_reducible repeat (first | apply Kd.R_alloc | apply Kd.R_drewN | apply Kd.R_drew)); exact HO_5.out) hb); have n1_ := sqb BK353 hb; have n2_ := sqb BK354 hb; have n3_ := sqb BK357 hb; have n4_ := sqb BK360 hb; have n5_ := sqb BK363 hb; have n6_ := sqs HB hb; clear HO_5; clear BK353; clear BK354; clear BK357; clear BK360; clear BK363; clear HB; have HO_5 := n0_; have BK353 := n1_; have BK354 := n2_; have BK357 := n3_; have BK360 := n4_; have BK363 := n5_; have HB := n6_; clear n0_ n1_ n2_ n3_ n4_ n5_ n6_; (try clear hb); have hnb191 := NB354_360.out; have hnc191 := NB360_354.out; have hnb192 := NB354_363.out; have hnc192 := NB363_354.out; obtain ⟨hcz193_0, hcz193_1, hfz193_0, hfz193_1⟩ := sqc2 BK354; obtain ⟨hcz194_0, hcz194_1, hfz194_0, hfz194_1⟩ := sqc2 BK357) | (go_at_call 45; (with_reducible refine (impl_RangeIn.calls t348 t349 t355 t356 false _ A108.out).mono ?_); rintro e w195 ⟨rfl, hb⟩; have n0_ := Aside0.mk (Kd.R_below (by (with_reducible repeat (first | apply Kd.R_alloc | apply Kd.R_drewN | apply Kd.R_drew)); exact HO_5.out) hb); have n1_ := sqb BK353 hb; have n2_ := sqb BK354 hb; have n3_ := sqb BK357 hb; have n4_ := sqb BK360 hb; have n5_ := sqb BK363 hb; have n6_ := sqs HB hb; clear HO_5; clear BK353; clear BK354; clear BK357; clear BK360; clear BK363; clear HB; have HO_5 := n0_; have BK353 := n1_; have BK354 := n2_; have BK357 := n3_; have BK360 := n4_; have BK363 := n5_; have HB := n6_; clear n0_ n1_ n2_ n3_ n4_ n5_ n6_; (try clear hb)))
                      go_meet
                      case rel => exact ⟨_, (true), (by first | rfl | (simp; done) | (simp [*]; done)), H', ⟨by have := HJ6.out; have := HJ54.out; first | omega | exact Nat.le_refl _⟩, ⟨by (with_reducible repeat (first | apply Kd.R_alloc | apply Kd.R_drewN | apply Kd.R_drew)); exact HO_5.out⟩, sqk BK353, sqk BK354, sqk BK357, sqk BK360, sqk BK363, sqh HB⟩
                  · replace c107 := Bool.eq_false_iff.mpr c107
                    subst c107
                    have H1 : (laws_FnRangeLattice.j2 kj54 l0 t350 true t346 t347 t348 t349 t355 t356 t358 t359 t361 t362) = some r := by rw [if_neg (show ¬ (false = true) by decide)] at H; exact H
                    clear H
                    have H := H1
                    clear H1
                    have H' := Aside0.mk H
                    clear H
                    have hnb196 := NB353_354.out
                    have hnc196 := NB354_353.out
                    have hnb197 := NB353_357.out
                    have hnc197 := NB357_353.out
                    have hnb198 := NB353_360.out
                    have hnc198 := NB360_353.out
                    have hnb199 := NB353_363.out
                    have hnc199 := NB363_353.out
                    obtain ⟨hcz200_0, hcz200_1, hfz200_0, hfz200_1⟩ := sqc2 BK353
                    have hnb201 := NB357_354.out
                    have hnc201 := NB354_357.out
                    have hnb202 := NB357_360.out
                    have hnc202 := NB360_357.out
                    have hnb203 := NB357_363.out
                    have hnc203 := NB363_357.out
                    obtain ⟨hcz204_0, hcz204_1, hfz204_0, hfz204_1⟩ := sqc2 BK357
                    go_wp2_with (first | ((with_reducible refine gate_callee (f := 45) rfl ?_); refine sqL (some 79) Try.func45 #[.agg #[.int .i64 t346, .int .i64 t347], .agg #[.int .i64 t355, .int .i64 t356]] ?_; (with_reducible refine (impl_RangeIn.calls t346 t347 t355 t356 false _ A106.out).mono ?_); rintro e w205 ⟨rfl, hb⟩; refine ⟨_, rfl, ?_⟩; have n0_ := Aside0.mk (Kd.R_below (by (with_reducible repeat (first | apply Kd.R_alloc | apply Kd.R_drewN | apply Kd.R_drew)); exact HO_5.out) hb); have n1_ := sqb BK353 hb; have n2_ := sqb BK354 hb; have n3_ := sqb BK357 hb; have n4_ := sqb BK360 hb; have n5_ := sqb BK363 hb; have n6_ := sqs HB hb; clear HO_5; clear BK353; clear BK354; clear BK357; clear BK360; clear BK363; clear HB; have HO_5 := n0_; have BK353 := n1_; have BK354 := n2_; have BK357 := n3_; have BK360 := n4_; have BK363 := n5_; have HB := n6_; clear n0_ n1_ n2_ n3_ n4_ n5_ n6_; (try clear hb)))
                    go_meet
                    case rel => exact ⟨_, (true), (by first | rfl | (simp; done) | (simp [*]; done)), H', ⟨by have := HJ6.out; have := HJ54.out; first | omega | exact Nat.le_refl _⟩, ⟨by (with_reducible repeat (first | apply Kd.R_alloc | apply Kd.R_drewN | apply Kd.R_drew)); exact HO_5.out⟩, sqk BK353, sqk BK354, sqk BK357, sqk BK360, sqk BK363, sqh HB⟩
                case rest =>
                  as_aux_lemma =>
                  clear HC105
                  try clear c2
                  try clear c38
                  try clear c38b0
                  try clear c43
                  try clear c43b0
                  try clear c54
                  try clear c57
                  try clear c76
                  try clear c77
                  try clear c77b0
                  try clear c78
                  try clear c78b0
                  try clear hcz104_0
                  try clear hcz104_1
                  try clear hcz63_0
                  try clear hcz63_1
                  try clear hcz68_0
                  try clear hcz68_1
                  try clear hcz74_0
                  try clear hcz74_1
                  try clear hcz83_0
                  try clear hcz83_1
                  try clear hcz87_0
                  try clear hcz87_1
                  try clear hcz90_0
                  try clear hcz90_1
                  try clear hcz95_0
                  try clear hcz95_1
                  try clear hcz99_0
                  try clear hcz99_1
                  try clear hfz104_0
                  try clear hfz104_1
                  try clear hfz63_0
                  try clear hfz63_1
                  try clear hfz68_0
                  try clear hfz68_1
                  try clear hfz74_0
                  try clear hfz74_1
                  try clear hfz83_0
                  try clear hfz83_1
                  try clear hfz87_0
                  try clear hfz87_1
                  try clear hfz90_0
                  try clear hfz90_1
                  try clear hfz95_0
                  try clear hfz95_1
                  try clear hfz99_0
                  try clear hfz99_1
                  obtain ⟨kq, x104_104, rfl, HA, HJ104, HO_5, BK353, BK354, BK357, BK360, BK363, HB⟩ := hcut
                  cases kq with
                  | zero => exact absurd HA.out (by simp [laws_FnRangeLattice.j2])
                  | succ kj104 =>
                    have H := HA.out
                    clear HA
                    simp only [laws_FnRangeLattice.j2] at H
                    by_cases c206 : x104_104 = true
                    · subst c206
                      have H1 : (some false) = some r := by rw [if_pos rfl] at H; exact H
                      clear H
                      have H := H1
                      clear H1
                      obtain rfl := Option.some.inj H
                      go_wp2
                      go_ret
                      exact sqe HB
                    · replace c206 := Bool.eq_false_iff.mpr c206
                      subst c206
                      have H1 : (laws_FnRangeLattice.l0 kj104 l0 t350 0 t346 t347 t348 t349 t355 t356 t358 t359 t361 t362) = some r := by rw [if_neg (show ¬ (false = true) by decide)] at H; exact H
                      clear H
                      have H := H1
                      clear H1
                      have H' := Aside0.mk H
                      clear H
                      go_wp2
                      go_loopg [9] kj104 (fun kq v9 w' => ∃ (x9_4 : Int), v9 = .int .i64 x9_4 ∧ Aside0 (laws_FnRangeLattice.l0 kq l0 t350 x9_4 t346 t347 t348 t349 t355 t356 t358 t359 t361 t362 = some r) ∧ Aside0 (kq ≤ kj104) ∧ Aside0 (Kd.R (Kd.int .i64) 3 w' w.heap.size (fun _ => True) (.slice Ao29 t350.length co29) t350) ∧ Aside0 (w'.heap[gb353]? = some (.cells #[.int .i64 t346, .int .i64 t347] 27 (0, 0))) ∧ Aside0 (w'.heap[gb354]? = some (.cells #[.int .i64 t348, .int .i64 t349] 27 (0, 0))) ∧ Aside0 (w'.heap[gb357]? = some (.cells #[.int .i64 t355, .int .i64 t356] 27 (0, 0))) ∧ Aside0 (w'.heap[gb360]? = some (.cells #[.int .i64 t358, .int .i64 t359] 27 (0, 0))) ∧ Aside0 (w'.heap[gb363]? = some (.cells #[.int .i64 t361, .int .i64 t362] 27 (0, 0))) ∧ Aside0 (Below w.heap.size w w'))
                      case atStart => exact ⟨(0), (by first | rfl | (simp; done) | (simp [*]; done)), H', ⟨Nat.le_refl _⟩, ⟨by (with_reducible repeat (first | apply Kd.R_alloc | apply Kd.R_drewN | apply Kd.R_drew)); exact HO_5.out⟩, sqk BK353, sqk BK354, sqk BK357, sqk BK360, sqk BK363, sqh HB⟩
                      case round =>
                        clear H'
                        try clear c1
                        try clear c2
                        try clear p2
                        try clear c3
                        try clear c4
                        try clear c5
                        try clear c6
                        try clear c7
                        try clear c8
                        try clear c9
                        try clear c10
                        try clear c11
                        try clear c12
                        try clear c13
                        try clear c14
                        try clear c15
                        try clear c16
                        try clear c17
                        try clear c18
                        try clear c19
                        try clear c20
                        try clear c38
                        try clear c38b0
                        try clear c40
                        try clear c43
                        try clear c43b0
                        try clear c44
                        try clear c45
                        try clear c48
                        try clear c49
                        try clear c54
                        try clear c57
                        try clear c59
                        try clear c60
                        try clear c61
                        try clear c62
                        try clear c65
                        try clear c66
                        try clear c67
                        try clear c70
                        try clear c71
                        try clear c72
                        try clear c73
                        try clear c76
                        try clear c77
                        try clear c77b0
                        try clear c78
                        try clear c78b0
                        try clear c79
                        try clear c80
                        try clear c81
                        try clear c82
                        try clear c84
                        try clear c85
                        try clear c86
                        try clear c88
                        try clear c89
                        try clear c91
                        try clear c92
                        try clear c93
                        try clear c94
                        try clear c96
                        try clear c97
                        try clear c98
                        try clear c100
                        try clear c101
                        try clear c102
                        try clear c103
                        try clear c107
                        try clear c109
                        try clear c111
                        try clear c113
                        try clear c115
                        try clear c116
                        try clear c117
                        try clear c118
                        try clear c120
                        try clear c121
                        try clear c122
                        try clear c125
                        try clear c126
                        try clear c131
                        try clear c140
                        try clear c141
                        try clear c142
                        try clear c143
                        try clear c145
                        try clear c146
                        try clear c147
                        try clear c150
                        try clear c151
                        try clear c156
                        try clear c162
                        try clear c163
                        try clear c164
                        try clear c165
                        try clear c167
                        try clear c168
                        try clear c169
                        try clear c172
                        try clear c173
                        try clear c178
                        try clear c181
                        try clear c182
                        try clear c183
                        try clear c184
                        try clear c186
                        try clear c187
                        try clear c188
                        try clear c191
                        try clear c192
                        try clear c196
                        try clear c197
                        try clear c198
                        try clear c199
                        try clear c201
                        try clear c202
                        try clear c203
                        try clear c206
                        try clear hcz104_0
                        try clear hcz104_1
                        try clear hcz119_0
                        try clear hcz119_1
                        try clear hcz123_0
                        try clear hcz123_1
                        try clear hcz127_0
                        try clear hcz127_1
                        try clear hcz128_0
                        try clear hcz128_1
                        try clear hcz130_0
                        try clear hcz130_1
                        try clear hcz132_0
                        try clear hcz132_1
                        try clear hcz134_0
                        try clear hcz134_1
                        try clear hcz135_0
                        try clear hcz135_1
                        try clear hcz137_0
                        try clear hcz137_1
                        try clear hcz138_0
                        try clear hcz138_1
                        try clear hcz144_0
                        try clear hcz144_1
                        try clear hcz148_0
                        try clear hcz148_1
                        try clear hcz152_0
                        try clear hcz152_1
                        try clear hcz153_0
                        try clear hcz153_1
                        try clear hcz155_0
                        try clear hcz155_1
                        try clear hcz157_0
                        try clear hcz157_1
                        try clear hcz159_0
                        try clear hcz159_1
                        try clear hcz160_0
                        try clear hcz160_1
                        try clear hcz166_0
                        try clear hcz166_1
                        try clear hcz170_0
                        try clear hcz170_1
                        try clear hcz174_0
                        try clear hcz174_1
                        try clear hcz175_0
                        try clear hcz175_1
                        try clear hcz177_0
                        try clear hcz177_1
                        try clear hcz179_0
                        try clear hcz179_1
                        try clear hcz185_0
                        try clear hcz185_1
                        try clear hcz189_0
                        try clear hcz189_1
                        try clear hcz193_0
                        try clear hcz193_1
                        try clear hcz194_0
                        try clear hcz194_1
                        try clear hcz200_0
                        try clear hcz200_1
                        try clear hcz204_0
                        try clear hcz204_1
                        try clear hcz63_0
                        try clear hcz63_1
                        try clear hcz68_0
                        try clear hcz68_1
                        try clear hcz74_0
                        try clear hcz74_1
                        try clear hcz83_0
                        try clear hcz83_1
                        try clear hcz87_0
                        try clear hcz87_1
                        try clear hcz90_0
                        try clear hcz90_1
                        try clear hcz95_0
                        try clear hcz95_1
                        try clear hcz99_0
                        try clear hcz99_1
                        try clear hfz104_0
                        try clear hfz104_1
                        try clear hfz119_0
                        try clear hfz119_1
                        try clear hfz123_0
                        try clear hfz123_1
                        try clear hfz127_0
                        try clear hfz127_1
                        try clear hfz128_0
                        try clear hfz128_1
                        try clear hfz130_0
                        try clear hfz130_1
                        try clear hfz132_0
                        try clear hfz132_1
                        try clear hfz134_0
                        try clear hfz134_1
                        try clear hfz135_0
                        try clear hfz135_1
                        try clear hfz137_0
                        try clear hfz137_1
                        try clear hfz138_0
                        try clear hfz138_1
                        try clear hfz144_0
                        try clear hfz144_1
                        try clear hfz148_0
                        try clear hfz148_1
                        try clear hfz152_0
                        try clear hfz152_1
                        try clear hfz153_0
                        try clear hfz153_1
                        try clear hfz155_0
                        try clear hfz155_1
                        try clear hfz157_0
                        try clear hfz157_1
                        try clear hfz159_0
                        try clear hfz159_1
                        try clear hfz160_0
                        try clear hfz160_1
                        try clear hfz166_0
                        try clear hfz166_1
                        try clear hfz170_0
                        try clear hfz170_1
                        try clear hfz174_0
                        try clear hfz174_1
                        try clear hfz175_0
                        try clear hfz175_1
                        try clear hfz177_0
                        try clear hfz177_1
                        try clear hfz179_0
                        try clear hfz179_1
                        try clear hfz185_0
                        try clear hfz185_1
                        try clear hfz189_0
                        try clear hfz189_1
                        try clear hfz193_0
                        try clear hfz193_1
                        try clear hfz194_0
                        try clear hfz194_1
                        try clear hfz200_0
                        try clear hfz200_1
                        try clear hfz204_0
                        try clear hfz204_1
                        try clear hfz63_0
                        try clear hfz63_1
                        try clear hfz68_0
                        try clear hfz68_1
                        try clear hfz74_0
                        try clear hfz74_1
                        try clear hfz83_0
                        try clear hfz83_1
                        try clear hfz87_0
                        try clear hfz87_1
                        try clear hfz90_0
                        try clear hfz90_1
                        try clear hfz95_0
                        try clear hfz95_1
                        try clear hfz99_0
                        try clear hfz99_1
                        try clear p2
                        obtain ⟨x9_4, rfl, HA, HK4, HO_5, BK353, BK354, BK357, BK360, BK363, HB⟩ := hrel
                        cases gk with
                        | zero => exact absurd HA.out (by simp [laws_FnRangeLattice.l0])
                        | succ k4 =>
                          have H := HA.out
                          clear HA
                          simp only [laws_FnRangeLattice.l0] at H
                          by_cases c207 : x9_4 < 6
                          · rw [if_pos c207] at H
                            have c207b0 : decide (x9_4 < 6) = true := decide_eq_true c207
                            clear c207
                            replace H := Option.bind_eq_some_iff.mp H
                            obtain ⟨t377, A2080, H⟩ := H
                            replace H : ((impl_RangeHas.f t358 t359 t377).bind fun t378 => ((spec_RangeHas.f t346 t347 t377).bind fun t379 => (if t379 = true then ((spec_RangeHas.f t348 t349 t377).bind fun t380 => (if (t378 != t380) = true then (some false) else (laws_FnRangeLattice.l0 k4 l0 t350 (wrap64 (x9_4 + 1)) t346 t347 t348 t349 t355 t356 t358 t359 t361 t362))) else (if (t378 != false) = true then (some false) else (laws_FnRangeLattice.l0 k4 l0 t350 (wrap64 (x9_4 + 1)) t346 t347 t348 t349 t355 t356 t358 t359 t361 t362))))) = some r := H
                            have A208 := Aside0.mk A2080
                            clear A2080
                            replace H := Option.bind_eq_some_iff.mp H
                            obtain ⟨t378, A2090, H⟩ := H
                            replace H : ((spec_RangeHas.f t346 t347 t377).bind fun t379 => (if t379 = true then ((spec_RangeHas.f t348 t349 t377).bind fun t380 => (if (t378 != t380) = true then (some false) else (laws_FnRangeLattice.l0 k4 l0 t350 (wrap64 (x9_4 + 1)) t346 t347 t348 t349 t355 t356 t358 t359 t361 t362))) else (if (t378 != false) = true then (some false) else (laws_FnRangeLattice.l0 k4 l0 t350 (wrap64 (x9_4 + 1)) t346 t347 t348 t349 t355 t356 t358 t359 t361 t362)))) = some r := H
                            have A209 := Aside0.mk A2090
                            clear A2090
                            replace H := Option.bind_eq_some_iff.mp H
                            obtain ⟨t379, A2100, H⟩ := H
                            replace H : (if t379 = true then ((spec_RangeHas.f t348 t349 t377).bind fun t380 => (if (t378 != t380) = true then (some false) else (laws_FnRangeLattice.l0 k4 l0 t350 (wrap64 (x9_4 + 1)) t346 t347 t348 t349 t355 t356 t358 t359 t361 t362))) else (if (t378 != false) = true then (some false) else (laws_FnRangeLattice.l0 k4 l0 t350 (wrap64 (x9_4 + 1)) t346 t347 t348 t349 t355 t356 t358 t359 t361 t362))) = some r := H
                            have A210 := Aside0.mk A2100
                            clear A2100
                            by_cases c211 : t379 = true
                            · subst c211
                              have H1 : ((spec_RangeHas.f t348 t349 t377).bind fun t380 => (if (t378 != t380) = true then (some false) else (laws_FnRangeLattice.l0 k4 l0 t350 (wrap64 (x9_4 + 1)) t346 t347 t348 t349 t355 t356 t358 t359 t361 t362))) = some r := by rw [if_pos rfl] at H; exact H
                              clear H
                              have H := H1
                              clear H1
                              replace H := Option.bind_eq_some_iff.mp H
                              obtain ⟨t380, A2120, H⟩ := H
                              replace H : (if (t378 != t380) = true then (some false) else (laws_FnRangeLattice.l0 k4 l0 t350 (wrap64 (x9_4 + 1)) t346 t347 t348 t349 t355 t356 t358 t359 t361 t362)) = some r := H
                              have A212 := Aside0.mk A2120
                              clear A2120
                              by_cases c213 : (t378 != t380) = true
                              · rw [if_pos c213] at H
                                have c213b0 : (t378 != t380) = true := c213
                                (try (have c213b1 : decide (t378 = t380) = false := by simpa using c213))
                                (try (have c213b2 : (t378 == t380) = false := by simpa using c213))
                                (try (have c213b3 : ¬ (t378 = t380) := by simpa using c213))
                                clear c213
                                obtain rfl := Option.some.inj H
                                have hnb214 := NB353_354.out
                                have hnc214 := NB354_353.out
                                have hnb215 := NB353_357.out
                                have hnc215 := NB357_353.out
                                have hnb216 := NB353_360.out
                                have hnc216 := NB360_353.out
                                have hnb217 := NB353_363.out
                                have hnc217 := NB363_353.out
                                obtain ⟨hcz218_0, hcz218_1, hfz218_0, hfz218_1⟩ := sqc2 BK353
                                try go_wp2_with (first | ((with_reducible refine gate_callee (f := 50) rfl ?_); refine sqL (some 112) Try.func50 #[.agg #[.int .i64 t346, .int .i64 t347], .slice A0 l0.length c0, .int .i64 x9_4] ?_; (with_reducible refine (laws_within.calls k4 t346 t347 _ _ l0 x9_4 t377 _ ?side1 ?side2 A208.out).mono ?_); (case side1 => repeat (first | exact (Kd.C_below HR0.out HB.out) | (with_reducible refine Kd.C_alloc ?_ _) | (with_reducible refine Kd.C_drewN ?_ _) | (with_reducible refine Kd.C_drew ?_))); (case side2 => exact HC0.out); rintro e w219 ⟨rfl, hb⟩; refine ⟨_, rfl, ?_⟩; have n0_ := Aside0.mk (Kd.R_below (by (with_reducible repeat (first | apply Kd.R_alloc | apply Kd.R_drewN | apply Kd.R_drew)); exact HO_5.out) hb); have n1_ := sqb BK353 hb; have n2_ := sqb BK354 hb; have n3_ := sqb BK357 hb; have n4_ := sqb BK360 hb; have n5_ := sqb BK363 hb; have n6_ := sqs HB hb; clear HO_5; clear BK353; clear BK354; clear BK357; clear BK360; clear BK363; clear HB; have HO_5 := n0_; have BK353 := n1_; have BK354 := n2_; have BK357 := n3_; have BK360 := n4_; have BK363 := n5_; have HB := n6_; clear n0_ n1_ n2_ n3_ n4_ n5_ n6_; (try clear hb)))
                                replace HO_5 := Aside0.mk (Kd.R_drew HO_5.out)
                                replace BK353 := Aside0.mk (blk_drew BK353.out)
                                replace BK354 := Aside0.mk (blk_drew BK354.out)
                                replace BK357 := Aside0.mk (blk_drew BK357.out)
                                replace BK360 := Aside0.mk (blk_drew BK360.out)
                                replace BK363 := Aside0.mk (blk_drew BK363.out)
                                replace HB := Aside0.mk (below_drew1 HB.out)
                                refine start_ (n := 12) (S := fun w' => w'.cell? ⟨gb360, 0, none⟩ = some (.int .i64 t358) ∧ w'.cell? ⟨gb360, 1, none⟩ = some (.int .i64 t359) ∧ w'.cell? ⟨gb353, 0, none⟩ = some (.int .i64 t346) ∧ w'.cell? ⟨gb353, 1, none⟩ = some (.int .i64 t347) ∧ w'.cell? ⟨gb354, 0, none⟩ = some (.int .i64 t348) ∧ w'.cell? ⟨gb354, 1, none⟩ = some (.int .i64 t349)) (ds := []) #[false, false, false, false, false, false, false, false, false, false, false, false] (by kernel_rfl) rfl rfl ⟨(blk_cell BK360.out 0).trans rfl, (blk_cell BK360.out 1).trans rfl, (blk_cell BK353.out 0).trans rfl, (blk_cell BK353.out 1).trans rfl, (blk_cell BK354.out 0).trans rfl, (blk_cell BK354.out 1).trans rfl⟩ (fun hHeld => ?_); refine with_tabW laws_FnRangeLattice.tab17 laws_FnRangeLattice.bits17 (fun HT_ HW_ => ?_)
                                generalize w219.drew = w220 at HO_5 BK353 BK354 BK357 BK360 BK363 HB hHeld ⊢
                                refine sqp HT_ 1 114 ?_
                                refine sqp HT_ 4 117 ?_
                                refine sqw HT_ HW_ 0 113 hHeld ?_
                                refine sqw HT_ HW_ 3 116 hHeld ?_
                                refine sqo HT_ 2 115 (fun K hK => ?_)
                                refine sqG Try.func51 #[.agg #[.int .i64 t358, .int .i64 t359], .int .i64 t377] ?_
                                with_reducible refine (impl_RangeHas.calls t358 t359 t377 t378 _ A209.out).mono ?_
                                rintro e w221 ⟨rfl, hb⟩
                                refine ⟨_, rfl, ?_⟩
                                have n0_ := Aside0.mk (Kd.R_below (by (with_reducible repeat (first | apply Kd.R_alloc | apply Kd.R_drewN | apply Kd.R_drew)); exact HO_5.out) hb)
                                have n1_ := sqb BK353 hb
                                have n2_ := sqb BK354 hb
                                have n3_ := sqb BK357 hb
                                have n4_ := sqb BK360 hb
                                have n5_ := sqb BK363 hb
                                have n6_ := sqs HB hb
                                clear HO_5
                                clear BK353
                                clear BK354
                                clear BK357
                                clear BK360
                                clear BK363
                                clear HB
                                have HO_5 := n0_
                                have BK353 := n1_
                                have BK354 := n2_
                                have BK357 := n3_
                                have BK360 := n4_
                                have BK363 := n5_
                                have HB := n6_
                                clear n0_ n1_ n2_ n3_ n4_ n5_ n6_
                                (try clear hb)
                                refine hK.out _ _ sqz (fun hHeld => ?_)
                                clear hK K
                                refine sqnm ?_
                                refine sqo HT_ 5 118 (fun K hK => ?_)
                                refine sqG Try.func52 #[.agg #[.int .i64 t346, .int .i64 t347], .int .i64 t377] ?_
                                with_reducible refine (spec_RangeHas.calls t346 t347 t377 true _ A210.out).mono ?_
                                rintro e w222 ⟨rfl, hb⟩
                                refine ⟨_, rfl, ?_⟩
                                have n0_ := Aside0.mk (Kd.R_below (by (with_reducible repeat (first | apply Kd.R_alloc | apply Kd.R_drewN | apply Kd.R_drew)); exact HO_5.out) hb)
                                have n1_ := sqb BK353 hb
                                have n2_ := sqb BK354 hb
                                have n3_ := sqb BK357 hb
                                have n4_ := sqb BK360 hb
                                have n5_ := sqb BK363 hb
                                have n6_ := sqs HB hb
                                clear HO_5
                                clear BK353
                                clear BK354
                                clear BK357
                                clear BK360
                                clear BK363
                                clear HB
                                have HO_5 := n0_
                                have BK353 := n1_
                                have BK354 := n2_
                                have BK357 := n3_
                                have BK360 := n4_
                                have BK363 := n5_
                                have HB := n6_
                                clear n0_ n1_ n2_ n3_ n4_ n5_ n6_
                                (try clear hb)
                                refine hK.out _ _ sqz (fun hHeld => ?_)
                                clear hK K
                                refine sqnm ?_
                                refine sqp HT_ 6 119 ?_
                                refine sqp HT_ 8 121 ?_
                                refine sqw HT_ HW_ 7 120 hHeld ?_
                                refine sqo HT_ 9 122 (fun K hK => ?_)
                                refine sqG Try.func52 #[.agg #[.int .i64 t348, .int .i64 t349], .int .i64 t377] ?_
                                with_reducible refine (spec_RangeHas.calls t348 t349 t377 t380 _ A212.out).mono ?_
                                rintro e w223 ⟨rfl, hb⟩
                                refine ⟨_, rfl, ?_⟩
                                have n0_ := Aside0.mk (Kd.R_below (by (with_reducible repeat (first | apply Kd.R_alloc | apply Kd.R_drewN | apply Kd.R_drew)); exact HO_5.out) hb)
                                have n1_ := sqb BK353 hb
                                have n2_ := sqb BK354 hb
                                have n3_ := sqb BK357 hb
                                have n4_ := sqb BK360 hb
                                have n5_ := sqb BK363 hb
                                have n6_ := sqs HB hb
                                clear HO_5
                                clear BK353
                                clear BK354
                                clear BK357
                                clear BK360
                                clear BK363
                                clear HB
                                have HO_5 := n0_
                                have BK353 := n1_
                                have BK354 := n2_
                                have BK357 := n3_
                                have BK360 := n4_
                                have BK363 := n5_
                                have HB := n6_
                                clear n0_ n1_ n2_ n3_ n4_ n5_ n6_
                                (try clear hb)
                                refine hK.out _ _ sqz (fun hHeld => ?_)
                                clear hK K
                                refine sqnm ?_
                                refine sqp HT_ 10 123 ?_
                                refine sqp HT_ 11 124 ?_
                                refine done_ (done_of HT_.out (by kernel_rfl)) ?_
                                try go_wp2
                                go_ret
                                exact sqe HB
                              · rw [if_neg c213] at H
                                have c213b0 : (t378 != t380) = false := by simpa using c213
                                (try (have c213b1 : decide (t378 = t380) = true := by simpa using c213))
                                (try (have c213b2 : (t378 == t380) = true := by simpa using c213))
                                clear c213
                                have H' := Aside0.mk H
                                clear H
                                have hnb224 := NB353_354.out
                                have hnc224 := NB354_353.out
                                have hnb225 := NB353_357.out
                                have hnc225 := NB357_353.out
                                have hnb226 := NB353_360.out
                                have hnc226 := NB360_353.out
                                have hnb227 := NB353_363.out
                                have hnc227 := NB363_353.out
                                obtain ⟨hcz228_0, hcz228_1, hfz228_0, hfz228_1⟩ := sqc2 BK353
                                try go_wp2_with (first | ((with_reducible refine gate_callee (f := 50) rfl ?_); refine sqL (some 112) Try.func50 #[.agg #[.int .i64 t346, .int .i64 t347], .slice A0 l0.length c0, .int .i64 x9_4] ?_; (with_reducible refine (laws_within.calls k4 t346 t347 _ _ l0 x9_4 t377 _ ?side1 ?side2 A208.out).mono ?_); (case side1 => repeat (first | exact (Kd.C_below HR0.out HB.out) | (with_reducible refine Kd.C_alloc ?_ _) | (with_reducible refine Kd.C_drewN ?_ _) | (with_reducible refine Kd.C_drew ?_))); (case side2 => exact HC0.out); rintro e w229 ⟨rfl, hb⟩; refine ⟨_, rfl, ?_⟩; have n0_ := Aside0.mk (Kd.R_below (by (with_reducible repeat (first | apply Kd.R_alloc | apply Kd.R_drewN | apply Kd.R_drew)); exact HO_5.out) hb); have n1_ := sqb BK353 hb; have n2_ := sqb BK354 hb; have n3_ := sqb BK357 hb; have n4_ := sqb BK360 hb; have n5_ := sqb BK363 hb; have n6_ := sqs HB hb; clear HO_5; clear BK353; clear BK354; clear BK357; clear BK360; clear BK363; clear HB; have HO_5 := n0_; have BK353 := n1_; have BK354 := n2_; have BK357 := n3_; have BK360 := n4_; have BK363 := n5_; have HB := n6_; clear n0_ n1_ n2_ n3_ n4_ n5_ n6_; (try clear hb)))
                                replace HO_5 := Aside0.mk (Kd.R_drew HO_5.out)
                                replace BK353 := Aside0.mk (blk_drew BK353.out)
                                replace BK354 := Aside0.mk (blk_drew BK354.out)
                                replace BK357 := Aside0.mk (blk_drew BK357.out)
                                replace BK360 := Aside0.mk (blk_drew BK360.out)
                                replace BK363 := Aside0.mk (blk_drew BK363.out)
                                replace HB := Aside0.mk (below_drew1 HB.out)
                                refine start_ (n := 12) (S := fun w' => w'.cell? ⟨gb360, 0, none⟩ = some (.int .i64 t358) ∧ w'.cell? ⟨gb360, 1, none⟩ = some (.int .i64 t359) ∧ w'.cell? ⟨gb353, 0, none⟩ = some (.int .i64 t346) ∧ w'.cell? ⟨gb353, 1, none⟩ = some (.int .i64 t347) ∧ w'.cell? ⟨gb354, 0, none⟩ = some (.int .i64 t348) ∧ w'.cell? ⟨gb354, 1, none⟩ = some (.int .i64 t349)) (ds := []) #[false, false, false, false, false, false, false, false, false, false, false, false] (by kernel_rfl) rfl rfl ⟨(blk_cell BK360.out 0).trans rfl, (blk_cell BK360.out 1).trans rfl, (blk_cell BK353.out 0).trans rfl, (blk_cell BK353.out 1).trans rfl, (blk_cell BK354.out 0).trans rfl, (blk_cell BK354.out 1).trans rfl⟩ (fun hHeld => ?_); refine with_tabW laws_FnRangeLattice.tab17 laws_FnRangeLattice.bits17 (fun HT_ HW_ => ?_)
                                generalize w229.drew = w230 at HO_5 BK353 BK354 BK357 BK360 BK363 HB hHeld ⊢
                                refine sqp HT_ 1 114 ?_
                                refine sqp HT_ 4 117 ?_
                                refine sqw HT_ HW_ 0 113 hHeld ?_
                                refine sqw HT_ HW_ 3 116 hHeld ?_
                                refine sqo HT_ 2 115 (fun K hK => ?_)
                                refine sqG Try.func51 #[.agg #[.int .i64 t358, .int .i64 t359], .int .i64 t377] ?_
                                with_reducible refine (impl_RangeHas.calls t358 t359 t377 t378 _ A209.out).mono ?_
                                rintro e w231 ⟨rfl, hb⟩
                                refine ⟨_, rfl, ?_⟩
                                have n0_ := Aside0.mk (Kd.R_below (by (with_reducible repeat (first | apply Kd.R_alloc | apply Kd.R_drewN | apply Kd.R_drew)); exact HO_5.out) hb)
                                have n1_ := sqb BK353 hb
                                have n2_ := sqb BK354 hb
                                have n3_ := sqb BK357 hb
                                have n4_ := sqb BK360 hb
                                have n5_ := sqb BK363 hb
                                have n6_ := sqs HB hb
                                clear HO_5
                                clear BK353
                                clear BK354
                                clear BK357
                                clear BK360
                                clear BK363
                                clear HB
                                have HO_5 := n0_
                                have BK353 := n1_
                                have BK354 := n2_
                                have BK357 := n3_
                                have BK360 := n4_
                                have BK363 := n5_
                                have HB := n6_
                                clear n0_ n1_ n2_ n3_ n4_ n5_ n6_
                                (try clear hb)
                                refine hK.out _ _ sqz (fun hHeld => ?_)
                                clear hK K
                                refine sqnm ?_
                                refine sqo HT_ 5 118 (fun K hK => ?_)
                                refine sqG Try.func52 #[.agg #[.int .i64 t346, .int .i64 t347], .int .i64 t377] ?_
                                with_reducible refine (spec_RangeHas.calls t346 t347 t377 true _ A210.out).mono ?_
                                rintro e w232 ⟨rfl, hb⟩
                                refine ⟨_, rfl, ?_⟩
                                have n0_ := Aside0.mk (Kd.R_below (by (with_reducible repeat (first | apply Kd.R_alloc | apply Kd.R_drewN | apply Kd.R_drew)); exact HO_5.out) hb)
                                have n1_ := sqb BK353 hb
                                have n2_ := sqb BK354 hb
                                have n3_ := sqb BK357 hb
                                have n4_ := sqb BK360 hb
                                have n5_ := sqb BK363 hb
                                have n6_ := sqs HB hb
                                clear HO_5
                                clear BK353
                                clear BK354
                                clear BK357
                                clear BK360
                                clear BK363
                                clear HB
                                have HO_5 := n0_
                                have BK353 := n1_
                                have BK354 := n2_
                                have BK357 := n3_
                                have BK360 := n4_
                                have BK363 := n5_
                                have HB := n6_
                                clear n0_ n1_ n2_ n3_ n4_ n5_ n6_
                                (try clear hb)
                                refine hK.out _ _ sqz (fun hHeld => ?_)
                                clear hK K
                                refine sqnm ?_
                                refine sqp HT_ 6 119 ?_
                                refine sqp HT_ 8 121 ?_
                                refine sqw HT_ HW_ 7 120 hHeld ?_
                                refine sqo HT_ 9 122 (fun K hK => ?_)
                                refine sqG Try.func52 #[.agg #[.int .i64 t348, .int .i64 t349], .int .i64 t377] ?_
                                with_reducible refine (spec_RangeHas.calls t348 t349 t377 t380 _ A212.out).mono ?_
                                rintro e w233 ⟨rfl, hb⟩
                                refine ⟨_, rfl, ?_⟩
                                have n0_ := Aside0.mk (Kd.R_below (by (with_reducible repeat (first | apply Kd.R_alloc | apply Kd.R_drewN | apply Kd.R_drew)); exact HO_5.out) hb)
                                have n1_ := sqb BK353 hb
                                have n2_ := sqb BK354 hb
                                have n3_ := sqb BK357 hb
                                have n4_ := sqb BK360 hb
                                have n5_ := sqb BK363 hb
                                have n6_ := sqs HB hb
                                clear HO_5
                                clear BK353
                                clear BK354
                                clear BK357
                                clear BK360
                                clear BK363
                                clear HB
                                have HO_5 := n0_
                                have BK353 := n1_
                                have BK354 := n2_
                                have BK357 := n3_
                                have BK360 := n4_
                                have BK363 := n5_
                                have HB := n6_
                                clear n0_ n1_ n2_ n3_ n4_ n5_ n6_
                                (try clear hb)
                                refine hK.out _ _ sqz (fun hHeld => ?_)
                                clear hK K
                                refine sqnm ?_
                                refine sqp HT_ 10 123 ?_
                                refine sqp HT_ 11 124 ?_
                                refine done_ (done_of HT_.out (by kernel_rfl)) ?_
                                try go_wp2
                                go_roundg k4
                                case measure => have := HJ6.out; have := HJ54.out; have := HJ104.out; have := HK4.out; omega
                                case rel => exact ⟨(wrap64 (x9_4 + 1)), (by first | rfl | (simp; done) | (simp [*]; done)), H', ⟨by have := HJ6.out; have := HJ54.out; have := HJ104.out; have := HK4.out; omega⟩, ⟨by (with_reducible repeat (first | apply Kd.R_alloc | apply Kd.R_drewN | apply Kd.R_drew)); exact HO_5.out⟩, sqk BK353, sqk BK354, sqk BK357, sqk BK360, sqk BK363, sqh HB⟩
                            · replace c211 := Bool.eq_false_iff.mpr c211
                              subst c211
                              have H1 : (if (t378 != false) = true then (some false) else (laws_FnRangeLattice.l0 k4 l0 t350 (wrap64 (x9_4 + 1)) t346 t347 t348 t349 t355 t356 t358 t359 t361 t362)) = some r := by rw [if_neg (show ¬ (false = true) by decide)] at H; exact H
                              clear H
                              have H := H1
                              clear H1
                              by_cases c234 : (t378 != false) = true
                              · rw [if_pos c234] at H
                                have c234b0 : (t378 != false) = true := c234
                                (try (have c234b1 : decide (t378 = false) = false := by simpa using c234))
                                (try (have c234b2 : (t378 == false) = false := by simpa using c234))
                                (try (have c234b3 : ¬ (t378 = false) := by simpa using c234))
                                clear c234
                                obtain rfl := Option.some.inj H
                                have hnb235 := NB353_354.out
                                have hnc235 := NB354_353.out
                                have hnb236 := NB353_357.out
                                have hnc236 := NB357_353.out
                                have hnb237 := NB353_360.out
                                have hnc237 := NB360_353.out
                                have hnb238 := NB353_363.out
                                have hnc238 := NB363_353.out
                                obtain ⟨hcz239_0, hcz239_1, hfz239_0, hfz239_1⟩ := sqc2 BK353
                                try go_wp2_with (first | ((with_reducible refine gate_callee (f := 50) rfl ?_); refine sqL (some 112) Try.func50 #[.agg #[.int .i64 t346, .int .i64 t347], .slice A0 l0.length c0, .int .i64 x9_4] ?_; (with_reducible refine (laws_within.calls k4 t346 t347 _ _ l0 x9_4 t377 _ ?side1 ?side2 A208.out).mono ?_); (case side1 => repeat (first | exact (Kd.C_below HR0.out HB.out) | (with_reducible refine Kd.C_alloc ?_ _) | (with_reducible refine Kd.C_drewN ?_ _) | (with_reducible refine Kd.C_drew ?_))); (case side2 => exact HC0.out); rintro e w240 ⟨rfl, hb⟩; refine ⟨_, rfl, ?_⟩; have n0_ := Aside0.mk (Kd.R_below (by (with_reducible repeat (first | apply Kd.R_alloc | apply Kd.R_drewN | apply Kd.R_drew)); exact HO_5.out) hb); have n1_ := sqb BK353 hb; have n2_ := sqb BK354 hb; have n3_ := sqb BK357 hb; have n4_ := sqb BK360 hb; have n5_ := sqb BK363 hb; have n6_ := sqs HB hb; clear HO_5; clear BK353; clear BK354; clear BK357; clear BK360; clear BK363; clear HB; have HO_5 := n0_; have BK353 := n1_; have BK354 := n2_; have BK357 := n3_; have BK360 := n4_; have BK363 := n5_; have HB := n6_; clear n0_ n1_ n2_ n3_ n4_ n5_ n6_; (try clear hb)))
                                replace HO_5 := Aside0.mk (Kd.R_drew HO_5.out)
                                replace BK353 := Aside0.mk (blk_drew BK353.out)
                                replace BK354 := Aside0.mk (blk_drew BK354.out)
                                replace BK357 := Aside0.mk (blk_drew BK357.out)
                                replace BK360 := Aside0.mk (blk_drew BK360.out)
                                replace BK363 := Aside0.mk (blk_drew BK363.out)
                                replace HB := Aside0.mk (below_drew1 HB.out)
                                refine start_ (n := 12) (S := fun w' => w'.cell? ⟨gb360, 0, none⟩ = some (.int .i64 t358) ∧ w'.cell? ⟨gb360, 1, none⟩ = some (.int .i64 t359) ∧ w'.cell? ⟨gb353, 0, none⟩ = some (.int .i64 t346) ∧ w'.cell? ⟨gb353, 1, none⟩ = some (.int .i64 t347)) (ds := []) #[false, false, false, false, false, false, false, false, false, false, false, false] (by kernel_rfl) rfl rfl ⟨(blk_cell BK360.out 0).trans rfl, (blk_cell BK360.out 1).trans rfl, (blk_cell BK353.out 0).trans rfl, (blk_cell BK353.out 1).trans rfl⟩ (fun hHeld => ?_); refine with_tabW laws_FnRangeLattice.tab17 laws_FnRangeLattice.bits17 (fun HT_ HW_ => ?_)
                                generalize w240.drew = w241 at HO_5 BK353 BK354 BK357 BK360 BK363 HB hHeld ⊢
                                refine sqp HT_ 1 114 ?_
                                refine sqp HT_ 4 117 ?_
                                refine sqw HT_ HW_ 0 113 hHeld ?_
                                refine sqw HT_ HW_ 3 116 hHeld ?_
                                refine sqo HT_ 2 115 (fun K hK => ?_)
                                refine sqG Try.func51 #[.agg #[.int .i64 t358, .int .i64 t359], .int .i64 t377] ?_
                                with_reducible refine (impl_RangeHas.calls t358 t359 t377 t378 _ A209.out).mono ?_
                                rintro e w242 ⟨rfl, hb⟩
                                refine ⟨_, rfl, ?_⟩
                                have n0_ := Aside0.mk (Kd.R_below (by (with_reducible repeat (first | apply Kd.R_alloc | apply Kd.R_drewN | apply Kd.R_drew)); exact HO_5.out) hb)
                                have n1_ := sqb BK353 hb
                                have n2_ := sqb BK354 hb
                                have n3_ := sqb BK357 hb
                                have n4_ := sqb BK360 hb
                                have n5_ := sqb BK363 hb
                                have n6_ := sqs HB hb
                                clear HO_5
                                clear BK353
                                clear BK354
                                clear BK357
                                clear BK360
                                clear BK363
                                clear HB
                                have HO_5 := n0_
                                have BK353 := n1_
                                have BK354 := n2_
                                have BK357 := n3_
                                have BK360 := n4_
                                have BK363 := n5_
                                have HB := n6_
                                clear n0_ n1_ n2_ n3_ n4_ n5_ n6_
                                (try clear hb)
                                refine hK.out _ _ sqz (fun hHeld => ?_)
                                clear hK K
                                refine sqnm ?_
                                refine sqo HT_ 5 118 (fun K hK => ?_)
                                refine sqG Try.func52 #[.agg #[.int .i64 t346, .int .i64 t347], .int .i64 t377] ?_
                                with_reducible refine (spec_RangeHas.calls t346 t347 t377 false _ A210.out).mono ?_
                                rintro e w243 ⟨rfl, hb⟩
                                refine ⟨_, rfl, ?_⟩
                                have n0_ := Aside0.mk (Kd.R_below (by (with_reducible repeat (first | apply Kd.R_alloc | apply Kd.R_drewN | apply Kd.R_drew)); exact HO_5.out) hb)
                                have n1_ := sqb BK353 hb
                                have n2_ := sqb BK354 hb
                                have n3_ := sqb BK357 hb
                                have n4_ := sqb BK360 hb
                                have n5_ := sqb BK363 hb
                                have n6_ := sqs HB hb
                                clear HO_5
                                clear BK353
                                clear BK354
                                clear BK357
                                clear BK360
                                clear BK363
                                clear HB
                                have HO_5 := n0_
                                have BK353 := n1_
                                have BK354 := n2_
                                have BK357 := n3_
                                have BK360 := n4_
                                have BK363 := n5_
                                have HB := n6_
                                clear n0_ n1_ n2_ n3_ n4_ n5_ n6_
                                (try clear hb)
                                refine hK.out _ _ sqz (fun hHeld => ?_)
                                clear hK K
                                refine sqnm ?_
                                refine sqp HT_ 6 119 ?_
                                refine sqpu HT_ 7 120 ?_
                                refine sqpu HT_ 8 121 ?_
                                refine sqpu HT_ 9 122 ?_
                                refine sqp HT_ 10 123 ?_
                                refine sqp HT_ 11 124 ?_
                                refine done_ (done_of HT_.out (by kernel_rfl)) ?_
                                try go_wp2
                                go_ret
                                exact sqe HB
                              · rw [if_neg c234] at H
                                have c234b0 : (t378 != false) = false := by simpa using c234
                                (try (have c234b1 : decide (t378 = false) = true := by simpa using c234))
                                (try (have c234b2 : (t378 == false) = true := by simpa using c234))
                                clear c234
                                have H' := Aside0.mk H
                                clear H
                                have hnb244 := NB353_354.out
                                have hnc244 := NB354_353.out
                                have hnb245 := NB353_357.out
                                have hnc245 := NB357_353.out
                                have hnb246 := NB353_360.out
                                have hnc246 := NB360_353.out
                                have hnb247 := NB353_363.out
                                have hnc247 := NB363_353.out
                                obtain ⟨hcz248_0, hcz248_1, hfz248_0, hfz248_1⟩ := sqc2 BK353
                                try go_wp2_with (first | ((with_reducible refine gate_callee (f := 50) rfl ?_); refine sqL (some 112) Try.func50 #[.agg #[.int .i64 t346, .int .i64 t347], .slice A0 l0.length c0, .int .i64 x9_4] ?_; (with_reducible refine (laws_within.calls k4 t346 t347 _ _ l0 x9_4 t377 _ ?side1 ?side2 A208.out).mono ?_); (case side1 => repeat (first | exact (Kd.C_below HR0.out HB.out) | (with_reducible refine Kd.C_alloc ?_ _) | (with_reducible refine Kd.C_drewN ?_ _) | (with_reducible refine Kd.C_drew ?_))); (case side2 => exact HC0.out); rintro e w249 ⟨rfl, hb⟩; refine ⟨_, rfl, ?_⟩; have n0_ := Aside0.mk (Kd.R_below (by (with_reducible repeat (first | apply Kd.R_alloc | apply Kd.R_drewN | apply Kd.R_drew)); exact HO_5.out) hb); have n1_ := sqb BK353 hb; have n2_ := sqb BK354 hb; have n3_ := sqb BK357 hb; have n4_ := sqb BK360 hb; have n5_ := sqb BK363 hb; have n6_ := sqs HB hb; clear HO_5; clear BK353; clear BK354; clear BK357; clear BK360; clear BK363; clear HB; have HO_5 := n0_; have BK353 := n1_; have BK354 := n2_; have BK357 := n3_; have BK360 := n4_; have BK363 := n5_; have HB := n6_; clear n0_ n1_ n2_ n3_ n4_ n5_ n6_; (try clear hb)))
                                replace HO_5 := Aside0.mk (Kd.R_drew HO_5.out)
                                replace BK353 := Aside0.mk (blk_drew BK353.out)
                                replace BK354 := Aside0.mk (blk_drew BK354.out)
                                replace BK357 := Aside0.mk (blk_drew BK357.out)
                                replace BK360 := Aside0.mk (blk_drew BK360.out)
                                replace BK363 := Aside0.mk (blk_drew BK363.out)
                                replace HB := Aside0.mk (below_drew1 HB.out)
                                refine start_ (n := 12) (S := fun w' => w'.cell? ⟨gb360, 0, none⟩ = some (.int .i64 t358) ∧ w'.cell? ⟨gb360, 1, none⟩ = some (.int .i64 t359) ∧ w'.cell? ⟨gb353, 0, none⟩ = some (.int .i64 t346) ∧ w'.cell? ⟨gb353, 1, none⟩ = some (.int .i64 t347)) (ds := []) #[false, false, false, false, false, false, false, false, false, false, false, false] (by kernel_rfl) rfl rfl ⟨(blk_cell BK360.out 0).trans rfl, (blk_cell BK360.out 1).trans rfl, (blk_cell BK353.out 0).trans rfl, (blk_cell BK353.out 1).trans rfl⟩ (fun hHeld => ?_); refine with_tabW laws_FnRangeLattice.tab17 laws_FnRangeLattice.bits17 (fun HT_ HW_ => ?_)
                                generalize w249.drew = w250 at HO_5 BK353 BK354 BK357 BK360 BK363 HB hHeld ⊢
                                refine sqp HT_ 1 114 ?_
                                refine sqp HT_ 4 117 ?_
                                refine sqw HT_ HW_ 0 113 hHeld ?_
                                refine sqw HT_ HW_ 3 116 hHeld ?_
                                refine sqo HT_ 2 115 (fun K hK => ?_)
                                refine sqG Try.func51 #[.agg #[.int .i64 t358, .int .i64 t359], .int .i64 t377] ?_
                                with_reducible refine (impl_RangeHas.calls t358 t359 t377 t378 _ A209.out).mono ?_
                                rintro e w251 ⟨rfl, hb⟩
                                refine ⟨_, rfl, ?_⟩
                                have n0_ := Aside0.mk (Kd.R_below (by (with_reducible repeat (first | apply Kd.R_alloc | apply Kd.R_drewN | apply Kd.R_drew)); exact HO_5.out) hb)
                                have n1_ := sqb BK353 hb
                                have n2_ := sqb BK354 hb
                                have n3_ := sqb BK357 hb
                                have n4_ := sqb BK360 hb
                                have n5_ := sqb BK363 hb
                                have n6_ := sqs HB hb
                                clear HO_5
                                clear BK353
                                clear BK354
                                clear BK357
                                clear BK360
                                clear BK363
                                clear HB
                                have HO_5 := n0_
                                have BK353 := n1_
                                have BK354 := n2_
                                have BK357 := n3_
                                have BK360 := n4_
                                have BK363 := n5_
                                have HB := n6_
                                clear n0_ n1_ n2_ n3_ n4_ n5_ n6_
                                (try clear hb)
                                refine hK.out _ _ sqz (fun hHeld => ?_)
                                clear hK K
                                refine sqnm ?_
                                refine sqo HT_ 5 118 (fun K hK => ?_)
                                refine sqG Try.func52 #[.agg #[.int .i64 t346, .int .i64 t347], .int .i64 t377] ?_
                                with_reducible refine (spec_RangeHas.calls t346 t347 t377 false _ A210.out).mono ?_
                                rintro e w252 ⟨rfl, hb⟩
                                refine ⟨_, rfl, ?_⟩
                                have n0_ := Aside0.mk (Kd.R_below (by (with_reducible repeat (first | apply Kd.R_alloc | apply Kd.R_drewN | apply Kd.R_drew)); exact HO_5.out) hb)
                                have n1_ := sqb BK353 hb
                                have n2_ := sqb BK354 hb
                                have n3_ := sqb BK357 hb
                                have n4_ := sqb BK360 hb
                                have n5_ := sqb BK363 hb
                                have n6_ := sqs HB hb
                                clear HO_5
                                clear BK353
                                clear BK354
                                clear BK357
                                clear BK360
                                clear BK363
                                clear HB
                                have HO_5 := n0_
                                have BK353 := n1_
                                have BK354 := n2_
                                have BK357 := n3_
                                have BK360 := n4_
                                have BK363 := n5_
                                have HB := n6_
                                clear n0_ n1_ n2_ n3_ n4_ n5_ n6_
                                (try clear hb)
                                refine hK.out _ _ sqz (fun hHeld => ?_)
                                clear hK K
                                refine sqnm ?_
                                refine sqp HT_ 6 119 ?_
                                refine sqpu HT_ 7 120 ?_
                                refine sqpu HT_ 8 121 ?_
                                refine sqpu HT_ 9 122 ?_
                                refine sqp HT_ 10 123 ?_
                                refine sqp HT_ 11 124 ?_
                                refine done_ (done_of HT_.out (by kernel_rfl)) ?_
                                try go_wp2
                                go_roundg k4
                                case measure => have := HJ6.out; have := HJ54.out; have := HJ104.out; have := HK4.out; omega
                                case rel => exact ⟨(wrap64 (x9_4 + 1)), (by first | rfl | (simp; done) | (simp [*]; done)), H', ⟨by have := HJ6.out; have := HJ54.out; have := HJ104.out; have := HK4.out; omega⟩, ⟨by (with_reducible repeat (first | apply Kd.R_alloc | apply Kd.R_drewN | apply Kd.R_drew)); exact HO_5.out⟩, sqk BK353, sqk BK354, sqk BK357, sqk BK360, sqk BK363, sqh HB⟩
                          · rw [if_neg c207] at H
                            have c207b0 : decide (x9_4 < 6) = false := decide_eq_false c207
                            clear c207
                            have HC253 := Aside0.mk H
                            clear H
                            go_upto_region 19 with (fail)
                            go_cut [136] (fun v136 wc => ∃ (kq : Nat) (x136_252 : Bool), v136 = .bool x136_252 ∧ Aside0 (laws_FnRangeLattice.j4 kq t350 x136_252 t346 t347 t355 t356 t361 t362 = some r) ∧ Aside0 (kq ≤ k4) ∧ Aside0 (Kd.R (Kd.int .i64) 3 wc w.heap.size (fun _ => True) (.slice Ao29 t350.length co29) t350) ∧ Aside0 (wc.heap[gb353]? = some (.cells #[.int .i64 t346, .int .i64 t347] 27 (0, 0))) ∧ Aside0 (wc.heap[gb354]? = some (.cells #[.int .i64 t348, .int .i64 t349] 27 (0, 0))) ∧ Aside0 (wc.heap[gb357]? = some (.cells #[.int .i64 t355, .int .i64 t356] 27 (0, 0))) ∧ Aside0 (wc.heap[gb360]? = some (.cells #[.int .i64 t358, .int .i64 t359] 27 (0, 0))) ∧ Aside0 (wc.heap[gb363]? = some (.cells #[.int .i64 t361, .int .i64 t362] 27 (0, 0))) ∧ Aside0 (Below w.heap.size w wc))
                            case first =>
                              as_aux_lemma =>
                              have H := HC253.out
                              clear HC253
                              by_cases c254 : t346 > t347
                              · rw [if_pos c254] at H
                                have c254b0 : decide (t347 < t346) = true := decide_eq_true c254
                                clear c254
                                (first | rw [c254b0] | (simp only [i64_w, i32_w]; rw [c254b0]) | skip)
                                have H' := Aside0.mk H
                                clear H
                                have hnb255 := NB353_354.out
                                have hnc255 := NB354_353.out
                                have hnb256 := NB353_357.out
                                have hnc256 := NB357_353.out
                                have hnb257 := NB353_360.out
                                have hnc257 := NB360_353.out
                                have hnb258 := NB353_363.out
                                have hnc258 := NB363_353.out
                                obtain ⟨hcz259_0, hcz259_1, hfz259_0, hfz259_1⟩ := sqc2 BK353
                                go_wp2
                                go_meet
                                case rel => exact ⟨_, (true), (by first | rfl | (simp; done) | (simp [*]; done)), H', ⟨by have := HJ6.out; have := HJ54.out; have := HJ104.out; have := HK4.out; first | omega | exact Nat.le_refl _⟩, ⟨by (with_reducible repeat (first | apply Kd.R_alloc | apply Kd.R_drewN | apply Kd.R_drew)); exact HO_5.out⟩, sqk BK353, sqk BK354, sqk BK357, sqk BK360, sqk BK363, sqh HB⟩
                              · rw [if_neg c254] at H
                                have c254b0 : decide (t347 < t346) = false := decide_eq_false c254
                                clear c254
                                (first | rw [c254b0] | (simp only [i64_w, i32_w]; rw [c254b0]) | skip)
                                have H' := Aside0.mk H
                                clear H
                                have hnb260 := NB353_354.out
                                have hnc260 := NB354_353.out
                                have hnb261 := NB353_357.out
                                have hnc261 := NB357_353.out
                                have hnb262 := NB353_360.out
                                have hnc262 := NB360_353.out
                                have hnb263 := NB353_363.out
                                have hnc263 := NB363_353.out
                                obtain ⟨hcz264_0, hcz264_1, hfz264_0, hfz264_1⟩ := sqc2 BK353
                                have hnb265 := NB354_357.out
                                have hnc265 := NB357_354.out
                                have hnb266 := NB354_360.out
                                have hnc266 := NB360_354.out
                                have hnb267 := NB354_363.out
                                have hnc267 := NB363_354.out
                                obtain ⟨hcz268_0, hcz268_1, hfz268_0, hfz268_1⟩ := sqc2 BK354
                                go_wp2
                                go_meet
                                case rel => exact ⟨_, (decide (t348 > t349)), (by first | rfl | (simp; done) | (simp [*]; done)), H', ⟨by have := HJ6.out; have := HJ54.out; have := HJ104.out; have := HK4.out; first | omega | exact Nat.le_refl _⟩, ⟨by (with_reducible repeat (first | apply Kd.R_alloc | apply Kd.R_drewN | apply Kd.R_drew)); exact HO_5.out⟩, sqk BK353, sqk BK354, sqk BK357, sqk BK360, sqk BK363, sqh HB⟩
                            case rest =>
                              as_aux_lemma =>
                              clear HC253
                              try clear c2
                              try clear p2
                              try clear c5
                              try clear c20
                              try clear c207
                              try clear c207b0
                              try clear c211
                              try clear c234
                              try clear c234b0
                              try clear c234b1
                              try clear c234b2
                              try clear hcz239_0
                              try clear hcz239_1
                              try clear hcz248_0
                              try clear hcz248_1
                              try clear hfz239_0
                              try clear hfz239_1
                              try clear hfz248_0
                              try clear hfz248_1
                              obtain ⟨kq, x136_252, rfl, HA, HJ252, HO_5, BK353, BK354, BK357, BK360, BK363, HB⟩ := hcut
                              cases kq with
                              | zero => exact absurd HA.out (by simp [laws_FnRangeLattice.j4])
                              | succ kj252 =>
                                have H := HA.out
                                clear HA
                                simp only [laws_FnRangeLattice.j4] at H
                                by_cases c269 : x136_252 = true
                                · subst c269
                                  have H1 : (some (t361 == t355 && (t362 == t356))) = some r := by rw [if_pos rfl] at H; exact H
                                  clear H
                                  have H := H1
                                  clear H1
                                  obtain rfl := Option.some.inj H
                                  have hnb270 := NB363_353.out
                                  have hnc270 := NB353_363.out
                                  have hnb271 := NB363_354.out
                                  have hnc271 := NB354_363.out
                                  have hnb272 := NB363_357.out
                                  have hnc272 := NB357_363.out
                                  have hnb273 := NB363_360.out
                                  have hnc273 := NB360_363.out
                                  obtain ⟨hcz274_0, hcz274_1, hfz274_0, hfz274_1⟩ := sqc2 BK363
                                  have hnb275 := NB357_353.out
                                  have hnc275 := NB353_357.out
                                  have hnb276 := NB357_354.out
                                  have hnc276 := NB354_357.out
                                  have hnb277 := NB357_360.out
                                  have hnc277 := NB360_357.out
                                  obtain ⟨hcz278_0, hcz278_1, hfz278_0, hfz278_1⟩ := sqc2 BK357
                                  go_wp2
                                  go_ret
                                  exact sqe HB
                                · replace c269 := Bool.eq_false_iff.mpr c269
                                  subst c269
                                  have H1 : (if t361 = t346 then (if t362 = t347 then (some true) else (if t362 = 2147483647 then (some true) else ((laws_has.f kj252 t350 t362).bind fun t381 => (some t381)))) else (if t361 = (-2147483648) then (if t362 = t347 then (some true) else (if t362 = 2147483647 then (some true) else ((laws_has.f kj252 t350 t362).bind fun t382 => (some t382)))) else ((laws_has.f kj252 t350 t361).bind fun t383 => (if t383 = true then (if t362 = t347 then (some true) else (if t362 = 2147483647 then (some true) else ((laws_has.f kj252 t350 t362).bind fun t384 => (some t384)))) else (some false))))) = some r := by rw [if_neg (show ¬ (false = true) by decide)] at H; exact H
                                  clear H
                                  have H := H1
                                  clear H1
                                  by_cases c279 : t361 = t346
                                  · rw [if_pos c279] at H
                                    have c279b0 : (t361 == t346) = true := beq_iff_eq.mpr c279
                                    have c279b1 : (t361 != t346) = false := bne_eq_false_iff_eq.mpr c279
                                    clear c279
                                    by_cases c280 : t362 = t347
                                    · rw [if_pos c280] at H
                                      have c280b0 : (t362 == t347) = true := beq_iff_eq.mpr c280
                                      have c280b1 : (t362 != t347) = false := bne_eq_false_iff_eq.mpr c280
                                      clear c280
                                      obtain rfl := Option.some.inj H
                                      have hnb281 := NB363_353.out
                                      have hnc281 := NB353_363.out
                                      have hnb282 := NB363_354.out
                                      have hnc282 := NB354_363.out
                                      have hnb283 := NB363_357.out
                                      have hnc283 := NB357_363.out
                                      have hnb284 := NB363_360.out
                                      have hnc284 := NB360_363.out
                                      obtain ⟨hcz285_0, hcz285_1, hfz285_0, hfz285_1⟩ := sqc2 BK363
                                      have hnb286 := NB353_354.out
                                      have hnc286 := NB354_353.out
                                      have hnb287 := NB353_357.out
                                      have hnc287 := NB357_353.out
                                      have hnb288 := NB353_360.out
                                      have hnc288 := NB360_353.out
                                      obtain ⟨hcz289_0, hcz289_1, hfz289_0, hfz289_1⟩ := sqc2 BK353
                                      go_wp2
                                      go_ret
                                      exact sqe HB
                                    · rw [if_neg c280] at H
                                      have c280b0 : (t362 == t347) = false := beq_eq_false_iff_ne.mpr c280
                                      have c280b1 : (t362 != t347) = true := bne_iff_ne.mpr c280
                                      by_cases c290 : t362 = 2147483647
                                      · rw [if_pos c290] at H
                                        have c290b0 : (t362 == 2147483647) = true := beq_iff_eq.mpr c290
                                        have c290b1 : (t362 != 2147483647) = false := bne_eq_false_iff_eq.mpr c290
                                        clear c290
                                        obtain rfl := Option.some.inj H
                                        have hnb291 := NB363_353.out
                                        have hnc291 := NB353_363.out
                                        have hnb292 := NB363_354.out
                                        have hnc292 := NB354_363.out
                                        have hnb293 := NB363_357.out
                                        have hnc293 := NB357_363.out
                                        have hnb294 := NB363_360.out
                                        have hnc294 := NB360_363.out
                                        obtain ⟨hcz295_0, hcz295_1, hfz295_0, hfz295_1⟩ := sqc2 BK363
                                        have hnb296 := NB353_354.out
                                        have hnc296 := NB354_353.out
                                        have hnb297 := NB353_357.out
                                        have hnc297 := NB357_353.out
                                        have hnb298 := NB353_360.out
                                        have hnc298 := NB360_353.out
                                        obtain ⟨hcz299_0, hcz299_1, hfz299_0, hfz299_1⟩ := sqc2 BK353
                                        go_wp2
                                        go_ret
                                        exact sqe HB
                                      · rw [if_neg c290] at H
                                        have c290b0 : (t362 == 2147483647) = false := beq_eq_false_iff_ne.mpr c290
                                        have c290b1 : (t362 != 2147483647) = true := bne_iff_ne.mpr c290
                                        replace H := Option.bind_eq_some_iff.mp H
                                        obtain ⟨t381, A3000, H⟩ := H
                                        replace H : (some t381) = some r := H
                                        have A300 := Aside0.mk A3000
                                        clear A3000
                                        obtain rfl := Option.some.inj H
                                        have hnb301 := NB363_353.out
                                        have hnc301 := NB353_363.out
                                        have hnb302 := NB363_354.out
                                        have hnc302 := NB354_363.out
                                        have hnb303 := NB363_357.out
                                        have hnc303 := NB357_363.out
                                        have hnb304 := NB363_360.out
                                        have hnc304 := NB360_363.out
                                        obtain ⟨hcz305_0, hcz305_1, hfz305_0, hfz305_1⟩ := sqc2 BK363
                                        have hnb306 := NB353_354.out
                                        have hnc306 := NB354_353.out
                                        have hnb307 := NB353_357.out
                                        have hnc307 := NB357_353.out
                                        have hnb308 := NB353_360.out
                                        have hnc308 := NB360_353.out
                                        obtain ⟨hcz309_0, hcz309_1, hfz309_0, hfz309_1⟩ := sqc2 BK353
                                        go_wp2_with (first | (go_at_call 53; (with_reducible refine (laws_has.calls kj252 _ _ t350 t362 t381 _ ?side1 ?side2 A300.out).mono ?_); (case side1 => repeat (first | exact (Kd.R_reads' HO_5.out).2.2 | (with_reducible refine Kd.C_alloc ?_ _) | (with_reducible refine Kd.C_drewN ?_ _) | (with_reducible refine Kd.C_drew ?_))); (case side2 => exact (Kd.R_reads' HO_5.out).2.1); rintro e w' ⟨rfl, ⟨nd, rfl⟩⟩))
                                        go_ret
                                        exact sqe HB
                                  · rw [if_neg c279] at H
                                    have c279b0 : (t361 == t346) = false := beq_eq_false_iff_ne.mpr c279
                                    have c279b1 : (t361 != t346) = true := bne_iff_ne.mpr c279
                                    by_cases c310 : t361 = (-2147483648)
                                    · rw [if_pos c310] at H
                                      have c310b0 : (t361 == (-2147483648)) = true := beq_iff_eq.mpr c310
                                      have c310b1 : (t361 != (-2147483648)) = false := bne_eq_false_iff_eq.mpr c310
                                      clear c310
                                      by_cases c311 : t362 = t347
                                      · rw [if_pos c311] at H
                                        have c311b0 : (t362 == t347) = true := beq_iff_eq.mpr c311
                                        have c311b1 : (t362 != t347) = false := bne_eq_false_iff_eq.mpr c311
                                        clear c311
                                        obtain rfl := Option.some.inj H
                                        have hnb312 := NB363_353.out
                                        have hnc312 := NB353_363.out
                                        have hnb313 := NB363_354.out
                                        have hnc313 := NB354_363.out
                                        have hnb314 := NB363_357.out
                                        have hnc314 := NB357_363.out
                                        have hnb315 := NB363_360.out
                                        have hnc315 := NB360_363.out
                                        obtain ⟨hcz316_0, hcz316_1, hfz316_0, hfz316_1⟩ := sqc2 BK363
                                        have hnb317 := NB353_354.out
                                        have hnc317 := NB354_353.out
                                        have hnb318 := NB353_357.out
                                        have hnc318 := NB357_353.out
                                        have hnb319 := NB353_360.out
                                        have hnc319 := NB360_353.out
                                        obtain ⟨hcz320_0, hcz320_1, hfz320_0, hfz320_1⟩ := sqc2 BK353
                                        go_wp2
                                        go_ret
                                        exact sqe HB
                                      · rw [if_neg c311] at H
                                        have c311b0 : (t362 == t347) = false := beq_eq_false_iff_ne.mpr c311
                                        have c311b1 : (t362 != t347) = true := bne_iff_ne.mpr c311
                                        by_cases c321 : t362 = 2147483647
                                        · rw [if_pos c321] at H
                                          have c321b0 : (t362 == 2147483647) = true := beq_iff_eq.mpr c321
                                          have c321b1 : (t362 != 2147483647) = false := bne_eq_false_iff_eq.mpr c321
                                          clear c321
                                          obtain rfl := Option.some.inj H
                                          have hnb322 := NB363_353.out
                                          have hnc322 := NB353_363.out
                                          have hnb323 := NB363_354.out
                                          have hnc323 := NB354_363.out
                                          have hnb324 := NB363_357.out
                                          have hnc324 := NB357_363.out
                                          have hnb325 := NB363_360.out
                                          have hnc325 := NB360_363.out
                                          obtain ⟨hcz326_0, hcz326_1, hfz326_0, hfz326_1⟩ := sqc2 BK363
                                          have hnb327 := NB353_354.out
                                          have hnc327 := NB354_353.out
                                          have hnb328 := NB353_357.out
                                          have hnc328 := NB357_353.out
                                          have hnb329 := NB353_360.out
                                          have hnc329 := NB360_353.out
                                          obtain ⟨hcz330_0, hcz330_1, hfz330_0, hfz330_1⟩ := sqc2 BK353
                                          go_wp2
                                          go_ret
                                          exact sqe HB
                                        · rw [if_neg c321] at H
                                          have c321b0 : (t362 == 2147483647) = false := beq_eq_false_iff_ne.mpr c321
                                          have c321b1 : (t362 != 2147483647) = true := bne_iff_ne.mpr c321
                                          replace H := Option.bind_eq_some_iff.mp H
                                          obtain ⟨t382, A3310, H⟩ := H
                                          replace H : (some t382) = some r := H
                                          have A331 := Aside0.mk A3310
                                          clear A3310
                                          obtain rfl := Option.some.inj H
                                          have hnb332 := NB363_353.out
                                          have hnc332 := NB353_363.out
                                          have hnb333 := NB363_354.out
                                          have hnc333 := NB354_363.out
                                          have hnb334 := NB363_357.out
                                          have hnc334 := NB357_363.out
                                          have hnb335 := NB363_360.out
                                          have hnc335 := NB360_363.out
                                          obtain ⟨hcz336_0, hcz336_1, hfz336_0, hfz336_1⟩ := sqc2 BK363
                                          have hnb337 := NB353_354.out
                                          have hnc337 := NB354_353.out
                                          have hnb338 := NB353_357.out
                                          have hnc338 := NB357_353.out
                                          have hnb339 := NB353_360.out
                                          have hnc339 := NB360_353.out
                                          obtain ⟨hcz340_0, hcz340_1, hfz340_0, hfz340_1⟩ := sqc2 BK353
                                          go_wp2_with (first | (go_at_call 53; (with_reducible refine (laws_has.calls kj252 _ _ t350 t362 t382 _ ?side1 ?side2 A331.out).mono ?_); (case side1 => repeat (first | exact (Kd.R_reads' HO_5.out).2.2 | (with_reducible refine Kd.C_alloc ?_ _) | (with_reducible refine Kd.C_drewN ?_ _) | (with_reducible refine Kd.C_drew ?_))); (case side2 => exact (Kd.R_reads' HO_5.out).2.1); rintro e w' ⟨rfl, ⟨nd, rfl⟩⟩))
                                          go_ret
                                          exact sqe HB
                                    · rw [if_neg c310] at H
                                      have c310b0 : (t361 == (-2147483648)) = false := beq_eq_false_iff_ne.mpr c310
                                      have c310b1 : (t361 != (-2147483648)) = true := bne_iff_ne.mpr c310
                                      replace H := Option.bind_eq_some_iff.mp H
                                      obtain ⟨t383, A3410, H⟩ := H
                                      replace H : (if t383 = true then (if t362 = t347 then (some true) else (if t362 = 2147483647 then (some true) else ((laws_has.f kj252 t350 t362).bind fun t384 => (some t384)))) else (some false)) = some r := H
                                      have A341 := Aside0.mk A3410
                                      clear A3410
                                      by_cases c342 : t383 = true
                                      · subst c342
                                        have H1 : (if t362 = t347 then (some true) else (if t362 = 2147483647 then (some true) else ((laws_has.f kj252 t350 t362).bind fun t384 => (some t384)))) = some r := by rw [if_pos rfl] at H; exact H
                                        clear H
                                        have H := H1
                                        clear H1
                                        by_cases c343 : t362 = t347
                                        · rw [if_pos c343] at H
                                          have c343b0 : (t362 == t347) = true := beq_iff_eq.mpr c343
                                          have c343b1 : (t362 != t347) = false := bne_eq_false_iff_eq.mpr c343
                                          clear c343
                                          obtain rfl := Option.some.inj H
                                          have hnb344 := NB363_353.out
                                          have hnc344 := NB353_363.out
                                          have hnb345 := NB363_354.out
                                          have hnc345 := NB354_363.out
                                          have hnb346 := NB363_357.out
                                          have hnc346 := NB357_363.out
                                          have hnb347 := NB363_360.out
                                          have hnc347 := NB360_363.out
                                          obtain ⟨hcz348_0, hcz348_1, hfz348_0, hfz348_1⟩ := sqc2 BK363
                                          have hnb349 := NB353_354.out
                                          have hnc349 := NB354_353.out
                                          have hnb350 := NB353_357.out
                                          have hnc350 := NB357_353.out
                                          have hnb351 := NB353_360.out
                                          have hnc351 := NB360_353.out
                                          obtain ⟨hcz352_0, hcz352_1, hfz352_0, hfz352_1⟩ := sqc2 BK353
                                          go_wp2_with (first | (go_at_call 53; (with_reducible refine (laws_has.calls kj252 _ _ t350 t361 true _ ?side1 ?side2 A341.out).mono ?_); (case side1 => repeat (first | exact (Kd.R_reads' HO_5.out).2.2 | (with_reducible refine Kd.C_alloc ?_ _) | (with_reducible refine Kd.C_drewN ?_ _) | (with_reducible refine Kd.C_drew ?_))); (case side2 => exact (Kd.R_reads' HO_5.out).2.1); rintro e w' ⟨rfl, ⟨nd, rfl⟩⟩))
                                          go_ret
                                          exact sqe HB
                                        · rw [if_neg c343] at H
                                          have c343b0 : (t362 == t347) = false := beq_eq_false_iff_ne.mpr c343
                                          have c343b1 : (t362 != t347) = true := bne_iff_ne.mpr c343
                                          by_cases c353 : t362 = 2147483647
                                          · rw [if_pos c353] at H
                                            have c353b0 : (t362 == 2147483647) = true := beq_iff_eq.mpr c353
                                            have c353b1 : (t362 != 2147483647) = false := bne_eq_false_iff_eq.mpr c353
                                            clear c353
                                            obtain rfl := Option.some.inj H
                                            have hnb354 := NB363_353.out
                                            have hnc354 := NB353_363.out
                                            have hnb355 := NB363_354.out
                                            have hnc355 := NB354_363.out
                                            have hnb356 := NB363_357.out
                                            have hnc356 := NB357_363.out
                                            have hnb357 := NB363_360.out
                                            have hnc357 := NB360_363.out
                                            obtain ⟨hcz358_0, hcz358_1, hfz358_0, hfz358_1⟩ := sqc2 BK363
                                            have hnb359 := NB353_354.out
                                            have hnc359 := NB354_353.out
                                            have hnb360 := NB353_357.out
                                            have hnc360 := NB357_353.out
                                            have hnb361 := NB353_360.out
                                            have hnc361 := NB360_353.out
                                            obtain ⟨hcz362_0, hcz362_1, hfz362_0, hfz362_1⟩ := sqc2 BK353
                                            go_wp2_with (first | (go_at_call 53; (with_reducible refine (laws_has.calls kj252 _ _ t350 t361 true _ ?side1 ?side2 A341.out).mono ?_); (case side1 => repeat (first | exact (Kd.R_reads' HO_5.out).2.2 | (with_reducible refine Kd.C_alloc ?_ _) | (with_reducible refine Kd.C_drewN ?_ _) | (with_reducible refine Kd.C_drew ?_))); (case side2 => exact (Kd.R_reads' HO_5.out).2.1); rintro e w' ⟨rfl, ⟨nd, rfl⟩⟩))
                                            go_ret
                                            exact sqe HB
                                          · rw [if_neg c353] at H
                                            have c353b0 : (t362 == 2147483647) = false := beq_eq_false_iff_ne.mpr c353
                                            have c353b1 : (t362 != 2147483647) = true := bne_iff_ne.mpr c353
                                            replace H := Option.bind_eq_some_iff.mp H
                                            obtain ⟨t384, A3630, H⟩ := H
                                            replace H : (some t384) = some r := H
                                            have A363 := Aside0.mk A3630
                                            clear A3630
                                            obtain rfl := Option.some.inj H
                                            have hnb364 := NB363_353.out
                                            have hnc364 := NB353_363.out
                                            have hnb365 := NB363_354.out
                                            have hnc365 := NB354_363.out
                                            have hnb366 := NB363_357.out
                                            have hnc366 := NB357_363.out
                                            have hnb367 := NB363_360.out
                                            have hnc367 := NB360_363.out
                                            obtain ⟨hcz368_0, hcz368_1, hfz368_0, hfz368_1⟩ := sqc2 BK363
                                            have hnb369 := NB353_354.out
                                            have hnc369 := NB354_353.out
                                            have hnb370 := NB353_357.out
                                            have hnc370 := NB357_353.out
                                            have hnb371 := NB353_360.out
                                            have hnc371 := NB360_353.out
                                            obtain ⟨hcz372_0, hcz372_1, hfz372_0, hfz372_1⟩ := sqc2 BK353
                                            go_wp2_with (first | (go_at_call 53; (with_reducible refine (laws_has.calls kj252 _ _ t350 t361 true _ ?side1 ?side2 A341.out).mono ?_); (case side1 => repeat (first | exact (Kd.R_reads' HO_5.out).2.2 | (with_reducible refine Kd.C_alloc ?_ _) | (with_reducible refine Kd.C_drewN ?_ _) | (with_reducible refine Kd.C_drew ?_))); (case side2 => exact (Kd.R_reads' HO_5.out).2.1); rintro e w' ⟨rfl, ⟨nd, rfl⟩⟩) | (go_at_call 53; (with_reducible refine (laws_has.calls kj252 _ _ t350 t362 t384 _ ?side1 ?side2 A363.out).mono ?_); (case side1 => repeat (first | exact (Kd.R_reads' HO_5.out).2.2 | (with_reducible refine Kd.C_alloc ?_ _) | (with_reducible refine Kd.C_drewN ?_ _) | (with_reducible refine Kd.C_drew ?_))); (case side2 => exact (Kd.R_reads' HO_5.out).2.1); rintro e w' ⟨rfl, ⟨nd, rfl⟩⟩))
                                            go_ret
                                            exact sqe HB
                                      · replace c342 := Bool.eq_false_iff.mpr c342
                                        subst c342
                                        have H1 : (some false) = some r := by rw [if_neg (show ¬ (false = true) by decide)] at H; exact H
                                        clear H
                                        have H := H1
                                        clear H1
                                        obtain rfl := Option.some.inj H
                                        have hnb373 := NB363_353.out
                                        have hnc373 := NB353_363.out
                                        have hnb374 := NB363_354.out
                                        have hnc374 := NB354_363.out
                                        have hnb375 := NB363_357.out
                                        have hnc375 := NB357_363.out
                                        have hnb376 := NB363_360.out
                                        have hnc376 := NB360_363.out
                                        obtain ⟨hcz377_0, hcz377_1, hfz377_0, hfz377_1⟩ := sqc2 BK363
                                        have hnb378 := NB353_354.out
                                        have hnc378 := NB354_353.out
                                        have hnb379 := NB353_357.out
                                        have hnc379 := NB357_353.out
                                        have hnb380 := NB353_360.out
                                        have hnc380 := NB360_353.out
                                        obtain ⟨hcz381_0, hcz381_1, hfz381_0, hfz381_1⟩ := sqc2 BK353
                                        go_wp2_with (first | (go_at_call 53; (with_reducible refine (laws_has.calls kj252 _ _ t350 t361 false _ ?side1 ?side2 A341.out).mono ?_); (case side1 => repeat (first | exact (Kd.R_reads' HO_5.out).2.2 | (with_reducible refine Kd.C_alloc ?_ _) | (with_reducible refine Kd.C_drewN ?_ _) | (with_reducible refine Kd.C_drew ?_))); (case side2 => exact (Kd.R_reads' HO_5.out).2.1); rintro e w' ⟨rfl, ⟨nd, rfl⟩⟩))
                                        go_ret
                                        exact sqe HB

/-- THE ONE PURE STATEMENT of laws_FnRangeLattice: yours. -/
theorem laws_FnRangeLattice.walk (P : laws_FnRangeLattice.Pure) (a0 : Option Addr) (len0 cap0 : Nat) (z0 : List Int) (w : World) (w0 : (a0 = none ∧ len0 = 0 ∧ cap0 = 0 ∧ z0 = []) ∨ ∃ x, a0 = some x ∧ len0 ≤ cap0 ∧ cap0 ≤ maxLen ∧ z0.length = cap0 ∧ (∀ i, i < z0.length → w.cell? (x.add i) = some (.int .u8 (z0.getD i 0))) ∧ ∀ n ∈ z0, (Lit.int .u8 n).wf = true) (y0 : len0 * 1 ≤ 140737488351232) :
    Calls Try.prog 12 #[.slice a0 len0 cap0] w fun e w' => e = .returned (.bool true) ∧ Below w.heap.size w w' := by
  obtain ⟨l0, rfl, hr0, hm0, hw0, hc0⟩ := ReadsInt.ofRowC w0
  obtain ⟨k, h⟩ := P l0 hm0 y0 hw0
  refine (laws_FnRangeLattice.calls k _ _ l0 true w (Kd.C_of_reads (d := (0 : Int)) (h1 := fun _ => rfl) hr0) hc0 h).mono ?_
  rintro e w' ⟨rfl, hd⟩
  exact ⟨rfl, hd⟩

end Go.Proofs.Ytmdcgkkkfncieaa.PFnRangeLattice
