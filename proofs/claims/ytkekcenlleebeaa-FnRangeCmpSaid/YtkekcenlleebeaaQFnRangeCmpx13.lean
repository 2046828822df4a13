/- Functions of the program as plain Lean functions, and that calls of them come to what these tell. Conditions: those in each law. -/
import Derived.Test.YtkekcenlleebeaaSq
import Derived.Test.YtkekcenlleebeaaDFnRangeCmp
import Derived.Test.YtkekcenlleebeaaQFnRangeCmpx0
import Derived.Test.YtkekcenlleebeaaQFnRangeCmpx1
import Derived.Test.YtkekcenlleebeaaQFnRangeCmpx2
import Derived.Test.YtkekcenlleebeaaQFnRangeCmpx3
import Derived.Test.YtkekcenlleebeaaQFnRangeCmpx5
import Derived.Test.YtkekcenlleebeaaQFnRangeCmpx11
import Derived.Test.YtkekcenlleebeaaQFnRangeCmpx12
namespace Go.Proofs.Ytkekcenlleebeaa.PFnRangeCmp
open Go.RowKit Go.Proofs.Ytkekcenlleebeaa.Sq Go.Proofs.YtkekcenlleebeaaW.PrintWords Go.Proofs.YtkekcenlleebeaaW.PrintLast Go.Proofs.YtkekcenlleebeaaW.PrintMore
attribute [local go_sem] max2_int min2_int max_two min_two max_three min_three max_four min_four   -- for this text's walks alone
set_option linter.unusedVariables false
set_option linter.unusedSimpArgs false

attribute [local go_sem high] eqA24
/-! ### spec_RangeCmp: function 44 -/
theorem spec_RangeCmp.mono_l : ∀ k, (∀ y0 y1 y2 y3 y4, LeO (spec_RangeCmp.f k y0 y1 y2 y3 y4) (spec_RangeCmp.f (k + 1) y0 y1 y2 y3 y4)) ∧ (∀ y0 y1 y2 y3 y4 y5 y6 y7 y8 y9, LeO (spec_RangeCmp.j0 k y0 y1 y2 y3 y4 y5 y6 y7 y8 y9) (spec_RangeCmp.j0 (k + 1) y0 y1 y2 y3 y4 y5 y6 y7 y8 y9)) ∧ (∀ y0 y1 y2 y3 y4 y5 y6 y7 y8, LeO (spec_RangeCmp.j1 k y0 y1 y2 y3 y4 y5 y6 y7 y8) (spec_RangeCmp.j1 (k + 1) y0 y1 y2 y3 y4 y5 y6 y7 y8)) ∧ (∀ y0 y1 y2 y3 y4 y5 y6 y7 y8, LeO (spec_RangeCmp.j2 k y0 y1 y2 y3 y4 y5 y6 y7 y8) (spec_RangeCmp.j2 (k + 1) y0 y1 y2 y3 y4 y5 y6 y7 y8)) ∧ (∀ y0 y1 y2 y3 y4 y5 y6 y7 y8, LeO (spec_RangeCmp.j3 k y0 y1 y2 y3 y4 y5 y6 y7 y8) (spec_RangeCmp.j3 (k + 1) y0 y1 y2 y3 y4 y5 y6 y7 y8)) ∧ (∀ y0 y1 y2 y3 y4 y5 y6 y7 y8, LeO (spec_RangeCmp.j4 k y0 y1 y2 y3 y4 y5 y6 y7 y8) (spec_RangeCmp.j4 (k + 1) y0 y1 y2 y3 y4 y5 y6 y7 y8)) ∧ (∀ y0 y1 y2 y3 y4 y5 y6 y7 y8 y9, LeO (spec_RangeCmp.j5 k y0 y1 y2 y3 y4 y5 y6 y7 y8 y9) (spec_RangeCmp.j5 (k + 1) y0 y1 y2 y3 y4 y5 y6 y7 y8 y9)) ∧ (∀ y0 y1 y2 y3, LeO (spec_RangeCmp.j6 k y0 y1 y2 y3) (spec_RangeCmp.j6 (k + 1) y0 y1 y2 y3)) ∧ (∀ y0 y1 y2 y3 y4, LeO (spec_RangeCmp.j7 k y0 y1 y2 y3 y4) (spec_RangeCmp.j7 (k + 1) y0 y1 y2 y3 y4))
  | 0 => ⟨fun _ _ _ _ _ r h => by simp [spec_RangeCmp.f] at h, fun _ _ _ _ _ _ _ _ _ _ r h => by simp [spec_RangeCmp.j0] at h, fun _ _ _ _ _ _ _ _ _ r h => by simp [spec_RangeCmp.j1] at h, fun _ _ _ _ _ _ _ _ _ r h => by simp [spec_RangeCmp.j2] at h, fun _ _ _ _ _ _ _ _ _ r h => by simp [spec_RangeCmp.j3] at h, fun _ _ _ _ _ _ _ _ _ r h => by simp [spec_RangeCmp.j4] at h, fun _ _ _ _ _ _ _ _ _ _ r h => by simp [spec_RangeCmp.j5] at h, fun _ _ _ _ r h => by simp [spec_RangeCmp.j6] at h, fun _ _ _ _ _ r h => by simp [spec_RangeCmp.j7] at h⟩
  | k + 1 => by
    obtain ⟨ih0, ih1, ih2, ih3, ih4, ih5, ih6, ih7, ih8⟩ := spec_RangeCmp.mono_l k
    refine ⟨?_, ?_, ?_, ?_, ?_, ?_, ?_, ?_, ?_⟩
    · intro y0 y1 y2 y3 y4
      unfold spec_RangeCmp.f
      repeat' first
      | (with_reducible exact ih0 _ _ _ _ _)
      | (with_reducible exact ih1 _ _ _ _ _ _ _ _ _ _)
      | (with_reducible exact ih2 _ _ _ _ _ _ _ _ _)
      | (with_reducible exact ih3 _ _ _ _ _ _ _ _ _)
      | (with_reducible exact ih4 _ _ _ _ _ _ _ _ _)
      | (with_reducible exact ih5 _ _ _ _ _ _ _ _ _)
      | (with_reducible exact ih6 _ _ _ _ _ _ _ _ _ _)
      | (with_reducible exact ih7 _ _ _ _)
      | (with_reducible exact ih8 _ _ _ _ _)
      | (with_reducible exact spec_RangeMeet.mono _ _ _ _ _)
      | (with_reducible exact LeO.refl _)
      | (with_reducible exact LeO.none _)
      | (with_reducible refine LeO.ite ?_ ?_)
      | (with_reducible refine LeO.bind ?_ (fun _ => ?_))
      | exact ih0 _ _ _ _ _
      | exact ih1 _ _ _ _ _ _ _ _ _ _
      | exact ih2 _ _ _ _ _ _ _ _ _
      | exact ih3 _ _ _ _ _ _ _ _ _
      | exact ih4 _ _ _ _ _ _ _ _ _
      | exact ih5 _ _ _ _ _ _ _ _ _
      | exact ih6 _ _ _ _ _ _ _ _ _ _
      | exact ih7 _ _ _ _
      | exact ih8 _ _ _ _ _
      | exact spec_RangeMeet.mono _ _ _ _ _
      | exact LeO.none _
      | refine LeO.ite ?_ ?_
      | refine LeO.bind ?_ (fun _ => ?_)
    · intro y0 y1 y2 y3 y4 y5 y6 y7 y8 y9
      unfold spec_RangeCmp.j0
      repeat' first
      | (with_reducible exact ih0 _ _ _ _ _)
      | (with_reducible exact ih1 _ _ _ _ _ _ _ _ _ _)
      | (with_reducible exact ih2 _ _ _ _ _ _ _ _ _)
      | (with_reducible exact ih3 _ _ _ _ _ _ _ _ _)
      | (with_reducible exact ih4 _ _ _ _ _ _ _ _ _)
      | (with_reducible exact ih5 _ _ _ _ _ _ _ _ _)
      | (with_reducible exact ih6 _ _ _ _ _ _ _ _ _ _)
      | (with_reducible exact ih7 _ _ _ _)
      | (with_reducible exact ih8 _ _ _ _ _)
      | (with_reducible exact spec_RangeMeet.mono _ _ _ _ _)
      | (with_reducible exact LeO.refl _)
      | (with_reducible exact LeO.none _)
      | (with_reducible refine LeO.ite ?_ ?_)
      | (with_reducible refine LeO.bind ?_ (fun _ => ?_))
      | exact ih0 _ _ _ _ _
      | exact ih1 _ _ _ _ _ _ _ _ _ _
      | exact ih2 _ _ _ _ _ _ _ _ _
      | exact ih3 _ _ _ _ _ _ _ _ _
      | exact ih4 _ _ _ _ _ _ _ _ _
      | exact ih5 _ _ _ _ _ _ _ _ _
      | exact ih6 _ _ _ _ _ _ _ _ _ _
      | exact ih7 _ _ _ _
      | exact ih8 _ _ _ _ _
      | exact spec_RangeMeet.mono _ _ _ _ _
      | exact LeO.none _
      | refine LeO.ite ?_ ?_
      | refine LeO.bind ?_ (fun _ => ?_)
    · intro y0 y1 y2 y3 y4 y5 y6 y7 y8
      unfold spec_RangeCmp.j1
      repeat' first
      | (with_reducible exact ih0 _ _ _ _ _)
      | (with_reducible exact ih1 _ _ _ _ _ _ _ _ _ _)
      | (with_reducible exact ih2 _ _ _ _ _ _ _ _ _)
      | (with_reducible exact ih3 _ _ _ _ _ _ _ _ _)
      | (with_reducible exact ih4 _ _ _ _ _ _ _ _ _)
      | (with_reducible exact ih5 _ _ _ _ _ _ _ _ _)
      | (with_reducible exact ih6 _ _ _ _ _ _ _ _ _ _)
      | (with_reducible exact ih7 _ _ _ _)
      | (with_reducible exact ih8 _ _ _ _ _)
      | (with_reducible exact spec_RangeMeet.mono _ _ _ _ _)
      | (with_reducible exact LeO.refl _)
      | (with_reducible exact LeO.none _)
      | (with_reducible refine LeO.ite ?_ ?_)
      | (with_reducible refine LeO.bind ?_ (fun _ => ?_))
      | exact ih0 _ _ _ _ _
      | exact ih1 _ _ _ _ _ _ _ _ _ _
      | exact ih2 _ _ _ _ _ _ _ _ _
      | exact ih3 _ _ _ _ _ _ _ _ _
      | exact ih4 _ _ _ _ _ _ _ _ _
      | exact ih5 _ _ _ _ _ _ _ _ _
      | exact ih6 _ _ _ _ _ _ _ _ _ _
      | exact ih7 _ _ _ _
      | exact ih8 _ _ _ _ _
      | exact spec_RangeMeet.mono _ _ _ _ _
      | exact LeO.none _
      | refine LeO.ite ?_ ?_
      | refine LeO.bind ?_ (fun _ => ?_)
    · intro y0 y1 y2 y3 y4 y5 y6 y7 y8
      unfold spec_RangeCmp.j2
      repeat' first
      | (with_reducible exact ih0 _ _ _ _ _)
      | (with_reducible exact ih1 _ _ _ _ _ _ _ _ _ _)
      | (with_reducible exact ih2 _ _ _ _ _ _ _ _ _)
      | (with_reducible exact ih3 _ _ _ _ _ _ _ _ _)
      | (with_reducible exact ih4 _ _ _ _ _ _ _ _ _)
      | (with_reducible exact ih5 _ _ _ _ _ _ _ _ _)
      | (with_reducible exact ih6 _ _ _ _ _ _ _ _ _ _)
      | (with_reducible exact ih7 _ _ _ _)
      | (with_reducible exact ih8 _ _ _ _ _)
      | (with_reducible exact spec_RangeMeet.mono _ _ _ _ _)
      | (with_reducible exact LeO.refl _)
      | (with_reducible exact LeO.none _)
      | (with_reducible refine LeO.ite ?_ ?_)
      | (with_reducible refine LeO.bind ?_ (fun _ => ?_))
      | exact ih0 _ _ _ _ _
      | exact ih1 _ _ _ _ _ _ _ _ _ _
      | exact ih2 _ _ _ _ _ _ _ _ _
      | exact ih3 _ _ _ _ _ _ _ _ _
      | exact ih4 _ _ _ _ _ _ _ _ _
      | exact ih5 _ _ _ _ _ _ _ _ _
      | exact ih6 _ _ _ _ _ _ _ _ _ _
      | exact ih7 _ _ _ _
      | exact ih8 _ _ _ _ _
      | exact spec_RangeMeet.mono _ _ _ _ _
      | exact LeO.none _
      | refine LeO.ite ?_ ?_
      | refine LeO.bind ?_ (fun _ => ?_)
    · intro y0 y1 y2 y3 y4 y5 y6 y7 y8
      unfold spec_RangeCmp.j3
      repeat' first
      | (with_reducible exact ih0 _ _ _ _ _)
      | (with_reducible exact ih1 _ _ _ _ _ _ _ _ _ _)
      | (with_reducible exact ih2 _ _ _ _ _ _ _ _ _)
      | (with_reducible exact ih3 _ _ _ _ _ _ _ _ _)
      | (with_reducible exact ih4 _ _ _ _ _ _ _ _ _)
      | (with_reducible exact ih5 _ _ _ _ _ _ _ _ _)
      | (with_reducible exact ih6 _ _ _ _ _ _ _ _ _ _)
      | (with_reducible exact ih7 _ _ _ _)
      | (with_reducible exact ih8 _ _ _ _ _)
      | (with_reducible exact spec_RangeMeet.mono _ _ _ _ _)
      | (with_reducible exact LeO.refl _)
      | (with_reducible exact LeO.none _)
      | (with_reducible refine LeO.ite ?_ ?_)
      | (with_reducible refine LeO.bind ?_ (fun _ => ?_))
      | exact ih0 _ _ _ _ _
      | exact ih1 _ _ _ _ _ _ _ _ _ _
      | exact ih2 _ _ _ _ _ _ _ _ _
      | exact ih3 _ _ _ _ _ _ _ _ _
      | exact ih4 _ _ _ _ _ _ _ _ _
      | exact ih5 _ _ _ _ _ _ _ _ _
      | exact ih6 _ _ _ _ _ _ _ _ _ _
      | exact ih7 _ _ _ _
      | exact ih8 _ _ _ _ _
      | exact spec_RangeMeet.mono _ _ _ _ _
      | exact LeO.none _
      | refine LeO.ite ?_ ?_
      | refine LeO.bind ?_ (fun _ => ?_)
    · intro y0 y1 y2 y3 y4 y5 y6 y7 y8
      unfold spec_RangeCmp.j4
      repeat' first
      | (with_reducible exact ih0 _ _ _ _ _)
      | (with_reducible exact ih1 _ _ _ _ _ _ _ _ _ _)
      | (with_reducible exact ih2 _ _ _ _ _ _ _ _ _)
      | (with_reducible exact ih3 _ _ _ _ _ _ _ _ _)
      | (with_reducible exact ih4 _ _ _ _ _ _ _ _ _)
      | (with_reducible exact ih5 _ _ _ _ _ _ _ _ _)
      | (with_reducible exact ih6 _ _ _ _ _ _ _ _ _ _)
      | (with_reducible exact ih7 _ _ _ _)
      | (with_reducible exact ih8 _ _ _ _ _)
      | (with_reducible exact spec_RangeMeet.mono _ _ _ _ _)
      | (with_reducible exact LeO.refl _)
      | (with_reducible exact LeO.none _)
      | (with_reducible refine LeO.ite ?_ ?_)
      | (with_reducible refine LeO.bind ?_ (fun _ => ?_))
      | exact ih0 _ _ _ _ _
      | exact ih1 _ _ _ _ _ _ _ _ _ _
      | exact ih2 _ _ _ _ _ _ _ _ _
      | exact ih3 _ _ _ _ _ _ _ _ _
      | exact ih4 _ _ _ _ _ _ _ _ _
      | exact ih5 _ _ _ _ _ _ _ _ _
      | exact ih6 _ _ _ _ _ _ _ _ _ _
      | exact ih7 _ _ _ _
      | exact ih8 _ _ _ _ _
      | exact spec_RangeMeet.mono _ _ _ _ _
      | exact LeO.none _
      | refine LeO.ite ?_ ?_
      | refine LeO.bind ?_ (fun _ => ?_)
    · intro y0 y1 y2 y3 y4 y5 y6 y7 y8 y9
      unfold spec_RangeCmp.j5
      repeat' first
      | (with_reducible exact ih0 _ _ _ _ _)
      | (with_reducible exact ih1 _ _ _ _ _ _ _ _ _ _)
      | (with_reducible exact ih2 _ _ _ _ _ _ _ _ _)
      | (with_reducible exact ih3 _ _ _ _ _ _ _ _ _)
      | (with_reducible exact ih4 _ _ _ _ _ _ _ _ _)
      | (with_reducible exact ih5 _ _ _ _ _ _ _ _ _)
      | (with_reducible exact ih6 _ _ _ _ _ _ _ _ _ _)
      | (with_reducible exact ih7 _ _ _ _)
      | (with_reducible exact ih8 _ _ _ _ _)
      | (with_reducible exact spec_RangeMeet.mono _ _ _ _ _)
      | (with_reducible exact LeO.refl _)
      | (with_reducible exact LeO.none _)
      | (with_reducible refine LeO.ite ?_ ?_)
      | (with_reducible refine LeO.bind ?_ (fun _ => ?_))
      | exact ih0 _ _ _ _ _
      | exact ih1 _ _ _ _ _ _ _ _ _ _
      | exact ih2 _ _ _ _ _ _ _ _ _
      | exact ih3 _ _ _ _ _ _ _ _ _
      | exact ih4 _ _ _ _ _ _ _ _ _
      | exact ih5 _ _ _ _ _ _ _ _ _
      | exact ih6 _ _ _ _ _ _ _ _ _ _
      | exact ih7 _ _ _ _
      | exact ih8 _ _ _ _ _
      | exact spec_RangeMeet.mono _ _ _ _ _
      | exact LeO.none _
      | refine LeO.ite ?_ ?_
      | refine LeO.bind ?_ (fun _ => ?_)
    · intro y0 y1 y2 y3
      unfold spec_RangeCmp.j6
      repeat' first
      | (with_reducible exact ih0 _ _ _ _ _)
      | (with_reducible exact ih1 _ _ _ _ _ _ _ _ _ _)
      | (with_reducible exact ih2 _ _ _ _ _ _ _ _ _)
      | (with_reducible exact ih3 _ _ _ _ _ _ _ _ _)
      | (with_reducible exact ih4 _ _ _ _ _ _ _ _ _)
      | (with_reducible exact ih5 _ _ _ _ _ _ _ _ _)
      | (with_reducible exact ih6 _ _ _ _ _ _ _ _ _ _)
      | (with_reducible exact ih7 _ _ _ _)
      | (with_reducible exact ih8 _ _ _ _ _)
      | (with_reducible exact spec_RangeMeet.mono _ _ _ _ _)
      | (with_reducible exact LeO.refl _)
      | (with_reducible exact LeO.none _)
      | (with_reducible refine LeO.ite ?_ ?_)
      | (with_reducible refine LeO.bind ?_ (fun _ => ?_))
      | exact ih0 _ _ _ _ _
      | exact ih1 _ _ _ _ _ _ _ _ _ _
      | exact ih2 _ _ _ _ _ _ _ _ _
      | exact ih3 _ _ _ _ _ _ _ _ _
      | exact ih4 _ _ _ _ _ _ _ _ _
      | exact ih5 _ _ _ _ _ _ _ _ _
      | exact ih6 _ _ _ _ _ _ _ _ _ _
      | exact ih7 _ _ _ _
      | exact ih8 _ _ _ _ _
      | exact spec_RangeMeet.mono _ _ _ _ _
      | exact LeO.none _
      | refine LeO.ite ?_ ?_
      | refine LeO.bind ?_ (fun _ => ?_)
    · intro y0 y1 y2 y3 y4
      unfold spec_RangeCmp.j7
      repeat' first
      | (with_reducible exact ih0 _ _ _ _ _)
      | (with_reducible exact ih1 _ _ _ _ _ _ _ _ _ _)
      | (with_reducible exact ih2 _ _ _ _ _ _ _ _ _)
      | (with_reducible exact ih3 _ _ _ _ _ _ _ _ _)
      | (with_reducible exact ih4 _ _ _ _ _ _ _ _ _)
      | (with_reducible exact ih5 _ _ _ _ _ _ _ _ _)
      | (with_reducible exact ih6 _ _ _ _ _ _ _ _ _ _)
      | (with_reducible exact ih7 _ _ _ _)
      | (with_reducible exact ih8 _ _ _ _ _)
      | (with_reducible exact spec_RangeMeet.mono _ _ _ _ _)
      | (with_reducible exact LeO.refl _)
      | (with_reducible exact LeO.none _)
      | (with_reducible refine LeO.ite ?_ ?_)
      | (with_reducible refine LeO.bind ?_ (fun _ => ?_))
      | exact ih0 _ _ _ _ _
      | exact ih1 _ _ _ _ _ _ _ _ _ _
      | exact ih2 _ _ _ _ _ _ _ _ _
      | exact ih3 _ _ _ _ _ _ _ _ _
      | exact ih4 _ _ _ _ _ _ _ _ _
      | exact ih5 _ _ _ _ _ _ _ _ _
      | exact ih6 _ _ _ _ _ _ _ _ _ _
      | exact ih7 _ _ _ _
      | exact ih8 _ _ _ _ _
      | exact spec_RangeMeet.mono _ _ _ _ _
      | exact LeO.none _
      | refine LeO.ite ?_ ?_
      | refine LeO.bind ?_ (fun _ => ?_)
theorem spec_RangeCmp.mono : ∀ a0 a1 a2 a3 a4 k, LeO (spec_RangeCmp.f k a0 a1 a2 a3 a4) (spec_RangeCmp.f (k + 1) a0 a1 a2 a3 a4) := by
  intro a0 a1 a2 a3 a4 k
  obtain ⟨ih0, ih1, ih2, ih3, ih4, ih5, ih6, ih7, ih8⟩ := spec_RangeCmp.mono_l k
  exact ih0 a0 a1 a2 a3 a4
def spec_RangeCmp.T3 : Bool × List (List Nat × List Nat) := (true, [([], []), ([0], [0]), ([1], [1]), ([2, 1], [2]), ([3], [3]), ([4, 3, 3], [3, 4]), ([5, 3], [3, 5]), ([3, 6], [3, 6]), ([7, 5], [7]), ([8], [8]), ([8, 8], [8]), ([9, 10, 8], [8, 9, 10]), ([8, 11], [8, 11]), ([12, 10], [12]), ([13], [13]), ([13, 13], [13]), ([14, 15, 13], [13, 14, 15]), ([13, 16], [13, 16])])
def spec_RangeCmp.B3 : List Nat := [0, 1, 3, 7, 15, 31, 63, 127, 255, 511, 511, 2047, 4095, 8191, 16383, 16383, 65535, 131071]
theorem spec_RangeCmp.tab3 : rtab .any (opsOf Try.f44 3) = spec_RangeCmp.T3 := by kernel_rfl
theorem spec_RangeCmp.bits3 : waitsOk spec_RangeCmp.T3.2 spec_RangeCmp.B3 = true := by kernel_rfl
def spec_RangeCmp.T12 : Bool × List (List Nat × List Nat) := (true, [([], []), ([0], [0]), ([], []), ([2], [2]), ([], []), ([4], [4]), ([5], [5]), ([3, 6], [3, 6]), ([1, 7, 7], [1, 7]), ([8, 8, 0, 1, 2, 3, 4, 5, 6, 7, 8], [8])])
def spec_RangeCmp.B12 : List Nat := [0, 1, 0, 4, 0, 16, 48, 124, 255, 511]
theorem spec_RangeCmp.tab12 : rtab .any (opsOf Try.f44 12) = spec_RangeCmp.T12 := by kernel_rfl
theorem spec_RangeCmp.bits12 : waitsOk spec_RangeCmp.T12.2 spec_RangeCmp.B12 = true := by kernel_rfl
def spec_RangeCmp.T13 : Bool × List (List Nat × List Nat) := (true, [([], []), ([0], [0]), ([], []), ([2], [2]), ([3], [3]), ([1, 4], [1, 4]), ([], []), ([6], [6]), ([5, 7, 5], [5, 7]), ([8, 8, 0, 1, 2, 3, 4, 5, 6, 7, 8], [8])])
def spec_RangeCmp.B13 : List Nat := [0, 1, 0, 4, 12, 31, 0, 64, 255, 511]
theorem spec_RangeCmp.tab13 : rtab .any (opsOf Try.f44 13) = spec_RangeCmp.T13 := by kernel_rfl
theorem spec_RangeCmp.bits13 : waitsOk spec_RangeCmp.T13.2 spec_RangeCmp.B13 = true := by kernel_rfl
def spec_RangeCmp.T15 : Bool × List (List Nat × List Nat) := (true, [([], []), ([0], [0]), ([], []), ([2], [2]), ([], []), ([4], [4]), ([3, 5], [3, 5]), ([1, 6, 6], [1, 6]), ([7, 7, 0, 1, 2, 3, 4, 5, 6, 7], [7])])
def spec_RangeCmp.B15 : List Nat := [0, 1, 0, 4, 0, 16, 60, 127, 255]
theorem spec_RangeCmp.tab15 : rtab .any (opsOf Try.f44 15) = spec_RangeCmp.T15 := by kernel_rfl
theorem spec_RangeCmp.bits15 : waitsOk spec_RangeCmp.T15.2 spec_RangeCmp.B15 = true := by kernel_rfl
def spec_RangeCmp.T16 : Bool × List (List Nat × List Nat) := (true, [([], []), ([0], [0]), ([], []), ([2], [2]), ([1, 3], [1, 3]), ([], []), ([5], [5]), ([4, 6, 4], [4, 6]), ([7, 7, 0, 1, 2, 3, 4, 5, 6, 7], [7])])
def spec_RangeCmp.B16 : List Nat := [0, 1, 0, 4, 15, 0, 32, 127, 255]
theorem spec_RangeCmp.tab16 : rtab .any (opsOf Try.f44 16) = spec_RangeCmp.T16 := by kernel_rfl
theorem spec_RangeCmp.bits16 : waitsOk spec_RangeCmp.T16.2 spec_RangeCmp.B16 = true := by kernel_rfl
def spec_RangeCmp.T18 : Bool × List (List Nat × List Nat) := (true, [([], []), ([0], [0]), ([], []), ([], []), ([1, 2, 3, 1], [1, 2, 3]), ([4], [4]), ([5], [5]), ([5], [5]), ([6, 4, 0, 1, 2, 3, 4, 5, 6], [6]), ([7, 8, 0, 1, 2, 3, 4, 5, 6, 7, 8], [7])])
def spec_RangeCmp.B18 : List Nat := [0, 1, 0, 0, 15, 31, 63, 63, 127, 511]
theorem spec_RangeCmp.tab18 : rtab .any (opsOf Try.f44 18) = spec_RangeCmp.T18 := by kernel_rfl
theorem spec_RangeCmp.bits18 : waitsOk spec_RangeCmp.T18.2 spec_RangeCmp.B18 = true := by kernel_rfl
def spec_RangeCmp.T19 : Bool × List (List Nat × List Nat) := (true, [([], []), ([], []), ([0, 1], [0, 1]), ([2, 1], [2]), ([3], [3]), ([3, 3], [3]), ([4, 5, 3], [3, 4, 5]), ([3, 6], [3, 6])])
def spec_RangeCmp.B19 : List Nat := [0, 0, 3, 7, 15, 15, 63, 127]
theorem spec_RangeCmp.tab19 : rtab .any (opsOf Try.f44 19) = spec_RangeCmp.T19 := by kernel_rfl
theorem spec_RangeCmp.bits19 : waitsOk spec_RangeCmp.T19.2 spec_RangeCmp.B19 = true := by kernel_rfl
set_option maxHeartbeats 8000000 in
set_option maxRecDepth 100000 in
theorem spec_RangeCmp.calls (k : Nat) : ∀ (a0 : Int) (a1_0 : Int) (a1_1 : Int) (a2_0 : Int) (a2_1 : Int) (r1 : Int) (r2 : Int) (r3 : Int) (r4 : Int) (w : World) (h : spec_RangeCmp.f k a0 a1_0 a1_1 a2_0 a2_1 = some (r1, r2, r3, r4)),
    Calls Try.prog 44 #[.int .i64 a0, .agg #[.int .i64 a1_0, .int .i64 a1_1], .agg #[.int .i64 a2_0, .int .i64 a2_1]] w fun e w' => e = .returned (.tuple #[.agg #[.int .i64 r1, .int .i64 r2], .agg #[.int .i64 r3, .int .i64 r4]]) ∧ Below w.heap.size w w' := by
  induction k using Nat.strongRecOn with
  | _ k ih =>
  intro a0 a1_0 a1_1 a2_0 a2_1 r1 r2 r3 r4 w h
  cases k with
  | zero => exact absurd h (by simp [spec_RangeCmp.f])
  | succ k =>
  simp only [spec_RangeCmp.f] at h
  have hu24 := Try.underlying24
  have HB := Aside0.mk (Below.refl w.heap.size w)
  have H : ((spec_l8None.f).bind fun bt341 => ((spec_l8None.f).bind fun bt344 => ((spec_RangeOk.f a1_0 a1_1).bind fun t347 => (if t347 = true then ((spec_RangeOk.f a2_0 a2_1).bind fun t348 => (if t348 = true then ((spec_l8None.f).bind fun bt349 => (if (a1_0 == bt349.1 && (a1_1 == bt349.2)) = true then (spec_RangeCmp.j0 k a0 true a1_0 a1_1 a2_0 a2_1 bt341.1 bt341.2 bt344.1 bt344.2) else ((spec_l8None.f).bind fun bt351 => (spec_RangeCmp.j0 k a0 (a2_0 == bt351.1 && (a2_1 == bt351.2)) a1_0 a1_1 a2_0 a2_1 bt341.1 bt341.2 bt344.1 bt344.2)))) else (spec_RangeCmp.j0 k a0 true a1_0 a1_1 a2_0 a2_1 bt341.1 bt341.2 bt344.1 bt344.2))) else (spec_RangeCmp.j0 k a0 true a1_0 a1_1 a2_0 a2_1 bt341.1 bt341.2 bt344.1 bt344.2))))) = some (r1, r2, r3, r4) := h
  clear h
  replace H := Option.bind_eq_some_iff.mp H
  obtain ⟨⟨t341, t342⟩, A40, H⟩ := H
  replace H : ((spec_l8None.f).bind fun bt344 => ((spec_RangeOk.f a1_0 a1_1).bind fun t347 => (if t347 = true then ((spec_RangeOk.f a2_0 a2_1).bind fun t348 => (if t348 = true then ((spec_l8None.f).bind fun bt349 => (if (a1_0 == bt349.1 && (a1_1 == bt349.2)) = true then (spec_RangeCmp.j0 k a0 true a1_0 a1_1 a2_0 a2_1 t341 t342 bt344.1 bt344.2) else ((spec_l8None.f).bind fun bt351 => (spec_RangeCmp.j0 k a0 (a2_0 == bt351.1 && (a2_1 == bt351.2)) a1_0 a1_1 a2_0 a2_1 t341 t342 bt344.1 bt344.2)))) else (spec_RangeCmp.j0 k a0 true a1_0 a1_1 a2_0 a2_1 t341 t342 bt344.1 bt344.2))) else (spec_RangeCmp.j0 k a0 true a1_0 a1_1 a2_0 a2_1 t341 t342 bt344.1 bt344.2)))) = some (r1, r2, r3, r4) := H
  have A4 := Aside0.mk A40
  clear A40
  replace H := Option.bind_eq_some_iff.mp H
  obtain ⟨⟨t344, t345⟩, A50, H⟩ := H
  replace H : ((spec_RangeOk.f a1_0 a1_1).bind fun t347 => (if t347 = true then ((spec_RangeOk.f a2_0 a2_1).bind fun t348 => (if t348 = true then ((spec_l8None.f).bind fun bt349 => (if (a1_0 == bt349.1 && (a1_1 == bt349.2)) = true then (spec_RangeCmp.j0 k a0 true a1_0 a1_1 a2_0 a2_1 t341 t342 t344 t345) else ((spec_l8None.f).bind fun bt351 => (spec_RangeCmp.j0 k a0 (a2_0 == bt351.1 && (a2_1 == bt351.2)) a1_0 a1_1 a2_0 a2_1 t341 t342 t344 t345)))) else (spec_RangeCmp.j0 k a0 true a1_0 a1_1 a2_0 a2_1 t341 t342 t344 t345))) else (spec_RangeCmp.j0 k a0 true a1_0 a1_1 a2_0 a2_1 t341 t342 t344 t345))) = some (r1, r2, r3, r4) := H
  have A5 := Aside0.mk A50
  clear A50
  have HC6 := Aside0.mk H
  clear H
  go_enter Try.func44, Try.ntmps44
  go_upto_region 3 with (first | ((with_reducible refine gate_dst (N := 4) rfl ?_); refine sqx 4 #[.int .i64 a1_0, .int .i64 a1_1] 24 ?_; intro gb337 hg w7 hbox hb; have BK337 := Aside0.mk (hbox); have GW337 := sqg HB hg; have GE337 := sqg HB hg; replace HB := sqs HB hb; clear hb hbox hg) | ((with_reducible refine gate_dst (N := 5) rfl ?_); refine sqx 5 #[.int .i64 a2_0, .int .i64 a2_1] 24 ?_; intro gb338 hg w8 hbox hb; have BK338 := Aside0.mk (hbox); have GW338 := sqg HB hg; have GE338 := sqg HB hg; have NB337_338 := sqn BK337 hg; have NB338_337 := sqm BK337 hg; replace BK337 := sqb BK337 hb; replace HB := sqs HB hb; clear hb hbox hg) | ((with_reducible refine gate_dst (N := 6) rfl ?_); refine sqx 6 #[.int .i64 0, .int .i64 0] 24 ?_; intro gb339 hg w9 hbox hb; have BK339 := Aside0.mk (hbox); have GW339 := sqg HB hg; have GE339 := sqg HB hg; have NB337_339 := sqn BK337 hg; have NB339_337 := sqm BK337 hg; have NB338_339 := sqn BK338 hg; have NB339_338 := sqm BK338 hg; replace BK337 := sqb BK337 hb; replace BK338 := sqb BK338 hb; replace HB := sqs HB hb; clear hb hbox hg) | ((with_reducible refine gate_dst (N := 7) rfl ?_); refine sqx 7 #[.int .i64 0, .int .i64 0] 24 ?_; intro gb340 hg w10 hbox hb; have BK340 := Aside0.mk (hbox); have GW340 := sqg HB hg; have GE340 := sqg HB hg; have NB337_340 := sqn BK337 hg; have NB340_337 := sqm BK337 hg; have NB338_340 := sqn BK338 hg; have NB340_338 := sqm BK338 hg; have NB339_340 := sqn BK339 hg; have NB340_339 := sqm BK339 hg; replace BK337 := sqb BK337 hb; replace BK338 := sqb BK338 hb; replace BK339 := sqb BK339 hb; replace HB := sqs HB hb; clear hb hbox hg) | ((with_reducible refine gate_callee (f := 99) rfl ?_); refine sqL (some 10) Try.func99 #[] ?_; (with_reducible refine (spec_l8None.calls  t341 t342 _ A4.out).mono ?_); rintro e w11 ⟨rfl, hb⟩; refine ⟨_, rfl, ?_⟩; replace BK337 := sqb BK337 hb; replace BK338 := sqb BK338 hb; replace BK339 := sqb BK339 hb; replace BK340 := sqb BK340 hb; replace HB := sqs HB hb; (try clear hb)) | ((with_reducible refine gate_dst (N := 8) rfl ?_); refine sqx 8 #[.int .i64 0, .int .i64 0] 24 ?_; intro gb343 hg w12 hbox hb; have BK343 := Aside0.mk (hbox); have GW343 := sqg HB hg; have GE343 := sqg HB hg; have NB337_343 := sqn BK337 hg; have NB343_337 := sqm BK337 hg; have NB338_343 := sqn BK338 hg; have NB343_338 := sqm BK338 hg; have NB339_343 := sqn BK339 hg; have NB343_339 := sqm BK339 hg; have NB340_343 := sqn BK340 hg; have NB343_340 := sqm BK340 hg; replace BK337 := sqb BK337 hb; replace BK338 := sqb BK338 hb; replace BK339 := sqb BK339 hb; replace BK340 := sqb BK340 hb; replace HB := sqs HB hb; clear hb hbox hg; have hnb13 := NB343_337.out; have hnc13 := NB337_343.out; have hnb14 := NB343_338.out; have hnc14 := NB338_343.out; have hnb15 := NB343_339.out; have hnc15 := NB339_343.out; have hnb16 := NB343_340.out; have hnc16 := NB340_343.out; obtain ⟨hcz17_0, hcz17_1, hfz17_0, hfz17_1⟩ := sqc2 BK343) | ((with_reducible refine gate_callee (f := 99) rfl ?_); refine sqL (some 11) Try.func99 #[] ?_; (with_reducible refine (spec_l8None.calls  t344 t345 _ A5.out).mono ?_); rintro e w18 ⟨rfl, hb⟩; refine ⟨_, rfl, ?_⟩; have n0_ := Aside0.mk (blk_below (g := gb337) (o := .cells #[.int .i64 a1_0, .int .i64 a1_1] 24 (0, 0)) (by refine sqt ?_; refine blk_far ?_ NB337_343.out _; refine sqt ?_; refine blk_far ?_ NB337_343.out _; refine sqt ?_; exact BK337.out) hb); have n1_ := Aside0.mk (blk_below (g := gb338) (o := .cells #[.int .i64 a2_0, .int .i64 a2_1] 24 (0, 0)) (by refine sqt ?_; refine blk_far ?_ NB338_343.out _; refine sqt ?_; refine blk_far ?_ NB338_343.out _; refine sqt ?_; exact BK338.out) hb); have n2_ := Aside0.mk (blk_below (g := gb339) (o := .cells #[.int .i64 0, .int .i64 0] 24 (0, 0)) (by refine sqt ?_; refine blk_far ?_ NB339_343.out _; refine sqt ?_; refine blk_far ?_ NB339_343.out _; refine sqt ?_; exact BK339.out) hb); have n3_ := Aside0.mk (blk_below (g := gb340) (o := .cells #[.int .i64 0, .int .i64 0] 24 (0, 0)) (by refine sqt ?_; refine blk_far ?_ NB340_343.out _; refine sqt ?_; refine blk_far ?_ NB340_343.out _; refine sqt ?_; exact BK340.out) hb); have n4_ := Aside0.mk (blk_below (g := gb343) (o := .cells #[.int .i64 t341, .int .i64 t342] 24 (0, 0)) (by refine sqt ?_; refine blk_put (cs := #[.int .i64 t341, .int .i64 0]) ?_ 1 _ rfl; refine sqt ?_; refine blk_put (cs := #[.int .i64 0, .int .i64 0]) ?_ 0 _ rfl; refine sqt ?_; exact BK343.out) hb); have n5_ := sqs HB hb; clear BK337; clear BK338; clear BK339; clear BK340; clear BK343; clear HB; have BK337 := n0_; have BK338 := n1_; have BK339 := n2_; have BK340 := n3_; have BK343 := n4_; have HB := n5_; clear n0_ n1_ n2_ n3_ n4_ n5_; (try clear hb)) | ((with_reducible refine gate_dst (N := 9) rfl ?_); refine sqx 9 #[.int .i64 0, .int .i64 0] 24 ?_; intro gb346 hg w19 hbox hb; have BK346 := Aside0.mk (hbox); have GW346 := sqg HB hg; have GE346 := sqg HB hg; have NB337_346 := sqn BK337 hg; have NB346_337 := sqm BK337 hg; have NB338_346 := sqn BK338 hg; have NB346_338 := sqm BK338 hg; have NB339_346 := sqn BK339 hg; have NB346_339 := sqm BK339 hg; have NB340_346 := sqn BK340 hg; have NB346_340 := sqm BK340 hg; have NB343_346 := sqn BK343 hg; have NB346_343 := sqm BK343 hg; replace BK337 := sqb BK337 hb; replace BK338 := sqb BK338 hb; replace BK339 := sqb BK339 hb; replace BK340 := sqb BK340 hb; replace BK343 := sqb BK343 hb; replace HB := sqs HB hb; clear hb hbox hg; have hnb20 := NB346_337.out; have hnc20 := NB337_346.out; have hnb21 := NB346_338.out; have hnc21 := NB338_346.out; have hnb22 := NB346_339.out; have hnc22 := NB339_346.out; have hnb23 := NB346_340.out; have hnc23 := NB340_346.out; have hnb24 := NB346_343.out; have hnc24 := NB343_346.out; obtain ⟨hcz25_0, hcz25_1, hfz25_0, hfz25_1⟩ := sqc2 BK346))
  (try simp only [Act.put, List.setIfInBounds_toArray, List.set_cons_zero, List.set_cons_succ])
  go_cut [29] (fun v29 wc => ∃ (kq : Nat) (x29_5 : Bool), v29 = .bool x29_5 ∧ Aside0 (spec_RangeCmp.j0 kq a0 x29_5 a1_0 a1_1 a2_0 a2_1 t341 t342 t344 t345 = some (r1, r2, r3, r4)) ∧ Aside0 (kq ≤ k) ∧ Aside0 (wc.heap[gb337]? = some (.cells #[.int .i64 a1_0, .int .i64 a1_1] 24 (0, 0))) ∧ Aside0 (wc.heap[gb338]? = some (.cells #[.int .i64 a2_0, .int .i64 a2_1] 24 (0, 0))) ∧ Aside0 (wc.heap[gb339]? = some (.cells #[.int .i64 0, .int .i64 0] 24 (0, 0))) ∧ Aside0 (wc.heap[gb340]? = some (.cells #[.int .i64 0, .int .i64 0] 24 (0, 0))) ∧ Aside0 (wc.heap[gb343]? = some (.cells #[.int .i64 t341, .int .i64 t342] 24 (0, 0))) ∧ Aside0 (wc.heap[gb346]? = some (.cells #[.int .i64 t344, .int .i64 t345] 24 (0, 0))) ∧ Aside0 (Below w.heap.size w wc))
  case first =>
    have H := HC6.out
    clear HC6
    replace H := Option.bind_eq_some_iff.mp H
    obtain ⟨t347, A260, H⟩ := H
    replace H : (if t347 = true then ((spec_RangeOk.f a2_0 a2_1).bind fun t348 => (if t348 = true then ((spec_l8None.f).bind fun bt349 => (if (a1_0 == bt349.1 && (a1_1 == bt349.2)) = true then (spec_RangeCmp.j0 k a0 true a1_0 a1_1 a2_0 a2_1 t341 t342 t344 t345) else ((spec_l8None.f).bind fun bt351 => (spec_RangeCmp.j0 k a0 (a2_0 == bt351.1 && (a2_1 == bt351.2)) a1_0 a1_1 a2_0 a2_1 t341 t342 t344 t345)))) else (spec_RangeCmp.j0 k a0 true a1_0 a1_1 a2_0 a2_1 t341 t342 t344 t345))) else (spec_RangeCmp.j0 k a0 true a1_0 a1_1 a2_0 a2_1 t341 t342 t344 t345)) = some (r1, r2, r3, r4) := H
    have A26 := Aside0.mk A260
    clear A260
    by_cases c27 : t347 = true
    · subst c27
      have H1 : ((spec_RangeOk.f a2_0 a2_1).bind fun t348 => (if t348 = true then ((spec_l8None.f).bind fun bt349 => (if (a1_0 == bt349.1 && (a1_1 == bt349.2)) = true then (spec_RangeCmp.j0 k a0 true a1_0 a1_1 a2_0 a2_1 t341 t342 t344 t345) else ((spec_l8None.f).bind fun bt351 => (spec_RangeCmp.j0 k a0 (a2_0 == bt351.1 && (a2_1 == bt351.2)) a1_0 a1_1 a2_0 a2_1 t341 t342 t344 t345)))) else (spec_RangeCmp.j0 k a0 true a1_0 a1_1 a2_0 a2_1 t341 t342 t344 t345))) = some (r1, r2, r3, r4) := by rw [if_pos rfl] at H; exact H
      clear H
      have H := H1
      clear H1
      replace H := Option.bind_eq_some_iff.mp H
      obtain ⟨t348, A280, H⟩ := H
      replace H : (if t348 = true then ((spec_l8None.f).bind fun bt349 => (if (a1_0 == bt349.1 && (a1_1 == bt349.2)) = true then (spec_RangeCmp.j0 k a0 true a1_0 a1_1 a2_0 a2_1 t341 t342 t344 t345) else ((spec_l8None.f).bind fun bt351 => (spec_RangeCmp.j0 k a0 (a2_0 == bt351.1 && (a2_1 == bt351.2)) a1_0 a1_1 a2_0 a2_1 t341 t342 t344 t345)))) else (spec_RangeCmp.j0 k a0 true a1_0 a1_1 a2_0 a2_1 t341 t342 t344 t345)) = some (r1, r2, r3, r4) := H
      have A28 := Aside0.mk A280
      clear A280
      by_cases c29 : t348 = true
      · subst c29
        have H1 : ((spec_l8None.f).bind fun bt349 => (if (a1_0 == bt349.1 && (a1_1 == bt349.2)) = true then (spec_RangeCmp.j0 k a0 true a1_0 a1_1 a2_0 a2_1 t341 t342 t344 t345) else ((spec_l8None.f).bind fun bt351 => (spec_RangeCmp.j0 k a0 (a2_0 == bt351.1 && (a2_1 == bt351.2)) a1_0 a1_1 a2_0 a2_1 t341 t342 t344 t345)))) = some (r1, r2, r3, r4) := by rw [if_pos rfl] at H; exact H
        clear H
        have H := H1
        clear H1
        replace H := Option.bind_eq_some_iff.mp H
        obtain ⟨⟨t349, t350⟩, A300, H⟩ := H
        replace H : (if (a1_0 == t349 && (a1_1 == t350)) = true then (spec_RangeCmp.j0 k a0 true a1_0 a1_1 a2_0 a2_1 t341 t342 t344 t345) else ((spec_l8None.f).bind fun bt351 => (spec_RangeCmp.j0 k a0 (a2_0 == bt351.1 && (a2_1 == bt351.2)) a1_0 a1_1 a2_0 a2_1 t341 t342 t344 t345))) = some (r1, r2, r3, r4) := H
        have A30 := Aside0.mk A300
        clear A300
        by_cases c31 : (a1_0 == t349 && (a1_1 == t350)) = true
        · rw [if_pos c31] at H
          have c31b0 : (a1_0 == t349 && (a1_1 == t350)) = true := c31
          (try (have c31b1 : decide (a1_0 = t349 && (a1_1 == t350)) = true := by simpa using c31))
          (try (have c31b2 : (a1_0 == t349 && (a1_1 == t350)) = true := by simpa using c31))
          clear c31
          (first | rw [c31b0] | (simp only [i64_w, i32_w]; rw [c31b0]) | skip)
          have H' := Aside0.mk H
          clear H
          try go_wp2
          have n0_ : Aside0 (((w19.setCell ⟨gb346, 0, none⟩ (.int .i64 t344)).setCell ⟨gb346, 1, none⟩ (.int .i64 t345)).heap[gb337]? = some (.cells #[.int .i64 a1_0, .int .i64 a1_1] 24 (0, 0))) := ⟨by refine sqt ?_; refine blk_far ?_ NB337_346.out _; refine sqt ?_; refine blk_far ?_ NB337_346.out _; refine sqt ?_; exact BK337.out⟩
          have n1_ : Aside0 (((w19.setCell ⟨gb346, 0, none⟩ (.int .i64 t344)).setCell ⟨gb346, 1, none⟩ (.int .i64 t345)).heap[gb338]? = some (.cells #[.int .i64 a2_0, .int .i64 a2_1] 24 (0, 0))) := ⟨by refine sqt ?_; refine blk_far ?_ NB338_346.out _; refine sqt ?_; refine blk_far ?_ NB338_346.out _; refine sqt ?_; exact BK338.out⟩
          have n2_ : Aside0 (((w19.setCell ⟨gb346, 0, none⟩ (.int .i64 t344)).setCell ⟨gb346, 1, none⟩ (.int .i64 t345)).heap[gb339]? = some (.cells #[.int .i64 0, .int .i64 0] 24 (0, 0))) := ⟨by refine sqt ?_; refine blk_far ?_ NB339_346.out _; refine sqt ?_; refine blk_far ?_ NB339_346.out _; refine sqt ?_; exact BK339.out⟩
          have n3_ : Aside0 (((w19.setCell ⟨gb346, 0, none⟩ (.int .i64 t344)).setCell ⟨gb346, 1, none⟩ (.int .i64 t345)).heap[gb340]? = some (.cells #[.int .i64 0, .int .i64 0] 24 (0, 0))) := ⟨by refine sqt ?_; refine blk_far ?_ NB340_346.out _; refine sqt ?_; refine blk_far ?_ NB340_346.out _; refine sqt ?_; exact BK340.out⟩
          have n4_ : Aside0 (((w19.setCell ⟨gb346, 0, none⟩ (.int .i64 t344)).setCell ⟨gb346, 1, none⟩ (.int .i64 t345)).heap[gb343]? = some (.cells #[.int .i64 t341, .int .i64 t342] 24 (0, 0))) := ⟨by refine sqt ?_; refine blk_far ?_ NB343_346.out _; refine sqt ?_; refine blk_far ?_ NB343_346.out _; refine sqt ?_; exact BK343.out⟩
          have n5_ : Aside0 (((w19.setCell ⟨gb346, 0, none⟩ (.int .i64 t344)).setCell ⟨gb346, 1, none⟩ (.int .i64 t345)).heap[gb346]? = some (.cells #[.int .i64 t344, .int .i64 t345] 24 (0, 0))) := ⟨by refine sqt ?_; refine blk_put (cs := #[.int .i64 t344, .int .i64 0]) ?_ 1 _ rfl; refine sqt ?_; refine blk_put (cs := #[.int .i64 0, .int .i64 0]) ?_ 0 _ rfl; refine sqt ?_; exact BK346.out⟩
          have n6_ : Aside0 (Below w.heap.size w ((w19.setCell ⟨gb346, 0, none⟩ (.int .i64 t344)).setCell ⟨gb346, 1, none⟩ (.int .i64 t345))) := sqh HB
          (try clear BK337)
          (try clear BK338)
          (try clear BK339)
          (try clear BK340)
          (try clear BK343)
          (try clear BK346)
          (try clear HB)
          generalize ((w19.setCell ⟨gb346, 0, none⟩ (.int .i64 t344)).setCell ⟨gb346, 1, none⟩ (.int .i64 t345)) = w32 at n0_ n1_ n2_ n3_ n4_ n5_ n6_ ⊢
          have BK337 := n0_
          have BK338 := n1_
          have BK339 := n2_
          have BK340 := n3_
          have BK343 := n4_
          have BK346 := n5_
          have HB := n6_
          clear n0_ n1_ n2_ n3_ n4_ n5_ n6_
          replace BK337 := Aside0.mk (blk_drew BK337.out)
          replace BK338 := Aside0.mk (blk_drew BK338.out)
          replace BK339 := Aside0.mk (blk_drew BK339.out)
          replace BK340 := Aside0.mk (blk_drew BK340.out)
          replace BK343 := Aside0.mk (blk_drew BK343.out)
          replace BK346 := Aside0.mk (blk_drew BK346.out)
          replace HB := Aside0.mk (below_drew1 HB.out)
          refine start_ (n := 18) (S := fun w' => w'.cell? ⟨gb337, 0, none⟩ = some (.int .i64 a1_0) ∧ w'.cell? ⟨gb337, 1, none⟩ = some (.int .i64 a1_1) ∧ w'.cell? ⟨gb338, 0, none⟩ = some (.int .i64 a2_0) ∧ w'.cell? ⟨gb338, 1, none⟩ = some (.int .i64 a2_1)) (ds := []) #[false, false, false, false, false, false, false, false, false, false, false, false, false, false, false, false, false, false] (by kernel_rfl) rfl rfl ⟨(blk_cell BK337.out 0).trans rfl, (blk_cell BK337.out 1).trans rfl, (blk_cell BK338.out 0).trans rfl, (blk_cell BK338.out 1).trans rfl⟩ (fun hHeld => ?_); refine with_tabW spec_RangeCmp.tab3 spec_RangeCmp.bits3 (fun HT_ HW_ => ?_)
          generalize w32.drew = w33 at BK337 BK338 BK339 BK340 BK343 BK346 HB hHeld ⊢
          refine sqw HT_ HW_ 0 12 hHeld ?_
          refine sqo HT_ 1 13 (fun K hK => ?_)
          refine sqG Try.func45 #[.agg #[.int .i64 a1_0, .int .i64 a1_1]] ?_
          with_reducible refine (spec_RangeOk.calls a1_0 a1_1 true _ A26.out).mono ?_
          rintro e w34 ⟨rfl, hb⟩
          refine ⟨_, rfl, ?_⟩
          replace BK337 := sqb BK337 hb
          replace BK338 := sqb BK338 hb
          replace BK339 := sqb BK339 hb
          replace BK340 := sqb BK340 hb
          replace BK343 := sqb BK343 hb
          replace BK346 := sqb BK346 hb
          replace HB := sqs HB hb
          (try clear hb)
          refine hK.out _ _ sqz (fun hHeld => ?_)
          clear hK K
          refine sqnm ?_
          refine sqp HT_ 2 14 ?_
          refine sqp HT_ 3 15 ?_
          refine sqw HT_ HW_ 4 16 hHeld ?_
          refine sqo HT_ 5 17 (fun K hK => ?_)
          refine sqG Try.func45 #[.agg #[.int .i64 a2_0, .int .i64 a2_1]] ?_
          with_reducible refine (spec_RangeOk.calls a2_0 a2_1 true _ A28.out).mono ?_
          rintro e w35 ⟨rfl, hb⟩
          refine ⟨_, rfl, ?_⟩
          replace BK337 := sqb BK337 hb
          replace BK338 := sqb BK338 hb
          replace BK339 := sqb BK339 hb
          replace BK340 := sqb BK340 hb
          replace BK343 := sqb BK343 hb
          replace BK346 := sqb BK346 hb
          replace HB := sqs HB hb
          (try clear hb)
          refine hK.out _ _ sqz (fun hHeld => ?_)
          clear hK K
          refine sqnm ?_
          refine sqp HT_ 6 18 ?_
          refine sqp HT_ 7 19 ?_
          refine sqp HT_ 8 20 ?_
          refine sqw HT_ HW_ 9 21 hHeld ?_
          refine sqo HT_ 10 22 (fun K hK => ?_)
          refine sqG Try.func99 #[] ?_
          with_reducible refine (spec_l8None.calls  t349 t350 _ A30.out).mono ?_
          rintro e w36 ⟨rfl, hb⟩
          refine ⟨_, rfl, ?_⟩
          replace BK337 := sqb BK337 hb
          replace BK338 := sqb BK338 hb
          replace BK339 := sqb BK339 hb
          replace BK340 := sqb BK340 hb
          replace BK343 := sqb BK343 hb
          replace BK346 := sqb BK346 hb
          replace HB := sqs HB hb
          (try clear hb)
          refine hK.out _ _ sqz (fun hHeld => ?_)
          clear hK K
          refine sqnm ?_
          refine sqp HT_ 11 23 ?_
          refine sqp HT_ 12 24 ?_
          refine sqp HT_ 13 25 ?_
          refine sqpu HT_ 14 26 ?_
          refine sqpu HT_ 15 27 ?_
          refine sqpu HT_ 16 28 ?_
          refine sqp HT_ 17 29 ?_
          refine done_ (done_of HT_.out (by kernel_rfl)) ?_
          try go_wp2
          go_meet
          case rel => exact ⟨_, (true), (by first | rfl | (simp; done) | (simp [*]; done)), H', ⟨by first | omega | exact Nat.le_refl _⟩, sqk BK337, sqk BK338, sqk BK339, sqk BK340, sqk BK343, sqk BK346, sqh HB⟩
        · rw [if_neg c31] at H
          have c31b0 : (a1_0 == t349 && (a1_1 == t350)) = false := by simpa using c31
          (try (have c31b1 : decide (a1_0 = t349 && (a1_1 == t350)) = false := by simpa using c31))
          (try (have c31b2 : (a1_0 == t349 && (a1_1 == t350)) = false := by simpa using c31))
          (try (have c31b3 : ¬ (a1_0 = t349 && (a1_1 == t350)) := by simpa using c31))
          clear c31
          (first | rw [c31b0] | (simp only [i64_w, i32_w]; rw [c31b0]) | skip)
          replace H := Option.bind_eq_some_iff.mp H
          obtain ⟨⟨t351, t352⟩, A370, H⟩ := H
          replace H : (spec_RangeCmp.j0 k a0 (a2_0 == t351 && (a2_1 == t352)) a1_0 a1_1 a2_0 a2_1 t341 t342 t344 t345) = some (r1, r2, r3, r4) := H
          have A37 := Aside0.mk A370
          clear A370
          have H' := Aside0.mk H
          clear H
          try go_wp2
          have n0_ : Aside0 (((w19.setCell ⟨gb346, 0, none⟩ (.int .i64 t344)).setCell ⟨gb346, 1, none⟩ (.int .i64 t345)).heap[gb337]? = some (.cells #[.int .i64 a1_0, .int .i64 a1_1] 24 (0, 0))) := ⟨by refine sqt ?_; refine blk_far ?_ NB337_346.out _; refine sqt ?_; refine blk_far ?_ NB337_346.out _; refine sqt ?_; exact BK337.out⟩
          have n1_ : Aside0 (((w19.setCell ⟨gb346, 0, none⟩ (.int .i64 t344)).setCell ⟨gb346, 1, none⟩ (.int .i64 t345)).heap[gb338]? = some (.cells #[.int .i64 a2_0, .int .i64 a2_1] 24 (0, 0))) := ⟨by refine sqt ?_; refine blk_far ?_ NB338_346.out _; refine sqt ?_; refine blk_far ?_ NB338_346.out _; refine sqt ?_; exact BK338.out⟩
          have n2_ : Aside0 (((w19.setCell ⟨gb346, 0, none⟩ (.int .i64 t344)).setCell ⟨gb346, 1, none⟩ (.int .i64 t345)).heap[gb339]? = some (.cells #[.int .i64 0, .int .i64 0] 24 (0, 0))) := ⟨by refine sqt ?_; refine blk_far ?_ NB339_346.out _; refine sqt ?_; refine blk_far ?_ NB339_346.out _; refine sqt ?_; exact BK339.out⟩
          have n3_ : Aside0 (((w19.setCell ⟨gb346, 0, none⟩ (.int .i64 t344)).setCell ⟨gb346, 1, none⟩ (.int .i64 t345)).heap[gb340]? = some (.cells #[.int .i64 0, .int .i64 0] 24 (0, 0))) := ⟨by refine sqt ?_; refine blk_far ?_ NB340_346.out _; refine sqt ?_; refine blk_far ?_ NB340_346.out _; refine sqt ?_; exact BK340.out⟩
          have n4_ : Aside0 (((w19.setCell ⟨gb346, 0, none⟩ (.int .i64 t344)).setCell ⟨gb346, 1, none⟩ (.int .i64 t345)).heap[gb343]? = some (.cells #[.int .i64 t341, .int .i64 t342] 24 (0, 0))) := ⟨by refine sqt ?_; refine blk_far ?_ NB343_346.out _; refine sqt ?_; refine blk_far ?_ NB343_346.out _; refine sqt ?_; exact BK343.out⟩
          have n5_ : Aside0 (((w19.setCell ⟨gb346, 0, none⟩ (.int .i64 t344)).setCell ⟨gb346, 1, none⟩ (.int .i64 t345)).heap[gb346]? = some (.cells #[.int .i64 t344, .int .i64 t345] 24 (0, 0))) := ⟨by refine sqt ?_; refine blk_put (cs := #[.int .i64 t344, .int .i64 0]) ?_ 1 _ rfl; refine sqt ?_; refine blk_put (cs := #[.int .i64 0, .int .i64 0]) ?_ 0 _ rfl; refine sqt ?_; exact BK346.out⟩
          have n6_ : Aside0 (Below w.heap.size w ((w19.setCell ⟨gb346, 0, none⟩ (.int .i64 t344)).setCell ⟨gb346, 1, none⟩ (.int .i64 t345))) := sqh HB
          (try clear BK337)
          (try clear BK338)
          (try clear BK339)
          (try clear BK340)
          (try clear BK343)
          (try clear BK346)
          (try clear HB)
          generalize ((w19.setCell ⟨gb346, 0, none⟩ (.int .i64 t344)).setCell ⟨gb346, 1, none⟩ (.int .i64 t345)) = w38 at n0_ n1_ n2_ n3_ n4_ n5_ n6_ ⊢
          have BK337 := n0_
          have BK338 := n1_
          have BK339 := n2_
          have BK340 := n3_
          have BK343 := n4_
          have BK346 := n5_
          have HB := n6_
          clear n0_ n1_ n2_ n3_ n4_ n5_ n6_
          replace BK337 := Aside0.mk (blk_drew BK337.out)
          replace BK338 := Aside0.mk (blk_drew BK338.out)
          replace BK339 := Aside0.mk (blk_drew BK339.out)
          replace BK340 := Aside0.mk (blk_drew BK340.out)
          replace BK343 := Aside0.mk (blk_drew BK343.out)
          replace BK346 := Aside0.mk (blk_drew BK346.out)
          replace HB := Aside0.mk (below_drew1 HB.out)
          refine start_ (n := 18) (S := fun w' => w'.cell? ⟨gb337, 0, none⟩ = some (.int .i64 a1_0) ∧ w'.cell? ⟨gb337, 1, none⟩ = some (.int .i64 a1_1) ∧ w'.cell? ⟨gb338, 0, none⟩ = some (.int .i64 a2_0) ∧ w'.cell? ⟨gb338, 1, none⟩ = some (.int .i64 a2_1)) (ds := []) #[false, false, false, false, false, false, false, false, false, false, false, false, false, false, false, false, false, false] (by kernel_rfl) rfl rfl ⟨(blk_cell BK337.out 0).trans rfl, (blk_cell BK337.out 1).trans rfl, (blk_cell BK338.out 0).trans rfl, (blk_cell BK338.out 1).trans rfl⟩ (fun hHeld => ?_); refine with_tabW spec_RangeCmp.tab3 spec_RangeCmp.bits3 (fun HT_ HW_ => ?_)
          generalize w38.drew = w39 at BK337 BK338 BK339 BK340 BK343 BK346 HB hHeld ⊢
          refine sqw HT_ HW_ 0 12 hHeld ?_
          refine sqo HT_ 1 13 (fun K hK => ?_)
          refine sqG Try.func45 #[.agg #[.int .i64 a1_0, .int .i64 a1_1]] ?_
          with_reducible refine (spec_RangeOk.calls a1_0 a1_1 true _ A26.out).mono ?_
          rintro e w40 ⟨rfl, hb⟩
          refine ⟨_, rfl, ?_⟩
          replace BK337 := sqb BK337 hb
          replace BK338 := sqb BK338 hb
          replace BK339 := sqb BK339 hb
          replace BK340 := sqb BK340 hb
          replace BK343 := sqb BK343 hb
          replace BK346 := sqb BK346 hb
          replace HB := sqs HB hb
          (try clear hb)
          refine hK.out _ _ sqz (fun hHeld => ?_)
          clear hK K
          refine sqnm ?_
          refine sqp HT_ 2 14 ?_
          refine sqp HT_ 3 15 ?_
          refine sqw HT_ HW_ 4 16 hHeld ?_
          refine sqo HT_ 5 17 (fun K hK => ?_)
          refine sqG Try.func45 #[.agg #[.int .i64 a2_0, .int .i64 a2_1]] ?_
          with_reducible refine (spec_RangeOk.calls a2_0 a2_1 true _ A28.out).mono ?_
          rintro e w41 ⟨rfl, hb⟩
          refine ⟨_, rfl, ?_⟩
          replace BK337 := sqb BK337 hb
          replace BK338 := sqb BK338 hb
          replace BK339 := sqb BK339 hb
          replace BK340 := sqb BK340 hb
          replace BK343 := sqb BK343 hb
          replace BK346 := sqb BK346 hb
          replace HB := sqs HB hb
          (try clear hb)
          refine hK.out _ _ sqz (fun hHeld => ?_)
          clear hK K
          refine sqnm ?_
          refine sqp HT_ 6 18 ?_
          refine sqp HT_ 7 19 ?_
          refine sqp HT_ 8 20 ?_
          refine sqw HT_ HW_ 9 21 hHeld ?_
          refine sqo HT_ 10 22 (fun K hK => ?_)
          refine sqG Try.func99 #[] ?_
          with_reducible refine (spec_l8None.calls  t349 t350 _ A30.out).mono ?_
          rintro e w42 ⟨rfl, hb⟩
          refine ⟨_, rfl, ?_⟩
          replace BK337 := sqb BK337 hb
          replace BK338 := sqb BK338 hb
          replace BK339 := sqb BK339 hb
          replace BK340 := sqb BK340 hb
          replace BK343 := sqb BK343 hb
          replace BK346 := sqb BK346 hb
          replace HB := sqs HB hb
          (try clear hb)
          refine hK.out _ _ sqz (fun hHeld => ?_)
          clear hK K
          refine sqnm ?_
          refine sqp HT_ 11 23 ?_
          refine sqp HT_ 12 24 ?_
          refine sqp HT_ 13 25 ?_
          refine sqw HT_ HW_ 14 26 hHeld ?_
          refine sqo HT_ 15 27 (fun K hK => ?_)
          refine sqG Try.func99 #[] ?_
          with_reducible refine (spec_l8None.calls  t351 t352 _ A37.out).mono ?_
          rintro e w43 ⟨rfl, hb⟩
          refine ⟨_, rfl, ?_⟩
          replace BK337 := sqb BK337 hb
          replace BK338 := sqb BK338 hb
          replace BK339 := sqb BK339 hb
          replace BK340 := sqb BK340 hb
          replace BK343 := sqb BK343 hb
          replace BK346 := sqb BK346 hb
          replace HB := sqs HB hb
          (try clear hb)
          refine hK.out _ _ sqz (fun hHeld => ?_)
          clear hK K
          refine sqnm ?_
          refine sqp HT_ 16 28 ?_
          refine sqp HT_ 17 29 ?_
          refine done_ (done_of HT_.out (by kernel_rfl)) ?_
          try go_wp2
          go_meet
          case rel => exact ⟨_, ((a2_0 == t351 && (a2_1 == t352))), (by first | rfl | (simp; done) | (simp [*]; done)), H', ⟨by first | omega | exact Nat.le_refl _⟩, sqk BK337, sqk BK338, sqk BK339, sqk BK340, sqk BK343, sqk BK346, sqh HB⟩
      · replace c29 := Bool.eq_false_iff.mpr c29
        subst c29
        have H1 : (spec_RangeCmp.j0 k a0 true a1_0 a1_1 a2_0 a2_1 t341 t342 t344 t345) = some (r1, r2, r3, r4) := by rw [if_neg (show ¬ (false = true) by decide)] at H; exact H
        clear H
        have H := H1
        clear H1
        have H' := Aside0.mk H
        clear H
        try go_wp2
        have n0_ : Aside0 (((w19.setCell ⟨gb346, 0, none⟩ (.int .i64 t344)).setCell ⟨gb346, 1, none⟩ (.int .i64 t345)).heap[gb337]? = some (.cells #[.int .i64 a1_0, .int .i64 a1_1] 24 (0, 0))) := ⟨by refine sqt ?_; refine blk_far ?_ NB337_346.out _; refine sqt ?_; refine blk_far ?_ NB337_346.out _; refine sqt ?_; exact BK337.out⟩
        have n1_ : Aside0 (((w19.setCell ⟨gb346, 0, none⟩ (.int .i64 t344)).setCell ⟨gb346, 1, none⟩ (.int .i64 t345)).heap[gb338]? = some (.cells #[.int .i64 a2_0, .int .i64 a2_1] 24 (0, 0))) := ⟨by refine sqt ?_; refine blk_far ?_ NB338_346.out _; refine sqt ?_; refine blk_far ?_ NB338_346.out _; refine sqt ?_; exact BK338.out⟩
        have n2_ : Aside0 (((w19.setCell ⟨gb346, 0, none⟩ (.int .i64 t344)).setCell ⟨gb346, 1, none⟩ (.int .i64 t345)).heap[gb339]? = some (.cells #[.int .i64 0, .int .i64 0] 24 (0, 0))) := ⟨by refine sqt ?_; refine blk_far ?_ NB339_346.out _; refine sqt ?_; refine blk_far ?_ NB339_346.out _; refine sqt ?_; exact BK339.out⟩
        have n3_ : Aside0 (((w19.setCell ⟨gb346, 0, none⟩ (.int .i64 t344)).setCell ⟨gb346, 1, none⟩ (.int .i64 t345)).heap[gb340]? = some (.cells #[.int .i64 0, .int .i64 0] 24 (0, 0))) := ⟨by refine sqt ?_; refine blk_far ?_ NB340_346.out _; refine sqt ?_; refine blk_far ?_ NB340_346.out _; refine sqt ?_; exact BK340.out⟩
        have n4_ : Aside0 (((w19.setCell ⟨gb346, 0, none⟩ (.int .i64 t344)).setCell ⟨gb346, 1, none⟩ (.int .i64 t345)).heap[gb343]? = some (.cells #[.int .i64 t341, .int .i64 t342] 24 (0, 0))) := ⟨by refine sqt ?_; refine blk_far ?_ NB343_346.out _; refine sqt ?_; refine blk_far ?_ NB343_346.out _; refine sqt ?_; exact BK343.out⟩
        have n5_ : Aside0 (((w19.setCell ⟨gb346, 0, none⟩ (.int .i64 t344)).setCell ⟨gb346, 1, none⟩ (.int .i64 t345)).heap[gb346]? = some (.cells #[.int .i64 t344, .int .i64 t345] 24 (0, 0))) := ⟨by refine sqt ?_; refine blk_put (cs := #[.int .i64 t344, .int .i64 0]) ?_ 1 _ rfl; refine sqt ?_; refine blk_put (cs := #[.int .i64 0, .int .i64 0]) ?_ 0 _ rfl; refine sqt ?_; exact BK346.out⟩
        have n6_ : Aside0 (Below w.heap.size w ((w19.setCell ⟨gb346, 0, none⟩ (.int .i64 t344)).setCell ⟨gb346, 1, none⟩ (.int .i64 t345))) := sqh HB
        (try clear BK337)
        (try clear BK338)
        (try clear BK339)
        (try clear BK340)
        (try clear BK343)
        (try clear BK346)
        (try clear HB)
        generalize ((w19.setCell ⟨gb346, 0, none⟩ (.int .i64 t344)).setCell ⟨gb346, 1, none⟩ (.int .i64 t345)) = w44 at n0_ n1_ n2_ n3_ n4_ n5_ n6_ ⊢
        have BK337 := n0_
        have BK338 := n1_
        have BK339 := n2_
        have BK340 := n3_
        have BK343 := n4_
        have BK346 := n5_
        have HB := n6_
        clear n0_ n1_ n2_ n3_ n4_ n5_ n6_
        replace BK337 := Aside0.mk (blk_drew BK337.out)
        replace BK338 := Aside0.mk (blk_drew BK338.out)
        replace BK339 := Aside0.mk (blk_drew BK339.out)
        replace BK340 := Aside0.mk (blk_drew BK340.out)
        replace BK343 := Aside0.mk (blk_drew BK343.out)
        replace BK346 := Aside0.mk (blk_drew BK346.out)
        replace HB := Aside0.mk (below_drew1 HB.out)
        refine start_ (n := 18) (S := fun w' => w'.cell? ⟨gb337, 0, none⟩ = some (.int .i64 a1_0) ∧ w'.cell? ⟨gb337, 1, none⟩ = some (.int .i64 a1_1) ∧ w'.cell? ⟨gb338, 0, none⟩ = some (.int .i64 a2_0) ∧ w'.cell? ⟨gb338, 1, none⟩ = some (.int .i64 a2_1)) (ds := []) #[false, false, false, false, false, false, false, false, false, false, false, false, false, false, false, false, false, false] (by kernel_rfl) rfl rfl ⟨(blk_cell BK337.out 0).trans rfl, (blk_cell BK337.out 1).trans rfl, (blk_cell BK338.out 0).trans rfl, (blk_cell BK338.out 1).trans rfl⟩ (fun hHeld => ?_); refine with_tabW spec_RangeCmp.tab3 spec_RangeCmp.bits3 (fun HT_ HW_ => ?_)
        generalize w44.drew = w45 at BK337 BK338 BK339 BK340 BK343 BK346 HB hHeld ⊢
        refine sqw HT_ HW_ 0 12 hHeld ?_
        refine sqo HT_ 1 13 (fun K hK => ?_)
        refine sqG Try.func45 #[.agg #[.int .i64 a1_0, .int .i64 a1_1]] ?_
        with_reducible refine (spec_RangeOk.calls a1_0 a1_1 true _ A26.out).mono ?_
        rintro e w46 ⟨rfl, hb⟩
        refine ⟨_, rfl, ?_⟩
        replace BK337 := sqb BK337 hb
        replace BK338 := sqb BK338 hb
        replace BK339 := sqb BK339 hb
        replace BK340 := sqb BK340 hb
        replace BK343 := sqb BK343 hb
        replace BK346 := sqb BK346 hb
        replace HB := sqs HB hb
        (try clear hb)
        refine hK.out _ _ sqz (fun hHeld => ?_)
        clear hK K
        refine sqnm ?_
        refine sqp HT_ 2 14 ?_
        refine sqp HT_ 3 15 ?_
        refine sqw HT_ HW_ 4 16 hHeld ?_
        refine sqo HT_ 5 17 (fun K hK => ?_)
        refine sqG Try.func45 #[.agg #[.int .i64 a2_0, .int .i64 a2_1]] ?_
        with_reducible refine (spec_RangeOk.calls a2_0 a2_1 false _ A28.out).mono ?_
        rintro e w47 ⟨rfl, hb⟩
        refine ⟨_, rfl, ?_⟩
        replace BK337 := sqb BK337 hb
        replace BK338 := sqb BK338 hb
        replace BK339 := sqb BK339 hb
        replace BK340 := sqb BK340 hb
        replace BK343 := sqb BK343 hb
        replace BK346 := sqb BK346 hb
        replace HB := sqs HB hb
        (try clear hb)
        refine hK.out _ _ sqz (fun hHeld => ?_)
        clear hK K
        refine sqnm ?_
        refine sqp HT_ 6 18 ?_
        refine sqp HT_ 7 19 ?_
        refine sqp HT_ 8 20 ?_
        refine sqpu HT_ 9 21 ?_
        refine sqpu HT_ 10 22 ?_
        refine sqpu HT_ 11 23 ?_
        refine sqp HT_ 12 24 ?_
        refine sqp HT_ 13 25 ?_
        refine sqpu HT_ 14 26 ?_
        refine sqpu HT_ 15 27 ?_
        refine sqpu HT_ 16 28 ?_
        refine sqp HT_ 17 29 ?_
        refine done_ (done_of HT_.out (by kernel_rfl)) ?_
        try go_wp2
        go_meet
        case rel => exact ⟨_, (true), (by first | rfl | (simp; done) | (simp [*]; done)), H', ⟨by first | omega | exact Nat.le_refl _⟩, sqk BK337, sqk BK338, sqk BK339, sqk BK340, sqk BK343, sqk BK346, sqh HB⟩
    · replace c27 := Bool.eq_false_iff.mpr c27
      subst c27
      have H1 : (spec_RangeCmp.j0 k a0 true a1_0 a1_1 a2_0 a2_1 t341 t342 t344 t345) = some (r1, r2, r3, r4) := by rw [if_neg (show ¬ (false = true) by decide)] at H; exact H
      clear H
      have H := H1
      clear H1
      have H' := Aside0.mk H
      clear H
      try go_wp2
      have n0_ : Aside0 (((w19.setCell ⟨gb346, 0, none⟩ (.int .i64 t344)).setCell ⟨gb346, 1, none⟩ (.int .i64 t345)).heap[gb337]? = some (.cells #[.int .i64 a1_0, .int .i64 a1_1] 24 (0, 0))) := ⟨by refine sqt ?_; refine blk_far ?_ NB337_346.out _; refine sqt ?_; refine blk_far ?_ NB337_346.out _; refine sqt ?_; exact BK337.out⟩
      have n1_ : Aside0 (((w19.setCell ⟨gb346, 0, none⟩ (.int .i64 t344)).setCell ⟨gb346, 1, none⟩ (.int .i64 t345)).heap[gb338]? = some (.cells #[.int .i64 a2_0, .int .i64 a2_1] 24 (0, 0))) := ⟨by refine sqt ?_; refine blk_far ?_ NB338_346.out _; refine sqt ?_; refine blk_far ?_ NB338_346.out _; refine sqt ?_; exact BK338.out⟩
      have n2_ : Aside0 (((w19.setCell ⟨gb346, 0, none⟩ (.int .i64 t344)).setCell ⟨gb346, 1, none⟩ (.int .i64 t345)).heap[gb339]? = some (.cells #[.int .i64 0, .int .i64 0] 24 (0, 0))) := ⟨by refine sqt ?_; refine blk_far ?_ NB339_346.out _; refine sqt ?_; refine blk_far ?_ NB339_346.out _; refine sqt ?_; exact BK339.out⟩
      have n3_ : Aside0 (((w19.setCell ⟨gb346, 0, none⟩ (.int .i64 t344)).setCell ⟨gb346, 1, none⟩ (.int .i64 t345)).heap[gb340]? = some (.cells #[.int .i64 0, .int .i64 0] 24 (0, 0))) := ⟨by refine sqt ?_; refine blk_far ?_ NB340_346.out _; refine sqt ?_; refine blk_far ?_ NB340_346.out _; refine sqt ?_; exact BK340.out⟩
      have n4_ : Aside0 (((w19.setCell ⟨gb346, 0, none⟩ (.int .i64 t344)).setCell ⟨gb346, 1, none⟩ (.int .i64 t345)).heap[gb343]? = some (.cells #[.int .i64 t341, .int .i64 t342] 24 (0, 0))) := ⟨by refine sqt ?_; refine blk_far ?_ NB343_346.out _; refine sqt ?_; refine blk_far ?_ NB343_346.out _; refine sqt ?_; exact BK343.out⟩
      have n5_ : Aside0 (((w19.setCell ⟨gb346, 0, none⟩ (.int .i64 t344)).setCell ⟨gb346, 1, none⟩ (.int .i64 t345)).heap[gb346]? = some (.cells #[.int .i64 t344, .int .i64 t345] 24 (0, 0))) := ⟨by refine sqt ?_; refine blk_put (cs := #[.int .i64 t344, .int .i64 0]) ?_ 1 _ rfl; refine sqt ?_; refine blk_put (cs := #[.int .i64 0, .int .i64 0]) ?_ 0 _ rfl; refine sqt ?_; exact BK346.out⟩
      have n6_ : Aside0 (Below w.heap.size w ((w19.setCell ⟨gb346, 0, none⟩ (.int .i64 t344)).setCell ⟨gb346, 1, none⟩ (.int .i64 t345))) := sqh HB
      (try clear BK337)
      (try clear BK338)
      (try clear BK339)
      (try clear BK340)
      (try clear BK343)
      (try clear BK346)
      (try clear HB)
      generalize ((w19.setCell ⟨gb346, 0, none⟩ (.int .i64 t344)).setCell ⟨gb346, 1, none⟩ (.int .i64 t345)) = w48 at n0_ n1_ n2_ n3_ n4_ n5_ n6_ ⊢
      have BK337 := n0_
      have BK338 := n1_
      have BK339 := n2_
      have BK340 := n3_
      have BK343 := n4_
      have BK346 := n5_
      have HB := n6_
      clear n0_ n1_ n2_ n3_ n4_ n5_ n6_
      replace BK337 := Aside0.mk (blk_drew BK337.out)
      replace BK338 := Aside0.mk (blk_drew BK338.out)
      replace BK339 := Aside0.mk (blk_drew BK339.out)
      replace BK340 := Aside0.mk (blk_drew BK340.out)
      replace BK343 := Aside0.mk (blk_drew BK343.out)
      replace BK346 := Aside0.mk (blk_drew BK346.out)
      replace HB := Aside0.mk (below_drew1 HB.out)
      refine start_ (n := 18) (S := fun w' => w'.cell? ⟨gb337, 0, none⟩ = some (.int .i64 a1_0) ∧ w'.cell? ⟨gb337, 1, none⟩ = some (.int .i64 a1_1)) (ds := []) #[false, false, false, false, false, false, false, false, false, false, false, false, false, false, false, false, false, false] (by kernel_rfl) rfl rfl ⟨(blk_cell BK337.out 0).trans rfl, (blk_cell BK337.out 1).trans rfl⟩ (fun hHeld => ?_); refine with_tabW spec_RangeCmp.tab3 spec_RangeCmp.bits3 (fun HT_ HW_ => ?_)
      generalize w48.drew = w49 at BK337 BK338 BK339 BK340 BK343 BK346 HB hHeld ⊢
      refine sqw HT_ HW_ 0 12 hHeld ?_
      refine sqo HT_ 1 13 (fun K hK => ?_)
      refine sqG Try.func45 #[.agg #[.int .i64 a1_0, .int .i64 a1_1]] ?_
      with_reducible refine (spec_RangeOk.calls a1_0 a1_1 false _ A26.out).mono ?_
      rintro e w50 ⟨rfl, hb⟩
      refine ⟨_, rfl, ?_⟩
      replace BK337 := sqb BK337 hb
      replace BK338 := sqb BK338 hb
      replace BK339 := sqb BK339 hb
      replace BK340 := sqb BK340 hb
      replace BK343 := sqb BK343 hb
      replace BK346 := sqb BK346 hb
      replace HB := sqs HB hb
      (try clear hb)
      refine hK.out _ _ sqz (fun hHeld => ?_)
      clear hK K
      refine sqnm ?_
      refine sqp HT_ 2 14 ?_
      refine sqp HT_ 3 15 ?_
      refine sqpu HT_ 4 16 ?_
      refine sqpu HT_ 5 17 ?_
      refine sqpu HT_ 6 18 ?_
      refine sqp HT_ 7 19 ?_
      refine sqp HT_ 8 20 ?_
      refine sqpu HT_ 9 21 ?_
      refine sqpu HT_ 10 22 ?_
      refine sqpu HT_ 11 23 ?_
      refine sqp HT_ 12 24 ?_
      refine sqp HT_ 13 25 ?_
      refine sqpu HT_ 14 26 ?_
      refine sqpu HT_ 15 27 ?_
      refine sqpu HT_ 16 28 ?_
      refine sqp HT_ 17 29 ?_
      refine done_ (done_of HT_.out (by kernel_rfl)) ?_
      try go_wp2
      go_meet
      case rel => exact ⟨_, (true), (by first | rfl | (simp; done) | (simp [*]; done)), H', ⟨by first | omega | exact Nat.le_refl _⟩, sqk BK337, sqk BK338, sqk BK339, sqk BK340, sqk BK343, sqk BK346, sqh HB⟩
  case rest =>
    clear HC6
    obtain ⟨kq, x29_5, rfl, HA, HJ5, BK337, BK338, BK339, BK340, BK343, BK346, HB⟩ := hcut
    cases kq with
    | zero => exact absurd HA.out (by simp [spec_RangeCmp.j0])
    | succ kj5 =>
      have H := HA.out
      clear HA
      simp only [spec_RangeCmp.j0] at H
      by_cases c51 : x29_5 = true
      · subst c51
        have H1 : (some (t341, t342, t344, t345)) = some (r1, r2, r3, r4) := by rw [if_pos rfl] at H; exact H
        clear H
        have H := H1
        clear H1
        simp only [Option.some.injEq, Prod.mk.injEq] at H
        obtain ⟨rfl, rfl, rfl, rfl⟩ := H
        try go_wp2
        replace BK337 := Aside0.mk (blk_drew BK337.out)
        replace BK338 := Aside0.mk (blk_drew BK338.out)
        replace BK339 := Aside0.mk (blk_drew BK339.out)
        replace BK340 := Aside0.mk (blk_drew BK340.out)
        replace BK343 := Aside0.mk (blk_drew BK343.out)
        replace BK346 := Aside0.mk (blk_drew BK346.out)
        replace HB := Aside0.mk (below_drew1 HB.out)
        refine start_ (n := 4) (S := fun w' => w'.cell? ⟨gb343, 0, none⟩ = some (.int .i64 t341) ∧ w'.cell? ⟨gb343, 1, none⟩ = some (.int .i64 t342) ∧ w'.cell? ⟨gb346, 0, none⟩ = some (.int .i64 t344) ∧ w'.cell? ⟨gb346, 1, none⟩ = some (.int .i64 t345)) (ds := []) #[false, false, false, false] (by kernel_rfl) rfl rfl ⟨(blk_cell BK343.out 0).trans rfl, (blk_cell BK343.out 1).trans rfl, (blk_cell BK346.out 0).trans rfl, (blk_cell BK346.out 1).trans rfl⟩ (fun hHeld => ?_)
        generalize wc.drew = w52 at BK337 BK338 BK339 BK340 BK343 BK346 HB hHeld ⊢
        refine take_ (i := 0) (N := some 30) (v := ?_) (a' := ?_) #[true, false, false, false] rfl rfl (by kernel_rfl) (fun _ _ _ h => h) (Or.inl ⟨by rfl, ?_⟩) hHeld ?_ ?_
        rotate_left
        · rintro w' ⟨s0, s1, s2, s3⟩
          go_simp
          with_reducible rfl
        rotate_left
        · simp only [Act.put, List.setIfInBounds_toArray, List.set_cons_zero, List.set_cons_succ, i64_w, i32_w]
          rfl
        refine take_ (i := 1) (N := some 31) (v := ?_) (a' := ?_) #[true, true, false, false] rfl rfl (by kernel_rfl) (fun _ _ _ h => h) (Or.inl ⟨by rfl, ?_⟩) hHeld ?_ ?_
        rotate_left
        · rintro w' ⟨s0, s1, s2, s3⟩
          go_simp
          with_reducible rfl
        rotate_left
        · simp only [Act.put, List.setIfInBounds_toArray, List.set_cons_zero, List.set_cons_succ, i64_w, i32_w]
          rfl
        refine one_ (i := 2) (N := none) #[true, true, true, false] rfl rfl (by kernel_rfl) (by decide) (fun K hK => ?_)
        have hs53 : w52.cell? ⟨gb339, 0, none⟩ = some (.int .i64 0) := (blk_cell BK339.out 0).trans rfl
        have hfs53 := blk_frozen BK339.out 0
        have hns53_0 := NB337_339.out
        have hns53_1 := NB338_339.out
        have hns53_3 := NB340_339.out
        have hns53_4 := NB343_339.out
        have hns53_5 := NB346_339.out
        have hms53_0 := NB339_337.out
        have hms53_1 := NB339_338.out
        have hms53_3 := NB339_340.out
        have hms53_4 := NB339_343.out
        have hms53_5 := NB339_346.out
        have hs54 : w52.cell? ⟨gb339, 1, none⟩ = some (.int .i64 0) := (blk_cell BK339.out 1).trans rfl
        have hfs54 := blk_frozen BK339.out 1
        have hns54_0 := NB337_339.out
        have hns54_1 := NB338_339.out
        have hns54_3 := NB340_339.out
        have hns54_4 := NB343_339.out
        have hns54_5 := NB346_339.out
        have hms54_0 := NB339_337.out
        have hms54_1 := NB339_338.out
        have hms54_3 := NB339_340.out
        have hms54_4 := NB339_343.out
        have hms54_5 := NB339_346.out
        refine skip_ (w1 := ?_) (by rfl) rfl ?_ ?_
        rotate_left
        · go_simp
          rfl
        refine hK.out _ _ ⟨((cell_far (p := ⟨gb339, _, none⟩) NB343_339.out _).trans (((cell_far (p := ⟨gb339, _, none⟩) NB343_339.out _).trans (hHeld.1)))), ((cell_far (p := ⟨gb339, _, none⟩) NB343_339.out _).trans (((cell_far (p := ⟨gb339, _, none⟩) NB343_339.out _).trans (hHeld.2.1)))), ((cell_far (p := ⟨gb339, _, none⟩) NB346_339.out _).trans (((cell_far (p := ⟨gb339, _, none⟩) NB346_339.out _).trans (hHeld.2.2.1)))), ((cell_far (p := ⟨gb339, _, none⟩) NB346_339.out _).trans (((cell_far (p := ⟨gb339, _, none⟩) NB346_339.out _).trans (hHeld.2.2.2))))⟩ (fun hHeld => ?_)
        clear hK K
        refine one_ (i := 3) (N := none) #[true, true, true, true] rfl rfl (by kernel_rfl) (by decide) (fun K hK => ?_)
        have hs55 : w52.cell? ⟨gb340, 0, none⟩ = some (.int .i64 0) := (blk_cell BK340.out 0).trans rfl
        have hfs55 := blk_frozen BK340.out 0
        have hns55_0 := NB337_340.out
        have hns55_1 := NB338_340.out
        have hns55_2 := NB339_340.out
        have hns55_4 := NB343_340.out
        have hns55_5 := NB346_340.out
        have hms55_0 := NB340_337.out
        have hms55_1 := NB340_338.out
        have hms55_2 := NB340_339.out
        have hms55_4 := NB340_343.out
        have hms55_5 := NB340_346.out
        have hs56 : w52.cell? ⟨gb340, 1, none⟩ = some (.int .i64 0) := (blk_cell BK340.out 1).trans rfl
        have hfs56 := blk_frozen BK340.out 1
        have hns56_0 := NB337_340.out
        have hns56_1 := NB338_340.out
        have hns56_2 := NB339_340.out
        have hns56_4 := NB343_340.out
        have hns56_5 := NB346_340.out
        have hms56_0 := NB340_337.out
        have hms56_1 := NB340_338.out
        have hms56_2 := NB340_339.out
        have hms56_4 := NB340_343.out
        have hms56_5 := NB340_346.out
        refine skip_ (w1 := ?_) (by rfl) rfl ?_ ?_
        rotate_left
        · go_simp
          rfl
        refine hK.out _ _ ⟨((cell_far (p := ⟨gb340, _, none⟩) NB343_340.out _).trans (((cell_far (p := ⟨gb340, _, none⟩) NB343_340.out _).trans (hHeld.1)))), ((cell_far (p := ⟨gb340, _, none⟩) NB343_340.out _).trans (((cell_far (p := ⟨gb340, _, none⟩) NB343_340.out _).trans (hHeld.2.1)))), ((cell_far (p := ⟨gb340, _, none⟩) NB346_340.out _).trans (((cell_far (p := ⟨gb340, _, none⟩) NB346_340.out _).trans (hHeld.2.2.1)))), ((cell_far (p := ⟨gb340, _, none⟩) NB346_340.out _).trans (((cell_far (p := ⟨gb340, _, none⟩) NB346_340.out _).trans (hHeld.2.2.2))))⟩ (fun hHeld => ?_)
        clear hK K
        refine done_ (by kernel_rfl) ?_
        try go_wp2
        refine bodyPost_ret (results_cc rfl _ _ gb339 gb340 24 24 #[.int .i64 t341, .int .i64 t342] #[.int .i64 t344, .int .i64 t345] (0, 0) (0, 0) _ _ rfl (by refine sqt ?_; refine blk_far ?_ NB339_340.out _; refine sqt ?_; refine blk_far ?_ NB339_340.out _; refine sqt ?_; refine blk_put (cs := #[.int .i64 t341, .int .i64 0]) ?_ 1 _ rfl; refine sqt ?_; refine blk_put (cs := #[.int .i64 0, .int .i64 0]) ?_ 0 _ rfl; refine sqt ?_; exact BK339.out) Try.underlying24 rfl (by kernel_rfl) rfl (by refine sqt ?_; refine blk_put (cs := #[.int .i64 t344, .int .i64 0]) ?_ 1 _ rfl; refine sqt ?_; refine blk_put (cs := #[.int .i64 0, .int .i64 0]) ?_ 0 _ rfl; refine sqt ?_; refine blk_far ?_ NB340_339.out _; refine sqt ?_; refine blk_far ?_ NB340_339.out _; refine sqt ?_; exact BK340.out) Try.underlying24 rfl (by kernel_rfl)) rfl ?_
        exact sqe HB
      · replace c51 := Bool.eq_false_iff.mpr c51
        subst c51
        have H1 : (if a0 = 1 then ((spec_RangeMeet.f kj5 a1_0 a1_1 a2_0 a2_1).bind fun bt353 => (spec_RangeCmp.j1 kj5 a0 a1_0 a1_1 a2_0 a2_1 bt353.1 bt353.2 bt353.1 bt353.2)) else (spec_RangeCmp.j1 kj5 a0 a1_0 a1_1 a2_0 a2_1 t341 t342 t344 t345)) = some (r1, r2, r3, r4) := by rw [if_neg (show ¬ (false = true) by decide)] at H; exact H
        clear H
        have H := H1
        clear H1
        have HC57 := Aside0.mk H
        clear H
        go_upto_if 33 with (fail)
        go_cut [] (fun wc => ∃ (kq : Nat) (x344000_56 : Int) (x344001_56 : Int) (x347000_56 : Int) (x347001_56 : Int), Aside0 (spec_RangeCmp.j1 kq a0 a1_0 a1_1 a2_0 a2_1 x344000_56 x344001_56 x347000_56 x347001_56 = some (r1, r2, r3, r4)) ∧ Aside0 (kq ≤ kj5) ∧ Aside0 (wc.heap[gb337]? = some (.cells #[.int .i64 a1_0, .int .i64 a1_1] 24 (0, 0))) ∧ Aside0 (wc.heap[gb338]? = some (.cells #[.int .i64 a2_0, .int .i64 a2_1] 24 (0, 0))) ∧ Aside0 (wc.heap[gb339]? = some (.cells #[.int .i64 0, .int .i64 0] 24 (0, 0))) ∧ Aside0 (wc.heap[gb340]? = some (.cells #[.int .i64 0, .int .i64 0] 24 (0, 0))) ∧ Aside0 (wc.heap[gb343]? = some (.cells #[.int .i64 x344000_56, .int .i64 x344001_56] 24 (0, 0))) ∧ Aside0 (wc.heap[gb346]? = some (.cells #[.int .i64 x347000_56, .int .i64 x347001_56] 24 (0, 0))) ∧ Aside0 (Below w.heap.size w wc))
        case first =>
          have H := HC57.out
          clear HC57
          by_cases c58 : a0 = 1
          · rw [if_pos c58] at H
            have c58b0 : (a0 == 1) = true := beq_iff_eq.mpr c58
            have c58b1 : (a0 != 1) = false := bne_eq_false_iff_eq.mpr c58
            clear c58
            (first | rw [c58b0] | (simp only [i64_w, i32_w]; rw [c58b0]) | skip)
            replace H := Option.bind_eq_some_iff.mp H
            obtain ⟨⟨t353, t354⟩, A590, H⟩ := H
            replace H : (spec_RangeCmp.j1 kj5 a0 a1_0 a1_1 a2_0 a2_1 t353 t354 t353 t354) = some (r1, r2, r3, r4) := H
            have A59 := Aside0.mk A590
            clear A590
            have H' := Aside0.mk H
            clear H
            have hnb60 := NB337_338.out
            have hnc60 := NB338_337.out
            have hnb61 := NB337_339.out
            have hnc61 := NB339_337.out
            have hnb62 := NB337_340.out
            have hnc62 := NB340_337.out
            have hnb63 := NB337_343.out
            have hnc63 := NB343_337.out
            have hnb64 := NB337_346.out
            have hnc64 := NB346_337.out
            obtain ⟨hcz65_0, hcz65_1, hfz65_0, hfz65_1⟩ := sqc2 BK337
            have hnb66 := NB338_339.out
            have hnc66 := NB339_338.out
            have hnb67 := NB338_340.out
            have hnc67 := NB340_338.out
            have hnb68 := NB338_343.out
            have hnc68 := NB343_338.out
            have hnb69 := NB338_346.out
            have hnc69 := NB346_338.out
            obtain ⟨hcz70_0, hcz70_1, hfz70_0, hfz70_1⟩ := sqc2 BK338
            go_wp2_with (first | ((with_reducible refine gate_callee (f := 131) rfl ?_); refine sqL (some 36) Try.func131 #[.agg #[.int .i64 a1_0, .int .i64 a1_1], .agg #[.int .i64 a2_0, .int .i64 a2_1]] ?_; (with_reducible refine (spec_RangeMeet.calls kj5 a1_0 a1_1 a2_0 a2_1 t353 t354 _ A59.out).mono ?_); rintro e w71 ⟨rfl, hb⟩; refine ⟨_, rfl, ?_⟩; replace BK337 := sqb BK337 hb; replace BK338 := sqb BK338 hb; replace BK339 := sqb BK339 hb; replace BK340 := sqb BK340 hb; replace BK343 := sqb BK343 hb; replace BK346 := sqb BK346 hb; replace HB := sqs HB hb; (try clear hb); have hnb72 := NB343_339.out; have hnc72 := NB339_343.out; have hnb73 := NB343_340.out; have hnc73 := NB340_343.out; have hnb74 := NB343_346.out; have hnc74 := NB346_343.out; obtain ⟨hcz75_0, hcz75_1, hfz75_0, hfz75_1⟩ := sqc2 BK343; have hnb76 := NB346_339.out; have hnc76 := NB339_346.out; have hnb77 := NB346_340.out; have hnc77 := NB340_346.out; obtain ⟨hcz78_0, hcz78_1, hfz78_0, hfz78_1⟩ := sqc2 BK346))
            go_meet
            case rel => exact ⟨_, (t353), (t354), (t353), (t354), H', ⟨by have := HJ5.out; first | omega | exact Nat.le_refl _⟩, ⟨by refine sqt ?_; refine blk_far ?_ NB337_346.out _; refine sqt ?_; refine blk_far ?_ NB337_346.out _; refine sqt ?_; refine blk_far ?_ NB337_343.out _; refine sqt ?_; refine blk_far ?_ NB337_343.out _; refine sqt ?_; exact BK337.out⟩, ⟨by refine sqt ?_; refine blk_far ?_ NB338_346.out _; refine sqt ?_; refine blk_far ?_ NB338_346.out _; refine sqt ?_; refine blk_far ?_ NB338_343.out _; refine sqt ?_; refine blk_far ?_ NB338_343.out _; refine sqt ?_; exact BK338.out⟩, ⟨by refine sqt ?_; refine blk_far ?_ NB339_346.out _; refine sqt ?_; refine blk_far ?_ NB339_346.out _; refine sqt ?_; refine blk_far ?_ NB339_343.out _; refine sqt ?_; refine blk_far ?_ NB339_343.out _; refine sqt ?_; exact BK339.out⟩, ⟨by refine sqt ?_; refine blk_far ?_ NB340_346.out _; refine sqt ?_; refine blk_far ?_ NB340_346.out _; refine sqt ?_; refine blk_far ?_ NB340_343.out _; refine sqt ?_; refine blk_far ?_ NB340_343.out _; refine sqt ?_; exact BK340.out⟩, ⟨by refine sqt ?_; refine blk_far ?_ NB343_346.out _; refine sqt ?_; refine blk_far ?_ NB343_346.out _; refine sqt ?_; refine blk_put (cs := #[.int .i64 t353, .int .i64 t342]) ?_ 1 _ rfl; refine sqt ?_; refine blk_put (cs := #[.int .i64 t341, .int .i64 t342]) ?_ 0 _ rfl; refine sqt ?_; exact BK343.out⟩, ⟨by refine sqt ?_; refine blk_put (cs := #[.int .i64 t353, .int .i64 t345]) ?_ 1 _ rfl; refine sqt ?_; refine blk_put (cs := #[.int .i64 t344, .int .i64 t345]) ?_ 0 _ rfl; refine sqt ?_; refine blk_far ?_ NB346_343.out _; refine sqt ?_; refine blk_far ?_ NB346_343.out _; refine sqt ?_; exact BK346.out⟩, sqh HB⟩
          · rw [if_neg c58] at H
            have c58b0 : (a0 == 1) = false := beq_eq_false_iff_ne.mpr c58
            have c58b1 : (a0 != 1) = true := bne_iff_ne.mpr c58
            (first | rw [c58b0] | (simp only [i64_w, i32_w]; rw [c58b0]) | skip)
            have H' := Aside0.mk H
            clear H
            go_wp2
            go_meet
            case rel => exact ⟨_, (t341), (t342), (t344), (t345), H', ⟨by have := HJ5.out; first | omega | exact Nat.le_refl _⟩, sqk BK337, sqk BK338, sqk BK339, sqk BK340, sqk BK343, sqk BK346, sqh HB⟩
        case rest =>
          clear HC57
          try clear c27
          try clear c29
          try clear c51
          obtain ⟨kq, x344000_56, x344001_56, x347000_56, x347001_56, HA, HJ56, BK337, BK338, BK339, BK340, BK343, BK346, HB⟩ := hcut
          cases kq with
          | zero => exact absurd HA.out (by simp [spec_RangeCmp.j1])
          | succ kj56 =>
            have H := HA.out
            clear HA
            simp only [spec_RangeCmp.j1] at H
            have HC79 := Aside0.mk H
            clear H
            go_upto_if 39 with (fail)
            go_cut [] (fun wc => ∃ (kq : Nat) (x344000_78 : Int) (x344001_78 : Int) (x347000_78 : Int) (x347001_78 : Int), Aside0 (spec_RangeCmp.j2 kq a0 a1_0 a1_1 a2_0 a2_1 x344000_78 x344001_78 x347000_78 x347001_78 = some (r1, r2, r3, r4)) ∧ Aside0 (kq ≤ kj56) ∧ Aside0 (wc.heap[gb337]? = some (.cells #[.int .i64 a1_0, .int .i64 a1_1] 24 (0, 0))) ∧ Aside0 (wc.heap[gb338]? = some (.cells #[.int .i64 a2_0, .int .i64 a2_1] 24 (0, 0))) ∧ Aside0 (wc.heap[gb339]? = some (.cells #[.int .i64 0, .int .i64 0] 24 (0, 0))) ∧ Aside0 (wc.heap[gb340]? = some (.cells #[.int .i64 0, .int .i64 0] 24 (0, 0))) ∧ Aside0 (wc.heap[gb343]? = some (.cells #[.int .i64 x344000_78, .int .i64 x344001_78] 24 (0, 0))) ∧ Aside0 (wc.heap[gb346]? = some (.cells #[.int .i64 x347000_78, .int .i64 x347001_78] 24 (0, 0))) ∧ Aside0 (Below w.heap.size w wc))
            case first =>
              have H := HC79.out
              clear HC79
              by_cases c80 : a0 = 2
              · rw [if_pos c80] at H
                have c80b0 : (a0 == 2) = true := beq_iff_eq.mpr c80
                have c80b1 : (a0 != 2) = false := bne_eq_false_iff_eq.mpr c80
                clear c80
                (first | rw [c80b0] | (simp only [i64_w, i32_w]; rw [c80b0]) | skip)
                replace H := Option.bind_eq_some_iff.mp H
                obtain ⟨⟨t355, t356⟩, A810, H⟩ := H
                replace H : ((spec_l8Ne.f a2_0 a2_1 a1_0 a1_1).bind fun bt357 => (spec_RangeCmp.j2 kj56 a0 a1_0 a1_1 a2_0 a2_1 t355 t356 bt357.1 bt357.2)) = some (r1, r2, r3, r4) := H
                have A81 := Aside0.mk A810
                clear A810
                replace H := Option.bind_eq_some_iff.mp H
                obtain ⟨⟨t357, t358⟩, A820, H⟩ := H
                replace H : (spec_RangeCmp.j2 kj56 a0 a1_0 a1_1 a2_0 a2_1 t355 t356 t357 t358) = some (r1, r2, r3, r4) := H
                have A82 := Aside0.mk A820
                clear A820
                have H' := Aside0.mk H
                clear H
                have hnb83 := NB337_338.out
                have hnc83 := NB338_337.out
                have hnb84 := NB337_339.out
                have hnc84 := NB339_337.out
                have hnb85 := NB337_340.out
                have hnc85 := NB340_337.out
                have hnb86 := NB337_343.out
                have hnc86 := NB343_337.out
                have hnb87 := NB337_346.out
                have hnc87 := NB346_337.out
                obtain ⟨hcz88_0, hcz88_1, hfz88_0, hfz88_1⟩ := sqc2 BK337
                have hnb89 := NB338_339.out
                have hnc89 := NB339_338.out
                have hnb90 := NB338_340.out
                have hnc90 := NB340_338.out
                have hnb91 := NB338_343.out
                have hnc91 := NB343_338.out
                have hnb92 := NB338_346.out
                have hnc92 := NB346_338.out
                obtain ⟨hcz93_0, hcz93_1, hfz93_0, hfz93_1⟩ := sqc2 BK338
                go_wp2_with (first | ((with_reducible refine gate_callee (f := 132) rfl ?_); refine sqL (some 42) Try.func132 #[.agg #[.int .i64 a1_0, .int .i64 a1_1], .agg #[.int .i64 a2_0, .int .i64 a2_1]] ?_; (with_reducible refine (spec_l8Ne.calls a1_0 a1_1 a2_0 a2_1 t355 t356 _ A81.out).mono ?_); rintro e w94 ⟨rfl, hb⟩; refine ⟨_, rfl, ?_⟩; replace BK337 := sqb BK337 hb; replace BK338 := sqb BK338 hb; replace BK339 := sqb BK339 hb; replace BK340 := sqb BK340 hb; replace BK343 := sqb BK343 hb; replace BK346 := sqb BK346 hb; replace HB := sqs HB hb; (try clear hb); have hnb95 := NB343_339.out; have hnc95 := NB339_343.out; have hnb96 := NB343_340.out; have hnc96 := NB340_343.out; have hnb97 := NB343_346.out; have hnc97 := NB346_343.out; obtain ⟨hcz98_0, hcz98_1, hfz98_0, hfz98_1⟩ := sqc2 BK343; obtain ⟨hcz99_0, hcz99_1, hfz99_0, hfz99_1⟩ := sqc2 BK338; obtain ⟨hcz100_0, hcz100_1, hfz100_0, hfz100_1⟩ := sqc2 BK337) | ((with_reducible refine gate_callee (f := 132) rfl ?_); refine sqL (some 45) Try.func132 #[.agg #[.int .i64 a2_0, .int .i64 a2_1], .agg #[.int .i64 a1_0, .int .i64 a1_1]] ?_; (with_reducible refine (spec_l8Ne.calls a2_0 a2_1 a1_0 a1_1 t357 t358 _ A82.out).mono ?_); rintro e w101 ⟨rfl, hb⟩; refine ⟨_, rfl, ?_⟩; have n0_ := Aside0.mk (blk_below (g := gb337) (o := .cells #[.int .i64 a1_0, .int .i64 a1_1] 24 (0, 0)) (by refine sqt ?_; refine blk_far ?_ NB337_343.out _; refine sqt ?_; refine blk_far ?_ NB337_343.out _; refine sqt ?_; exact BK337.out) hb); have n1_ := Aside0.mk (blk_below (g := gb338) (o := .cells #[.int .i64 a2_0, .int .i64 a2_1] 24 (0, 0)) (by refine sqt ?_; refine blk_far ?_ NB338_343.out _; refine sqt ?_; refine blk_far ?_ NB338_343.out _; refine sqt ?_; exact BK338.out) hb); have n2_ := Aside0.mk (blk_below (g := gb339) (o := .cells #[.int .i64 0, .int .i64 0] 24 (0, 0)) (by refine sqt ?_; refine blk_far ?_ NB339_343.out _; refine sqt ?_; refine blk_far ?_ NB339_343.out _; refine sqt ?_; exact BK339.out) hb); have n3_ := Aside0.mk (blk_below (g := gb340) (o := .cells #[.int .i64 0, .int .i64 0] 24 (0, 0)) (by refine sqt ?_; refine blk_far ?_ NB340_343.out _; refine sqt ?_; refine blk_far ?_ NB340_343.out _; refine sqt ?_; exact BK340.out) hb); have n4_ := Aside0.mk (blk_below (g := gb343) (o := .cells #[.int .i64 t355, .int .i64 t356] 24 (0, 0)) (by refine sqt ?_; refine blk_put (cs := #[.int .i64 t355, .int .i64 x344001_56]) ?_ 1 _ rfl; refine sqt ?_; refine blk_put (cs := #[.int .i64 x344000_56, .int .i64 x344001_56]) ?_ 0 _ rfl; refine sqt ?_; exact BK343.out) hb); have n5_ := Aside0.mk (blk_below (g := gb346) (o := .cells #[.int .i64 x347000_56, .int .i64 x347001_56] 24 (0, 0)) (by refine sqt ?_; refine blk_far ?_ NB346_343.out _; refine sqt ?_; refine blk_far ?_ NB346_343.out _; refine sqt ?_; exact BK346.out) hb); have n6_ := sqs HB hb; clear BK337; clear BK338; clear BK339; clear BK340; clear BK343; clear BK346; clear HB; have BK337 := n0_; have BK338 := n1_; have BK339 := n2_; have BK340 := n3_; have BK343 := n4_; have BK346 := n5_; have HB := n6_; clear n0_ n1_ n2_ n3_ n4_ n5_ n6_; (try clear hb); have hnb102 := NB346_339.out; have hnc102 := NB339_346.out; have hnb103 := NB346_340.out; have hnc103 := NB340_346.out; obtain ⟨hcz104_0, hcz104_1, hfz104_0, hfz104_1⟩ := sqc2 BK346))
                go_meet
                case rel => exact ⟨_, (t355), (t356), (t357), (t358), H', ⟨by have := HJ5.out; have := HJ56.out; first | omega | exact Nat.le_refl _⟩, ⟨by refine sqt ?_; refine blk_far ?_ NB337_346.out _; refine sqt ?_; refine blk_far ?_ NB337_346.out _; refine sqt ?_; exact BK337.out⟩, ⟨by refine sqt ?_; refine blk_far ?_ NB338_346.out _; refine sqt ?_; refine blk_far ?_ NB338_346.out _; refine sqt ?_; exact BK338.out⟩, ⟨by refine sqt ?_; refine blk_far ?_ NB339_346.out _; refine sqt ?_; refine blk_far ?_ NB339_346.out _; refine sqt ?_; exact BK339.out⟩, ⟨by refine sqt ?_; refine blk_far ?_ NB340_346.out _; refine sqt ?_; refine blk_far ?_ NB340_346.out _; refine sqt ?_; exact BK340.out⟩, ⟨by refine sqt ?_; refine blk_far ?_ NB343_346.out _; refine sqt ?_; refine blk_far ?_ NB343_346.out _; refine sqt ?_; exact BK343.out⟩, ⟨by refine sqt ?_; refine blk_put (cs := #[.int .i64 t357, .int .i64 x347001_56]) ?_ 1 _ rfl; refine sqt ?_; refine blk_put (cs := #[.int .i64 x347000_56, .int .i64 x347001_56]) ?_ 0 _ rfl; refine sqt ?_; exact BK346.out⟩, sqh HB⟩
              · rw [if_neg c80] at H
                have c80b0 : (a0 == 2) = false := beq_eq_false_iff_ne.mpr c80
                have c80b1 : (a0 != 2) = true := bne_iff_ne.mpr c80
                (first | rw [c80b0] | (simp only [i64_w, i32_w]; rw [c80b0]) | skip)
                have H' := Aside0.mk H
                clear H
                go_wp2
                go_meet
                case rel => exact ⟨_, (x344000_56), (x344001_56), (x347000_56), (x347001_56), H', ⟨by have := HJ5.out; have := HJ56.out; first | omega | exact Nat.le_refl _⟩, sqk BK337, sqk BK338, sqk BK339, sqk BK340, sqk BK343, sqk BK346, sqh HB⟩
            case rest =>
              clear HC79
              try clear c27
              try clear c29
              try clear c51
              try clear c58
              try clear c58b0
              try clear c58b1
              try clear hcz65_0
              try clear hcz65_1
              try clear hcz70_0
              try clear hcz70_1
              try clear hcz75_0
              try clear hcz75_1
              try clear hcz78_0
              try clear hcz78_1
              try clear hfz65_0
              try clear hfz65_1
              try clear hfz70_0
              try clear hfz70_1
              try clear hfz75_0
              try clear hfz75_1
              try clear hfz78_0
              try clear hfz78_1
              obtain ⟨kq, x344000_78, x344001_78, x347000_78, x347001_78, HA, HJ78, BK337, BK338, BK339, BK340, BK343, BK346, HB⟩ := hcut
              cases kq with
              | zero => exact absurd HA.out (by simp [spec_RangeCmp.j2])
              | succ kj78 =>
                have H := HA.out
                clear HA
                simp only [spec_RangeCmp.j2] at H
                have HC105 := Aside0.mk H
                clear H
                go_upto_if 47 with (fail)
                go_cut [] (fun wc => ∃ (kq : Nat) (x344000_104 : Int) (x344001_104 : Int) (x347000_104 : Int) (x347001_104 : Int), Aside0 (spec_RangeCmp.j3 kq a0 a1_0 a1_1 a2_0 a2_1 x344000_104 x344001_104 x347000_104 x347001_104 = some (r1, r2, r3, r4)) ∧ Aside0 (kq ≤ kj78) ∧ Aside0 (wc.heap[gb337]? = some (.cells #[.int .i64 a1_0, .int .i64 a1_1] 24 (0, 0))) ∧ Aside0 (wc.heap[gb338]? = some (.cells #[.int .i64 a2_0, .int .i64 a2_1] 24 (0, 0))) ∧ Aside0 (wc.heap[gb339]? = some (.cells #[.int .i64 0, .int .i64 0] 24 (0, 0))) ∧ Aside0 (wc.heap[gb340]? = some (.cells #[.int .i64 0, .int .i64 0] 24 (0, 0))) ∧ Aside0 (wc.heap[gb343]? = some (.cells #[.int .i64 x344000_104, .int .i64 x344001_104] 24 (0, 0))) ∧ Aside0 (wc.heap[gb346]? = some (.cells #[.int .i64 x347000_104, .int .i64 x347001_104] 24 (0, 0))) ∧ Aside0 (Below w.heap.size w wc))
                case first =>
                  have H := HC105.out
                  clear HC105
                  by_cases c106 : a0 = 3
                  · rw [if_pos c106] at H
                    have c106b0 : (a0 == 3) = true := beq_iff_eq.mpr c106
                    have c106b1 : (a0 != 3) = false := bne_eq_false_iff_eq.mpr c106
                    clear c106
                    (first | rw [c106b0] | (simp only [i64_w, i32_w]; rw [c106b0]) | skip)
                    replace H := Option.bind_eq_some_iff.mp H
                    obtain ⟨t359, A1070, H⟩ := H
                    replace H : ((spec_l8Cut.f a1_0 t359).bind fun bt360 => ((spec_l8Max.f a2_0 (wrap64 (a1_0 + 1))).bind fun t362 => ((spec_l8Cut.f t362 a2_1).bind fun bt363 => (spec_RangeCmp.j3 kj78 a0 a1_0 a1_1 a2_0 a2_1 bt360.1 bt360.2 bt363.1 bt363.2)))) = some (r1, r2, r3, r4) := H
                    have A107 := Aside0.mk A1070
                    clear A1070
                    replace H := Option.bind_eq_some_iff.mp H
                    obtain ⟨⟨t360, t361⟩, A1080, H⟩ := H
                    replace H : ((spec_l8Max.f a2_0 (wrap64 (a1_0 + 1))).bind fun t362 => ((spec_l8Cut.f t362 a2_1).bind fun bt363 => (spec_RangeCmp.j3 kj78 a0 a1_0 a1_1 a2_0 a2_1 t360 t361 bt363.1 bt363.2))) = some (r1, r2, r3, r4) := H
                    have A108 := Aside0.mk A1080
                    clear A1080
                    replace H := Option.bind_eq_some_iff.mp H
                    obtain ⟨t362, A1090, H⟩ := H
                    replace H : ((spec_l8Cut.f t362 a2_1).bind fun bt363 => (spec_RangeCmp.j3 kj78 a0 a1_0 a1_1 a2_0 a2_1 t360 t361 bt363.1 bt363.2)) = some (r1, r2, r3, r4) := H
                    have A109 := Aside0.mk A1090
                    clear A1090
                    replace H := Option.bind_eq_some_iff.mp H
                    obtain ⟨⟨t363, t364⟩, A1100, H⟩ := H
                    replace H : (spec_RangeCmp.j3 kj78 a0 a1_0 a1_1 a2_0 a2_1 t360 t361 t363 t364) = some (r1, r2, r3, r4) := H
                    have A110 := Aside0.mk A1100
                    clear A1100
                    have H' := Aside0.mk H
                    clear H
                    try go_wp2
                    replace BK337 := Aside0.mk (blk_drew BK337.out)
                    replace BK338 := Aside0.mk (blk_drew BK338.out)
                    replace BK339 := Aside0.mk (blk_drew BK339.out)
                    replace BK340 := Aside0.mk (blk_drew BK340.out)
                    replace BK343 := Aside0.mk (blk_drew BK343.out)
                    replace BK346 := Aside0.mk (blk_drew BK346.out)
                    replace HB := Aside0.mk (below_drew1 HB.out)
                    refine start_ (n := 10) (S := fun w' => w'.cell? ⟨gb337, 0, none⟩ = some (.int .i64 a1_0) ∧ w'.cell? ⟨gb337, 1, none⟩ = some (.int .i64 a1_1) ∧ w'.cell? ⟨gb338, 0, none⟩ = some (.int .i64 a2_0) ∧ w'.cell? ⟨gb338, 1, none⟩ = some (.int .i64 a2_1)) (ds := []) #[false, false, false, false, false, false, false, false, false, false] (by kernel_rfl) rfl rfl ⟨(blk_cell BK337.out 0).trans rfl, (blk_cell BK337.out 1).trans rfl, (blk_cell BK338.out 0).trans rfl, (blk_cell BK338.out 1).trans rfl⟩ (fun hHeld => ?_); refine with_tabW spec_RangeCmp.tab12 spec_RangeCmp.bits12 (fun HT_ HW_ => ?_)
                    generalize wc.drew = w111 at BK337 BK338 BK339 BK340 BK343 BK346 HB hHeld ⊢
                    refine sqp HT_ 0 48 ?_
                    refine sqp HT_ 2 50 ?_
                    refine sqp HT_ 4 52 ?_
                    refine sqw HT_ HW_ 1 49 hHeld ?_
                    refine sqw HT_ HW_ 3 51 hHeld ?_
                    refine sqw HT_ HW_ 5 53 hHeld ?_
                    refine sqp HT_ 6 54 ?_
                    refine sqo HT_ 7 55 (fun K hK => ?_)
                    refine sqG Try.func134 #[.int .i64 a1_1, .int .i64 (wrap64 (a2_1 - 1))] ?_
                    with_reducible refine (spec_l8Min.calls a1_1 (wrap64 (a2_1 - 1)) t359 _ A107.out).mono ?_
                    rintro e w' ⟨rfl, ⟨nd, rfl⟩⟩
                    refine ⟨_, rfl, ?_⟩
                    refine hK.out _ _ sqz (fun hHeld => ?_)
                    clear hK K
                    refine sqnm ?_
                    refine sqo HT_ 8 56 (fun K hK => ?_)
                    refine sqG Try.func133 #[.int .i64 a1_0, .int .i64 t359] ?_
                    with_reducible refine (spec_l8Cut.calls a1_0 t359 t360 t361 _ A108.out).mono ?_
                    rintro e w112 ⟨rfl, hb⟩
                    refine ⟨_, rfl, ?_⟩
                    replace BK337 := sqb BK337 hb
                    replace BK338 := sqb BK338 hb
                    replace BK339 := sqb BK339 hb
                    replace BK340 := sqb BK340 hb
                    replace BK343 := sqb BK343 hb
                    replace BK346 := sqb BK346 hb
                    replace HB := sqs HB hb
                    (try clear hb)
                    refine hK.out _ _ sqz (fun hHeld => ?_)
                    clear hK K
                    refine sqnm ?_
                    refine one_ (i := 9) (N := none) #[true, true, true, true, true, true, true, true, true, true] rfl rfl (one_of HT_.out (by kernel_rfl)) (by decide) (fun K hK => ?_)
                    have hs113 : w112.cell? ⟨gb343, 0, none⟩ = some (.int .i64 x344000_78) := (blk_cell BK343.out 0).trans rfl
                    have hfs113 := blk_frozen BK343.out 0
                    have hns113_0 := NB337_343.out
                    have hns113_1 := NB338_343.out
                    have hns113_2 := NB339_343.out
                    have hns113_3 := NB340_343.out
                    have hns113_5 := NB346_343.out
                    have hms113_0 := NB343_337.out
                    have hms113_1 := NB343_338.out
                    have hms113_2 := NB343_339.out
                    have hms113_3 := NB343_340.out
                    have hms113_5 := NB343_346.out
                    have hs114 : w112.cell? ⟨gb343, 1, none⟩ = some (.int .i64 x344001_78) := (blk_cell BK343.out 1).trans rfl
                    have hfs114 := blk_frozen BK343.out 1
                    have hns114_0 := NB337_343.out
                    have hns114_1 := NB338_343.out
                    have hns114_2 := NB339_343.out
                    have hns114_3 := NB340_343.out
                    have hns114_5 := NB346_343.out
                    have hms114_0 := NB343_337.out
                    have hms114_1 := NB343_338.out
                    have hms114_2 := NB343_339.out
                    have hms114_3 := NB343_340.out
                    have hms114_5 := NB343_346.out
                    refine skip_ (w1 := ?_) (by rfl) rfl ?_ ?_
                    rotate_left
                    · go_simp
                      rfl
                    refine hK.out _ _ ⟨((cell_far (p := ⟨gb343, _, none⟩) NB337_343.out _).trans (((cell_far (p := ⟨gb343, _, none⟩) NB337_343.out _).trans (hHeld.1)))), ((cell_far (p := ⟨gb343, _, none⟩) NB337_343.out _).trans (((cell_far (p := ⟨gb343, _, none⟩) NB337_343.out _).trans (hHeld.2.1)))), ((cell_far (p := ⟨gb343, _, none⟩) NB338_343.out _).trans (((cell_far (p := ⟨gb343, _, none⟩) NB338_343.out _).trans (hHeld.2.2.1)))), ((cell_far (p := ⟨gb343, _, none⟩) NB338_343.out _).trans (((cell_far (p := ⟨gb343, _, none⟩) NB338_343.out _).trans (hHeld.2.2.2))))⟩ (fun hHeld => ?_)
                    clear hK K
                    refine done_ (done_of HT_.out (by kernel_rfl)) ?_
                    try go_wp2
                    have n0_ : Aside0 (((w112.setCell ⟨gb343, 0, none⟩ (.int .i64 t360)).setCell ⟨gb343, 1, none⟩ (.int .i64 t361)).heap[gb337]? = some (.cells #[.int .i64 a1_0, .int .i64 a1_1] 24 (0, 0))) := ⟨by refine sqt ?_; refine blk_far ?_ NB337_343.out _; refine sqt ?_; refine blk_far ?_ NB337_343.out _; refine sqt ?_; exact BK337.out⟩
                    have n1_ : Aside0 (((w112.setCell ⟨gb343, 0, none⟩ (.int .i64 t360)).setCell ⟨gb343, 1, none⟩ (.int .i64 t361)).heap[gb338]? = some (.cells #[.int .i64 a2_0, .int .i64 a2_1] 24 (0, 0))) := ⟨by refine sqt ?_; refine blk_far ?_ NB338_343.out _; refine sqt ?_; refine blk_far ?_ NB338_343.out _; refine sqt ?_; exact BK338.out⟩
                    have n2_ : Aside0 (((w112.setCell ⟨gb343, 0, none⟩ (.int .i64 t360)).setCell ⟨gb343, 1, none⟩ (.int .i64 t361)).heap[gb339]? = some (.cells #[.int .i64 0, .int .i64 0] 24 (0, 0))) := ⟨by refine sqt ?_; refine blk_far ?_ NB339_343.out _; refine sqt ?_; refine blk_far ?_ NB339_343.out _; refine sqt ?_; exact BK339.out⟩
                    have n3_ : Aside0 (((w112.setCell ⟨gb343, 0, none⟩ (.int .i64 t360)).setCell ⟨gb343, 1, none⟩ (.int .i64 t361)).heap[gb340]? = some (.cells #[.int .i64 0, .int .i64 0] 24 (0, 0))) := ⟨by refine sqt ?_; refine blk_far ?_ NB340_343.out _; refine sqt ?_; refine blk_far ?_ NB340_343.out _; refine sqt ?_; exact BK340.out⟩
                    have n4_ : Aside0 (((w112.setCell ⟨gb343, 0, none⟩ (.int .i64 t360)).setCell ⟨gb343, 1, none⟩ (.int .i64 t361)).heap[gb343]? = some (.cells #[.int .i64 t360, .int .i64 t361] 24 (0, 0))) := ⟨by refine sqt ?_; refine blk_put (cs := #[.int .i64 t360, .int .i64 x344001_78]) ?_ 1 _ rfl; refine sqt ?_; refine blk_put (cs := #[.int .i64 x344000_78, .int .i64 x344001_78]) ?_ 0 _ rfl; refine sqt ?_; exact BK343.out⟩
                    have n5_ : Aside0 (((w112.setCell ⟨gb343, 0, none⟩ (.int .i64 t360)).setCell ⟨gb343, 1, none⟩ (.int .i64 t361)).heap[gb346]? = some (.cells #[.int .i64 x347000_78, .int .i64 x347001_78] 24 (0, 0))) := ⟨by refine sqt ?_; refine blk_far ?_ NB346_343.out _; refine sqt ?_; refine blk_far ?_ NB346_343.out _; refine sqt ?_; exact BK346.out⟩
                    have n6_ : Aside0 (Below w.heap.size w ((w112.setCell ⟨gb343, 0, none⟩ (.int .i64 t360)).setCell ⟨gb343, 1, none⟩ (.int .i64 t361))) := sqh HB
                    (try clear BK337)
                    (try clear BK338)
                    (try clear BK339)
                    (try clear BK340)
                    (try clear BK343)
                    (try clear BK346)
                    (try clear HB)
                    generalize ((w112.setCell ⟨gb343, 0, none⟩ (.int .i64 t360)).setCell ⟨gb343, 1, none⟩ (.int .i64 t361)) = w115 at n0_ n1_ n2_ n3_ n4_ n5_ n6_ ⊢
                    have BK337 := n0_
                    have BK338 := n1_
                    have BK339 := n2_
                    have BK340 := n3_
                    have BK343 := n4_
                    have BK346 := n5_
                    have HB := n6_
                    clear n0_ n1_ n2_ n3_ n4_ n5_ n6_
                    replace BK337 := Aside0.mk (blk_drew BK337.out)
                    replace BK338 := Aside0.mk (blk_drew BK338.out)
                    replace BK339 := Aside0.mk (blk_drew BK339.out)
                    replace BK340 := Aside0.mk (blk_drew BK340.out)
                    replace BK343 := Aside0.mk (blk_drew BK343.out)
                    replace BK346 := Aside0.mk (blk_drew BK346.out)
                    replace HB := Aside0.mk (below_drew1 HB.out)
                    refine start_ (n := 10) (S := fun w' => w'.cell? ⟨gb338, 0, none⟩ = some (.int .i64 a2_0) ∧ w'.cell? ⟨gb338, 1, none⟩ = some (.int .i64 a2_1) ∧ w'.cell? ⟨gb337, 0, none⟩ = some (.int .i64 a1_0) ∧ w'.cell? ⟨gb337, 1, none⟩ = some (.int .i64 a1_1)) (ds := []) #[false, false, false, false, false, false, false, false, false, false] (by kernel_rfl) rfl rfl ⟨(blk_cell BK338.out 0).trans rfl, (blk_cell BK338.out 1).trans rfl, (blk_cell BK337.out 0).trans rfl, (blk_cell BK337.out 1).trans rfl⟩ (fun hHeld => ?_); refine with_tabW spec_RangeCmp.tab13 spec_RangeCmp.bits13 (fun HT_ HW_ => ?_)
                    generalize w115.drew = w116 at BK337 BK338 BK339 BK340 BK343 BK346 HB hHeld ⊢
                    refine sqp HT_ 0 57 ?_
                    refine sqp HT_ 2 59 ?_
                    refine sqp HT_ 6 63 ?_
                    refine sqw HT_ HW_ 1 58 hHeld ?_
                    refine sqw HT_ HW_ 3 60 hHeld ?_
                    refine sqp HT_ 4 61 ?_
                    refine sqw HT_ HW_ 7 64 hHeld ?_
                    refine sqo HT_ 5 62 (fun K hK => ?_)
                    refine sqG Try.func122 #[.int .i64 a2_0, .int .i64 (wrap64 (a1_0 + 1))] ?_
                    with_reducible refine (spec_l8Max.calls a2_0 (wrap64 (a1_0 + 1)) t362 _ A109.out).mono ?_
                    rintro e w' ⟨rfl, ⟨nd, rfl⟩⟩
                    refine ⟨_, rfl, ?_⟩
                    refine hK.out _ _ sqz (fun hHeld => ?_)
                    clear hK K
                    refine sqnm ?_
                    refine sqo HT_ 8 65 (fun K hK => ?_)
                    refine sqG Try.func133 #[.int .i64 t362, .int .i64 a2_1] ?_
                    with_reducible refine (spec_l8Cut.calls t362 a2_1 t363 t364 _ A110.out).mono ?_
                    rintro e w117 ⟨rfl, hb⟩
                    refine ⟨_, rfl, ?_⟩
                    replace BK337 := sqb BK337 hb
                    replace BK338 := sqb BK338 hb
                    replace BK339 := sqb BK339 hb
                    replace BK340 := sqb BK340 hb
                    replace BK343 := sqb BK343 hb
                    replace BK346 := sqb BK346 hb
                    replace HB := sqs HB hb
                    (try clear hb)
                    refine hK.out _ _ sqz (fun hHeld => ?_)
                    clear hK K
                    refine sqnm ?_
                    refine one_ (i := 9) (N := none) #[true, true, true, true, true, true, true, true, true, true] rfl rfl (one_of HT_.out (by kernel_rfl)) (by decide) (fun K hK => ?_)
                    have hs118 : w117.cell? ⟨gb346, 0, none⟩ = some (.int .i64 x347000_78) := (blk_cell BK346.out 0).trans rfl
                    have hfs118 := blk_frozen BK346.out 0
                    have hns118_0 := NB337_346.out
                    have hns118_1 := NB338_346.out
                    have hns118_2 := NB339_346.out
                    have hns118_3 := NB340_346.out
                    have hns118_4 := NB343_346.out
                    have hms118_0 := NB346_337.out
                    have hms118_1 := NB346_338.out
                    have hms118_2 := NB346_339.out
                    have hms118_3 := NB346_340.out
                    have hms118_4 := NB346_343.out
                    have hs119 : w117.cell? ⟨gb346, 1, none⟩ = some (.int .i64 x347001_78) := (blk_cell BK346.out 1).trans rfl
                    have hfs119 := blk_frozen BK346.out 1
                    have hns119_0 := NB337_346.out
                    have hns119_1 := NB338_346.out
                    have hns119_2 := NB339_346.out
                    have hns119_3 := NB340_346.out
                    have hns119_4 := NB343_346.out
                    have hms119_0 := NB346_337.out
                    have hms119_1 := NB346_338.out
                    have hms119_2 := NB346_339.out
                    have hms119_3 := NB346_340.out
                    have hms119_4 := NB346_343.out
                    refine skip_ (w1 := ?_) (by rfl) rfl ?_ ?_
                    rotate_left
                    · go_simp
                      rfl
                    refine hK.out _ _ ⟨((cell_far (p := ⟨gb346, _, none⟩) NB338_346.out _).trans (((cell_far (p := ⟨gb346, _, none⟩) NB338_346.out _).trans (hHeld.1)))), ((cell_far (p := ⟨gb346, _, none⟩) NB338_346.out _).trans (((cell_far (p := ⟨gb346, _, none⟩) NB338_346.out _).trans (hHeld.2.1)))), ((cell_far (p := ⟨gb346, _, none⟩) NB337_346.out _).trans (((cell_far (p := ⟨gb346, _, none⟩) NB337_346.out _).trans (hHeld.2.2.1)))), ((cell_far (p := ⟨gb346, _, none⟩) NB337_346.out _).trans (((cell_far (p := ⟨gb346, _, none⟩) NB337_346.out _).trans (hHeld.2.2.2))))⟩ (fun hHeld => ?_)
                    clear hK K
                    refine done_ (done_of HT_.out (by kernel_rfl)) ?_
                    try go_wp2
                    go_meet
                    case rel => exact ⟨_, (t360), (t361), (t363), (t364), H', ⟨by have := HJ5.out; have := HJ56.out; have := HJ78.out; first | omega | exact Nat.le_refl _⟩, ⟨by refine sqt ?_; refine blk_far ?_ NB337_346.out _; refine sqt ?_; refine blk_far ?_ NB337_346.out _; refine sqt ?_; exact BK337.out⟩, ⟨by refine sqt ?_; refine blk_far ?_ NB338_346.out _; refine sqt ?_; refine blk_far ?_ NB338_346.out _; refine sqt ?_; exact BK338.out⟩, ⟨by refine sqt ?_; refine blk_far ?_ NB339_346.out _; refine sqt ?_; refine blk_far ?_ NB339_346.out _; refine sqt ?_; exact BK339.out⟩, ⟨by refine sqt ?_; refine blk_far ?_ NB340_346.out _; refine sqt ?_; refine blk_far ?_ NB340_346.out _; refine sqt ?_; exact BK340.out⟩, ⟨by refine sqt ?_; refine blk_far ?_ NB343_346.out _; refine sqt ?_; refine blk_far ?_ NB343_346.out _; refine sqt ?_; exact BK343.out⟩, ⟨by refine sqt ?_; refine blk_put (cs := #[.int .i64 t363, .int .i64 x347001_78]) ?_ 1 _ rfl; refine sqt ?_; refine blk_put (cs := #[.int .i64 x347000_78, .int .i64 x347001_78]) ?_ 0 _ rfl; refine sqt ?_; exact BK346.out⟩, sqh HB⟩
                  · rw [if_neg c106] at H
                    have c106b0 : (a0 == 3) = false := beq_eq_false_iff_ne.mpr c106
                    have c106b1 : (a0 != 3) = true := bne_iff_ne.mpr c106
                    (first | rw [c106b0] | (simp only [i64_w, i32_w]; rw [c106b0]) | skip)
                    have H' := Aside0.mk H
                    clear H
                    go_wp2
                    go_meet
                    case rel => exact ⟨_, (x344000_78), (x344001_78), (x347000_78), (x347001_78), H', ⟨by have := HJ5.out; have := HJ56.out; have := HJ78.out; first | omega | exact Nat.le_refl _⟩, sqk BK337, sqk BK338, sqk BK339, sqk BK340, sqk BK343, sqk BK346, sqh HB⟩
                case rest =>
                  clear HC105
                  try clear c27
                  try clear c29
                  try clear c51
                  try clear c58
                  try clear c58b0
                  try clear c58b1
                  try clear c80
                  try clear c80b0
                  try clear c80b1
                  try clear hcz100_0
                  try clear hcz100_1
                  try clear hcz104_0
                  try clear hcz104_1
                  try clear hcz65_0
                  try clear hcz65_1
                  try clear hcz70_0
                  try clear hcz70_1
                  try clear hcz75_0
                  try clear hcz75_1
                  try clear hcz78_0
                  try clear hcz78_1
                  try clear hcz88_0
                  try clear hcz88_1
                  try clear hcz93_0
                  try clear hcz93_1
                  try clear hcz98_0
                  try clear hcz98_1
                  try clear hcz99_0
                  try clear hcz99_1
                  try clear hfz100_0
                  try clear hfz100_1
                  try clear hfz104_0
                  try clear hfz104_1
                  try clear hfz65_0
                  try clear hfz65_1
                  try clear hfz70_0
                  try clear hfz70_1
                  try clear hfz75_0
                  try clear hfz75_1
                  try clear hfz78_0
                  try clear hfz78_1
                  try clear hfz88_0
                  try clear hfz88_1
                  try clear hfz93_0
                  try clear hfz93_1
                  try clear hfz98_0
                  try clear hfz98_1
                  try clear hfz99_0
                  try clear hfz99_1
                  obtain ⟨kq, x344000_104, x344001_104, x347000_104, x347001_104, HA, HJ104, BK337, BK338, BK339, BK340, BK343, BK346, HB⟩ := hcut
                  cases kq with
                  | zero => exact absurd HA.out (by simp [spec_RangeCmp.j3])
                  | succ kj104 =>
                    have H := HA.out
                    clear HA
                    simp only [spec_RangeCmp.j3] at H
                    have HC120 := Aside0.mk H
                    clear H
                    go_upto_if 67 with (fail)
                    go_cut [] (fun wc => ∃ (kq : Nat) (x344000_119 : Int) (x344001_119 : Int) (x347000_119 : Int) (x347001_119 : Int), Aside0 (spec_RangeCmp.j4 kq a0 a1_0 a1_1 a2_0 a2_1 x344000_119 x344001_119 x347000_119 x347001_119 = some (r1, r2, r3, r4)) ∧ Aside0 (kq ≤ kj104) ∧ Aside0 (wc.heap[gb337]? = some (.cells #[.int .i64 a1_0, .int .i64 a1_1] 24 (0, 0))) ∧ Aside0 (wc.heap[gb338]? = some (.cells #[.int .i64 a2_0, .int .i64 a2_1] 24 (0, 0))) ∧ Aside0 (wc.heap[gb339]? = some (.cells #[.int .i64 0, .int .i64 0] 24 (0, 0))) ∧ Aside0 (wc.heap[gb340]? = some (.cells #[.int .i64 0, .int .i64 0] 24 (0, 0))) ∧ Aside0 (wc.heap[gb343]? = some (.cells #[.int .i64 x344000_119, .int .i64 x344001_119] 24 (0, 0))) ∧ Aside0 (wc.heap[gb346]? = some (.cells #[.int .i64 x347000_119, .int .i64 x347001_119] 24 (0, 0))) ∧ Aside0 (Below w.heap.size w wc))
                    case first =>
                      have H := HC120.out
                      clear HC120
                      by_cases c121 : a0 = 4
                      · rw [if_pos c121] at H
                        have c121b0 : (a0 == 4) = true := beq_iff_eq.mpr c121
                        have c121b1 : (a0 != 4) = false := bne_eq_false_iff_eq.mpr c121
                        clear c121
                        (first | rw [c121b0] | (simp only [i64_w, i32_w]; rw [c121b0]) | skip)
                        replace H := Option.bind_eq_some_iff.mp H
                        obtain ⟨t365, A1220, H⟩ := H
                        replace H : ((spec_l8Cut.f a1_0 t365).bind fun bt366 => ((spec_l8Max.f a2_0 a1_0).bind fun t368 => ((spec_l8Cut.f t368 a2_1).bind fun bt369 => (spec_RangeCmp.j4 kj104 a0 a1_0 a1_1 a2_0 a2_1 bt366.1 bt366.2 bt369.1 bt369.2)))) = some (r1, r2, r3, r4) := H
                        have A122 := Aside0.mk A1220
                        clear A1220
                        replace H := Option.bind_eq_some_iff.mp H
                        obtain ⟨⟨t366, t367⟩, A1230, H⟩ := H
                        replace H : ((spec_l8Max.f a2_0 a1_0).bind fun t368 => ((spec_l8Cut.f t368 a2_1).bind fun bt369 => (spec_RangeCmp.j4 kj104 a0 a1_0 a1_1 a2_0 a2_1 t366 t367 bt369.1 bt369.2))) = some (r1, r2, r3, r4) := H
                        have A123 := Aside0.mk A1230
                        clear A1230
                        replace H := Option.bind_eq_some_iff.mp H
                        obtain ⟨t368, A1240, H⟩ := H
                        replace H : ((spec_l8Cut.f t368 a2_1).bind fun bt369 => (spec_RangeCmp.j4 kj104 a0 a1_0 a1_1 a2_0 a2_1 t366 t367 bt369.1 bt369.2)) = some (r1, r2, r3, r4) := H
                        have A124 := Aside0.mk A1240
                        clear A1240
                        replace H := Option.bind_eq_some_iff.mp H
                        obtain ⟨⟨t369, t370⟩, A1250, H⟩ := H
                        replace H : (spec_RangeCmp.j4 kj104 a0 a1_0 a1_1 a2_0 a2_1 t366 t367 t369 t370) = some (r1, r2, r3, r4) := H
                        have A125 := Aside0.mk A1250
                        clear A1250
                        have H' := Aside0.mk H
                        clear H
                        try go_wp2
                        replace BK337 := Aside0.mk (blk_drew BK337.out)
                        replace BK338 := Aside0.mk (blk_drew BK338.out)
                        replace BK339 := Aside0.mk (blk_drew BK339.out)
                        replace BK340 := Aside0.mk (blk_drew BK340.out)
                        replace BK343 := Aside0.mk (blk_drew BK343.out)
                        replace BK346 := Aside0.mk (blk_drew BK346.out)
                        replace HB := Aside0.mk (below_drew1 HB.out)
                        refine start_ (n := 9) (S := fun w' => w'.cell? ⟨gb337, 0, none⟩ = some (.int .i64 a1_0) ∧ w'.cell? ⟨gb337, 1, none⟩ = some (.int .i64 a1_1) ∧ w'.cell? ⟨gb338, 0, none⟩ = some (.int .i64 a2_0) ∧ w'.cell? ⟨gb338, 1, none⟩ = some (.int .i64 a2_1)) (ds := []) #[false, false, false, false, false, false, false, false, false] (by kernel_rfl) rfl rfl ⟨(blk_cell BK337.out 0).trans rfl, (blk_cell BK337.out 1).trans rfl, (blk_cell BK338.out 0).trans rfl, (blk_cell BK338.out 1).trans rfl⟩ (fun hHeld => ?_); refine with_tabW spec_RangeCmp.tab15 spec_RangeCmp.bits15 (fun HT_ HW_ => ?_)
                        generalize wc.drew = w126 at BK337 BK338 BK339 BK340 BK343 BK346 HB hHeld ⊢
                        refine sqp HT_ 0 68 ?_
                        refine sqp HT_ 2 70 ?_
                        refine sqp HT_ 4 72 ?_
                        refine sqw HT_ HW_ 1 69 hHeld ?_
                        refine sqw HT_ HW_ 3 71 hHeld ?_
                        refine sqw HT_ HW_ 5 73 hHeld ?_
                        refine sqo HT_ 6 74 (fun K hK => ?_)
                        refine sqG Try.func134 #[.int .i64 a1_1, .int .i64 a2_1] ?_
                        with_reducible refine (spec_l8Min.calls a1_1 a2_1 t365 _ A122.out).mono ?_
                        rintro e w' ⟨rfl, ⟨nd, rfl⟩⟩
                        refine ⟨_, rfl, ?_⟩
                        refine hK.out _ _ sqz (fun hHeld => ?_)
                        clear hK K
                        refine sqnm ?_
                        refine sqo HT_ 7 75 (fun K hK => ?_)
                        refine sqG Try.func133 #[.int .i64 a1_0, .int .i64 t365] ?_
                        with_reducible refine (spec_l8Cut.calls a1_0 t365 t366 t367 _ A123.out).mono ?_
                        rintro e w127 ⟨rfl, hb⟩
                        refine ⟨_, rfl, ?_⟩
                        replace BK337 := sqb BK337 hb
                        replace BK338 := sqb BK338 hb
                        replace BK339 := sqb BK339 hb
                        replace BK340 := sqb BK340 hb
                        replace BK343 := sqb BK343 hb
                        replace BK346 := sqb BK346 hb
                        replace HB := sqs HB hb
                        (try clear hb)
                        refine hK.out _ _ sqz (fun hHeld => ?_)
                        clear hK K
                        refine sqnm ?_
                        refine one_ (i := 8) (N := none) #[true, true, true, true, true, true, true, true, true] rfl rfl (one_of HT_.out (by kernel_rfl)) (by decide) (fun K hK => ?_)
                        have hs128 : w127.cell? ⟨gb343, 0, none⟩ = some (.int .i64 x344000_104) := (blk_cell BK343.out 0).trans rfl
                        have hfs128 := blk_frozen BK343.out 0
                        have hns128_0 := NB337_343.out
                        have hns128_1 := NB338_343.out
                        have hns128_2 := NB339_343.out
                        have hns128_3 := NB340_343.out
                        have hns128_5 := NB346_343.out
                        have hms128_0 := NB343_337.out
                        have hms128_1 := NB343_338.out
                        have hms128_2 := NB343_339.out
                        have hms128_3 := NB343_340.out
                        have hms128_5 := NB343_346.out
                        have hs129 : w127.cell? ⟨gb343, 1, none⟩ = some (.int .i64 x344001_104) := (blk_cell BK343.out 1).trans rfl
                        have hfs129 := blk_frozen BK343.out 1
                        have hns129_0 := NB337_343.out
                        have hns129_1 := NB338_343.out
                        have hns129_2 := NB339_343.out
                        have hns129_3 := NB340_343.out
                        have hns129_5 := NB346_343.out
                        have hms129_0 := NB343_337.out
                        have hms129_1 := NB343_338.out
                        have hms129_2 := NB343_339.out
                        have hms129_3 := NB343_340.out
                        have hms129_5 := NB343_346.out
                        refine skip_ (w1 := ?_) (by rfl) rfl ?_ ?_
                        rotate_left
                        · go_simp
                          rfl
                        refine hK.out _ _ ⟨((cell_far (p := ⟨gb343, _, none⟩) NB337_343.out _).trans (((cell_far (p := ⟨gb343, _, none⟩) NB337_343.out _).trans (hHeld.1)))), ((cell_far (p := ⟨gb343, _, none⟩) NB337_343.out _).trans (((cell_far (p := ⟨gb343, _, none⟩) NB337_343.out _).trans (hHeld.2.1)))), ((cell_far (p := ⟨gb343, _, none⟩) NB338_343.out _).trans (((cell_far (p := ⟨gb343, _, none⟩) NB338_343.out _).trans (hHeld.2.2.1)))), ((cell_far (p := ⟨gb343, _, none⟩) NB338_343.out _).trans (((cell_far (p := ⟨gb343, _, none⟩) NB338_343.out _).trans (hHeld.2.2.2))))⟩ (fun hHeld => ?_)
                        clear hK K
                        refine done_ (done_of HT_.out (by kernel_rfl)) ?_
                        try go_wp2
                        have n0_ : Aside0 (((w127.setCell ⟨gb343, 0, none⟩ (.int .i64 t366)).setCell ⟨gb343, 1, none⟩ (.int .i64 t367)).heap[gb337]? = some (.cells #[.int .i64 a1_0, .int .i64 a1_1] 24 (0, 0))) := ⟨by refine sqt ?_; refine blk_far ?_ NB337_343.out _; refine sqt ?_; refine blk_far ?_ NB337_343.out _; refine sqt ?_; exact BK337.out⟩
                        have n1_ : Aside0 (((w127.setCell ⟨gb343, 0, none⟩ (.int .i64 t366)).setCell ⟨gb343, 1, none⟩ (.int .i64 t367)).heap[gb338]? = some (.cells #[.int .i64 a2_0, .int .i64 a2_1] 24 (0, 0))) := ⟨by refine sqt ?_; refine blk_far ?_ NB338_343.out _; refine sqt ?_; refine blk_far ?_ NB338_343.out _; refine sqt ?_; exact BK338.out⟩
                        have n2_ : Aside0 (((w127.setCell ⟨gb343, 0, none⟩ (.int .i64 t366)).setCell ⟨gb343, 1, none⟩ (.int .i64 t367)).heap[gb339]? = some (.cells #[.int .i64 0, .int .i64 0] 24 (0, 0))) := ⟨by refine sqt ?_; refine blk_far ?_ NB339_343.out _; refine sqt ?_; refine blk_far ?_ NB339_343.out _; refine sqt ?_; exact BK339.out⟩
                        have n3_ : Aside0 (((w127.setCell ⟨gb343, 0, none⟩ (.int .i64 t366)).setCell ⟨gb343, 1, none⟩ (.int .i64 t367)).heap[gb340]? = some (.cells #[.int .i64 0, .int .i64 0] 24 (0, 0))) := ⟨by refine sqt ?_; refine blk_far ?_ NB340_343.out _; refine sqt ?_; refine blk_far ?_ NB340_343.out _; refine sqt ?_; exact BK340.out⟩
                        have n4_ : Aside0 (((w127.setCell ⟨gb343, 0, none⟩ (.int .i64 t366)).setCell ⟨gb343, 1, none⟩ (.int .i64 t367)).heap[gb343]? = some (.cells #[.int .i64 t366, .int .i64 t367] 24 (0, 0))) := ⟨by refine sqt ?_; refine blk_put (cs := #[.int .i64 t366, .int .i64 x344001_104]) ?_ 1 _ rfl; refine sqt ?_; refine blk_put (cs := #[.int .i64 x344000_104, .int .i64 x344001_104]) ?_ 0 _ rfl; refine sqt ?_; exact BK343.out⟩
                        have n5_ : Aside0 (((w127.setCell ⟨gb343, 0, none⟩ (.int .i64 t366)).setCell ⟨gb343, 1, none⟩ (.int .i64 t367)).heap[gb346]? = some (.cells #[.int .i64 x347000_104, .int .i64 x347001_104] 24 (0, 0))) := ⟨by refine sqt ?_; refine blk_far ?_ NB346_343.out _; refine sqt ?_; refine blk_far ?_ NB346_343.out _; refine sqt ?_; exact BK346.out⟩
                        have n6_ : Aside0 (Below w.heap.size w ((w127.setCell ⟨gb343, 0, none⟩ (.int .i64 t366)).setCell ⟨gb343, 1, none⟩ (.int .i64 t367))) := sqh HB
                        (try clear BK337)
                        (try clear BK338)
                        (try clear BK339)
                        (try clear BK340)
                        (try clear BK343)
                        (try clear BK346)
                        (try clear HB)
                        generalize ((w127.setCell ⟨gb343, 0, none⟩ (.int .i64 t366)).setCell ⟨gb343, 1, none⟩ (.int .i64 t367)) = w130 at n0_ n1_ n2_ n3_ n4_ n5_ n6_ ⊢
                        have BK337 := n0_
                        have BK338 := n1_
                        have BK339 := n2_
                        have BK340 := n3_
                        have BK343 := n4_
                        have BK346 := n5_
                        have HB := n6_
                        clear n0_ n1_ n2_ n3_ n4_ n5_ n6_
                        replace BK337 := Aside0.mk (blk_drew BK337.out)
                        replace BK338 := Aside0.mk (blk_drew BK338.out)
                        replace BK339 := Aside0.mk (blk_drew BK339.out)
                        replace BK340 := Aside0.mk (blk_drew BK340.out)
                        replace BK343 := Aside0.mk (blk_drew BK343.out)
                        replace BK346 := Aside0.mk (blk_drew BK346.out)
                        replace HB := Aside0.mk (below_drew1 HB.out)
                        refine start_ (n := 9) (S := fun w' => w'.cell? ⟨gb338, 0, none⟩ = some (.int .i64 a2_0) ∧ w'.cell? ⟨gb338, 1, none⟩ = some (.int .i64 a2_1) ∧ w'.cell? ⟨gb337, 0, none⟩ = some (.int .i64 a1_0) ∧ w'.cell? ⟨gb337, 1, none⟩ = some (.int .i64 a1_1)) (ds := []) #[false, false, false, false, false, false, false, false, false] (by kernel_rfl) rfl rfl ⟨(blk_cell BK338.out 0).trans rfl, (blk_cell BK338.out 1).trans rfl, (blk_cell BK337.out 0).trans rfl, (blk_cell BK337.out 1).trans rfl⟩ (fun hHeld => ?_); refine with_tabW spec_RangeCmp.tab16 spec_RangeCmp.bits16 (fun HT_ HW_ => ?_)
                        generalize w130.drew = w131 at BK337 BK338 BK339 BK340 BK343 BK346 HB hHeld ⊢
                        refine sqp HT_ 0 76 ?_
                        refine sqp HT_ 2 78 ?_
                        refine sqp HT_ 5 81 ?_
                        refine sqw HT_ HW_ 1 77 hHeld ?_
                        refine sqw HT_ HW_ 3 79 hHeld ?_
                        refine sqw HT_ HW_ 6 82 hHeld ?_
                        refine sqo HT_ 4 80 (fun K hK => ?_)
                        refine sqG Try.func122 #[.int .i64 a2_0, .int .i64 a1_0] ?_
                        with_reducible refine (spec_l8Max.calls a2_0 a1_0 t368 _ A124.out).mono ?_
                        rintro e w' ⟨rfl, ⟨nd, rfl⟩⟩
                        refine ⟨_, rfl, ?_⟩
                        refine hK.out _ _ sqz (fun hHeld => ?_)
                        clear hK K
                        refine sqnm ?_
                        refine sqo HT_ 7 83 (fun K hK => ?_)
                        refine sqG Try.func133 #[.int .i64 t368, .int .i64 a2_1] ?_
                        with_reducible refine (spec_l8Cut.calls t368 a2_1 t369 t370 _ A125.out).mono ?_
                        rintro e w132 ⟨rfl, hb⟩
                        refine ⟨_, rfl, ?_⟩
                        replace BK337 := sqb BK337 hb
                        replace BK338 := sqb BK338 hb
                        replace BK339 := sqb BK339 hb
                        replace BK340 := sqb BK340 hb
                        replace BK343 := sqb BK343 hb
                        replace BK346 := sqb BK346 hb
                        replace HB := sqs HB hb
                        (try clear hb)
                        refine hK.out _ _ sqz (fun hHeld => ?_)
                        clear hK K
                        refine sqnm ?_
                        refine one_ (i := 8) (N := none) #[true, true, true, true, true, true, true, true, true] rfl rfl (one_of HT_.out (by kernel_rfl)) (by decide) (fun K hK => ?_)
                        have hs133 : w132.cell? ⟨gb346, 0, none⟩ = some (.int .i64 x347000_104) := (blk_cell BK346.out 0).trans rfl
                        have hfs133 := blk_frozen BK346.out 0
                        have hns133_0 := NB337_346.out
                        have hns133_1 := NB338_346.out
                        have hns133_2 := NB339_346.out
                        have hns133_3 := NB340_346.out
                        have hns133_4 := NB343_346.out
                        have hms133_0 := NB346_337.out
                        have hms133_1 := NB346_338.out
                        have hms133_2 := NB346_339.out
                        have hms133_3 := NB346_340.out
                        have hms133_4 := NB346_343.out
                        have hs134 : w132.cell? ⟨gb346, 1, none⟩ = some (.int .i64 x347001_104) := (blk_cell BK346.out 1).trans rfl
                        have hfs134 := blk_frozen BK346.out 1
                        have hns134_0 := NB337_346.out
                        have hns134_1 := NB338_346.out
                        have hns134_2 := NB339_346.out
                        have hns134_3 := NB340_346.out
                        have hns134_4 := NB343_346.out
                        have hms134_0 := NB346_337.out
                        have hms134_1 := NB346_338.out
                        have hms134_2 := NB346_339.out
                        have hms134_3 := NB346_340.out
                        have hms134_4 := NB346_343.out
                        refine skip_ (w1 := ?_) (by rfl) rfl ?_ ?_
                        rotate_left
                        · go_simp
                          rfl
                        refine hK.out _ _ ⟨((cell_far (p := ⟨gb346, _, none⟩) NB338_346.out _).trans (((cell_far (p := ⟨gb346, _, none⟩) NB338_346.out _).trans (hHeld.1)))), ((cell_far (p := ⟨gb346, _, none⟩) NB338_346.out _).trans (((cell_far (p := ⟨gb346, _, none⟩) NB338_346.out _).trans (hHeld.2.1)))), ((cell_far (p := ⟨gb346, _, none⟩) NB337_346.out _).trans (((cell_far (p := ⟨gb346, _, none⟩) NB337_346.out _).trans (hHeld.2.2.1)))), ((cell_far (p := ⟨gb346, _, none⟩) NB337_346.out _).trans (((cell_far (p := ⟨gb346, _, none⟩) NB337_346.out _).trans (hHeld.2.2.2))))⟩ (fun hHeld => ?_)
                        clear hK K
                        refine done_ (done_of HT_.out (by kernel_rfl)) ?_
                        try go_wp2
                        go_meet
                        case rel => exact ⟨_, (t366), (t367), (t369), (t370), H', ⟨by have := HJ5.out; have := HJ56.out; have := HJ78.out; have := HJ104.out; first | omega | exact Nat.le_refl _⟩, ⟨by refine sqt ?_; refine blk_far ?_ NB337_346.out _; refine sqt ?_; refine blk_far ?_ NB337_346.out _; refine sqt ?_; exact BK337.out⟩, ⟨by refine sqt ?_; refine blk_far ?_ NB338_346.out _; refine sqt ?_; refine blk_far ?_ NB338_346.out _; refine sqt ?_; exact BK338.out⟩, ⟨by refine sqt ?_; refine blk_far ?_ NB339_346.out _; refine sqt ?_; refine blk_far ?_ NB339_346.out _; refine sqt ?_; exact BK339.out⟩, ⟨by refine sqt ?_; refine blk_far ?_ NB340_346.out _; refine sqt ?_; refine blk_far ?_ NB340_346.out _; refine sqt ?_; exact BK340.out⟩, ⟨by refine sqt ?_; refine blk_far ?_ NB343_346.out _; refine sqt ?_; refine blk_far ?_ NB343_346.out _; refine sqt ?_; exact BK343.out⟩, ⟨by refine sqt ?_; refine blk_put (cs := #[.int .i64 t369, .int .i64 x347001_104]) ?_ 1 _ rfl; refine sqt ?_; refine blk_put (cs := #[.int .i64 x347000_104, .int .i64 x347001_104]) ?_ 0 _ rfl; refine sqt ?_; exact BK346.out⟩, sqh HB⟩
                      · rw [if_neg c121] at H
                        have c121b0 : (a0 == 4) = false := beq_eq_false_iff_ne.mpr c121
                        have c121b1 : (a0 != 4) = true := bne_iff_ne.mpr c121
                        (first | rw [c121b0] | (simp only [i64_w, i32_w]; rw [c121b0]) | skip)
                        have H' := Aside0.mk H
                        clear H
                        go_wp2
                        go_meet
                        case rel => exact ⟨_, (x344000_104), (x344001_104), (x347000_104), (x347001_104), H', ⟨by have := HJ5.out; have := HJ56.out; have := HJ78.out; have := HJ104.out; first | omega | exact Nat.le_refl _⟩, sqk BK337, sqk BK338, sqk BK339, sqk BK340, sqk BK343, sqk BK346, sqh HB⟩
                    case rest =>
                      clear HC120
                      try clear c27
                      try clear c29
                      try clear c51
                      try clear c58
                      try clear c58b0
                      try clear c58b1
                      try clear c80
                      try clear c80b0
                      try clear c80b1
                      try clear c106
                      try clear c106b0
                      try clear c106b1
                      try clear hcz100_0
                      try clear hcz100_1
                      try clear hcz104_0
                      try clear hcz104_1
                      try clear hcz65_0
                      try clear hcz65_1
                      try clear hcz70_0
                      try clear hcz70_1
                      try clear hcz75_0
                      try clear hcz75_1
                      try clear hcz78_0
                      try clear hcz78_1
                      try clear hcz88_0
                      try clear hcz88_1
                      try clear hcz93_0
                      try clear hcz93_1
                      try clear hcz98_0
                      try clear hcz98_1
                      try clear hcz99_0
                      try clear hcz99_1
                      try clear hfz100_0
                      try clear hfz100_1
                      try clear hfz104_0
                      try clear hfz104_1
                      try clear hfz65_0
                      try clear hfz65_1
                      try clear hfz70_0
                      try clear hfz70_1
                      try clear hfz75_0
                      try clear hfz75_1
                      try clear hfz78_0
                      try clear hfz78_1
                      try clear hfz88_0
                      try clear hfz88_1
                      try clear hfz93_0
                      try clear hfz93_1
                      try clear hfz98_0
                      try clear hfz98_1
                      try clear hfz99_0
                      try clear hfz99_1
                      obtain ⟨kq, x344000_119, x344001_119, x347000_119, x347001_119, HA, HJ119, BK337, BK338, BK339, BK340, BK343, BK346, HB⟩ := hcut
                      cases kq with
                      | zero => exact absurd HA.out (by simp [spec_RangeCmp.j4])
                      | succ kj119 =>
                        have H := HA.out
                        clear HA
                        simp only [spec_RangeCmp.j4] at H
                        have HC135 := Aside0.mk H
                        clear H
                        go_upto_region 17 with (fail)
                        go_cut [89] (fun v89 wc => ∃ (kq : Nat) (x89_134 : Bool), v89 = .bool x89_134 ∧ Aside0 (spec_RangeCmp.j5 kq a0 x89_134 a1_0 a1_1 a2_0 a2_1 x344000_119 x344001_119 x347000_119 x347001_119 = some (r1, r2, r3, r4)) ∧ Aside0 (kq ≤ kj119) ∧ Aside0 (wc.heap[gb337]? = some (.cells #[.int .i64 a1_0, .int .i64 a1_1] 24 (0, 0))) ∧ Aside0 (wc.heap[gb338]? = some (.cells #[.int .i64 a2_0, .int .i64 a2_1] 24 (0, 0))) ∧ Aside0 (wc.heap[gb339]? = some (.cells #[.int .i64 0, .int .i64 0] 24 (0, 0))) ∧ Aside0 (wc.heap[gb340]? = some (.cells #[.int .i64 0, .int .i64 0] 24 (0, 0))) ∧ Aside0 (wc.heap[gb343]? = some (.cells #[.int .i64 x344000_119, .int .i64 x344001_119] 24 (0, 0))) ∧ Aside0 (wc.heap[gb346]? = some (.cells #[.int .i64 x347000_119, .int .i64 x347001_119] 24 (0, 0))) ∧ Aside0 (Below w.heap.size w wc))
                        case first =>
                          have H := HC135.out
                          clear HC135
                          by_cases c136 : a0 = 5
                          · rw [if_pos c136] at H
                            have c136b0 : (a0 == 5) = true := beq_iff_eq.mpr c136
                            have c136b1 : (a0 != 5) = false := bne_eq_false_iff_eq.mpr c136
                            clear c136
                            (first | rw [c136b0] | (simp only [i64_w, i32_w]; rw [c136b0]) | skip)
                            have H' := Aside0.mk H
                            clear H
                            go_wp2
                            go_meet
                            case rel => exact ⟨_, (true), (by first | rfl | (simp; done) | (simp [*]; done)), H', ⟨by have := HJ5.out; have := HJ56.out; have := HJ78.out; have := HJ104.out; have := HJ119.out; first | omega | exact Nat.le_refl _⟩, sqk BK337, sqk BK338, sqk BK339, sqk BK340, sqk BK343, sqk BK346, sqh HB⟩
                          · rw [if_neg c136] at H
                            have c136b0 : (a0 == 5) = false := beq_eq_false_iff_ne.mpr c136
                            have c136b1 : (a0 != 5) = true := bne_iff_ne.mpr c136
                            (first | rw [c136b0] | (simp only [i64_w, i32_w]; rw [c136b0]) | skip)
                            have H' := Aside0.mk H
                            clear H
                            go_wp2
                            go_meet
                            case rel => exact ⟨_, ((a0 == 6)), (by first | rfl | (simp; done) | (simp [*]; done)), H', ⟨by have := HJ5.out; have := HJ56.out; have := HJ78.out; have := HJ104.out; have := HJ119.out; first | omega | exact Nat.le_refl _⟩, sqk BK337, sqk BK338, sqk BK339, sqk BK340, sqk BK343, sqk BK346, sqh HB⟩
                        case rest =>
                          clear HC135
                          try clear c27
                          try clear c29
                          try clear c51
                          try clear c58
                          try clear c58b0
                          try clear c58b1
                          try clear c80
                          try clear c80b0
                          try clear c80b1
                          try clear c106
                          try clear c106b0
                          try clear c106b1
                          try clear c121
                          try clear c121b0
                          try clear c121b1
                          try clear hcz100_0
                          try clear hcz100_1
                          try clear hcz104_0
                          try clear hcz104_1
                          try clear hcz65_0
                          try clear hcz65_1
                          try clear hcz70_0
                          try clear hcz70_1
                          try clear hcz75_0
                          try clear hcz75_1
                          try clear hcz78_0
                          try clear hcz78_1
                          try clear hcz88_0
                          try clear hcz88_1
                          try clear hcz93_0
                          try clear hcz93_1
                          try clear hcz98_0
                          try clear hcz98_1
                          try clear hcz99_0
                          try clear hcz99_1
                          try clear hfz100_0
                          try clear hfz100_1
                          try clear hfz104_0
                          try clear hfz104_1
                          try clear hfz65_0
                          try clear hfz65_1
                          try clear hfz70_0
                          try clear hfz70_1
                          try clear hfz75_0
                          try clear hfz75_1
                          try clear hfz78_0
                          try clear hfz78_1
                          try clear hfz88_0
                          try clear hfz88_1
                          try clear hfz93_0
                          try clear hfz93_1
                          try clear hfz98_0
                          try clear hfz98_1
                          try clear hfz99_0
                          try clear hfz99_1
                          obtain ⟨kq, x89_134, rfl, HA, HJ134, BK337, BK338, BK339, BK340, BK343, BK346, HB⟩ := hcut
                          cases kq with
                          | zero => exact absurd HA.out (by simp [spec_RangeCmp.j5])
                          | succ kj134 =>
                            have H := HA.out
                            clear HA
                            simp only [spec_RangeCmp.j5] at H
                            have HC137 := Aside0.mk H
                            clear H
                            go_upto_if 89 with (fail)
                            go_cut [] (fun wc => ∃ (kq : Nat) (x344000_136 : Int) (x344001_136 : Int) (x347000_136 : Int) (x347001_136 : Int), Aside0 (spec_RangeCmp.j6 kq x344000_136 x344001_136 x347000_136 x347001_136 = some (r1, r2, r3, r4)) ∧ Aside0 (kq ≤ kj134) ∧ Aside0 (wc.heap[gb337]? = some (.cells #[.int .i64 a1_0, .int .i64 a1_1] 24 (0, 0))) ∧ Aside0 (wc.heap[gb338]? = some (.cells #[.int .i64 a2_0, .int .i64 a2_1] 24 (0, 0))) ∧ Aside0 (wc.heap[gb339]? = some (.cells #[.int .i64 0, .int .i64 0] 24 (0, 0))) ∧ Aside0 (wc.heap[gb340]? = some (.cells #[.int .i64 0, .int .i64 0] 24 (0, 0))) ∧ Aside0 (wc.heap[gb343]? = some (.cells #[.int .i64 x344000_136, .int .i64 x344001_136] 24 (0, 0))) ∧ Aside0 (wc.heap[gb346]? = some (.cells #[.int .i64 x347000_136, .int .i64 x347001_136] 24 (0, 0))) ∧ Aside0 (Below w.heap.size w wc))
                            case first =>
                              have H := HC137.out
                              clear HC137
                              by_cases c138 : x89_134 = true
                              · subst c138
                                have H1 : ((spec_CmpTurn.f a0).bind fun t371 => ((spec_RangeCmp.f kj134 t371 a2_0 a2_1 a1_0 a1_1).bind fun bt372 => (spec_RangeCmp.j6 kj134 bt372.2.2.1 bt372.2.2.2 bt372.1 bt372.2.1))) = some (r1, r2, r3, r4) := by rw [if_pos rfl] at H; exact H
                                clear H
                                have H := H1
                                clear H1
                                replace H := Option.bind_eq_some_iff.mp H
                                obtain ⟨t371, A1390, H⟩ := H
                                replace H : ((spec_RangeCmp.f kj134 t371 a2_0 a2_1 a1_0 a1_1).bind fun bt372 => (spec_RangeCmp.j6 kj134 bt372.2.2.1 bt372.2.2.2 bt372.1 bt372.2.1)) = some (r1, r2, r3, r4) := H
                                have A139 := Aside0.mk A1390
                                clear A1390
                                replace H := Option.bind_eq_some_iff.mp H
                                obtain ⟨⟨t372, t373, t374, t375⟩, A1400, H⟩ := H
                                replace H : (spec_RangeCmp.j6 kj134 t374 t375 t372 t373) = some (r1, r2, r3, r4) := H
                                have A140 := Aside0.mk A1400
                                clear A1400
                                have H' := Aside0.mk H
                                clear H
                                try go_wp2
                                replace BK337 := Aside0.mk (blk_drew BK337.out)
                                replace BK338 := Aside0.mk (blk_drew BK338.out)
                                replace BK339 := Aside0.mk (blk_drew BK339.out)
                                replace BK340 := Aside0.mk (blk_drew BK340.out)
                                replace BK343 := Aside0.mk (blk_drew BK343.out)
                                replace BK346 := Aside0.mk (blk_drew BK346.out)
                                replace HB := Aside0.mk (below_drew1 HB.out)
                                refine start_ (n := 10) (S := fun w' => w'.cell? ⟨gb338, 0, none⟩ = some (.int .i64 a2_0) ∧ w'.cell? ⟨gb338, 1, none⟩ = some (.int .i64 a2_1) ∧ w'.cell? ⟨gb337, 0, none⟩ = some (.int .i64 a1_0) ∧ w'.cell? ⟨gb337, 1, none⟩ = some (.int .i64 a1_1)) (ds := []) #[false, false, false, false, false, false, false, false, false, false] (by kernel_rfl) rfl rfl ⟨(blk_cell BK338.out 0).trans rfl, (blk_cell BK338.out 1).trans rfl, (blk_cell BK337.out 0).trans rfl, (blk_cell BK337.out 1).trans rfl⟩ (fun hHeld => ?_); refine with_tabW spec_RangeCmp.tab18 spec_RangeCmp.bits18 (fun HT_ HW_ => ?_)
                                generalize wc.drew = w141 at BK337 BK338 BK339 BK340 BK343 BK346 HB hHeld ⊢
                                refine sqp HT_ 0 91 ?_
                                refine sqw HT_ HW_ 2 93 hHeld ?_
                                refine sqw HT_ HW_ 3 94 hHeld ?_
                                refine sqo HT_ 1 92 (fun K hK => ?_)
                                refine sqG Try.func135 #[.int .i64 a0] ?_
                                with_reducible refine (spec_CmpTurn.calls a0 t371 _ A139.out).mono ?_
                                rintro e w' ⟨rfl, ⟨nd, rfl⟩⟩
                                refine ⟨_, rfl, ?_⟩
                                refine hK.out _ _ sqz (fun hHeld => ?_)
                                clear hK K
                                refine sqnm ?_
                                refine sqo HT_ 4 95 (fun K hK => ?_)
                                refine sqG Try.func44 #[.int .i64 t371, .agg #[.int .i64 a2_0, .int .i64 a2_1], .agg #[.int .i64 a1_0, .int .i64 a1_1]] ?_
                                with_reducible refine (ih kj134 (by have := HJ5.out; have := HJ56.out; have := HJ78.out; have := HJ104.out; have := HJ119.out; have := HJ134.out; omega) t371 a2_0 a2_1 a1_0 a1_1 t372 t373 t374 t375 _ A140.out).mono ?_
                                rintro e w142 ⟨rfl, hb⟩
                                refine ⟨_, rfl, ?_⟩
                                replace BK337 := sqb BK337 hb
                                replace BK338 := sqb BK338 hb
                                replace BK339 := sqb BK339 hb
                                replace BK340 := sqb BK340 hb
                                replace BK343 := sqb BK343 hb
                                replace BK346 := sqb BK346 hb
                                replace HB := sqs HB hb
                                (try clear hb)
                                refine hK.out _ _ sqz (fun hHeld => ?_)
                                clear hK K
                                refine sqnm ?_
                                refine sqp HT_ 5 90 ?_
                                refine sqp HT_ 6 96 ?_
                                refine sqp HT_ 7 97 ?_
                                refine one_ (i := 8) (N := none) #[true, true, true, true, true, true, true, true, true, false] rfl rfl (one_of HT_.out (by kernel_rfl)) (by decide) (fun K hK => ?_)
                                have hs143 : w142.cell? ⟨gb346, 0, none⟩ = some (.int .i64 x347000_119) := (blk_cell BK346.out 0).trans rfl
                                have hfs143 := blk_frozen BK346.out 0
                                have hns143_0 := NB337_346.out
                                have hns143_1 := NB338_346.out
                                have hns143_2 := NB339_346.out
                                have hns143_3 := NB340_346.out
                                have hns143_4 := NB343_346.out
                                have hms143_0 := NB346_337.out
                                have hms143_1 := NB346_338.out
                                have hms143_2 := NB346_339.out
                                have hms143_3 := NB346_340.out
                                have hms143_4 := NB346_343.out
                                have hs144 : w142.cell? ⟨gb346, 1, none⟩ = some (.int .i64 x347001_119) := (blk_cell BK346.out 1).trans rfl
                                have hfs144 := blk_frozen BK346.out 1
                                have hns144_0 := NB337_346.out
                                have hns144_1 := NB338_346.out
                                have hns144_2 := NB339_346.out
                                have hns144_3 := NB340_346.out
                                have hns144_4 := NB343_346.out
                                have hms144_0 := NB346_337.out
                                have hms144_1 := NB346_338.out
                                have hms144_2 := NB346_339.out
                                have hms144_3 := NB346_340.out
                                have hms144_4 := NB346_343.out
                                refine skip_ (w1 := ?_) (by rfl) rfl ?_ ?_
                                rotate_left
                                · go_simp
                                  rfl
                                refine hK.out _ _ ⟨((cell_far (p := ⟨gb346, _, none⟩) NB338_346.out _).trans (((cell_far (p := ⟨gb346, _, none⟩) NB338_346.out _).trans (hHeld.1)))), ((cell_far (p := ⟨gb346, _, none⟩) NB338_346.out _).trans (((cell_far (p := ⟨gb346, _, none⟩) NB338_346.out _).trans (hHeld.2.1)))), ((cell_far (p := ⟨gb346, _, none⟩) NB337_346.out _).trans (((cell_far (p := ⟨gb346, _, none⟩) NB337_346.out _).trans (hHeld.2.2.1)))), ((cell_far (p := ⟨gb346, _, none⟩) NB337_346.out _).trans (((cell_far (p := ⟨gb346, _, none⟩) NB337_346.out _).trans (hHeld.2.2.2))))⟩ (fun hHeld => ?_)
                                clear hK K
                                refine one_ (i := 9) (N := none) #[true, true, true, true, true, true, true, true, true, true] rfl rfl (one_of HT_.out (by kernel_rfl)) (by decide) (fun K hK => ?_)
                                have hs145 : w142.cell? ⟨gb343, 0, none⟩ = some (.int .i64 x344000_119) := (blk_cell BK343.out 0).trans rfl
                                have hfs145 := blk_frozen BK343.out 0
                                have hns145_0 := NB337_343.out
                                have hns145_1 := NB338_343.out
                                have hns145_2 := NB339_343.out
                                have hns145_3 := NB340_343.out
                                have hns145_5 := NB346_343.out
                                have hms145_0 := NB343_337.out
                                have hms145_1 := NB343_338.out
                                have hms145_2 := NB343_339.out
                                have hms145_3 := NB343_340.out
                                have hms145_5 := NB343_346.out
                                have hs146 : w142.cell? ⟨gb343, 1, none⟩ = some (.int .i64 x344001_119) := (blk_cell BK343.out 1).trans rfl
                                have hfs146 := blk_frozen BK343.out 1
                                have hns146_0 := NB337_343.out
                                have hns146_1 := NB338_343.out
                                have hns146_2 := NB339_343.out
                                have hns146_3 := NB340_343.out
                                have hns146_5 := NB346_343.out
                                have hms146_0 := NB343_337.out
                                have hms146_1 := NB343_338.out
                                have hms146_2 := NB343_339.out
                                have hms146_3 := NB343_340.out
                                have hms146_5 := NB343_346.out
                                refine skip_ (w1 := ?_) (by rfl) rfl ?_ ?_
                                rotate_left
                                · go_simp
                                  rfl
                                refine hK.out _ _ ⟨((cell_far (p := ⟨gb343, _, none⟩) NB338_343.out _).trans (((cell_far (p := ⟨gb343, _, none⟩) NB338_343.out _).trans (hHeld.1)))), ((cell_far (p := ⟨gb343, _, none⟩) NB338_343.out _).trans (((cell_far (p := ⟨gb343, _, none⟩) NB338_343.out _).trans (hHeld.2.1)))), ((cell_far (p := ⟨gb343, _, none⟩) NB337_343.out _).trans (((cell_far (p := ⟨gb343, _, none⟩) NB337_343.out _).trans (hHeld.2.2.1)))), ((cell_far (p := ⟨gb343, _, none⟩) NB337_343.out _).trans (((cell_far (p := ⟨gb343, _, none⟩) NB337_343.out _).trans (hHeld.2.2.2))))⟩ (fun hHeld => ?_)
                                clear hK K
                                refine done_ (done_of HT_.out (by kernel_rfl)) ?_
                                try go_wp2
                                go_meet
                                case rel => exact ⟨_, (t374), (t375), (t372), (t373), H', ⟨by have := HJ5.out; have := HJ56.out; have := HJ78.out; have := HJ104.out; have := HJ119.out; have := HJ134.out; first | omega | exact Nat.le_refl _⟩, ⟨by refine sqt ?_; refine blk_far ?_ NB337_343.out _; refine sqt ?_; refine blk_far ?_ NB337_343.out _; refine sqt ?_; refine blk_far ?_ NB337_346.out _; refine sqt ?_; refine blk_far ?_ NB337_346.out _; refine sqt ?_; exact BK337.out⟩, ⟨by refine sqt ?_; refine blk_far ?_ NB338_343.out _; refine sqt ?_; refine blk_far ?_ NB338_343.out _; refine sqt ?_; refine blk_far ?_ NB338_346.out _; refine sqt ?_; refine blk_far ?_ NB338_346.out _; refine sqt ?_; exact BK338.out⟩, ⟨by refine sqt ?_; refine blk_far ?_ NB339_343.out _; refine sqt ?_; refine blk_far ?_ NB339_343.out _; refine sqt ?_; refine blk_far ?_ NB339_346.out _; refine sqt ?_; refine blk_far ?_ NB339_346.out _; refine sqt ?_; exact BK339.out⟩, ⟨by refine sqt ?_; refine blk_far ?_ NB340_343.out _; refine sqt ?_; refine blk_far ?_ NB340_343.out _; refine sqt ?_; refine blk_far ?_ NB340_346.out _; refine sqt ?_; refine blk_far ?_ NB340_346.out _; refine sqt ?_; exact BK340.out⟩, ⟨by refine sqt ?_; refine blk_put (cs := #[.int .i64 t374, .int .i64 x344001_119]) ?_ 1 _ rfl; refine sqt ?_; refine blk_put (cs := #[.int .i64 x344000_119, .int .i64 x344001_119]) ?_ 0 _ rfl; refine sqt ?_; refine blk_far ?_ NB343_346.out _; refine sqt ?_; refine blk_far ?_ NB343_346.out _; refine sqt ?_; exact BK343.out⟩, ⟨by refine sqt ?_; refine blk_far ?_ NB346_343.out _; refine sqt ?_; refine blk_far ?_ NB346_343.out _; refine sqt ?_; refine blk_put (cs := #[.int .i64 t372, .int .i64 x347001_119]) ?_ 1 _ rfl; refine sqt ?_; refine blk_put (cs := #[.int .i64 x347000_119, .int .i64 x347001_119]) ?_ 0 _ rfl; refine sqt ?_; exact BK346.out⟩, sqh HB⟩
                              · replace c138 := Bool.eq_false_iff.mpr c138
                                subst c138
                                have H1 : (spec_RangeCmp.j6 kj134 x344000_119 x344001_119 x347000_119 x347001_119) = some (r1, r2, r3, r4) := by rw [if_neg (show ¬ (false = true) by decide)] at H; exact H
                                clear H
                                have H := H1
                                clear H1
                                have H' := Aside0.mk H
                                clear H
                                go_wp2
                                go_meet
                                case rel => exact ⟨_, (x344000_119), (x344001_119), (x347000_119), (x347001_119), H', ⟨by have := HJ5.out; have := HJ56.out; have := HJ78.out; have := HJ104.out; have := HJ119.out; have := HJ134.out; first | omega | exact Nat.le_refl _⟩, sqk BK337, sqk BK338, sqk BK339, sqk BK340, sqk BK343, sqk BK346, sqh HB⟩
                            case rest =>
                              clear HC137
                              try clear c27
                              try clear c29
                              try clear c51
                              try clear c58
                              try clear c58b0
                              try clear c58b1
                              try clear c80
                              try clear c80b0
                              try clear c80b1
                              try clear c106
                              try clear c106b0
                              try clear c106b1
                              try clear c121
                              try clear c121b0
                              try clear c121b1
                              try clear c136
                              try clear c136b0
                              try clear c136b1
                              try clear hcz100_0
                              try clear hcz100_1
                              try clear hcz104_0
                              try clear hcz104_1
                              try clear hcz65_0
                              try clear hcz65_1
                              try clear hcz70_0
                              try clear hcz70_1
                              try clear hcz75_0
                              try clear hcz75_1
                              try clear hcz78_0
                              try clear hcz78_1
                              try clear hcz88_0
                              try clear hcz88_1
                              try clear hcz93_0
                              try clear hcz93_1
                              try clear hcz98_0
                              try clear hcz98_1
                              try clear hcz99_0
                              try clear hcz99_1
                              try clear hfz100_0
                              try clear hfz100_1
                              try clear hfz104_0
                              try clear hfz104_1
                              try clear hfz65_0
                              try clear hfz65_1
                              try clear hfz70_0
                              try clear hfz70_1
                              try clear hfz75_0
                              try clear hfz75_1
                              try clear hfz78_0
                              try clear hfz78_1
                              try clear hfz88_0
                              try clear hfz88_1
                              try clear hfz93_0
                              try clear hfz93_1
                              try clear hfz98_0
                              try clear hfz98_1
                              try clear hfz99_0
                              try clear hfz99_1
                              obtain ⟨kq, x344000_136, x344001_136, x347000_136, x347001_136, HA, HJ136, BK337, BK338, BK339, BK340, BK343, BK346, HB⟩ := hcut
                              cases kq with
                              | zero => exact absurd HA.out (by simp [spec_RangeCmp.j6])
                              | succ kj136 =>
                                have H := HA.out
                                clear HA
                                simp only [spec_RangeCmp.j6] at H
                                have HC147 := Aside0.mk H
                                clear H
                                go_upto_region 19 with (fail)
                                go_cut [105] (fun v105 wc => ∃ (kq : Nat) (x105_146 : Bool), v105 = .bool x105_146 ∧ Aside0 (spec_RangeCmp.j7 kq x105_146 x344000_136 x344001_136 x347000_136 x347001_136 = some (r1, r2, r3, r4)) ∧ Aside0 (kq ≤ kj136) ∧ Aside0 (wc.heap[gb337]? = some (.cells #[.int .i64 a1_0, .int .i64 a1_1] 24 (0, 0))) ∧ Aside0 (wc.heap[gb338]? = some (.cells #[.int .i64 a2_0, .int .i64 a2_1] 24 (0, 0))) ∧ Aside0 (wc.heap[gb339]? = some (.cells #[.int .i64 0, .int .i64 0] 24 (0, 0))) ∧ Aside0 (wc.heap[gb340]? = some (.cells #[.int .i64 0, .int .i64 0] 24 (0, 0))) ∧ Aside0 (wc.heap[gb343]? = some (.cells #[.int .i64 x344000_136, .int .i64 x344001_136] 24 (0, 0))) ∧ Aside0 (wc.heap[gb346]? = some (.cells #[.int .i64 x347000_136, .int .i64 x347001_136] 24 (0, 0))) ∧ Aside0 (Below w.heap.size w wc))
                                case first =>
                                  have H := HC147.out
                                  clear HC147
                                  replace H := Option.bind_eq_some_iff.mp H
                                  obtain ⟨⟨t376, t377⟩, A1480, H⟩ := H
                                  replace H : (if (x344000_136 == t376 && (x344001_136 == t377)) = true then (spec_RangeCmp.j7 kj136 true x344000_136 x344001_136 x347000_136 x347001_136) else ((spec_l8None.f).bind fun bt378 => (spec_RangeCmp.j7 kj136 (x347000_136 == bt378.1 && (x347001_136 == bt378.2)) x344000_136 x344001_136 x347000_136 x347001_136))) = some (r1, r2, r3, r4) := H
                                  have A148 := Aside0.mk A1480
                                  clear A1480
                                  by_cases c149 : (x344000_136 == t376 && (x344001_136 == t377)) = true
                                  · rw [if_pos c149] at H
                                    have c149b0 : (x344000_136 == t376 && (x344001_136 == t377)) = true := c149
                                    (try (have c149b1 : decide (x344000_136 = t376 && (x344001_136 == t377)) = true := by simpa using c149))
                                    (try (have c149b2 : (x344000_136 == t376 && (x344001_136 == t377)) = true := by simpa using c149))
                                    clear c149
                                    (first | rw [c149b0] | (simp only [i64_w, i32_w]; rw [c149b0]) | skip)
                                    have H' := Aside0.mk H
                                    clear H
                                    try go_wp2
                                    replace BK337 := Aside0.mk (blk_drew BK337.out)
                                    replace BK338 := Aside0.mk (blk_drew BK338.out)
                                    replace BK339 := Aside0.mk (blk_drew BK339.out)
                                    replace BK340 := Aside0.mk (blk_drew BK340.out)
                                    replace BK343 := Aside0.mk (blk_drew BK343.out)
                                    replace BK346 := Aside0.mk (blk_drew BK346.out)
                                    replace HB := Aside0.mk (below_drew1 HB.out)
                                    refine start_ (n := 8) (S := fun w' => w'.cell? ⟨gb343, 0, none⟩ = some (.int .i64 x344000_136) ∧ w'.cell? ⟨gb343, 1, none⟩ = some (.int .i64 x344001_136)) (ds := []) #[false, false, false, false, false, false, false, false] (by kernel_rfl) rfl rfl ⟨(blk_cell BK343.out 0).trans rfl, (blk_cell BK343.out 1).trans rfl⟩ (fun hHeld => ?_); refine with_tabW spec_RangeCmp.tab19 spec_RangeCmp.bits19 (fun HT_ HW_ => ?_)
                                    generalize wc.drew = w150 at BK337 BK338 BK339 BK340 BK343 BK346 HB hHeld ⊢
                                    refine sqw HT_ HW_ 0 98 hHeld ?_
                                    refine sqo HT_ 1 99 (fun K hK => ?_)
                                    refine sqG Try.func99 #[] ?_
                                    with_reducible refine (spec_l8None.calls  t376 t377 _ A148.out).mono ?_
                                    rintro e w151 ⟨rfl, hb⟩
                                    refine ⟨_, rfl, ?_⟩
                                    replace BK337 := sqb BK337 hb
                                    replace BK338 := sqb BK338 hb
                                    replace BK339 := sqb BK339 hb
                                    replace BK340 := sqb BK340 hb
                                    replace BK343 := sqb BK343 hb
                                    replace BK346 := sqb BK346 hb
                                    replace HB := sqs HB hb
                                    (try clear hb)
                                    refine hK.out _ _ sqz (fun hHeld => ?_)
                                    clear hK K
                                    refine sqnm ?_
                                    refine sqp HT_ 2 100 ?_
                                    refine sqp HT_ 3 101 ?_
                                    refine sqpu HT_ 4 102 ?_
                                    refine sqpu HT_ 5 103 ?_
                                    refine sqpu HT_ 6 104 ?_
                                    refine sqp HT_ 7 105 ?_
                                    refine done_ (done_of HT_.out (by kernel_rfl)) ?_
                                    try go_wp2
                                    go_meet
                                    case rel => exact ⟨_, (true), (by first | rfl | (simp; done) | (simp [*]; done)), H', ⟨by have := HJ5.out; have := HJ56.out; have := HJ78.out; have := HJ104.out; have := HJ119.out; have := HJ134.out; have := HJ136.out; first | omega | exact Nat.le_refl _⟩, sqk BK337, sqk BK338, sqk BK339, sqk BK340, sqk BK343, sqk BK346, sqh HB⟩
                                  · rw [if_neg c149] at H
                                    have c149b0 : (x344000_136 == t376 && (x344001_136 == t377)) = false := by simpa using c149
                                    (try (have c149b1 : decide (x344000_136 = t376 && (x344001_136 == t377)) = false := by simpa using c149))
                                    (try (have c149b2 : (x344000_136 == t376 && (x344001_136 == t377)) = false := by simpa using c149))
                                    (try (have c149b3 : ¬ (x344000_136 = t376 && (x344001_136 == t377)) := by simpa using c149))
                                    clear c149
                                    (first | rw [c149b0] | (simp only [i64_w, i32_w]; rw [c149b0]) | skip)
                                    replace H := Option.bind_eq_some_iff.mp H
                                    obtain ⟨⟨t378, t379⟩, A1520, H⟩ := H
                                    replace H : (spec_RangeCmp.j7 kj136 (x347000_136 == t378 && (x347001_136 == t379)) x344000_136 x344001_136 x347000_136 x347001_136) = some (r1, r2, r3, r4) := H
                                    have A152 := Aside0.mk A1520
                                    clear A1520
                                    have H' := Aside0.mk H
                                    clear H
                                    try go_wp2
                                    replace BK337 := Aside0.mk (blk_drew BK337.out)
                                    replace BK338 := Aside0.mk (blk_drew BK338.out)
                                    replace BK339 := Aside0.mk (blk_drew BK339.out)
                                    replace BK340 := Aside0.mk (blk_drew BK340.out)
                                    replace BK343 := Aside0.mk (blk_drew BK343.out)
                                    replace BK346 := Aside0.mk (blk_drew BK346.out)
                                    replace HB := Aside0.mk (below_drew1 HB.out)
                                    refine start_ (n := 8) (S := fun w' => w'.cell? ⟨gb343, 0, none⟩ = some (.int .i64 x344000_136) ∧ w'.cell? ⟨gb343, 1, none⟩ = some (.int .i64 x344001_136) ∧ w'.cell? ⟨gb346, 0, none⟩ = some (.int .i64 x347000_136) ∧ w'.cell? ⟨gb346, 1, none⟩ = some (.int .i64 x347001_136)) (ds := []) #[false, false, false, false, false, false, false, false] (by kernel_rfl) rfl rfl ⟨(blk_cell BK343.out 0).trans rfl, (blk_cell BK343.out 1).trans rfl, (blk_cell BK346.out 0).trans rfl, (blk_cell BK346.out 1).trans rfl⟩ (fun hHeld => ?_); refine with_tabW spec_RangeCmp.tab19 spec_RangeCmp.bits19 (fun HT_ HW_ => ?_)
                                    generalize wc.drew = w153 at BK337 BK338 BK339 BK340 BK343 BK346 HB hHeld ⊢
                                    refine sqw HT_ HW_ 0 98 hHeld ?_
                                    refine sqo HT_ 1 99 (fun K hK => ?_)
                                    refine sqG Try.func99 #[] ?_
                                    with_reducible refine (spec_l8None.calls  t376 t377 _ A148.out).mono ?_
                                    rintro e w154 ⟨rfl, hb⟩
                                    refine ⟨_, rfl, ?_⟩
                                    replace BK337 := sqb BK337 hb
                                    replace BK338 := sqb BK338 hb
                                    replace BK339 := sqb BK339 hb
                                    replace BK340 := sqb BK340 hb
                                    replace BK343 := sqb BK343 hb
                                    replace BK346 := sqb BK346 hb
                                    replace HB := sqs HB hb
                                    (try clear hb)
                                    refine hK.out _ _ sqz (fun hHeld => ?_)
                                    clear hK K
                                    refine sqnm ?_
                                    refine sqp HT_ 2 100 ?_
                                    refine sqp HT_ 3 101 ?_
                                    refine sqw HT_ HW_ 4 102 hHeld ?_
                                    refine sqo HT_ 5 103 (fun K hK => ?_)
                                    refine sqG Try.func99 #[] ?_
                                    with_reducible refine (spec_l8None.calls  t378 t379 _ A152.out).mono ?_
                                    rintro e w155 ⟨rfl, hb⟩
                                    refine ⟨_, rfl, ?_⟩
                                    replace BK337 := sqb BK337 hb
                                    replace BK338 := sqb BK338 hb
                                    replace BK339 := sqb BK339 hb
                                    replace BK340 := sqb BK340 hb
                                    replace BK343 := sqb BK343 hb
                                    replace BK346 := sqb BK346 hb
                                    replace HB := sqs HB hb
                                    (try clear hb)
                                    refine hK.out _ _ sqz (fun hHeld => ?_)
                                    clear hK K
                                    refine sqnm ?_
                                    refine sqp HT_ 6 104 ?_
                                    refine sqp HT_ 7 105 ?_
                                    refine done_ (done_of HT_.out (by kernel_rfl)) ?_
                                    try go_wp2
                                    go_meet
                                    case rel => exact ⟨_, ((x347000_136 == t378 && (x347001_136 == t379))), (by first | rfl | (simp; done) | (simp [*]; done)), H', ⟨by have := HJ5.out; have := HJ56.out; have := HJ78.out; have := HJ104.out; have := HJ119.out; have := HJ134.out; have := HJ136.out; first | omega | exact Nat.le_refl _⟩, sqk BK337, sqk BK338, sqk BK339, sqk BK340, sqk BK343, sqk BK346, sqh HB⟩
                                case rest =>
                                  clear HC147
                                  try clear c27
                                  try clear c29
                                  try clear c51
                                  try clear c58
                                  try clear c58b0
                                  try clear c58b1
                                  try clear c80
                                  try clear c80b0
                                  try clear c80b1
                                  try clear c106
                                  try clear c106b0
                                  try clear c106b1
                                  try clear c121
                                  try clear c121b0
                                  try clear c121b1
                                  try clear c136
                                  try clear c136b0
                                  try clear c136b1
                                  try clear c138
                                  try clear hcz100_0
                                  try clear hcz100_1
                                  try clear hcz104_0
                                  try clear hcz104_1
                                  try clear hcz65_0
                                  try clear hcz65_1
                                  try clear hcz70_0
                                  try clear hcz70_1
                                  try clear hcz75_0
                                  try clear hcz75_1
                                  try clear hcz78_0
                                  try clear hcz78_1
                                  try clear hcz88_0
                                  try clear hcz88_1
                                  try clear hcz93_0
                                  try clear hcz93_1
                                  try clear hcz98_0
                                  try clear hcz98_1
                                  try clear hcz99_0
                                  try clear hcz99_1
                                  try clear hfz100_0
                                  try clear hfz100_1
                                  try clear hfz104_0
                                  try clear hfz104_1
                                  try clear hfz65_0
                                  try clear hfz65_1
                                  try clear hfz70_0
                                  try clear hfz70_1
                                  try clear hfz75_0
                                  try clear hfz75_1
                                  try clear hfz78_0
                                  try clear hfz78_1
                                  try clear hfz88_0
                                  try clear hfz88_1
                                  try clear hfz93_0
                                  try clear hfz93_1
                                  try clear hfz98_0
                                  try clear hfz98_1
                                  try clear hfz99_0
                                  try clear hfz99_1
                                  obtain ⟨kq, x105_146, rfl, HA, HJ146, BK337, BK338, BK339, BK340, BK343, BK346, HB⟩ := hcut
                                  cases kq with
                                  | zero => exact absurd HA.out (by simp [spec_RangeCmp.j7])
                                  | succ kj146 =>
                                    have H := HA.out
                                    clear HA
                                    simp only [spec_RangeCmp.j7] at H
                                    by_cases c156 : x105_146 = true
                                    · subst c156
                                      have H1 : ((spec_l8None.f).bind fun bt380 => ((spec_l8None.f).bind fun bt382 => (some (bt380.1, bt380.2, bt382.1, bt382.2)))) = some (r1, r2, r3, r4) := by rw [if_pos rfl] at H; exact H
                                      clear H
                                      have H := H1
                                      clear H1
                                      replace H := Option.bind_eq_some_iff.mp H
                                      obtain ⟨⟨t380, t381⟩, A1570, H⟩ := H
                                      replace H : ((spec_l8None.f).bind fun bt382 => (some (t380, t381, bt382.1, bt382.2))) = some (r1, r2, r3, r4) := H
                                      have A157 := Aside0.mk A1570
                                      clear A1570
                                      replace H := Option.bind_eq_some_iff.mp H
                                      obtain ⟨⟨t382, t383⟩, A1580, H⟩ := H
                                      replace H : (some (t380, t381, t382, t383)) = some (r1, r2, r3, r4) := H
                                      have A158 := Aside0.mk A1580
                                      clear A1580
                                      simp only [Option.some.injEq, Prod.mk.injEq] at H
                                      obtain ⟨rfl, rfl, rfl, rfl⟩ := H
                                      go_wp2_with (first | ((with_reducible refine gate_callee (f := 99) rfl ?_); refine sqL (some 106) Try.func99 #[] ?_; (with_reducible refine (spec_l8None.calls  t380 t381 _ A157.out).mono ?_); rintro e w159 ⟨rfl, hb⟩; refine ⟨_, rfl, ?_⟩; replace BK337 := sqb BK337 hb; replace BK338 := sqb BK338 hb; replace BK339 := sqb BK339 hb; replace BK340 := sqb BK340 hb; replace BK343 := sqb BK343 hb; replace BK346 := sqb BK346 hb; replace HB := sqs HB hb; (try clear hb)) | ((with_reducible refine gate_callee (f := 99) rfl ?_); refine sqL (some 107) Try.func99 #[] ?_; (with_reducible refine (spec_l8None.calls  t382 t383 _ A158.out).mono ?_); rintro e w160 ⟨rfl, hb⟩; refine ⟨_, rfl, ?_⟩; replace BK337 := sqb BK337 hb; replace BK338 := sqb BK338 hb; replace BK339 := sqb BK339 hb; replace BK340 := sqb BK340 hb; replace BK343 := sqb BK343 hb; replace BK346 := sqb BK346 hb; replace HB := sqs HB hb; (try clear hb); have hnb161 := NB339_337.out; have hnc161 := NB337_339.out; have hnb162 := NB339_338.out; have hnc162 := NB338_339.out; have hnb163 := NB339_340.out; have hnc163 := NB340_339.out; have hnb164 := NB339_343.out; have hnc164 := NB343_339.out; have hnb165 := NB339_346.out; have hnc165 := NB346_339.out; obtain ⟨hcz166_0, hcz166_1, hfz166_0, hfz166_1⟩ := sqc2 BK339; have hnb167 := NB340_337.out; have hnc167 := NB337_340.out; have hnb168 := NB340_338.out; have hnc168 := NB338_340.out; have hnb169 := NB340_343.out; have hnc169 := NB343_340.out; have hnb170 := NB340_346.out; have hnc170 := NB346_340.out; obtain ⟨hcz171_0, hcz171_1, hfz171_0, hfz171_1⟩ := sqc2 BK340))
                                      refine bodyPost_ret (results_cc rfl _ _ gb339 gb340 24 24 #[.int .i64 t380, .int .i64 t381] #[.int .i64 t382, .int .i64 t383] (0, 0) (0, 0) _ _ rfl (by refine sqt ?_; refine blk_far ?_ NB339_340.out _; refine sqt ?_; refine blk_far ?_ NB339_340.out _; refine sqt ?_; refine blk_put (cs := #[.int .i64 t380, .int .i64 0]) ?_ 1 _ rfl; refine sqt ?_; refine blk_put (cs := #[.int .i64 0, .int .i64 0]) ?_ 0 _ rfl; refine sqt ?_; exact BK339.out) Try.underlying24 rfl (by kernel_rfl) rfl (by refine sqt ?_; refine blk_put (cs := #[.int .i64 t382, .int .i64 0]) ?_ 1 _ rfl; refine sqt ?_; refine blk_put (cs := #[.int .i64 0, .int .i64 0]) ?_ 0 _ rfl; refine sqt ?_; refine blk_far ?_ NB340_339.out _; refine sqt ?_; refine blk_far ?_ NB340_339.out _; refine sqt ?_; exact BK340.out) Try.underlying24 rfl (by kernel_rfl)) rfl ?_
                                      exact sqe HB
                                    · replace c156 := Bool.eq_false_iff.mpr c156
                                      subst c156
                                      have H1 : (some (x344000_136, x344001_136, x347000_136, x347001_136)) = some (r1, r2, r3, r4) := by rw [if_neg (show ¬ (false = true) by decide)] at H; exact H
                                      clear H
                                      have H := H1
                                      clear H1
                                      simp only [Option.some.injEq, Prod.mk.injEq] at H
                                      obtain ⟨rfl, rfl, rfl, rfl⟩ := H
                                      try go_wp2
                                      replace BK337 := Aside0.mk (blk_drew BK337.out)
                                      replace BK338 := Aside0.mk (blk_drew BK338.out)
                                      replace BK339 := Aside0.mk (blk_drew BK339.out)
                                      replace BK340 := Aside0.mk (blk_drew BK340.out)
                                      replace BK343 := Aside0.mk (blk_drew BK343.out)
                                      replace BK346 := Aside0.mk (blk_drew BK346.out)
                                      replace HB := Aside0.mk (below_drew1 HB.out)
                                      refine start_ (n := 4) (S := fun w' => w'.cell? ⟨gb343, 0, none⟩ = some (.int .i64 x344000_136) ∧ w'.cell? ⟨gb343, 1, none⟩ = some (.int .i64 x344001_136) ∧ w'.cell? ⟨gb346, 0, none⟩ = some (.int .i64 x347000_136) ∧ w'.cell? ⟨gb346, 1, none⟩ = some (.int .i64 x347001_136)) (ds := []) #[false, false, false, false] (by kernel_rfl) rfl rfl ⟨(blk_cell BK343.out 0).trans rfl, (blk_cell BK343.out 1).trans rfl, (blk_cell BK346.out 0).trans rfl, (blk_cell BK346.out 1).trans rfl⟩ (fun hHeld => ?_)
                                      generalize wc.drew = w172 at BK337 BK338 BK339 BK340 BK343 BK346 HB hHeld ⊢
                                      refine take_ (i := 0) (N := some 108) (v := ?_) (a' := ?_) #[true, false, false, false] rfl rfl (by kernel_rfl) (fun _ _ _ h => h) (Or.inl ⟨by rfl, ?_⟩) hHeld ?_ ?_
                                      rotate_left
                                      · rintro w' ⟨s0, s1, s2, s3⟩
                                        go_simp
                                        with_reducible rfl
                                      rotate_left
                                      · simp only [Act.put, List.setIfInBounds_toArray, List.set_cons_zero, List.set_cons_succ, i64_w, i32_w]
                                        rfl
                                      refine take_ (i := 1) (N := some 109) (v := ?_) (a' := ?_) #[true, true, false, false] rfl rfl (by kernel_rfl) (fun _ _ _ h => h) (Or.inl ⟨by rfl, ?_⟩) hHeld ?_ ?_
                                      rotate_left
                                      · rintro w' ⟨s0, s1, s2, s3⟩
                                        go_simp
                                        with_reducible rfl
                                      rotate_left
                                      · simp only [Act.put, List.setIfInBounds_toArray, List.set_cons_zero, List.set_cons_succ, i64_w, i32_w]
                                        rfl
                                      refine one_ (i := 2) (N := none) #[true, true, true, false] rfl rfl (by kernel_rfl) (by decide) (fun K hK => ?_)
                                      have hs173 : w172.cell? ⟨gb339, 0, none⟩ = some (.int .i64 0) := (blk_cell BK339.out 0).trans rfl
                                      have hfs173 := blk_frozen BK339.out 0
                                      have hns173_0 := NB337_339.out
                                      have hns173_1 := NB338_339.out
                                      have hns173_3 := NB340_339.out
                                      have hns173_4 := NB343_339.out
                                      have hns173_5 := NB346_339.out
                                      have hms173_0 := NB339_337.out
                                      have hms173_1 := NB339_338.out
                                      have hms173_3 := NB339_340.out
                                      have hms173_4 := NB339_343.out
                                      have hms173_5 := NB339_346.out
                                      have hs174 : w172.cell? ⟨gb339, 1, none⟩ = some (.int .i64 0) := (blk_cell BK339.out 1).trans rfl
                                      have hfs174 := blk_frozen BK339.out 1
                                      have hns174_0 := NB337_339.out
                                      have hns174_1 := NB338_339.out
                                      have hns174_3 := NB340_339.out
                                      have hns174_4 := NB343_339.out
                                      have hns174_5 := NB346_339.out
                                      have hms174_0 := NB339_337.out
                                      have hms174_1 := NB339_338.out
                                      have hms174_3 := NB339_340.out
                                      have hms174_4 := NB339_343.out
                                      have hms174_5 := NB339_346.out
                                      refine skip_ (w1 := ?_) (by rfl) rfl ?_ ?_
                                      rotate_left
                                      · go_simp
                                        rfl
                                      refine hK.out _ _ ⟨((cell_far (p := ⟨gb339, _, none⟩) NB343_339.out _).trans (((cell_far (p := ⟨gb339, _, none⟩) NB343_339.out _).trans (hHeld.1)))), ((cell_far (p := ⟨gb339, _, none⟩) NB343_339.out _).trans (((cell_far (p := ⟨gb339, _, none⟩) NB343_339.out _).trans (hHeld.2.1)))), ((cell_far (p := ⟨gb339, _, none⟩) NB346_339.out _).trans (((cell_far (p := ⟨gb339, _, none⟩) NB346_339.out _).trans (hHeld.2.2.1)))), ((cell_far (p := ⟨gb339, _, none⟩) NB346_339.out _).trans (((cell_far (p := ⟨gb339, _, none⟩) NB346_339.out _).trans (hHeld.2.2.2))))⟩ (fun hHeld => ?_)
                                      clear hK K
                                      refine one_ (i := 3) (N := none) #[true, true, true, true] rfl rfl (by kernel_rfl) (by decide) (fun K hK => ?_)
                                      have hs175 : w172.cell? ⟨gb340, 0, none⟩ = some (.int .i64 0) := (blk_cell BK340.out 0).trans rfl
                                      have hfs175 := blk_frozen BK340.out 0
                                      have hns175_0 := NB337_340.out
                                      have hns175_1 := NB338_340.out
                                      have hns175_2 := NB339_340.out
                                      have hns175_4 := NB343_340.out
                                      have hns175_5 := NB346_340.out
                                      have hms175_0 := NB340_337.out
                                      have hms175_1 := NB340_338.out
                                      have hms175_2 := NB340_339.out
                                      have hms175_4 := NB340_343.out
                                      have hms175_5 := NB340_346.out
                                      have hs176 : w172.cell? ⟨gb340, 1, none⟩ = some (.int .i64 0) := (blk_cell BK340.out 1).trans rfl
                                      have hfs176 := blk_frozen BK340.out 1
                                      have hns176_0 := NB337_340.out
                                      have hns176_1 := NB338_340.out
                                      have hns176_2 := NB339_340.out
                                      have hns176_4 := NB343_340.out
                                      have hns176_5 := NB346_340.out
                                      have hms176_0 := NB340_337.out
                                      have hms176_1 := NB340_338.out
                                      have hms176_2 := NB340_339.out
                                      have hms176_4 := NB340_343.out
                                      have hms176_5 := NB340_346.out
                                      refine skip_ (w1 := ?_) (by rfl) rfl ?_ ?_
                                      rotate_left
                                      · go_simp
                                        rfl
                                      refine hK.out _ _ ⟨((cell_far (p := ⟨gb340, _, none⟩) NB343_340.out _).trans (((cell_far (p := ⟨gb340, _, none⟩) NB343_340.out _).trans (hHeld.1)))), ((cell_far (p := ⟨gb340, _, none⟩) NB343_340.out _).trans (((cell_far (p := ⟨gb340, _, none⟩) NB343_340.out _).trans (hHeld.2.1)))), ((cell_far (p := ⟨gb340, _, none⟩) NB346_340.out _).trans (((cell_far (p := ⟨gb340, _, none⟩) NB346_340.out _).trans (hHeld.2.2.1)))), ((cell_far (p := ⟨gb340, _, none⟩) NB346_340.out _).trans (((cell_far (p := ⟨gb340, _, none⟩) NB346_340.out _).trans (hHeld.2.2.2))))⟩ (fun hHeld => ?_)
                                      clear hK K
                                      refine done_ (by kernel_rfl) ?_
                                      try go_wp2
                                      refine bodyPost_ret (results_cc rfl _ _ gb339 gb340 24 24 #[.int .i64 x344000_136, .int .i64 x344001_136] #[.int .i64 x347000_136, .int .i64 x347001_136] (0, 0) (0, 0) _ _ rfl (by refine sqt ?_; refine blk_far ?_ NB339_340.out _; refine sqt ?_; refine blk_far ?_ NB339_340.out _; refine sqt ?_; refine blk_put (cs := #[.int .i64 x344000_136, .int .i64 0]) ?_ 1 _ rfl; refine sqt ?_; refine blk_put (cs := #[.int .i64 0, .int .i64 0]) ?_ 0 _ rfl; refine sqt ?_; exact BK339.out) Try.underlying24 rfl (by kernel_rfl) rfl (by refine sqt ?_; refine blk_put (cs := #[.int .i64 x347000_136, .int .i64 0]) ?_ 1 _ rfl; refine sqt ?_; refine blk_put (cs := #[.int .i64 0, .int .i64 0]) ?_ 0 _ rfl; refine sqt ?_; refine blk_far ?_ NB340_339.out _; refine sqt ?_; refine blk_far ?_ NB340_339.out _; refine sqt ?_; exact BK340.out) Try.underlying24 rfl (by kernel_rfl)) rfl ?_
                                      exact sqe HB

end Go.Proofs.Ytkekcenlleebeaa.PFnRangeCmp
