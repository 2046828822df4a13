/- Functions of the program as plain Lean functions, and that calls of them come to what these tell. Conditions: those in each law. -/
import Derived.Test.YtkekcenlleebeaaSq
import Derived.Test.YtkekcenlleebeaaDFnGapsDo
import Derived.Test.YtkekcenlleebeaaQFnGapsDox0
import Derived.Test.YtkekcenlleebeaaQFnGapsDox2
import Derived.Test.YtkekcenlleebeaaQFnGapsDox5
import Derived.Test.YtkekcenlleebeaaQFnGapsDox7
import Derived.Test.YtkekcenlleebeaaQFnGapsDox8
import Derived.Test.YtkekcenlleebeaaQFnGapsDox9
import Derived.Test.YtkekcenlleebeaaQFnGapsDox10
import Derived.Test.YtkekcenlleebeaaQFnGapsDox11
import Derived.Test.YtkekcenlleebeaaQFnGapsDox12
import Derived.Test.YtkekcenlleebeaaQFnGapsDox13
import Derived.Test.YtkekcenlleebeaaQFnGapsDox14
import Derived.Test.YtkekcenlleebeaaQFnGapsDox15
import Derived.Test.YtkekcenlleebeaaQFnGapsDox16
namespace Go.Proofs.Ytkekcenlleebeaa.PFnGapsDo
open Go.RowKit Go.Proofs.Ytkekcenlleebeaa.Sq Go.Proofs.YtkekcenlleebeaaW.PrintWords Go.Proofs.YtkekcenlleebeaaW.PrintLast Go.Proofs.YtkekcenlleebeaaW.PrintMore
attribute [local go_sem] max2_int min2_int max_two min_two max_three min_three max_four min_four   -- for this text's walks alone
set_option linter.unusedVariables false
set_option linter.unusedSimpArgs false

/-! ### laws_FnGapsDo: function 8 -/
def laws_FnGapsDo.T10 : Bool × List (List Nat × List Nat) := (true, [([], []), ([0], [0]), ([], []), ([], []), ([2, 3], [2, 3]), ([4], [4]), ([1, 5, 4], [1, 5]), ([6], [6]), ([7, 6], [7]), ([8], [8]), ([9, 8], [8, 9]), ([8], [8]), ([8], [8]), ([8], [8]), ([8], [8]), ([11, 12, 13, 14, 8, 8], [8, 11, 12, 13, 14]), ([15, 8], [8, 15]), ([10, 16, 15, 8], [8, 10, 16]), ([17, 8], [8, 17]), ([8, 18], [8, 18]), ([19, 17], [19]), ([20], [20]), ([21, 20], [20, 21]), ([20], [20]), ([20], [20]), ([20], [20]), ([20], [20]), ([23, 24, 25, 26, 20, 20], [20, 23, 24, 25, 26]), ([27, 20], [20, 27]), ([22, 28, 27, 20], [20, 22, 28]), ([29, 20], [20, 29]), ([20, 30], [20, 30])])
def laws_FnGapsDo.B10 : List Nat := [0, 1, 0, 0, 12, 28, 63, 127, 255, 511, 1023, 511, 511, 511, 511, 31231, 63999, 131071, 262143, 524287, 1048575, 2097151, 4194303, 2097151, 2097151, 2097151, 2097151, 127926271, 262143999, 536870911, 1073741823, 2147483647]
theorem laws_FnGapsDo.tab10 : rtab .any (opsOf Try.f8 10) = laws_FnGapsDo.T10 := by kernel_rfl
theorem laws_FnGapsDo.bits10 : waitsOk laws_FnGapsDo.T10.2 laws_FnGapsDo.B10 = true := by kernel_rfl
def laws_FnGapsDo.T14 : Bool × List (List Nat × List Nat) := (true, [([], []), ([], []), ([0, 1], [0, 1]), ([], []), ([], []), ([4], [4]), ([3, 5], [3, 5]), ([6], [6]), ([2, 7, 2], [2, 7]), ([8], [8])])
def laws_FnGapsDo.B14 : List Nat := [0, 0, 3, 0, 0, 16, 56, 120, 255, 511]
theorem laws_FnGapsDo.tab14 : rtab .any (opsOf Try.f8 14) = laws_FnGapsDo.T14 := by kernel_rfl
theorem laws_FnGapsDo.bits14 : waitsOk laws_FnGapsDo.T14.2 laws_FnGapsDo.B14 = true := by kernel_rfl
def laws_FnGapsDo.T19 : Bool × List (List Nat × List Nat) := (true, [([], []), ([], []), ([0, 1], [0, 1]), ([2], [2]), ([3], [3]), ([3], [3]), ([4, 5, 3, 3], [3, 4, 5]), ([3], [3]), ([3], [3]), ([8, 3], [3, 8]), ([7, 9, 3], [3, 7, 9]), ([10, 3], [3, 10]), ([3], [3]), ([11, 12, 3], [3, 11, 12]), ([3], [3]), ([13, 14, 3], [3, 13, 14]), ([6, 15, 3], [3, 6, 15]), ([3, 16], [3, 16])])
def laws_FnGapsDo.B19 : List Nat := [0, 0, 3, 7, 15, 15, 63, 15, 15, 271, 911, 1935, 15, 8079, 15, 32655, 65535, 131071]
theorem laws_FnGapsDo.tab19 : rtab .any (opsOf Try.f8 19) = laws_FnGapsDo.T19 := by kernel_rfl
theorem laws_FnGapsDo.bits19 : waitsOk laws_FnGapsDo.T19.2 laws_FnGapsDo.B19 = true := by kernel_rfl
set_option maxHeartbeats 8000000 in
set_option maxRecDepth 100000 in
theorem laws_FnGapsDo.calls (k : Nat) (A0 : Option Addr) (c0 : Nat) (l0 : List Int) (r : Bool) (w : World) (hr0 : Kd.C (Kd.int .u8) w A0 l0.length l0) (hc0 : l0.length ≤ c0) (h : laws_FnGapsDo.f k l0 = some r) (hr_ : r = true := by rfl) :
  Calls Try.prog 8 #[.slice A0 l0.length c0] w fun e w' => e = .returned (.bool r) ∧ Below w.heap.size w w' := by
 subst hr_
 have hfd_ : ∀ (w : World) (n : Int) (A : Option Addr) (m c : Nat), (Instr.field 41 (.agg #[.int .i64 n, .slice A m c]) 1).run Try.prog w = .ok (.slice A m c) w := fun _ _ _ _ _ => by kernel_rfl
 have hu41 := Try.underlying41
 have HR0 := Aside0.mk hr0
 have HC0 := Aside0.mk hc0
 clear hr0 hc0
 have HB := Aside0.mk (Below.refl w.heap.size w)
 have H : (if (l0.length : Int) > 1048576 then (some true) else ((spec_DrawGapsHas.f k l0).bind fun bt408 => ((laws_at.f l0 3).bind fun t416 => (if (wrap64 ((bt408.2.2.length : Int) + 1)) = 0 then (none) else ((laws_at.f l0 4).bind fun t417 => ((laws_at.f l0 5).bind fun t418 => ((impl_GapsForget.f k bt408.1 bt408.2.1 (wrap64 (1 + (Int.tmod (wrap64 (t416)) (wrap64 ((bt408.2.2.length : Int) + 1)))))).bind fun bt419 => ((impl_GapsMove.f k bt408.1 bt408.2.1 (wrap64 (1 + (Int.tmod (wrap64 (t416)) (wrap64 ((bt408.2.2.length : Int) + 1))))) (Int.tmod (wrap64 (t417)) (wrap64 ((bt408.2.2.length : Int) + 1))) (wrap64 ((Int.tmod (wrap64 (t418)) 11) - 5))).bind fun bt424 => ((impl_GapsCut.f k bt408.1 bt408.2.1 (wrap64 (1 + (Int.tmod (wrap64 (t416)) (wrap64 ((bt408.2.2.length : Int) + 1))))) (Int.tmod (wrap64 (t417)) (wrap64 ((bt408.2.2.length : Int) + 1))) (wrap64 ((Int.tmod (wrap64 (t418)) 11) - 5))).bind fun bt429 => ((spec_GapsForget.f k bt408.1 bt408.2.1 (wrap64 (1 + (Int.tmod (wrap64 (t416)) (wrap64 ((bt408.2.2.length : Int) + 1)))))).bind fun bt434 => ((laws_sameInts.f k bt419.2 bt434.2).bind fun t438 => (if t438 = true then ((spec_GapsMove.f k bt408.1 bt408.2.1 (wrap64 (1 + (Int.tmod (wrap64 (t416)) (wrap64 ((bt408.2.2.length : Int) + 1))))) (Int.tmod (wrap64 (t417)) (wrap64 ((bt408.2.2.length : Int) + 1))) (wrap64 ((Int.tmod (wrap64 (t418)) 11) - 5))).bind fun bt439 => ((laws_sameInts.f k bt424.2 bt439.2).bind fun t443 => (if t443 = true then ((spec_GapsCut.f k bt408.1 bt408.2.1 (wrap64 (1 + (Int.tmod (wrap64 (t416)) (wrap64 ((bt408.2.2.length : Int) + 1))))) (Int.tmod (wrap64 (t417)) (wrap64 ((bt408.2.2.length : Int) + 1))) (wrap64 ((Int.tmod (wrap64 (t418)) 11) - 5))).bind fun bt444 => ((laws_sameInts.f k bt429.2 bt444.2).bind fun t448 => (laws_FnGapsDo.j0 k l0 bt408.2.2 (wrap64 (1 + (Int.tmod (wrap64 (t416)) (wrap64 ((bt408.2.2.length : Int) + 1))))) (Int.tmod (wrap64 (t417)) (wrap64 ((bt408.2.2.length : Int) + 1))) (wrap64 ((Int.tmod (wrap64 (t418)) 11) - 5)) (!t448) bt408.1 bt408.2.1 bt419.1 bt419.2 bt424.1 bt424.2 bt429.1 bt429.2))) else (laws_FnGapsDo.j0 k l0 bt408.2.2 (wrap64 (1 + (Int.tmod (wrap64 (t416)) (wrap64 ((bt408.2.2.length : Int) + 1))))) (Int.tmod (wrap64 (t417)) (wrap64 ((bt408.2.2.length : Int) + 1))) (wrap64 ((Int.tmod (wrap64 (t418)) 11) - 5)) true bt408.1 bt408.2.1 bt419.1 bt419.2 bt424.1 bt424.2 bt429.1 bt429.2)))) else (laws_FnGapsDo.j0 k l0 bt408.2.2 (wrap64 (1 + (Int.tmod (wrap64 (t416)) (wrap64 ((bt408.2.2.length : Int) + 1))))) (Int.tmod (wrap64 (t417)) (wrap64 ((bt408.2.2.length : Int) + 1))) (wrap64 ((Int.tmod (wrap64 (t418)) 11) - 5)) true bt408.1 bt408.2.1 bt419.1 bt419.2 bt424.1 bt424.2 bt429.1 bt429.2))))))))))))) = some true := h
 clear h
 replace H := sqj H
 rcases H with ⟨c2, H⟩ | ⟨c2, H⟩
 ·have c2b0 : decide (1048576 < (l0.length : Int)) = true := decide_eq_true c2
  have c2b1 : decide (1048576 < l0.length) = true := decide_eq_true (by omega)
  clear c2
  clear H
  go_enter Try.func8, Try.ntmps8
  go_wp2
  go_ret
  exact sqe HB
 have c2b0 : decide (1048576 < (l0.length : Int)) = false := decide_eq_false c2
 have c2b1 : decide (1048576 < l0.length) = false := decide_eq_false (by omega)
 clear c2
 replace H := sqbi H
 obtain ⟨⟨t408, t409, t412⟩, A3, H⟩ := H
 replace H : ((laws_at.f l0 3).bind fun t416 => (if (wrap64 ((t412.length : Int) + 1)) = 0 then (none) else ((laws_at.f l0 4).bind fun t417 => ((laws_at.f l0 5).bind fun t418 => ((impl_GapsForget.f k t408 t409 (wrap64 (1 + (Int.tmod (wrap64 (t416)) (wrap64 ((t412.length : Int) + 1)))))).bind fun bt419 => ((impl_GapsMove.f k t408 t409 (wrap64 (1 + (Int.tmod (wrap64 (t416)) (wrap64 ((t412.length : Int) + 1))))) (Int.tmod (wrap64 (t417)) (wrap64 ((t412.length : Int) + 1))) (wrap64 ((Int.tmod (wrap64 (t418)) 11) - 5))).bind fun bt424 => ((impl_GapsCut.f k t408 t409 (wrap64 (1 + (Int.tmod (wrap64 (t416)) (wrap64 ((t412.length : Int) + 1))))) (Int.tmod (wrap64 (t417)) (wrap64 ((t412.length : Int) + 1))) (wrap64 ((Int.tmod (wrap64 (t418)) 11) - 5))).bind fun bt429 => ((spec_GapsForget.f k t408 t409 (wrap64 (1 + (Int.tmod (wrap64 (t416)) (wrap64 ((t412.length : Int) + 1)))))).bind fun bt434 => ((laws_sameInts.f k bt419.2 bt434.2).bind fun t438 => (if t438 = true then ((spec_GapsMove.f k t408 t409 (wrap64 (1 + (Int.tmod (wrap64 (t416)) (wrap64 ((t412.length : Int) + 1))))) (Int.tmod (wrap64 (t417)) (wrap64 ((t412.length : Int) + 1))) (wrap64 ((Int.tmod (wrap64 (t418)) 11) - 5))).bind fun bt439 => ((laws_sameInts.f k bt424.2 bt439.2).bind fun t443 => (if t443 = true then ((spec_GapsCut.f k t408 t409 (wrap64 (1 + (Int.tmod (wrap64 (t416)) (wrap64 ((t412.length : Int) + 1))))) (Int.tmod (wrap64 (t417)) (wrap64 ((t412.length : Int) + 1))) (wrap64 ((Int.tmod (wrap64 (t418)) 11) - 5))).bind fun bt444 => ((laws_sameInts.f k bt429.2 bt444.2).bind fun t448 => (laws_FnGapsDo.j0 k l0 t412 (wrap64 (1 + (Int.tmod (wrap64 (t416)) (wrap64 ((t412.length : Int) + 1))))) (Int.tmod (wrap64 (t417)) (wrap64 ((t412.length : Int) + 1))) (wrap64 ((Int.tmod (wrap64 (t418)) 11) - 5)) (!t448) t408 t409 bt419.1 bt419.2 bt424.1 bt424.2 bt429.1 bt429.2))) else (laws_FnGapsDo.j0 k l0 t412 (wrap64 (1 + (Int.tmod (wrap64 (t416)) (wrap64 ((t412.length : Int) + 1))))) (Int.tmod (wrap64 (t417)) (wrap64 ((t412.length : Int) + 1))) (wrap64 ((Int.tmod (wrap64 (t418)) 11) - 5)) true t408 t409 bt419.1 bt419.2 bt424.1 bt424.2 bt429.1 bt429.2)))) else (laws_FnGapsDo.j0 k l0 t412 (wrap64 (1 + (Int.tmod (wrap64 (t416)) (wrap64 ((t412.length : Int) + 1))))) (Int.tmod (wrap64 (t417)) (wrap64 ((t412.length : Int) + 1))) (wrap64 ((Int.tmod (wrap64 (t418)) 11) - 5)) true t408 t409 bt419.1 bt419.2 bt424.1 bt424.2 bt429.1 bt429.2))))))))))) = some true := H
 replace H := sqbi H
 obtain ⟨t416, A4, H⟩ := H
 replace H : (if (wrap64 ((t412.length : Int) + 1)) = 0 then (none) else ((laws_at.f l0 4).bind fun t417 => ((laws_at.f l0 5).bind fun t418 => ((impl_GapsForget.f k t408 t409 (wrap64 (1 + (Int.tmod (wrap64 (t416)) (wrap64 ((t412.length : Int) + 1)))))).bind fun bt419 => ((impl_GapsMove.f k t408 t409 (wrap64 (1 + (Int.tmod (wrap64 (t416)) (wrap64 ((t412.length : Int) + 1))))) (Int.tmod (wrap64 (t417)) (wrap64 ((t412.length : Int) + 1))) (wrap64 ((Int.tmod (wrap64 (t418)) 11) - 5))).bind fun bt424 => ((impl_GapsCut.f k t408 t409 (wrap64 (1 + (Int.tmod (wrap64 (t416)) (wrap64 ((t412.length : Int) + 1))))) (Int.tmod (wrap64 (t417)) (wrap64 ((t412.length : Int) + 1))) (wrap64 ((Int.tmod (wrap64 (t418)) 11) - 5))).bind fun bt429 => ((spec_GapsForget.f k t408 t409 (wrap64 (1 + (Int.tmod (wrap64 (t416)) (wrap64 ((t412.length : Int) + 1)))))).bind fun bt434 => ((laws_sameInts.f k bt419.2 bt434.2).bind fun t438 => (if t438 = true then ((spec_GapsMove.f k t408 t409 (wrap64 (1 + (Int.tmod (wrap64 (t416)) (wrap64 ((t412.length : Int) + 1))))) (Int.tmod (wrap64 (t417)) (wrap64 ((t412.length : Int) + 1))) (wrap64 ((Int.tmod (wrap64 (t418)) 11) - 5))).bind fun bt439 => ((laws_sameInts.f k bt424.2 bt439.2).bind fun t443 => (if t443 = true then ((spec_GapsCut.f k t408 t409 (wrap64 (1 + (Int.tmod (wrap64 (t416)) (wrap64 ((t412.length : Int) + 1))))) (Int.tmod (wrap64 (t417)) (wrap64 ((t412.length : Int) + 1))) (wrap64 ((Int.tmod (wrap64 (t418)) 11) - 5))).bind fun bt444 => ((laws_sameInts.f k bt429.2 bt444.2).bind fun t448 => (laws_FnGapsDo.j0 k l0 t412 (wrap64 (1 + (Int.tmod (wrap64 (t416)) (wrap64 ((t412.length : Int) + 1))))) (Int.tmod (wrap64 (t417)) (wrap64 ((t412.length : Int) + 1))) (wrap64 ((Int.tmod (wrap64 (t418)) 11) - 5)) (!t448) t408 t409 bt419.1 bt419.2 bt424.1 bt424.2 bt429.1 bt429.2))) else (laws_FnGapsDo.j0 k l0 t412 (wrap64 (1 + (Int.tmod (wrap64 (t416)) (wrap64 ((t412.length : Int) + 1))))) (Int.tmod (wrap64 (t417)) (wrap64 ((t412.length : Int) + 1))) (wrap64 ((Int.tmod (wrap64 (t418)) 11) - 5)) true t408 t409 bt419.1 bt419.2 bt424.1 bt424.2 bt429.1 bt429.2)))) else (laws_FnGapsDo.j0 k l0 t412 (wrap64 (1 + (Int.tmod (wrap64 (t416)) (wrap64 ((t412.length : Int) + 1))))) (Int.tmod (wrap64 (t417)) (wrap64 ((t412.length : Int) + 1))) (wrap64 ((Int.tmod (wrap64 (t418)) 11) - 5)) true t408 t409 bt419.1 bt419.2 bt424.1 bt424.2 bt429.1 bt429.2)))))))))) = some true := H
 replace H := sqj H
 rcases H with ⟨c5, H⟩ | ⟨c5, H⟩
 ·exact absurd H (by simp)
 have c5b0 : ((wrap64 ((t412.length : Int) + 1)) == 0) = false := beq_eq_false_iff_ne.mpr c5
 have c5b1 : ((wrap64 ((t412.length : Int) + 1)) != 0) = true := bne_iff_ne.mpr c5
 replace H := sqbi H
 obtain ⟨t417, A6, H⟩ := H
 replace H : ((laws_at.f l0 5).bind fun t418 => ((impl_GapsForget.f k t408 t409 (wrap64 (1 + (Int.tmod (wrap64 (t416)) (wrap64 ((t412.length : Int) + 1)))))).bind fun bt419 => ((impl_GapsMove.f k t408 t409 (wrap64 (1 + (Int.tmod (wrap64 (t416)) (wrap64 ((t412.length : Int) + 1))))) (Int.tmod (wrap64 (t417)) (wrap64 ((t412.length : Int) + 1))) (wrap64 ((Int.tmod (wrap64 (t418)) 11) - 5))).bind fun bt424 => ((impl_GapsCut.f k t408 t409 (wrap64 (1 + (Int.tmod (wrap64 (t416)) (wrap64 ((t412.length : Int) + 1))))) (Int.tmod (wrap64 (t417)) (wrap64 ((t412.length : Int) + 1))) (wrap64 ((Int.tmod (wrap64 (t418)) 11) - 5))).bind fun bt429 => ((spec_GapsForget.f k t408 t409 (wrap64 (1 + (Int.tmod (wrap64 (t416)) (wrap64 ((t412.length : Int) + 1)))))).bind fun bt434 => ((laws_sameInts.f k bt419.2 bt434.2).bind fun t438 => (if t438 = true then ((spec_GapsMove.f k t408 t409 (wrap64 (1 + (Int.tmod (wrap64 (t416)) (wrap64 ((t412.length : Int) + 1))))) (Int.tmod (wrap64 (t417)) (wrap64 ((t412.length : Int) + 1))) (wrap64 ((Int.tmod (wrap64 (t418)) 11) - 5))).bind fun bt439 => ((laws_sameInts.f k bt424.2 bt439.2).bind fun t443 => (if t443 = true then ((spec_GapsCut.f k t408 t409 (wrap64 (1 + (Int.tmod (wrap64 (t416)) (wrap64 ((t412.length : Int) + 1))))) (Int.tmod (wrap64 (t417)) (wrap64 ((t412.length : Int) + 1))) (wrap64 ((Int.tmod (wrap64 (t418)) 11) - 5))).bind fun bt444 => ((laws_sameInts.f k bt429.2 bt444.2).bind fun t448 => (laws_FnGapsDo.j0 k l0 t412 (wrap64 (1 + (Int.tmod (wrap64 (t416)) (wrap64 ((t412.length : Int) + 1))))) (Int.tmod (wrap64 (t417)) (wrap64 ((t412.length : Int) + 1))) (wrap64 ((Int.tmod (wrap64 (t418)) 11) - 5)) (!t448) t408 t409 bt419.1 bt419.2 bt424.1 bt424.2 bt429.1 bt429.2))) else (laws_FnGapsDo.j0 k l0 t412 (wrap64 (1 + (Int.tmod (wrap64 (t416)) (wrap64 ((t412.length : Int) + 1))))) (Int.tmod (wrap64 (t417)) (wrap64 ((t412.length : Int) + 1))) (wrap64 ((Int.tmod (wrap64 (t418)) 11) - 5)) true t408 t409 bt419.1 bt419.2 bt424.1 bt424.2 bt429.1 bt429.2)))) else (laws_FnGapsDo.j0 k l0 t412 (wrap64 (1 + (Int.tmod (wrap64 (t416)) (wrap64 ((t412.length : Int) + 1))))) (Int.tmod (wrap64 (t417)) (wrap64 ((t412.length : Int) + 1))) (wrap64 ((Int.tmod (wrap64 (t418)) 11) - 5)) true t408 t409 bt419.1 bt419.2 bt424.1 bt424.2 bt429.1 bt429.2)))))))) = some true := H
 replace H := sqbi H
 obtain ⟨t418, A7, H⟩ := H
 replace H : ((impl_GapsForget.f k t408 t409 (wrap64 (1 + (Int.tmod (wrap64 (t416)) (wrap64 ((t412.length : Int) + 1)))))).bind fun bt419 => ((impl_GapsMove.f k t408 t409 (wrap64 (1 + (Int.tmod (wrap64 (t416)) (wrap64 ((t412.length : Int) + 1))))) (Int.tmod (wrap64 (t417)) (wrap64 ((t412.length : Int) + 1))) (wrap64 ((Int.tmod (wrap64 (t418)) 11) - 5))).bind fun bt424 => ((impl_GapsCut.f k t408 t409 (wrap64 (1 + (Int.tmod (wrap64 (t416)) (wrap64 ((t412.length : Int) + 1))))) (Int.tmod (wrap64 (t417)) (wrap64 ((t412.length : Int) + 1))) (wrap64 ((Int.tmod (wrap64 (t418)) 11) - 5))).bind fun bt429 => ((spec_GapsForget.f k t408 t409 (wrap64 (1 + (Int.tmod (wrap64 (t416)) (wrap64 ((t412.length : Int) + 1)))))).bind fun bt434 => ((laws_sameInts.f k bt419.2 bt434.2).bind fun t438 => (if t438 = true then ((spec_GapsMove.f k t408 t409 (wrap64 (1 + (Int.tmod (wrap64 (t416)) (wrap64 ((t412.length : Int) + 1))))) (Int.tmod (wrap64 (t417)) (wrap64 ((t412.length : Int) + 1))) (wrap64 ((Int.tmod (wrap64 (t418)) 11) - 5))).bind fun bt439 => ((laws_sameInts.f k bt424.2 bt439.2).bind fun t443 => (if t443 = true then ((spec_GapsCut.f k t408 t409 (wrap64 (1 + (Int.tmod (wrap64 (t416)) (wrap64 ((t412.length : Int) + 1))))) (Int.tmod (wrap64 (t417)) (wrap64 ((t412.length : Int) + 1))) (wrap64 ((Int.tmod (wrap64 (t418)) 11) - 5))).bind fun bt444 => ((laws_sameInts.f k bt429.2 bt444.2).bind fun t448 => (laws_FnGapsDo.j0 k l0 t412 (wrap64 (1 + (Int.tmod (wrap64 (t416)) (wrap64 ((t412.length : Int) + 1))))) (Int.tmod (wrap64 (t417)) (wrap64 ((t412.length : Int) + 1))) (wrap64 ((Int.tmod (wrap64 (t418)) 11) - 5)) (!t448) t408 t409 bt419.1 bt419.2 bt424.1 bt424.2 bt429.1 bt429.2))) else (laws_FnGapsDo.j0 k l0 t412 (wrap64 (1 + (Int.tmod (wrap64 (t416)) (wrap64 ((t412.length : Int) + 1))))) (Int.tmod (wrap64 (t417)) (wrap64 ((t412.length : Int) + 1))) (wrap64 ((Int.tmod (wrap64 (t418)) 11) - 5)) true t408 t409 bt419.1 bt419.2 bt424.1 bt424.2 bt429.1 bt429.2)))) else (laws_FnGapsDo.j0 k l0 t412 (wrap64 (1 + (Int.tmod (wrap64 (t416)) (wrap64 ((t412.length : Int) + 1))))) (Int.tmod (wrap64 (t417)) (wrap64 ((t412.length : Int) + 1))) (wrap64 ((Int.tmod (wrap64 (t418)) 11) - 5)) true t408 t409 bt419.1 bt419.2 bt424.1 bt424.2 bt429.1 bt429.2))))))) = some true := H
 replace H := sqbi H
 obtain ⟨⟨t419, t420⟩, A8, H⟩ := H
 replace H : ((impl_GapsMove.f k t408 t409 (wrap64 (1 + (Int.tmod (wrap64 (t416)) (wrap64 ((t412.length : Int) + 1))))) (Int.tmod (wrap64 (t417)) (wrap64 ((t412.length : Int) + 1))) (wrap64 ((Int.tmod (wrap64 (t418)) 11) - 5))).bind fun bt424 => ((impl_GapsCut.f k t408 t409 (wrap64 (1 + (Int.tmod (wrap64 (t416)) (wrap64 ((t412.length : Int) + 1))))) (Int.tmod (wrap64 (t417)) (wrap64 ((t412.length : Int) + 1))) (wrap64 ((Int.tmod (wrap64 (t418)) 11) - 5))).bind fun bt429 => ((spec_GapsForget.f k t408 t409 (wrap64 (1 + (Int.tmod (wrap64 (t416)) (wrap64 ((t412.length : Int) + 1)))))).bind fun bt434 => ((laws_sameInts.f k t420 bt434.2).bind fun t438 => (if t438 = true then ((spec_GapsMove.f k t408 t409 (wrap64 (1 + (Int.tmod (wrap64 (t416)) (wrap64 ((t412.length : Int) + 1))))) (Int.tmod (wrap64 (t417)) (wrap64 ((t412.length : Int) + 1))) (wrap64 ((Int.tmod (wrap64 (t418)) 11) - 5))).bind fun bt439 => ((laws_sameInts.f k bt424.2 bt439.2).bind fun t443 => (if t443 = true then ((spec_GapsCut.f k t408 t409 (wrap64 (1 + (Int.tmod (wrap64 (t416)) (wrap64 ((t412.length : Int) + 1))))) (Int.tmod (wrap64 (t417)) (wrap64 ((t412.length : Int) + 1))) (wrap64 ((Int.tmod (wrap64 (t418)) 11) - 5))).bind fun bt444 => ((laws_sameInts.f k bt429.2 bt444.2).bind fun t448 => (laws_FnGapsDo.j0 k l0 t412 (wrap64 (1 + (Int.tmod (wrap64 (t416)) (wrap64 ((t412.length : Int) + 1))))) (Int.tmod (wrap64 (t417)) (wrap64 ((t412.length : Int) + 1))) (wrap64 ((Int.tmod (wrap64 (t418)) 11) - 5)) (!t448) t408 t409 t419 t420 bt424.1 bt424.2 bt429.1 bt429.2))) else (laws_FnGapsDo.j0 k l0 t412 (wrap64 (1 + (Int.tmod (wrap64 (t416)) (wrap64 ((t412.length : Int) + 1))))) (Int.tmod (wrap64 (t417)) (wrap64 ((t412.length : Int) + 1))) (wrap64 ((Int.tmod (wrap64 (t418)) 11) - 5)) true t408 t409 t419 t420 bt424.1 bt424.2 bt429.1 bt429.2)))) else (laws_FnGapsDo.j0 k l0 t412 (wrap64 (1 + (Int.tmod (wrap64 (t416)) (wrap64 ((t412.length : Int) + 1))))) (Int.tmod (wrap64 (t417)) (wrap64 ((t412.length : Int) + 1))) (wrap64 ((Int.tmod (wrap64 (t418)) 11) - 5)) true t408 t409 t419 t420 bt424.1 bt424.2 bt429.1 bt429.2)))))) = some true := H
 replace H := sqbi H
 obtain ⟨⟨t424, t425⟩, A9, H⟩ := H
 replace H : ((impl_GapsCut.f k t408 t409 (wrap64 (1 + (Int.tmod (wrap64 (t416)) (wrap64 ((t412.length : Int) + 1))))) (Int.tmod (wrap64 (t417)) (wrap64 ((t412.length : Int) + 1))) (wrap64 ((Int.tmod (wrap64 (t418)) 11) - 5))).bind fun bt429 => ((spec_GapsForget.f k t408 t409 (wrap64 (1 + (Int.tmod (wrap64 (t416)) (wrap64 ((t412.length : Int) + 1)))))).bind fun bt434 => ((laws_sameInts.f k t420 bt434.2).bind fun t438 => (if t438 = true then ((spec_GapsMove.f k t408 t409 (wrap64 (1 + (Int.tmod (wrap64 (t416)) (wrap64 ((t412.length : Int) + 1))))) (Int.tmod (wrap64 (t417)) (wrap64 ((t412.length : Int) + 1))) (wrap64 ((Int.tmod (wrap64 (t418)) 11) - 5))).bind fun bt439 => ((laws_sameInts.f k t425 bt439.2).bind fun t443 => (if t443 = true then ((spec_GapsCut.f k t408 t409 (wrap64 (1 + (Int.tmod (wrap64 (t416)) (wrap64 ((t412.length : Int) + 1))))) (Int.tmod (wrap64 (t417)) (wrap64 ((t412.length : Int) + 1))) (wrap64 ((Int.tmod (wrap64 (t418)) 11) - 5))).bind fun bt444 => ((laws_sameInts.f k bt429.2 bt444.2).bind fun t448 => (laws_FnGapsDo.j0 k l0 t412 (wrap64 (1 + (Int.tmod (wrap64 (t416)) (wrap64 ((t412.length : Int) + 1))))) (Int.tmod (wrap64 (t417)) (wrap64 ((t412.length : Int) + 1))) (wrap64 ((Int.tmod (wrap64 (t418)) 11) - 5)) (!t448) t408 t409 t419 t420 t424 t425 bt429.1 bt429.2))) else (laws_FnGapsDo.j0 k l0 t412 (wrap64 (1 + (Int.tmod (wrap64 (t416)) (wrap64 ((t412.length : Int) + 1))))) (Int.tmod (wrap64 (t417)) (wrap64 ((t412.length : Int) + 1))) (wrap64 ((Int.tmod (wrap64 (t418)) 11) - 5)) true t408 t409 t419 t420 t424 t425 bt429.1 bt429.2)))) else (laws_FnGapsDo.j0 k l0 t412 (wrap64 (1 + (Int.tmod (wrap64 (t416)) (wrap64 ((t412.length : Int) + 1))))) (Int.tmod (wrap64 (t417)) (wrap64 ((t412.length : Int) + 1))) (wrap64 ((Int.tmod (wrap64 (t418)) 11) - 5)) true t408 t409 t419 t420 t424 t425 bt429.1 bt429.2))))) = some true := H
 replace H := sqbi H
 obtain ⟨⟨t429, t430⟩, A10, H⟩ := H
 replace H : ((spec_GapsForget.f k t408 t409 (wrap64 (1 + (Int.tmod (wrap64 (t416)) (wrap64 ((t412.length : Int) + 1)))))).bind fun bt434 => ((laws_sameInts.f k t420 bt434.2).bind fun t438 => (if t438 = true then ((spec_GapsMove.f k t408 t409 (wrap64 (1 + (Int.tmod (wrap64 (t416)) (wrap64 ((t412.length : Int) + 1))))) (Int.tmod (wrap64 (t417)) (wrap64 ((t412.length : Int) + 1))) (wrap64 ((Int.tmod (wrap64 (t418)) 11) - 5))).bind fun bt439 => ((laws_sameInts.f k t425 bt439.2).bind fun t443 => (if t443 = true then ((spec_GapsCut.f k t408 t409 (wrap64 (1 + (Int.tmod (wrap64 (t416)) (wrap64 ((t412.length : Int) + 1))))) (Int.tmod (wrap64 (t417)) (wrap64 ((t412.length : Int) + 1))) (wrap64 ((Int.tmod (wrap64 (t418)) 11) - 5))).bind fun bt444 => ((laws_sameInts.f k t430 bt444.2).bind fun t448 => (laws_FnGapsDo.j0 k l0 t412 (wrap64 (1 + (Int.tmod (wrap64 (t416)) (wrap64 ((t412.length : Int) + 1))))) (Int.tmod (wrap64 (t417)) (wrap64 ((t412.length : Int) + 1))) (wrap64 ((Int.tmod (wrap64 (t418)) 11) - 5)) (!t448) t408 t409 t419 t420 t424 t425 t429 t430))) else (laws_FnGapsDo.j0 k l0 t412 (wrap64 (1 + (Int.tmod (wrap64 (t416)) (wrap64 ((t412.length : Int) + 1))))) (Int.tmod (wrap64 (t417)) (wrap64 ((t412.length : Int) + 1))) (wrap64 ((Int.tmod (wrap64 (t418)) 11) - 5)) true t408 t409 t419 t420 t424 t425 t429 t430)))) else (laws_FnGapsDo.j0 k l0 t412 (wrap64 (1 + (Int.tmod (wrap64 (t416)) (wrap64 ((t412.length : Int) + 1))))) (Int.tmod (wrap64 (t417)) (wrap64 ((t412.length : Int) + 1))) (wrap64 ((Int.tmod (wrap64 (t418)) 11) - 5)) true t408 t409 t419 t420 t424 t425 t429 t430)))) = some true := H
 have HC11 := Aside0.mk H
 clear H
 go_enter Try.func8, Try.ntmps8
 go_upto_region 10 with (first | ((with_reducible refine gate_callee (f := 24) rfl ?_); refine sqL (some 18) Try.func24 #[.slice A0 l0.length c0] ?_; (with_reducible refine (spec_DrawGapsHas.calls k _ _ l0 t408 t409 t412 _ ?side1 ?side2 A3.out).mono ?_); (case side1 => exact sqC HR0.out); (case side2 => exact HC0.out); rintro e w12 ⟨v410, v413, rfl, ho0, ho1, hb⟩; refine ⟨_, rfl, ?_⟩; have HO411 := Aside0.mk (Kd.R_lower ho0 (below_size (sqB HB))); have HO414 := Aside0.mk (Kd.R_lower ho1 (below_size (sqB HB))); replace HB := sqs HB hb; (try clear hb); (try clear hb2); (try clear hk); (try clear hi); (try clear ho0); (try clear ho1)) | ((with_reducible refine gate_dst (N := 3) rfl ?_); (try (refine gate_guard (by rfl) ?_; dsimp only)); refine sqx 3 #[.int .i64 0, .slice none 0 0] 41 ?_; intro gb415 hg w13 hbox hb; have n0_ := Aside0.mk (Kd.R_below (sqy HO411.out) hb); have n1_ := Aside0.mk (Kd.R_below (sqy HO414.out) hb); have n2_ := sqs HB hb; have n3_ := Aside0.mk (hbox); have n4_ := sqg HB hg; have n5_ := sqg HB hg; clear HO411; clear HO414; clear HB; have HO411 := n0_; have HO414 := n1_; have HB := n2_; have BK415 := n3_; have GW415 := n4_; have GE415 := n5_; clear n0_ n1_ n2_ n3_ n4_ n5_; clear hb hbox hg; obtain ⟨hcz14_0, hcz14_1, hfz14_0, hfz14_1⟩ := sqc2 BK415; obtain ⟨Ao15, co15, eo15⟩ := Kd.R_slice HO411.out; subst eo15) | ((with_reducible refine gate_callee (f := 33) rfl ?_); refine sqL (some 22) Try.func33 #[.slice A0 l0.length c0, .int .i64 3] ?_; (with_reducible refine (laws_at.calls _ _ l0 3 t416 _ ?side1 ?side2 A4.out).mono ?_); (case side1 => exact Kd.C_below HR0.out (sqB HB)); (case side2 => exact HC0.out); rintro e w' ⟨rfl, ⟨nd, rfl⟩⟩; refine ⟨_, rfl, ?_⟩; obtain ⟨Ao16, co16, eo16⟩ := Kd.R_slice HO414.out; subst eo16) | ((with_reducible refine gate_callee (f := 33) rfl ?_); refine sqL (some 30) Try.func33 #[.slice A0 l0.length c0, .int .i64 4] ?_; (with_reducible refine (laws_at.calls _ _ l0 4 t417 _ ?side1 ?side2 A6.out).mono ?_); (case side1 => exact Kd.C_below HR0.out (sqB HB)); (case side2 => exact HC0.out); rintro e w' ⟨rfl, ⟨nd, rfl⟩⟩; refine ⟨_, rfl, ?_⟩) | ((with_reducible refine gate_callee (f := 33) rfl ?_); refine sqL (some 37) Try.func33 #[.slice A0 l0.length c0, .int .i64 5] ?_; (with_reducible refine (laws_at.calls _ _ l0 5 t418 _ ?side1 ?side2 A7.out).mono ?_); (case side1 => exact Kd.C_below HR0.out (sqB HB)); (case side2 => exact HC0.out); rintro e w' ⟨rfl, ⟨nd, rfl⟩⟩; refine ⟨_, rfl, ?_⟩) | ((with_reducible refine gate_callee (f := 49) rfl ?_); refine sqL (some 43) Try.func49 #[.agg #[.int .i64 t408, .slice Ao15 t409.length co15], .int .i64 (wrap64 (1 + (Int.tmod (wrap64 (t416)) (wrap64 ((t412.length : Int) + 1)))))] ?_; (with_reducible refine (impl_GapsForget.calls k t408 _ _ t409 (wrap64 (1 + (Int.tmod (wrap64 (t416)) (wrap64 ((t412.length : Int) + 1))))) t419 t420 _ ?side1 ?side2 A8.out).mono ?_); (case side1 => refine (Kd.R_reads' (e := 3) (base := w.heap.size) (ok := fun k_ => some k_ ≠ (.slice Ao16 t412.length co16 : Value).ownBlock) (n := t409.length) (c := co15) ?_).2.2; exact (by (with_reducible repeat (first | apply Kd.R_alloc | apply Kd.R_drewN | apply Kd.R_drew)); exact (Kd.R_mono (Kd.R_far (p := ⟨gb415, 1, none⟩) (Kd.R_far (p := ⟨gb415, 0, none⟩) (Kd.R_types HO411.out BK415.out (by decide)) (fun _ hk => hk.2) (.int .i64 t408)) (fun _ hk => hk.2) (.slice Ao15 t409.length co15)) (fun _ h_ => h_.1)))); (case side2 => exact (Kd.R_reads' HO411.out).2.1); rintro e w17 ⟨v421, rfl, ho0, hb⟩; refine ⟨_, rfl, ?_⟩; have n0_ := Aside0.mk (Kd.R_elder' (by (with_reducible repeat (first | apply Kd.R_alloc | apply Kd.R_drewN | apply Kd.R_drew)); exact (Kd.R_mono (Kd.R_far (p := ⟨gb415, 1, none⟩) (Kd.R_far (p := ⟨gb415, 0, none⟩) (Kd.R_types HO411.out BK415.out (by decide)) (fun _ hk => hk.2) (.int .i64 t408)) (fun _ hk => hk.2) (.slice Ao15 t409.length co15)) (fun _ h_ => h_.1))) (Kd.R_base ho0) hb); have n1_ := Aside0.mk (Kd.R_elder' (by (with_reducible repeat (first | apply Kd.R_alloc | apply Kd.R_drewN | apply Kd.R_drew)); exact (Kd.R_mono (Kd.R_far (p := ⟨gb415, 1, none⟩) (Kd.R_far (p := ⟨gb415, 0, none⟩) (Kd.R_types HO414.out BK415.out (by decide)) (fun _ hk => hk.2) (.int .i64 t408)) (fun _ hk => hk.2) (.slice Ao15 t409.length co15)) (fun _ h_ => h_.1))) (Kd.R_base ho0) hb); have n2_ := Aside0.mk (Kd.R_lower (Kd.R_new' (Kd.R_new' ho0 (Kd.R_lt (by (with_reducible repeat (first | apply Kd.R_alloc | apply Kd.R_drewN | apply Kd.R_drew)); exact (Kd.R_mono (Kd.R_far (p := ⟨gb415, 1, none⟩) (Kd.R_far (p := ⟨gb415, 0, none⟩) (Kd.R_types HO411.out BK415.out (by decide)) (fun _ hk => hk.2) (.int .i64 t408)) (fun _ hk => hk.2) (.slice Ao15 t409.length co15)) (fun _ h_ => h_.1))))) (Kd.R_lt (by (with_reducible repeat (first | apply Kd.R_alloc | apply Kd.R_drewN | apply Kd.R_drew)); exact (Kd.R_mono (Kd.R_far (p := ⟨gb415, 1, none⟩) (Kd.R_far (p := ⟨gb415, 0, none⟩) (Kd.R_types HO414.out BK415.out (by decide)) (fun _ hk => hk.2) (.int .i64 t408)) (fun _ hk => hk.2) (.slice Ao15 t409.length co15)) (fun _ h_ => h_.1))))) (below_size (sqB HB))); have n3_ := Aside0.mk (blk_below (g := gb415) (o := .cells #[.int .i64 t408, .slice Ao15 t409.length co15] 41 (0, 0)) (by refine sqt ?_; refine blk_put (cs := #[.int .i64 t408, .slice none 0 0]) ?_ 1 _ rfl; refine sqt ?_; refine blk_put (cs := #[.int .i64 0, .slice none 0 0]) ?_ 0 _ rfl; refine sqt ?_; exact BK415.out) hb); have n4_ := sqs HB hb; clear HO411; clear HO414; clear BK415; clear HB; have HO411 := n0_; have HO414 := n1_; have HO422 := n2_; have BK415 := n3_; have HB := n4_; clear n0_ n1_ n2_ n3_ n4_; (try clear hb); (try clear hb2); (try clear hk); (try clear hi); (try clear ho0)) | ((with_reducible refine gate_dst (N := 8) rfl ?_); (try (refine gate_guard (by rfl) ?_; dsimp only)); refine sqx 8 #[.int .i64 0, .slice none 0 0] 41 ?_; intro gb423 hg w18 hbox hb; have n0_ := Aside0.mk (Kd.R_below (sqy HO411.out) hb); have n1_ := Aside0.mk (Kd.R_below (sqy HO414.out) hb); have n2_ := Aside0.mk (Kd.R_below (sqy HO422.out) hb); have n3_ := sqb BK415 hb; have n4_ := sqs HB hb; have n5_ := Aside0.mk (hbox); have n6_ := sqg HB hg; have n7_ := sqg HB hg; have n8_ := sqn BK415 hg; have n9_ := sqm BK415 hg; clear HO411; clear HO414; clear HO422; clear BK415; clear HB; have HO411 := n0_; have HO414 := n1_; have HO422 := n2_; have BK415 := n3_; have HB := n4_; have BK423 := n5_; have GW423 := n6_; have GE423 := n7_; have NB415_423 := n8_; have NB423_415 := n9_; clear n0_ n1_ n2_ n3_ n4_ n5_ n6_ n7_ n8_ n9_; clear hb hbox hg; have hnb19 := NB423_415.out; have hnc19 := NB415_423.out; obtain ⟨hcz20_0, hcz20_1, hfz20_0, hfz20_1⟩ := sqc2 BK423; obtain ⟨Ao21, co21, eo21⟩ := Kd.R_slice HO422.out; subst eo21; obtain ⟨hcz22_0, hcz22_1, hfz22_0, hfz22_1⟩ := sqc2 BK415) | ((with_reducible refine gate_callee (f := 34) rfl ?_); refine sqL (some 48) Try.func34 #[.agg #[.int .i64 t408, .slice Ao15 t409.length co15], .int .i64 (wrap64 (1 + (Int.tmod (wrap64 (t416)) (wrap64 ((t412.length : Int) + 1))))), .int .i64 (Int.tmod (wrap64 (t417)) (wrap64 ((t412.length : Int) + 1))), .int .i64 (wrap64 ((Int.tmod (wrap64 (t418)) 11) - 5))] ?_; (with_reducible refine (impl_GapsMove.calls k t408 _ _ t409 (wrap64 (1 + (Int.tmod (wrap64 (t416)) (wrap64 ((t412.length : Int) + 1))))) (Int.tmod (wrap64 (t417)) (wrap64 ((t412.length : Int) + 1))) (wrap64 ((Int.tmod (wrap64 (t418)) 11) - 5)) t424 t425 _ ?side1 ?side2 A9.out).mono ?_); (case side1 => refine (Kd.R_reads' (e := 3) (base := w.heap.size) (ok := fun k_ => (some k_ ≠ (.slice Ao16 t412.length co16 : Value).ownBlock ∧ some k_ ≠ (.slice Ao21 t420.length co21 : Value).ownBlock)) (n := t409.length) (c := co15) ?_).2.2; exact (by (with_reducible repeat (first | apply Kd.R_alloc | apply Kd.R_drewN | apply Kd.R_drew)); exact (Kd.R_mono (Kd.R_far (p := ⟨gb423, 1, none⟩) (Kd.R_far (p := ⟨gb423, 0, none⟩) (Kd.R_types HO411.out BK423.out (by decide)) (fun _ hk => hk.2) (.int .i64 t419)) (fun _ hk => hk.2) (.slice Ao21 t420.length co21)) (fun _ h_ => h_.1)))); (case side2 => exact (Kd.R_reads' HO411.out).2.1); rintro e w23 ⟨v426, rfl, ho0, hb⟩; refine ⟨_, rfl, ?_⟩; have n0_ := Aside0.mk (Kd.R_elder' (by (with_reducible repeat (first | apply Kd.R_alloc | apply Kd.R_drewN | apply Kd.R_drew)); exact (Kd.R_mono (Kd.R_far (p := ⟨gb423, 1, none⟩) (Kd.R_far (p := ⟨gb423, 0, none⟩) (Kd.R_types HO411.out BK423.out (by decide)) (fun _ hk => hk.2) (.int .i64 t419)) (fun _ hk => hk.2) (.slice Ao21 t420.length co21)) (fun _ h_ => h_.1))) (Kd.R_base ho0) hb); have n1_ := Aside0.mk (Kd.R_elder' (by (with_reducible repeat (first | apply Kd.R_alloc | apply Kd.R_drewN | apply Kd.R_drew)); exact (Kd.R_mono (Kd.R_far (p := ⟨gb423, 1, none⟩) (Kd.R_far (p := ⟨gb423, 0, none⟩) (Kd.R_types HO414.out BK423.out (by decide)) (fun _ hk => hk.2) (.int .i64 t419)) (fun _ hk => hk.2) (.slice Ao21 t420.length co21)) (fun _ h_ => h_.1))) (Kd.R_base ho0) hb); have n2_ := Aside0.mk (Kd.R_elder' (by (with_reducible repeat (first | apply Kd.R_alloc | apply Kd.R_drewN | apply Kd.R_drew)); exact (Kd.R_mono (Kd.R_far (p := ⟨gb423, 1, none⟩) (Kd.R_far (p := ⟨gb423, 0, none⟩) (Kd.R_types HO422.out BK423.out (by decide)) (fun _ hk => hk.2) (.int .i64 t419)) (fun _ hk => hk.2) (.slice Ao21 t420.length co21)) (fun _ h_ => h_.1))) (Kd.R_base ho0) hb); have n3_ := Aside0.mk (Kd.R_lower (Kd.R_new' (Kd.R_new' (Kd.R_new' ho0 (Kd.R_lt (by (with_reducible repeat (first | apply Kd.R_alloc | apply Kd.R_drewN | apply Kd.R_drew)); exact (Kd.R_mono (Kd.R_far (p := ⟨gb423, 1, none⟩) (Kd.R_far (p := ⟨gb423, 0, none⟩) (Kd.R_types HO411.out BK423.out (by decide)) (fun _ hk => hk.2) (.int .i64 t419)) (fun _ hk => hk.2) (.slice Ao21 t420.length co21)) (fun _ h_ => h_.1))))) (Kd.R_lt (by (with_reducible repeat (first | apply Kd.R_alloc | apply Kd.R_drewN | apply Kd.R_drew)); exact (Kd.R_mono (Kd.R_far (p := ⟨gb423, 1, none⟩) (Kd.R_far (p := ⟨gb423, 0, none⟩) (Kd.R_types HO414.out BK423.out (by decide)) (fun _ hk => hk.2) (.int .i64 t419)) (fun _ hk => hk.2) (.slice Ao21 t420.length co21)) (fun _ h_ => h_.1))))) (Kd.R_lt (by (with_reducible repeat (first | apply Kd.R_alloc | apply Kd.R_drewN | apply Kd.R_drew)); exact (Kd.R_mono (Kd.R_far (p := ⟨gb423, 1, none⟩) (Kd.R_far (p := ⟨gb423, 0, none⟩) (Kd.R_types HO422.out BK423.out (by decide)) (fun _ hk => hk.2) (.int .i64 t419)) (fun _ hk => hk.2) (.slice Ao21 t420.length co21)) (fun _ h_ => h_.1))))) (below_size (sqB HB))); have n4_ := Aside0.mk (blk_below (g := gb415) (o := .cells #[.int .i64 t408, .slice Ao15 t409.length co15] 41 (0, 0)) (by refine sqt ?_; refine blk_far ?_ NB415_423.out _; refine sqt ?_; refine blk_far ?_ NB415_423.out _; refine sqt ?_; exact BK415.out) hb); have n5_ := Aside0.mk (blk_below (g := gb423) (o := .cells #[.int .i64 t419, .slice Ao21 t420.length co21] 41 (0, 0)) (by refine sqt ?_; refine blk_put (cs := #[.int .i64 t419, .slice none 0 0]) ?_ 1 _ rfl; refine sqt ?_; refine blk_put (cs := #[.int .i64 0, .slice none 0 0]) ?_ 0 _ rfl; refine sqt ?_; exact BK423.out) hb); have n6_ := sqs HB hb; clear HO411; clear HO414; clear HO422; clear BK415; clear BK423; clear HB; have HO411 := n0_; have HO414 := n1_; have HO422 := n2_; have HO427 := n3_; have BK415 := n4_; have BK423 := n5_; have HB := n6_; clear n0_ n1_ n2_ n3_ n4_ n5_ n6_; (try clear hb); (try clear hb2); (try clear hk); (try clear hi); (try clear ho0)) | ((with_reducible refine gate_dst (N := 9) rfl ?_); (try (refine gate_guard (by rfl) ?_; dsimp only)); refine sqx 9 #[.int .i64 0, .slice none 0 0] 41 ?_; intro gb428 hg w24 hbox hb; have n0_ := Aside0.mk (Kd.R_below (sqy HO411.out) hb); have n1_ := Aside0.mk (Kd.R_below (sqy HO414.out) hb); have n2_ := Aside0.mk (Kd.R_below (sqy HO422.out) hb); have n3_ := Aside0.mk (Kd.R_below (sqy HO427.out) hb); have n4_ := sqb BK415 hb; have n5_ := sqb BK423 hb; have n6_ := sqs HB hb; have n7_ := Aside0.mk (hbox); have n8_ := sqg HB hg; have n9_ := sqg HB hg; have n10_ := sqn BK415 hg; have n11_ := sqm BK415 hg; have n12_ := sqn BK423 hg; have n13_ := sqm BK423 hg; clear HO411; clear HO414; clear HO422; clear HO427; clear BK415; clear BK423; clear HB; have HO411 := n0_; have HO414 := n1_; have HO422 := n2_; have HO427 := n3_; have BK415 := n4_; have BK423 := n5_; have HB := n6_; have BK428 := n7_; have GW428 := n8_; have GE428 := n9_; have NB415_428 := n10_; have NB428_415 := n11_; have NB423_428 := n12_; have NB428_423 := n13_; clear n0_ n1_ n2_ n3_ n4_ n5_ n6_ n7_ n8_ n9_ n10_ n11_ n12_ n13_; clear hb hbox hg; have hnb25 := NB428_415.out; have hnc25 := NB415_428.out; have hnb26 := NB428_423.out; have hnc26 := NB423_428.out; obtain ⟨hcz27_0, hcz27_1, hfz27_0, hfz27_1⟩ := sqc2 BK428; obtain ⟨Ao28, co28, eo28⟩ := Kd.R_slice HO427.out; subst eo28; obtain ⟨hcz29_0, hcz29_1, hfz29_0, hfz29_1⟩ := sqc2 BK415) | ((with_reducible refine gate_callee (f := 50) rfl ?_); refine sqL (some 53) Try.func50 #[.agg #[.int .i64 t408, .slice Ao15 t409.length co15], .int .i64 (wrap64 (1 + (Int.tmod (wrap64 (t416)) (wrap64 ((t412.length : Int) + 1))))), .int .i64 (Int.tmod (wrap64 (t417)) (wrap64 ((t412.length : Int) + 1))), .int .i64 (wrap64 ((Int.tmod (wrap64 (t418)) 11) - 5))] ?_; (with_reducible refine (impl_GapsCut.calls k t408 _ _ t409 (wrap64 (1 + (Int.tmod (wrap64 (t416)) (wrap64 ((t412.length : Int) + 1))))) (Int.tmod (wrap64 (t417)) (wrap64 ((t412.length : Int) + 1))) (wrap64 ((Int.tmod (wrap64 (t418)) 11) - 5)) t429 t430 _ ?side1 ?side2 A10.out).mono ?_); (case side1 => refine (Kd.R_reads' (e := 3) (base := w.heap.size) (ok := fun k_ => ((some k_ ≠ (.slice Ao16 t412.length co16 : Value).ownBlock ∧ some k_ ≠ (.slice Ao21 t420.length co21 : Value).ownBlock) ∧ some k_ ≠ (.slice Ao28 t425.length co28 : Value).ownBlock)) (n := t409.length) (c := co15) ?_).2.2; exact (by (with_reducible repeat (first | apply Kd.R_alloc | apply Kd.R_drewN | apply Kd.R_drew)); exact (Kd.R_mono (Kd.R_far (p := ⟨gb428, 1, none⟩) (Kd.R_far (p := ⟨gb428, 0, none⟩) (Kd.R_types HO411.out BK428.out (by decide)) (fun _ hk => hk.2) (.int .i64 t424)) (fun _ hk => hk.2) (.slice Ao28 t425.length co28)) (fun _ h_ => h_.1)))); (case side2 => exact (Kd.R_reads' HO411.out).2.1); rintro e w30 ⟨v431, rfl, ho0, hb⟩; refine ⟨_, rfl, ?_⟩; have n0_ := Aside0.mk (Kd.R_elder' (by (with_reducible repeat (first | apply Kd.R_alloc | apply Kd.R_drewN | apply Kd.R_drew)); exact (Kd.R_mono (Kd.R_far (p := ⟨gb428, 1, none⟩) (Kd.R_far (p := ⟨gb428, 0, none⟩) (Kd.R_types HO411.out BK428.out (by decide)) (fun _ hk => hk.2) (.int .i64 t424)) (fun _ hk => hk.2) (.slice Ao28 t425.length co28)) (fun _ h_ => h_.1))) (Kd.R_base ho0) hb); have n1_ := Aside0.mk (Kd.R_elder' (by (with_reducible repeat (first | apply Kd.R_alloc | apply Kd.R_drewN | apply Kd.R_drew)); exact (Kd.R_mono (Kd.R_far (p := ⟨gb428, 1, none⟩) (Kd.R_far (p := ⟨gb428, 0, none⟩) (Kd.R_types HO414.out BK428.out (by decide)) (fun _ hk => hk.2) (.int .i64 t424)) (fun _ hk => hk.2) (.slice Ao28 t425.length co28)) (fun _ h_ => h_.1))) (Kd.R_base ho0) hb); have n2_ := Aside0.mk (Kd.R_elder' (by (with_reducible repeat (first | apply Kd.R_alloc | apply Kd.R_drewN | apply Kd.R_drew)); exact (Kd.R_mono (Kd.R_far (p := ⟨gb428, 1, none⟩) (Kd.R_far (p := ⟨gb428, 0, none⟩) (Kd.R_types HO422.out BK428.out (by decide)) (fun _ hk => hk.2) (.int .i64 t424)) (fun _ hk => hk.2) (.slice Ao28 t425.length co28)) (fun _ h_ => h_.1))) (Kd.R_base ho0) hb); have n3_ := Aside0.mk (Kd.R_elder' (by (with_reducible repeat (first | apply Kd.R_alloc | apply Kd.R_drewN | apply Kd.R_drew)); exact (Kd.R_mono (Kd.R_far (p := ⟨gb428, 1, none⟩) (Kd.R_far (p := ⟨gb428, 0, none⟩) (Kd.R_types HO427.out BK428.out (by decide)) (fun _ hk => hk.2) (.int .i64 t424)) (fun _ hk => hk.2) (.slice Ao28 t425.length co28)) (fun _ h_ => h_.1))) (Kd.R_base ho0) hb); have n4_ := Aside0.mk (Kd.R_lower (Kd.R_new' (Kd.R_new' (Kd.R_new' (Kd.R_new' ho0 (Kd.R_lt (by (with_reducible repeat (first | apply Kd.R_alloc | apply Kd.R_drewN | apply Kd.R_drew)); exact (Kd.R_mono (Kd.R_far (p := ⟨gb428, 1, none⟩) (Kd.R_far (p := ⟨gb428, 0, none⟩) (Kd.R_types HO411.out BK428.out (by decide)) (fun _ hk => hk.2) (.int .i64 t424)) (fun _ hk => hk.2) (.slice Ao28 t425.length co28)) (fun _ h_ => h_.1))))) (Kd.R_lt (by (with_reducible repeat (first | apply Kd.R_alloc | apply Kd.R_drewN | apply Kd.R_drew)); exact (Kd.R_mono (Kd.R_far (p := ⟨gb428, 1, none⟩) (Kd.R_far (p := ⟨gb428, 0, none⟩) (Kd.R_types HO414.out BK428.out (by decide)) (fun _ hk => hk.2) (.int .i64 t424)) (fun _ hk => hk.2) (.slice Ao28 t425.length co28)) (fun _ h_ => h_.1))))) (Kd.R_lt (by (with_reducible repeat (first | apply Kd.R_alloc | apply Kd.R_drewN | apply Kd.R_drew)); exact (Kd.R_mono (Kd.R_far (p := ⟨gb428, 1, none⟩) (Kd.R_far (p := ⟨gb428, 0, none⟩) (Kd.R_types HO422.out BK428.out (by decide)) (fun _ hk => hk.2) (.int .i64 t424)) (fun _ hk => hk.2) (.slice Ao28 t425.length co28)) (fun _ h_ => h_.1))))) (Kd.R_lt (by (with_reducible repeat (first | apply Kd.R_alloc | apply Kd.R_drewN | apply Kd.R_drew)); exact (Kd.R_mono (Kd.R_far (p := ⟨gb428, 1, none⟩) (Kd.R_far (p := ⟨gb428, 0, none⟩) (Kd.R_types HO427.out BK428.out (by decide)) (fun _ hk => hk.2) (.int .i64 t424)) (fun _ hk => hk.2) (.slice Ao28 t425.length co28)) (fun _ h_ => h_.1))))) (below_size (sqB HB))); have n5_ := Aside0.mk (blk_below (g := gb415) (o := .cells #[.int .i64 t408, .slice Ao15 t409.length co15] 41 (0, 0)) (by refine sqt ?_; refine blk_far ?_ NB415_428.out _; refine sqt ?_; refine blk_far ?_ NB415_428.out _; refine sqt ?_; exact BK415.out) hb); have n6_ := Aside0.mk (blk_below (g := gb423) (o := .cells #[.int .i64 t419, .slice Ao21 t420.length co21] 41 (0, 0)) (by refine sqt ?_; refine blk_far ?_ NB423_428.out _; refine sqt ?_; refine blk_far ?_ NB423_428.out _; refine sqt ?_; exact BK423.out) hb); have n7_ := Aside0.mk (blk_below (g := gb428) (o := .cells #[.int .i64 t424, .slice Ao28 t425.length co28] 41 (0, 0)) (by refine sqt ?_; refine blk_put (cs := #[.int .i64 t424, .slice none 0 0]) ?_ 1 _ rfl; refine sqt ?_; refine blk_put (cs := #[.int .i64 0, .slice none 0 0]) ?_ 0 _ rfl; refine sqt ?_; exact BK428.out) hb); have n8_ := sqs HB hb; clear HO411; clear HO414; clear HO422; clear HO427; clear BK415; clear BK423; clear BK428; clear HB; have HO411 := n0_; have HO414 := n1_; have HO422 := n2_; have HO427 := n3_; have HO432 := n4_; have BK415 := n5_; have BK423 := n6_; have BK428 := n7_; have HB := n8_; clear n0_ n1_ n2_ n3_ n4_ n5_ n6_ n7_ n8_; (try clear hb); (try clear hb2); (try clear hk); (try clear hi); (try clear ho0)) | ((with_reducible refine gate_dst (N := 10) rfl ?_); (try (refine gate_guard (by rfl) ?_; dsimp only)); refine sqx 10 #[.int .i64 0, .slice none 0 0] 41 ?_; intro gb433 hg w31 hbox hb; have n0_ := Aside0.mk (Kd.R_below (sqy HO411.out) hb); have n1_ := Aside0.mk (Kd.R_below (sqy HO414.out) hb); have n2_ := Aside0.mk (Kd.R_below (sqy HO422.out) hb); have n3_ := Aside0.mk (Kd.R_below (sqy HO427.out) hb); have n4_ := Aside0.mk (Kd.R_below (sqy HO432.out) hb); have n5_ := sqb BK415 hb; have n6_ := sqb BK423 hb; have n7_ := sqb BK428 hb; have n8_ := sqs HB hb; have n9_ := Aside0.mk (hbox); have n10_ := sqg HB hg; have n11_ := sqg HB hg; have n12_ := sqn BK415 hg; have n13_ := sqm BK415 hg; have n14_ := sqn BK423 hg; have n15_ := sqm BK423 hg; have n16_ := sqn BK428 hg; have n17_ := sqm BK428 hg; clear HO411; clear HO414; clear HO422; clear HO427; clear HO432; clear BK415; clear BK423; clear BK428; clear HB; have HO411 := n0_; have HO414 := n1_; have HO422 := n2_; have HO427 := n3_; have HO432 := n4_; have BK415 := n5_; have BK423 := n6_; have BK428 := n7_; have HB := n8_; have BK433 := n9_; have GW433 := n10_; have GE433 := n11_; have NB415_433 := n12_; have NB433_415 := n13_; have NB423_433 := n14_; have NB433_423 := n15_; have NB428_433 := n16_; have NB433_428 := n17_; clear n0_ n1_ n2_ n3_ n4_ n5_ n6_ n7_ n8_ n9_ n10_ n11_ n12_ n13_ n14_ n15_ n16_ n17_; clear hb hbox hg; have hnb32 := NB433_415.out; have hnc32 := NB415_433.out; have hnb33 := NB433_423.out; have hnc33 := NB423_433.out; have hnb34 := NB433_428.out; have hnc34 := NB428_433.out; obtain ⟨hcz35_0, hcz35_1, hfz35_0, hfz35_1⟩ := sqc2 BK433; obtain ⟨Ao36, co36, eo36⟩ := Kd.R_slice HO432.out; subst eo36))
 (try simp only [Act.put, List.setIfInBounds_toArray, List.set_cons_zero, List.set_cons_succ])
 go_cut [85] (fun v85 wc => ∃ (kq : Nat) (x85_10 : Bool), v85 = .bool x85_10 ∧ Aside0 (laws_FnGapsDo.j0 kq l0 t412 (wrap64 (1 + (Int.tmod (wrap64 (t416)) (wrap64 ((t412.length : Int) + 1))))) (Int.tmod (wrap64 (t417)) (wrap64 ((t412.length : Int) + 1))) (wrap64 ((Int.tmod (wrap64 (t418)) 11) - 5)) x85_10 t408 t409 t419 t420 t424 t425 t429 t430 = some true) ∧ Aside0 (kq ≤ k) ∧ Aside0 (Kd.R (Kd.int .i64) 3 wc w.heap.size (fun k_ => some k_ ≠ ((.slice Ao15 t409.length co15) : Value).ownBlock ∧ some k_ ≠ ((.slice Ao21 t420.length co21) : Value).ownBlock ∧ some k_ ≠ ((.slice Ao28 t425.length co28) : Value).ownBlock ∧ some k_ ≠ ((.slice Ao36 t430.length co36) : Value).ownBlock) (.slice Ao16 t412.length co16) t412) ∧ Aside0 (Kd.R (Kd.int .i64) 3 wc w.heap.size (fun k_ => some k_ ≠ ((.slice Ao16 t412.length co16) : Value).ownBlock ∧ some k_ ≠ ((.slice Ao21 t420.length co21) : Value).ownBlock ∧ some k_ ≠ ((.slice Ao28 t425.length co28) : Value).ownBlock ∧ some k_ ≠ ((.slice Ao36 t430.length co36) : Value).ownBlock) (.slice Ao15 t409.length co15) t409) ∧ Aside0 (Kd.R (Kd.int .i64) 3 wc w.heap.size (fun k_ => some k_ ≠ ((.slice Ao16 t412.length co16) : Value).ownBlock ∧ some k_ ≠ ((.slice Ao15 t409.length co15) : Value).ownBlock ∧ some k_ ≠ ((.slice Ao28 t425.length co28) : Value).ownBlock ∧ some k_ ≠ ((.slice Ao36 t430.length co36) : Value).ownBlock) (.slice Ao21 t420.length co21) t420) ∧ Aside0 (Kd.R (Kd.int .i64) 3 wc w.heap.size (fun k_ => some k_ ≠ ((.slice Ao16 t412.length co16) : Value).ownBlock ∧ some k_ ≠ ((.slice Ao15 t409.length co15) : Value).ownBlock ∧ some k_ ≠ ((.slice Ao21 t420.length co21) : Value).ownBlock ∧ some k_ ≠ ((.slice Ao36 t430.length co36) : Value).ownBlock) (.slice Ao28 t425.length co28) t425) ∧ Aside0 (Kd.R (Kd.int .i64) 3 wc w.heap.size (fun k_ => some k_ ≠ ((.slice Ao16 t412.length co16) : Value).ownBlock ∧ some k_ ≠ ((.slice Ao15 t409.length co15) : Value).ownBlock ∧ some k_ ≠ ((.slice Ao21 t420.length co21) : Value).ownBlock ∧ some k_ ≠ ((.slice Ao28 t425.length co28) : Value).ownBlock) (.slice Ao36 t430.length co36) t430) ∧ Aside0 (wc.heap[gb415]? = some (.cells #[.int .i64 t408, (.slice Ao15 t409.length co15)] 41 (0, 0))) ∧ Aside0 (wc.heap[gb423]? = some (.cells #[.int .i64 t419, (.slice Ao21 t420.length co21)] 41 (0, 0))) ∧ Aside0 (wc.heap[gb428]? = some (.cells #[.int .i64 t424, (.slice Ao28 t425.length co28)] 41 (0, 0))) ∧ Aside0 (wc.heap[gb433]? = some (.cells #[.int .i64 t429, (.slice Ao36 t430.length co36)] 41 (0, 0))) ∧ Aside0 (Below w.heap.size w wc))
 case first =>
  as_aux_lemma =>
  have H := HC11.out
  clear HC11
  replace H := sqbi H
  obtain ⟨⟨t434, t435⟩, A37, H⟩ := H
  replace H : ((laws_sameInts.f k t420 t435).bind fun t438 => (if t438 = true then ((spec_GapsMove.f k t408 t409 (wrap64 (1 + (Int.tmod (wrap64 (t416)) (wrap64 ((t412.length : Int) + 1))))) (Int.tmod (wrap64 (t417)) (wrap64 ((t412.length : Int) + 1))) (wrap64 ((Int.tmod (wrap64 (t418)) 11) - 5))).bind fun bt439 => ((laws_sameInts.f k t425 bt439.2).bind fun t443 => (if t443 = true then ((spec_GapsCut.f k t408 t409 (wrap64 (1 + (Int.tmod (wrap64 (t416)) (wrap64 ((t412.length : Int) + 1))))) (Int.tmod (wrap64 (t417)) (wrap64 ((t412.length : Int) + 1))) (wrap64 ((Int.tmod (wrap64 (t418)) 11) - 5))).bind fun bt444 => ((laws_sameInts.f k t430 bt444.2).bind fun t448 => (laws_FnGapsDo.j0 k l0 t412 (wrap64 (1 + (Int.tmod (wrap64 (t416)) (wrap64 ((t412.length : Int) + 1))))) (Int.tmod (wrap64 (t417)) (wrap64 ((t412.length : Int) + 1))) (wrap64 ((Int.tmod (wrap64 (t418)) 11) - 5)) (!t448) t408 t409 t419 t420 t424 t425 t429 t430))) else (laws_FnGapsDo.j0 k l0 t412 (wrap64 (1 + (Int.tmod (wrap64 (t416)) (wrap64 ((t412.length : Int) + 1))))) (Int.tmod (wrap64 (t417)) (wrap64 ((t412.length : Int) + 1))) (wrap64 ((Int.tmod (wrap64 (t418)) 11) - 5)) true t408 t409 t419 t420 t424 t425 t429 t430)))) else (laws_FnGapsDo.j0 k l0 t412 (wrap64 (1 + (Int.tmod (wrap64 (t416)) (wrap64 ((t412.length : Int) + 1))))) (Int.tmod (wrap64 (t417)) (wrap64 ((t412.length : Int) + 1))) (wrap64 ((Int.tmod (wrap64 (t418)) 11) - 5)) true t408 t409 t419 t420 t424 t425 t429 t430))) = some true := H
  replace H := sqbi H
  obtain ⟨t438, A38, H⟩ := H
  replace H : (if t438 = true then ((spec_GapsMove.f k t408 t409 (wrap64 (1 + (Int.tmod (wrap64 (t416)) (wrap64 ((t412.length : Int) + 1))))) (Int.tmod (wrap64 (t417)) (wrap64 ((t412.length : Int) + 1))) (wrap64 ((Int.tmod (wrap64 (t418)) 11) - 5))).bind fun bt439 => ((laws_sameInts.f k t425 bt439.2).bind fun t443 => (if t443 = true then ((spec_GapsCut.f k t408 t409 (wrap64 (1 + (Int.tmod (wrap64 (t416)) (wrap64 ((t412.length : Int) + 1))))) (Int.tmod (wrap64 (t417)) (wrap64 ((t412.length : Int) + 1))) (wrap64 ((Int.tmod (wrap64 (t418)) 11) - 5))).bind fun bt444 => ((laws_sameInts.f k t430 bt444.2).bind fun t448 => (laws_FnGapsDo.j0 k l0 t412 (wrap64 (1 + (Int.tmod (wrap64 (t416)) (wrap64 ((t412.length : Int) + 1))))) (Int.tmod (wrap64 (t417)) (wrap64 ((t412.length : Int) + 1))) (wrap64 ((Int.tmod (wrap64 (t418)) 11) - 5)) (!t448) t408 t409 t419 t420 t424 t425 t429 t430))) else (laws_FnGapsDo.j0 k l0 t412 (wrap64 (1 + (Int.tmod (wrap64 (t416)) (wrap64 ((t412.length : Int) + 1))))) (Int.tmod (wrap64 (t417)) (wrap64 ((t412.length : Int) + 1))) (wrap64 ((Int.tmod (wrap64 (t418)) 11) - 5)) true t408 t409 t419 t420 t424 t425 t429 t430)))) else (laws_FnGapsDo.j0 k l0 t412 (wrap64 (1 + (Int.tmod (wrap64 (t416)) (wrap64 ((t412.length : Int) + 1))))) (Int.tmod (wrap64 (t417)) (wrap64 ((t412.length : Int) + 1))) (wrap64 ((Int.tmod (wrap64 (t418)) 11) - 5)) true t408 t409 t419 t420 t424 t425 t429 t430)) = some true := H
  rcases sqI (t438 = true) with c39 | c39
  ·replace c39 := Bool.eq_false_iff.mpr c39
   subst c39
   have H1 : (laws_FnGapsDo.j0 k l0 t412 (wrap64 (1 + (Int.tmod (wrap64 (t416)) (wrap64 ((t412.length : Int) + 1))))) (Int.tmod (wrap64 (t417)) (wrap64 ((t412.length : Int) + 1))) (wrap64 ((Int.tmod (wrap64 (t418)) 11) - 5)) true t408 t409 t419 t420 t424 t425 t429 t430) = some true := by rw [if_neg (show ¬ (false = true) by decide)] at H; exact H
   clear H
   have H := H1
   clear H1
   have H' := Aside0.mk H
   clear H
   try go_wp2
   have n0_ : Aside0 (Kd.R (Kd.int .i64) 3 ((w31.setCell ⟨gb433, 0, none⟩ (.int .i64 t429)).setCell ⟨gb433, 1, none⟩ (.slice Ao36 t430.length co36)) w.heap.size (fun k_ => some k_ ≠ (.slice Ao16 t412.length co16 : Value).ownBlock ∧ some k_ ≠ (.slice Ao21 t420.length co21 : Value).ownBlock ∧ some k_ ≠ (.slice Ao28 t425.length co28 : Value).ownBlock ∧ some k_ ≠ (.slice Ao36 t430.length co36 : Value).ownBlock) (.slice Ao15 t409.length co15) t409) := ⟨by (with_reducible repeat (first | apply Kd.R_alloc | apply Kd.R_drewN | apply Kd.R_drew)); exact Kd.R_mono (Kd.R_far (p := ⟨gb433, 1, none⟩) (Kd.R_far (p := ⟨gb433, 0, none⟩) (Kd.R_types HO411.out BK433.out (by decide)) (fun _ hk => hk.2) (.int .i64 t429)) (fun _ hk => hk.2) (.slice Ao36 t430.length co36)) (fun _ hk => ⟨hk.1.1.1.1, ⟨hk.1.1.1.2, ⟨hk.1.1.2, hk.1.2⟩⟩⟩)⟩
   have n1_ : Aside0 (Kd.R (Kd.int .i64) 3 ((w31.setCell ⟨gb433, 0, none⟩ (.int .i64 t429)).setCell ⟨gb433, 1, none⟩ (.slice Ao36 t430.length co36)) w.heap.size (fun k_ => some k_ ≠ (.slice Ao15 t409.length co15 : Value).ownBlock ∧ some k_ ≠ (.slice Ao21 t420.length co21 : Value).ownBlock ∧ some k_ ≠ (.slice Ao28 t425.length co28 : Value).ownBlock ∧ some k_ ≠ (.slice Ao36 t430.length co36 : Value).ownBlock) (.slice Ao16 t412.length co16) t412) := ⟨by (with_reducible repeat (first | apply Kd.R_alloc | apply Kd.R_drewN | apply Kd.R_drew)); exact Kd.R_mono (Kd.R_far (p := ⟨gb433, 1, none⟩) (Kd.R_far (p := ⟨gb433, 0, none⟩) (Kd.R_types HO414.out BK433.out (by decide)) (fun _ hk => hk.2) (.int .i64 t429)) (fun _ hk => hk.2) (.slice Ao36 t430.length co36)) (fun _ hk => ⟨hk.1.1.1.1, ⟨hk.1.1.1.2, ⟨hk.1.1.2, hk.1.2⟩⟩⟩)⟩
   have n2_ : Aside0 (Kd.R (Kd.int .i64) 3 ((w31.setCell ⟨gb433, 0, none⟩ (.int .i64 t429)).setCell ⟨gb433, 1, none⟩ (.slice Ao36 t430.length co36)) w.heap.size (fun k_ => some k_ ≠ (.slice Ao15 t409.length co15 : Value).ownBlock ∧ some k_ ≠ (.slice Ao16 t412.length co16 : Value).ownBlock ∧ some k_ ≠ (.slice Ao28 t425.length co28 : Value).ownBlock ∧ some k_ ≠ (.slice Ao36 t430.length co36 : Value).ownBlock) (.slice Ao21 t420.length co21) t420) := ⟨by (with_reducible repeat (first | apply Kd.R_alloc | apply Kd.R_drewN | apply Kd.R_drew)); exact Kd.R_mono (Kd.R_far (p := ⟨gb433, 1, none⟩) (Kd.R_far (p := ⟨gb433, 0, none⟩) (Kd.R_types HO422.out BK433.out (by decide)) (fun _ hk => hk.2) (.int .i64 t429)) (fun _ hk => hk.2) (.slice Ao36 t430.length co36)) (fun _ hk => ⟨hk.1.1.1.1.2, ⟨hk.1.1.1.2, ⟨hk.1.1.2, hk.1.2⟩⟩⟩)⟩
   have n3_ : Aside0 (Kd.R (Kd.int .i64) 3 ((w31.setCell ⟨gb433, 0, none⟩ (.int .i64 t429)).setCell ⟨gb433, 1, none⟩ (.slice Ao36 t430.length co36)) w.heap.size (fun k_ => some k_ ≠ (.slice Ao15 t409.length co15 : Value).ownBlock ∧ some k_ ≠ (.slice Ao16 t412.length co16 : Value).ownBlock ∧ some k_ ≠ (.slice Ao21 t420.length co21 : Value).ownBlock ∧ some k_ ≠ (.slice Ao36 t430.length co36 : Value).ownBlock) (.slice Ao28 t425.length co28) t425) := ⟨by (with_reducible repeat (first | apply Kd.R_alloc | apply Kd.R_drewN | apply Kd.R_drew)); exact Kd.R_mono (Kd.R_far (p := ⟨gb433, 1, none⟩) (Kd.R_far (p := ⟨gb433, 0, none⟩) (Kd.R_types HO427.out BK433.out (by decide)) (fun _ hk => hk.2) (.int .i64 t429)) (fun _ hk => hk.2) (.slice Ao36 t430.length co36)) (fun _ hk => ⟨hk.1.1.1.1.2, ⟨hk.1.1.1.2, ⟨hk.1.1.2, hk.1.2⟩⟩⟩)⟩
   have n4_ : Aside0 (Kd.R (Kd.int .i64) 3 ((w31.setCell ⟨gb433, 0, none⟩ (.int .i64 t429)).setCell ⟨gb433, 1, none⟩ (.slice Ao36 t430.length co36)) w.heap.size (fun k_ => some k_ ≠ (.slice Ao15 t409.length co15 : Value).ownBlock ∧ some k_ ≠ (.slice Ao16 t412.length co16 : Value).ownBlock ∧ some k_ ≠ (.slice Ao21 t420.length co21 : Value).ownBlock ∧ some k_ ≠ (.slice Ao28 t425.length co28 : Value).ownBlock) (.slice Ao36 t430.length co36) t430) := ⟨by (with_reducible repeat (first | apply Kd.R_alloc | apply Kd.R_drewN | apply Kd.R_drew)); exact Kd.R_mono (Kd.R_far (p := ⟨gb433, 1, none⟩) (Kd.R_far (p := ⟨gb433, 0, none⟩) (Kd.R_types HO432.out BK433.out (by decide)) (fun _ hk => hk.2) (.int .i64 t429)) (fun _ hk => hk.2) (.slice Ao36 t430.length co36)) (fun _ hk => ⟨hk.1.1.1.1.2, ⟨hk.1.1.1.2, ⟨hk.1.1.2, hk.1.2⟩⟩⟩)⟩
   have n5_ : Aside0 (((w31.setCell ⟨gb433, 0, none⟩ (.int .i64 t429)).setCell ⟨gb433, 1, none⟩ (.slice Ao36 t430.length co36)).heap[gb415]? = some (.cells #[.int .i64 t408, .slice Ao15 t409.length co15] 41 (0, 0))) := ⟨by refine sqt ?_; refine blk_far ?_ NB415_433.out _; refine sqt ?_; refine blk_far ?_ NB415_433.out _; refine sqt ?_; exact BK415.out⟩
   have n6_ : Aside0 (((w31.setCell ⟨gb433, 0, none⟩ (.int .i64 t429)).setCell ⟨gb433, 1, none⟩ (.slice Ao36 t430.length co36)).heap[gb423]? = some (.cells #[.int .i64 t419, .slice Ao21 t420.length co21] 41 (0, 0))) := ⟨by refine sqt ?_; refine blk_far ?_ NB423_433.out _; refine sqt ?_; refine blk_far ?_ NB423_433.out _; refine sqt ?_; exact BK423.out⟩
   have n7_ : Aside0 (((w31.setCell ⟨gb433, 0, none⟩ (.int .i64 t429)).setCell ⟨gb433, 1, none⟩ (.slice Ao36 t430.length co36)).heap[gb428]? = some (.cells #[.int .i64 t424, .slice Ao28 t425.length co28] 41 (0, 0))) := ⟨by refine sqt ?_; refine blk_far ?_ NB428_433.out _; refine sqt ?_; refine blk_far ?_ NB428_433.out _; refine sqt ?_; exact BK428.out⟩
   have n8_ : Aside0 (((w31.setCell ⟨gb433, 0, none⟩ (.int .i64 t429)).setCell ⟨gb433, 1, none⟩ (.slice Ao36 t430.length co36)).heap[gb433]? = some (.cells #[.int .i64 t429, .slice Ao36 t430.length co36] 41 (0, 0))) := ⟨by refine sqt ?_; refine blk_put (cs := #[.int .i64 t429, .slice none 0 0]) ?_ 1 _ rfl; refine sqt ?_; refine blk_put (cs := #[.int .i64 0, .slice none 0 0]) ?_ 0 _ rfl; refine sqt ?_; exact BK433.out⟩
   have n9_ : Aside0 (Below w.heap.size w ((w31.setCell ⟨gb433, 0, none⟩ (.int .i64 t429)).setCell ⟨gb433, 1, none⟩ (.slice Ao36 t430.length co36))) := sqh HB
   (try clear HO411)
   (try clear HO414)
   (try clear HO422)
   (try clear HO427)
   (try clear HO432)
   (try clear BK415)
   (try clear BK423)
   (try clear BK428)
   (try clear BK433)
   (try clear HB)
   generalize ((w31.setCell ⟨gb433, 0, none⟩ (.int .i64 t429)).setCell ⟨gb433, 1, none⟩ (.slice Ao36 t430.length co36)) = w59 at n0_ n1_ n2_ n3_ n4_ n5_ n6_ n7_ n8_ n9_ ⊢
   have HO411 := n0_
   have HO414 := n1_
   have HO422 := n2_
   have HO427 := n3_
   have HO432 := n4_
   have BK415 := n5_
   have BK423 := n6_
   have BK428 := n7_
   have BK433 := n8_
   have HB := n9_
   clear n0_ n1_ n2_ n3_ n4_ n5_ n6_ n7_ n8_ n9_
   replace HO411 := Aside0.mk (Kd.R_drew HO411.out)
   replace HO414 := Aside0.mk (Kd.R_drew HO414.out)
   replace HO422 := Aside0.mk (Kd.R_drew HO422.out)
   replace HO427 := Aside0.mk (Kd.R_drew HO427.out)
   replace HO432 := Aside0.mk (Kd.R_drew HO432.out)
   replace BK415 := Aside0.mk (blk_drew BK415.out)
   replace BK423 := Aside0.mk (blk_drew BK423.out)
   replace BK428 := Aside0.mk (blk_drew BK428.out)
   replace BK433 := Aside0.mk (blk_drew BK433.out)
   replace HB := Aside0.mk (below_drew1 HB.out)
   refine start_ (n := 32) (S := fun w' => w'.cell? ⟨gb423, 0, none⟩ = some (.int .i64 t419) ∧ w'.cell? ⟨gb423, 1, none⟩ = some (.slice Ao21 t420.length co21) ∧ w'.cell? ⟨gb415, 0, none⟩ = some (.int .i64 t408) ∧ w'.cell? ⟨gb415, 1, none⟩ = some (.slice Ao15 t409.length co15)) (ds := []) #[false, false, false, false, false, false, false, false, false, false, false, false, false, false, false, false, false, false, false, false, false, false, false, false, false, false, false, false, false, false, false, false] (by kernel_rfl) rfl rfl sqz (fun hHeld => ?_); refine with_tabW laws_FnGapsDo.tab10 laws_FnGapsDo.bits10 (fun HT_ HW_ => ?_)
   generalize w59.drew = w60 at HO411 HO414 HO422 HO427 HO432 BK415 BK423 BK428 BK433 HB hHeld ⊢
   refine sqp HT_ 0 54 ?_
   refine sqp HT_ 3 57 ?_
   refine sqw HT_ HW_ 1 55 hHeld ?_
   refine sqw HT_ HW_ 2 56 hHeld ?_
   refine sqo HT_ 4 58 (fun K hK => ?_)
   refine sqG Try.func51 #[.agg #[.int .i64 t408, .slice Ao15 t409.length co15], .int .i64 (wrap64 (1 + (Int.tmod (wrap64 (t416)) (wrap64 ((t412.length : Int) + 1)))))] ?_
   with_reducible refine (spec_GapsForget.calls k t408 _ _ t409 (wrap64 (1 + (Int.tmod (wrap64 (t416)) (wrap64 ((t412.length : Int) + 1))))) t434 t435 _ ?side1 ?side2 A37.out).mono ?_
   (case side1 => exact sqC (Kd.R_reads' HO411.out).2.2)
   (case side2 => exact (Kd.R_reads' HO411.out).2.1)
   rintro e w61 ⟨v436, rfl, ho0, hb⟩
   refine ⟨_, rfl, ?_⟩
   have n0_ := Aside0.mk (Kd.R_elder' (sqy HO411.out) (Kd.R_base ho0) hb)
   have n1_ := Aside0.mk (Kd.R_elder' (sqy HO414.out) (Kd.R_base ho0) hb)
   have n2_ := Aside0.mk (Kd.R_elder' (sqy HO422.out) (Kd.R_base ho0) hb)
   have n3_ := Aside0.mk (Kd.R_elder' (sqy HO427.out) (Kd.R_base ho0) hb)
   have n4_ := Aside0.mk (Kd.R_elder' (sqy HO432.out) (Kd.R_base ho0) hb)
   have n5_ := Aside0.mk (Kd.R_lower (Kd.R_new' (Kd.R_new' (Kd.R_new' (Kd.R_new' (Kd.R_new' ho0 (Kd.R_lt (sqy HO411.out))) (Kd.R_lt (sqy HO414.out))) (Kd.R_lt (sqy HO422.out))) (Kd.R_lt (sqy HO427.out))) (Kd.R_lt (sqy HO432.out))) (below_size (sqB HB)))
   have n6_ := sqb BK415 hb
   have n7_ := sqb BK423 hb
   have n8_ := sqb BK428 hb
   have n9_ := sqb BK433 hb
   have n10_ := sqs HB hb
   clear HO411
   clear HO414
   clear HO422
   clear HO427
   clear HO432
   clear BK415
   clear BK423
   clear BK428
   clear BK433
   clear HB
   have HO411 := n0_
   have HO414 := n1_
   have HO422 := n2_
   have HO427 := n3_
   have HO432 := n4_
   have HO437 := n5_
   have BK415 := n6_
   have BK423 := n7_
   have BK428 := n8_
   have BK433 := n9_
   have HB := n10_
   clear n0_ n1_ n2_ n3_ n4_ n5_ n6_ n7_ n8_ n9_ n10_
   (try clear hb)
   (try clear hb2)
   (try clear hk)
   (try clear hi)
   (try clear ho0)
   obtain ⟨Ao62, co62, eo62⟩ := Kd.R_slice HO437.out
   (first | subst eo62 | (injection eo62 with f1_ f2_ f3_; have f4_ := f1_.symm; have f5_ := f3_.symm; clear f1_ f2_ f3_; subst f4_; subst f5_))
   refine hK.out _ _ sqz (fun hHeld => ?_)
   clear hK K
   refine sqnm ?_
   refine sqp HT_ 5 59 ?_
   refine sqo HT_ 6 60 (fun K hK => ?_)
   refine sqG Try.func27 #[.slice Ao21 t420.length co21, .slice Ao62 t435.length co62] ?_
   with_reducible refine (laws_sameInts.calls k _ _ t420 _ _ t435 false _ ?side1 ?side2 ?side3 ?side4 A38.out).mono ?_
   (case side1 => exact sqC (Kd.R_reads' HO422.out).2.2)
   (case side2 => exact (Kd.R_reads' HO422.out).2.1)
   (case side3 => exact sqC (Kd.R_reads' HO437.out).2.2)
   (case side4 => exact (Kd.R_reads' HO437.out).2.1)
   rintro e w' ⟨rfl, ⟨nd, rfl⟩⟩
   refine ⟨_, rfl, ?_⟩
   refine hK.out _ _ sqz (fun hHeld => ?_)
   clear hK K
   refine sqnm ?_
   refine sqp HT_ 7 61 ?_
   refine sqp HT_ 8 62 ?_
   refine sqpu HT_ 9 63 ?_
   refine sqpu HT_ 10 64 ?_
   refine sqpu HT_ 11 65 ?_
   refine sqpu HT_ 12 66 ?_
   refine sqpu HT_ 13 67 ?_
   refine sqpu HT_ 14 68 ?_
   refine sqpu HT_ 15 69 ?_
   refine sqpu HT_ 16 70 ?_
   refine sqpu HT_ 17 71 ?_
   refine sqpu HT_ 18 72 ?_
   refine sqp HT_ 19 73 ?_
   refine sqp HT_ 20 74 ?_
   refine sqpu HT_ 21 75 ?_
   refine sqpu HT_ 22 76 ?_
   refine sqpu HT_ 23 77 ?_
   refine sqpu HT_ 24 78 ?_
   refine sqpu HT_ 25 79 ?_
   refine sqpu HT_ 26 80 ?_
   refine sqpu HT_ 27 81 ?_
   refine sqpu HT_ 28 82 ?_
   refine sqpu HT_ 29 83 ?_
   refine sqpu HT_ 30 84 ?_
   refine sqp HT_ 31 85 ?_
   refine done_ (done_of HT_.out (by kernel_rfl)) ?_
   try go_wp2
   go_meet
   case rel => exact ⟨_, (true), (by first | rfl | (simp; done) | (simp [*]; done)), H', ⟨by first | omega | exact Nat.le_refl _⟩, ⟨by (with_reducible repeat (first | apply Kd.R_alloc | apply Kd.R_drewN | apply Kd.R_drew)); exact Kd.R_mono HO414.out (fun _ hk => ⟨hk.1.1, ⟨hk.1.2.1, ⟨hk.1.2.2.1, hk.1.2.2.2⟩⟩⟩)⟩, ⟨by (with_reducible repeat (first | apply Kd.R_alloc | apply Kd.R_drewN | apply Kd.R_drew)); exact Kd.R_mono HO411.out (fun _ hk => ⟨hk.1.1, ⟨hk.1.2.1, ⟨hk.1.2.2.1, hk.1.2.2.2⟩⟩⟩)⟩, ⟨by (with_reducible repeat (first | apply Kd.R_alloc | apply Kd.R_drewN | apply Kd.R_drew)); exact Kd.R_mono HO422.out (fun _ hk => ⟨hk.1.2.1, ⟨hk.1.1, ⟨hk.1.2.2.1, hk.1.2.2.2⟩⟩⟩)⟩, ⟨by (with_reducible repeat (first | apply Kd.R_alloc | apply Kd.R_drewN | apply Kd.R_drew)); exact Kd.R_mono HO427.out (fun _ hk => ⟨hk.1.2.1, ⟨hk.1.1, ⟨hk.1.2.2.1, hk.1.2.2.2⟩⟩⟩)⟩, ⟨by (with_reducible repeat (first | apply Kd.R_alloc | apply Kd.R_drewN | apply Kd.R_drew)); exact Kd.R_mono HO432.out (fun _ hk => ⟨hk.1.2.1, ⟨hk.1.1, ⟨hk.1.2.2.1, hk.1.2.2.2⟩⟩⟩)⟩, sqk BK415, sqk BK423, sqk BK428, sqk BK433, sqh HB⟩
  subst c39
  have H1 : ((spec_GapsMove.f k t408 t409 (wrap64 (1 + (Int.tmod (wrap64 (t416)) (wrap64 ((t412.length : Int) + 1))))) (Int.tmod (wrap64 (t417)) (wrap64 ((t412.length : Int) + 1))) (wrap64 ((Int.tmod (wrap64 (t418)) 11) - 5))).bind fun bt439 => ((laws_sameInts.f k t425 bt439.2).bind fun t443 => (if t443 = true then ((spec_GapsCut.f k t408 t409 (wrap64 (1 + (Int.tmod (wrap64 (t416)) (wrap64 ((t412.length : Int) + 1))))) (Int.tmod (wrap64 (t417)) (wrap64 ((t412.length : Int) + 1))) (wrap64 ((Int.tmod (wrap64 (t418)) 11) - 5))).bind fun bt444 => ((laws_sameInts.f k t430 bt444.2).bind fun t448 => (laws_FnGapsDo.j0 k l0 t412 (wrap64 (1 + (Int.tmod (wrap64 (t416)) (wrap64 ((t412.length : Int) + 1))))) (Int.tmod (wrap64 (t417)) (wrap64 ((t412.length : Int) + 1))) (wrap64 ((Int.tmod (wrap64 (t418)) 11) - 5)) (!t448) t408 t409 t419 t420 t424 t425 t429 t430))) else (laws_FnGapsDo.j0 k l0 t412 (wrap64 (1 + (Int.tmod (wrap64 (t416)) (wrap64 ((t412.length : Int) + 1))))) (Int.tmod (wrap64 (t417)) (wrap64 ((t412.length : Int) + 1))) (wrap64 ((Int.tmod (wrap64 (t418)) 11) - 5)) true t408 t409 t419 t420 t424 t425 t429 t430)))) = some true := by rw [if_pos rfl] at H; exact H
  clear H
  have H := H1
  clear H1
  replace H := sqbi H
  obtain ⟨⟨t439, t440⟩, A40, H⟩ := H
  replace H : ((laws_sameInts.f k t425 t440).bind fun t443 => (if t443 = true then ((spec_GapsCut.f k t408 t409 (wrap64 (1 + (Int.tmod (wrap64 (t416)) (wrap64 ((t412.length : Int) + 1))))) (Int.tmod (wrap64 (t417)) (wrap64 ((t412.length : Int) + 1))) (wrap64 ((Int.tmod (wrap64 (t418)) 11) - 5))).bind fun bt444 => ((laws_sameInts.f k t430 bt444.2).bind fun t448 => (laws_FnGapsDo.j0 k l0 t412 (wrap64 (1 + (Int.tmod (wrap64 (t416)) (wrap64 ((t412.length : Int) + 1))))) (Int.tmod (wrap64 (t417)) (wrap64 ((t412.length : Int) + 1))) (wrap64 ((Int.tmod (wrap64 (t418)) 11) - 5)) (!t448) t408 t409 t419 t420 t424 t425 t429 t430))) else (laws_FnGapsDo.j0 k l0 t412 (wrap64 (1 + (Int.tmod (wrap64 (t416)) (wrap64 ((t412.length : Int) + 1))))) (Int.tmod (wrap64 (t417)) (wrap64 ((t412.length : Int) + 1))) (wrap64 ((Int.tmod (wrap64 (t418)) 11) - 5)) true t408 t409 t419 t420 t424 t425 t429 t430))) = some true := H
  replace H := sqbi H
  obtain ⟨t443, A41, H⟩ := H
  replace H : (if t443 = true then ((spec_GapsCut.f k t408 t409 (wrap64 (1 + (Int.tmod (wrap64 (t416)) (wrap64 ((t412.length : Int) + 1))))) (Int.tmod (wrap64 (t417)) (wrap64 ((t412.length : Int) + 1))) (wrap64 ((Int.tmod (wrap64 (t418)) 11) - 5))).bind fun bt444 => ((laws_sameInts.f k t430 bt444.2).bind fun t448 => (laws_FnGapsDo.j0 k l0 t412 (wrap64 (1 + (Int.tmod (wrap64 (t416)) (wrap64 ((t412.length : Int) + 1))))) (Int.tmod (wrap64 (t417)) (wrap64 ((t412.length : Int) + 1))) (wrap64 ((Int.tmod (wrap64 (t418)) 11) - 5)) (!t448) t408 t409 t419 t420 t424 t425 t429 t430))) else (laws_FnGapsDo.j0 k l0 t412 (wrap64 (1 + (Int.tmod (wrap64 (t416)) (wrap64 ((t412.length : Int) + 1))))) (Int.tmod (wrap64 (t417)) (wrap64 ((t412.length : Int) + 1))) (wrap64 ((Int.tmod (wrap64 (t418)) 11) - 5)) true t408 t409 t419 t420 t424 t425 t429 t430)) = some true := H
  rcases sqI (t443 = true) with c42 | c42
  ·replace c42 := Bool.eq_false_iff.mpr c42
   subst c42
   have H1 : (laws_FnGapsDo.j0 k l0 t412 (wrap64 (1 + (Int.tmod (wrap64 (t416)) (wrap64 ((t412.length : Int) + 1))))) (Int.tmod (wrap64 (t417)) (wrap64 ((t412.length : Int) + 1))) (wrap64 ((Int.tmod (wrap64 (t418)) 11) - 5)) true t408 t409 t419 t420 t424 t425 t429 t430) = some true := by rw [if_neg (show ¬ (false = true) by decide)] at H; exact H
   clear H
   have H := H1
   clear H1
   have H' := Aside0.mk H
   clear H
   try go_wp2
   have n0_ : Aside0 (Kd.R (Kd.int .i64) 3 ((w31.setCell ⟨gb433, 0, none⟩ (.int .i64 t429)).setCell ⟨gb433, 1, none⟩ (.slice Ao36 t430.length co36)) w.heap.size (fun k_ => some k_ ≠ (.slice Ao16 t412.length co16 : Value).ownBlock ∧ some k_ ≠ (.slice Ao21 t420.length co21 : Value).ownBlock ∧ some k_ ≠ (.slice Ao28 t425.length co28 : Value).ownBlock ∧ some k_ ≠ (.slice Ao36 t430.length co36 : Value).ownBlock) (.slice Ao15 t409.length co15) t409) := ⟨by (with_reducible repeat (first | apply Kd.R_alloc | apply Kd.R_drewN | apply Kd.R_drew)); exact Kd.R_mono (Kd.R_far (p := ⟨gb433, 1, none⟩) (Kd.R_far (p := ⟨gb433, 0, none⟩) (Kd.R_types HO411.out BK433.out (by decide)) (fun _ hk => hk.2) (.int .i64 t429)) (fun _ hk => hk.2) (.slice Ao36 t430.length co36)) (fun _ hk => ⟨hk.1.1.1.1, ⟨hk.1.1.1.2, ⟨hk.1.1.2, hk.1.2⟩⟩⟩)⟩
   have n1_ : Aside0 (Kd.R (Kd.int .i64) 3 ((w31.setCell ⟨gb433, 0, none⟩ (.int .i64 t429)).setCell ⟨gb433, 1, none⟩ (.slice Ao36 t430.length co36)) w.heap.size (fun k_ => some k_ ≠ (.slice Ao15 t409.length co15 : Value).ownBlock ∧ some k_ ≠ (.slice Ao21 t420.length co21 : Value).ownBlock ∧ some k_ ≠ (.slice Ao28 t425.length co28 : Value).ownBlock ∧ some k_ ≠ (.slice Ao36 t430.length co36 : Value).ownBlock) (.slice Ao16 t412.length co16) t412) := ⟨by (with_reducible repeat (first | apply Kd.R_alloc | apply Kd.R_drewN | apply Kd.R_drew)); exact Kd.R_mono (Kd.R_far (p := ⟨gb433, 1, none⟩) (Kd.R_far (p := ⟨gb433, 0, none⟩) (Kd.R_types HO414.out BK433.out (by decide)) (fun _ hk => hk.2) (.int .i64 t429)) (fun _ hk => hk.2) (.slice Ao36 t430.length co36)) (fun _ hk => ⟨hk.1.1.1.1, ⟨hk.1.1.1.2, ⟨hk.1.1.2, hk.1.2⟩⟩⟩)⟩
   have n2_ : Aside0 (Kd.R (Kd.int .i64) 3 ((w31.setCell ⟨gb433, 0, none⟩ (.int .i64 t429)).setCell ⟨gb433, 1, none⟩ (.slice Ao36 t430.length co36)) w.heap.size (fun k_ => some k_ ≠ (.slice Ao15 t409.length co15 : Value).ownBlock ∧ some k_ ≠ (.slice Ao16 t412.length co16 : Value).ownBlock ∧ some k_ ≠ (.slice Ao28 t425.length co28 : Value).ownBlock ∧ some k_ ≠ (.slice Ao36 t430.length co36 : Value).ownBlock) (.slice Ao21 t420.length co21) t420) := ⟨by (with_reducible repeat (first | apply Kd.R_alloc | apply Kd.R_drewN | apply Kd.R_drew)); exact Kd.R_mono (Kd.R_far (p := ⟨gb433, 1, none⟩) (Kd.R_far (p := ⟨gb433, 0, none⟩) (Kd.R_types HO422.out BK433.out (by decide)) (fun _ hk => hk.2) (.int .i64 t429)) (fun _ hk => hk.2) (.slice Ao36 t430.length co36)) (fun _ hk => ⟨hk.1.1.1.1.2, ⟨hk.1.1.1.2, ⟨hk.1.1.2, hk.1.2⟩⟩⟩)⟩
   have n3_ : Aside0 (Kd.R (Kd.int .i64) 3 ((w31.setCell ⟨gb433, 0, none⟩ (.int .i64 t429)).setCell ⟨gb433, 1, none⟩ (.slice Ao36 t430.length co36)) w.heap.size (fun k_ => some k_ ≠ (.slice Ao15 t409.length co15 : Value).ownBlock ∧ some k_ ≠ (.slice Ao16 t412.length co16 : Value).ownBlock ∧ some k_ ≠ (.slice Ao21 t420.length co21 : Value).ownBlock ∧ some k_ ≠ (.slice Ao36 t430.length co36 : Value).ownBlock) (.slice Ao28 t425.length co28) t425) := ⟨by (with_reducible repeat (first | apply Kd.R_alloc | apply Kd.R_drewN | apply Kd.R_drew)); exact Kd.R_mono (Kd.R_far (p := ⟨gb433, 1, none⟩) (Kd.R_far (p := ⟨gb433, 0, none⟩) (Kd.R_types HO427.out BK433.out (by decide)) (fun _ hk => hk.2) (.int .i64 t429)) (fun _ hk => hk.2) (.slice Ao36 t430.length co36)) (fun _ hk => ⟨hk.1.1.1.1.2, ⟨hk.1.1.1.2, ⟨hk.1.1.2, hk.1.2⟩⟩⟩)⟩
   have n4_ : Aside0 (Kd.R (Kd.int .i64) 3 ((w31.setCell ⟨gb433, 0, none⟩ (.int .i64 t429)).setCell ⟨gb433, 1, none⟩ (.slice Ao36 t430.length co36)) w.heap.size (fun k_ => some k_ ≠ (.slice Ao15 t409.length co15 : Value).ownBlock ∧ some k_ ≠ (.slice Ao16 t412.length co16 : Value).ownBlock ∧ some k_ ≠ (.slice Ao21 t420.length co21 : Value).ownBlock ∧ some k_ ≠ (.slice Ao28 t425.length co28 : Value).ownBlock) (.slice Ao36 t430.length co36) t430) := ⟨by (with_reducible repeat (first | apply Kd.R_alloc | apply Kd.R_drewN | apply Kd.R_drew)); exact Kd.R_mono (Kd.R_far (p := ⟨gb433, 1, none⟩) (Kd.R_far (p := ⟨gb433, 0, none⟩) (Kd.R_types HO432.out BK433.out (by decide)) (fun _ hk => hk.2) (.int .i64 t429)) (fun _ hk => hk.2) (.slice Ao36 t430.length co36)) (fun _ hk => ⟨hk.1.1.1.1.2, ⟨hk.1.1.1.2, ⟨hk.1.1.2, hk.1.2⟩⟩⟩)⟩
   have n5_ : Aside0 (((w31.setCell ⟨gb433, 0, none⟩ (.int .i64 t429)).setCell ⟨gb433, 1, none⟩ (.slice Ao36 t430.length co36)).heap[gb415]? = some (.cells #[.int .i64 t408, .slice Ao15 t409.length co15] 41 (0, 0))) := ⟨by refine sqt ?_; refine blk_far ?_ NB415_433.out _; refine sqt ?_; refine blk_far ?_ NB415_433.out _; refine sqt ?_; exact BK415.out⟩
   have n6_ : Aside0 (((w31.setCell ⟨gb433, 0, none⟩ (.int .i64 t429)).setCell ⟨gb433, 1, none⟩ (.slice Ao36 t430.length co36)).heap[gb423]? = some (.cells #[.int .i64 t419, .slice Ao21 t420.length co21] 41 (0, 0))) := ⟨by refine sqt ?_; refine blk_far ?_ NB423_433.out _; refine sqt ?_; refine blk_far ?_ NB423_433.out _; refine sqt ?_; exact BK423.out⟩
   have n7_ : Aside0 (((w31.setCell ⟨gb433, 0, none⟩ (.int .i64 t429)).setCell ⟨gb433, 1, none⟩ (.slice Ao36 t430.length co36)).heap[gb428]? = some (.cells #[.int .i64 t424, .slice Ao28 t425.length co28] 41 (0, 0))) := ⟨by refine sqt ?_; refine blk_far ?_ NB428_433.out _; refine sqt ?_; refine blk_far ?_ NB428_433.out _; refine sqt ?_; exact BK428.out⟩
   have n8_ : Aside0 (((w31.setCell ⟨gb433, 0, none⟩ (.int .i64 t429)).setCell ⟨gb433, 1, none⟩ (.slice Ao36 t430.length co36)).heap[gb433]? = some (.cells #[.int .i64 t429, .slice Ao36 t430.length co36] 41 (0, 0))) := ⟨by refine sqt ?_; refine blk_put (cs := #[.int .i64 t429, .slice none 0 0]) ?_ 1 _ rfl; refine sqt ?_; refine blk_put (cs := #[.int .i64 0, .slice none 0 0]) ?_ 0 _ rfl; refine sqt ?_; exact BK433.out⟩
   have n9_ : Aside0 (Below w.heap.size w ((w31.setCell ⟨gb433, 0, none⟩ (.int .i64 t429)).setCell ⟨gb433, 1, none⟩ (.slice Ao36 t430.length co36))) := sqh HB
   (try clear HO411)
   (try clear HO414)
   (try clear HO422)
   (try clear HO427)
   (try clear HO432)
   (try clear BK415)
   (try clear BK423)
   (try clear BK428)
   (try clear BK433)
   (try clear HB)
   generalize ((w31.setCell ⟨gb433, 0, none⟩ (.int .i64 t429)).setCell ⟨gb433, 1, none⟩ (.slice Ao36 t430.length co36)) = w53 at n0_ n1_ n2_ n3_ n4_ n5_ n6_ n7_ n8_ n9_ ⊢
   have HO411 := n0_
   have HO414 := n1_
   have HO422 := n2_
   have HO427 := n3_
   have HO432 := n4_
   have BK415 := n5_
   have BK423 := n6_
   have BK428 := n7_
   have BK433 := n8_
   have HB := n9_
   clear n0_ n1_ n2_ n3_ n4_ n5_ n6_ n7_ n8_ n9_
   replace HO411 := Aside0.mk (Kd.R_drew HO411.out)
   replace HO414 := Aside0.mk (Kd.R_drew HO414.out)
   replace HO422 := Aside0.mk (Kd.R_drew HO422.out)
   replace HO427 := Aside0.mk (Kd.R_drew HO427.out)
   replace HO432 := Aside0.mk (Kd.R_drew HO432.out)
   replace BK415 := Aside0.mk (blk_drew BK415.out)
   replace BK423 := Aside0.mk (blk_drew BK423.out)
   replace BK428 := Aside0.mk (blk_drew BK428.out)
   replace BK433 := Aside0.mk (blk_drew BK433.out)
   replace HB := Aside0.mk (below_drew1 HB.out)
   refine start_ (n := 32) (S := fun w' => w'.cell? ⟨gb423, 0, none⟩ = some (.int .i64 t419) ∧ w'.cell? ⟨gb423, 1, none⟩ = some (.slice Ao21 t420.length co21) ∧ w'.cell? ⟨gb415, 0, none⟩ = some (.int .i64 t408) ∧ w'.cell? ⟨gb415, 1, none⟩ = some (.slice Ao15 t409.length co15) ∧ w'.cell? ⟨gb428, 0, none⟩ = some (.int .i64 t424) ∧ w'.cell? ⟨gb428, 1, none⟩ = some (.slice Ao28 t425.length co28)) (ds := []) #[false, false, false, false, false, false, false, false, false, false, false, false, false, false, false, false, false, false, false, false, false, false, false, false, false, false, false, false, false, false, false, false] (by kernel_rfl) rfl rfl sqz (fun hHeld => ?_); refine with_tabW laws_FnGapsDo.tab10 laws_FnGapsDo.bits10 (fun HT_ HW_ => ?_)
   generalize w53.drew = w54 at HO411 HO414 HO422 HO427 HO432 BK415 BK423 BK428 BK433 HB hHeld ⊢
   refine sqp HT_ 0 54 ?_
   refine sqp HT_ 3 57 ?_
   refine sqw HT_ HW_ 1 55 hHeld ?_
   refine sqw HT_ HW_ 2 56 hHeld ?_
   refine sqo HT_ 4 58 (fun K hK => ?_)
   refine sqG Try.func51 #[.agg #[.int .i64 t408, .slice Ao15 t409.length co15], .int .i64 (wrap64 (1 + (Int.tmod (wrap64 (t416)) (wrap64 ((t412.length : Int) + 1)))))] ?_
   with_reducible refine (spec_GapsForget.calls k t408 _ _ t409 (wrap64 (1 + (Int.tmod (wrap64 (t416)) (wrap64 ((t412.length : Int) + 1))))) t434 t435 _ ?side1 ?side2 A37.out).mono ?_
   (case side1 => exact sqC (Kd.R_reads' HO411.out).2.2)
   (case side2 => exact (Kd.R_reads' HO411.out).2.1)
   rintro e w55 ⟨v436, rfl, ho0, hb⟩
   refine ⟨_, rfl, ?_⟩
   have n0_ := Aside0.mk (Kd.R_elder' (sqy HO411.out) (Kd.R_base ho0) hb)
   have n1_ := Aside0.mk (Kd.R_elder' (sqy HO414.out) (Kd.R_base ho0) hb)
   have n2_ := Aside0.mk (Kd.R_elder' (sqy HO422.out) (Kd.R_base ho0) hb)
   have n3_ := Aside0.mk (Kd.R_elder' (sqy HO427.out) (Kd.R_base ho0) hb)
   have n4_ := Aside0.mk (Kd.R_elder' (sqy HO432.out) (Kd.R_base ho0) hb)
   have n5_ := Aside0.mk (Kd.R_lower (Kd.R_new' (Kd.R_new' (Kd.R_new' (Kd.R_new' (Kd.R_new' ho0 (Kd.R_lt (sqy HO411.out))) (Kd.R_lt (sqy HO414.out))) (Kd.R_lt (sqy HO422.out))) (Kd.R_lt (sqy HO427.out))) (Kd.R_lt (sqy HO432.out))) (below_size (sqB HB)))
   have n6_ := sqb BK415 hb
   have n7_ := sqb BK423 hb
   have n8_ := sqb BK428 hb
   have n9_ := sqb BK433 hb
   have n10_ := sqs HB hb
   clear HO411
   clear HO414
   clear HO422
   clear HO427
   clear HO432
   clear BK415
   clear BK423
   clear BK428
   clear BK433
   clear HB
   have HO411 := n0_
   have HO414 := n1_
   have HO422 := n2_
   have HO427 := n3_
   have HO432 := n4_
   have HO437 := n5_
   have BK415 := n6_
   have BK423 := n7_
   have BK428 := n8_
   have BK433 := n9_
   have HB := n10_
   clear n0_ n1_ n2_ n3_ n4_ n5_ n6_ n7_ n8_ n9_ n10_
   (try clear hb)
   (try clear hb2)
   (try clear hk)
   (try clear hi)
   (try clear ho0)
   obtain ⟨Ao56, co56, eo56⟩ := Kd.R_slice HO437.out
   (first | subst eo56 | (injection eo56 with f1_ f2_ f3_; have f4_ := f1_.symm; have f5_ := f3_.symm; clear f1_ f2_ f3_; subst f4_; subst f5_))
   refine hK.out _ _ sqz (fun hHeld => ?_)
   clear hK K
   refine sqnm ?_
   refine sqp HT_ 5 59 ?_
   refine sqo HT_ 6 60 (fun K hK => ?_)
   refine sqG Try.func27 #[.slice Ao21 t420.length co21, .slice Ao56 t435.length co56] ?_
   with_reducible refine (laws_sameInts.calls k _ _ t420 _ _ t435 true _ ?side1 ?side2 ?side3 ?side4 A38.out).mono ?_
   (case side1 => exact sqC (Kd.R_reads' HO422.out).2.2)
   (case side2 => exact (Kd.R_reads' HO422.out).2.1)
   (case side3 => exact sqC (Kd.R_reads' HO437.out).2.2)
   (case side4 => exact (Kd.R_reads' HO437.out).2.1)
   rintro e w' ⟨rfl, ⟨nd, rfl⟩⟩
   refine ⟨_, rfl, ?_⟩
   refine hK.out _ _ sqz (fun hHeld => ?_)
   clear hK K
   refine sqnm ?_
   refine sqp HT_ 7 61 ?_
   refine sqp HT_ 8 62 ?_
   refine sqp HT_ 9 63 ?_
   refine sqp HT_ 12 66 ?_
   refine sqp HT_ 13 67 ?_
   refine sqp HT_ 14 68 ?_
   refine sqw HT_ HW_ 10 64 hHeld ?_
   refine sqw HT_ HW_ 11 65 hHeld ?_
   refine sqo HT_ 15 69 (fun K hK => ?_)
   refine sqG Try.func35 #[.agg #[.int .i64 t408, .slice Ao15 t409.length co15], .int .i64 (wrap64 (1 + (Int.tmod (wrap64 (t416)) (wrap64 ((t412.length : Int) + 1))))), .int .i64 (Int.tmod (wrap64 (t417)) (wrap64 ((t412.length : Int) + 1))), .int .i64 (wrap64 ((Int.tmod (wrap64 (t418)) 11) - 5))] ?_
   with_reducible refine (spec_GapsMove.calls k t408 _ _ t409 (wrap64 (1 + (Int.tmod (wrap64 (t416)) (wrap64 ((t412.length : Int) + 1))))) (Int.tmod (wrap64 (t417)) (wrap64 ((t412.length : Int) + 1))) (wrap64 ((Int.tmod (wrap64 (t418)) 11) - 5)) t439 t440 _ ?side1 ?side2 A40.out).mono ?_
   (case side1 => exact sqC (Kd.R_reads' HO411.out).2.2)
   (case side2 => exact (Kd.R_reads' HO411.out).2.1)
   rintro e w57 ⟨v441, rfl, ho0, hb⟩
   refine ⟨_, rfl, ?_⟩
   have n0_ := Aside0.mk (Kd.R_elder' (sqy HO411.out) (Kd.R_base ho0) hb)
   have n1_ := Aside0.mk (Kd.R_elder' (sqy HO414.out) (Kd.R_base ho0) hb)
   have n2_ := Aside0.mk (Kd.R_elder' (sqy HO422.out) (Kd.R_base ho0) hb)
   have n3_ := Aside0.mk (Kd.R_elder' (sqy HO427.out) (Kd.R_base ho0) hb)
   have n4_ := Aside0.mk (Kd.R_elder' (sqy HO432.out) (Kd.R_base ho0) hb)
   have n5_ := Aside0.mk (Kd.R_elder' (sqy HO437.out) (Kd.R_base ho0) hb)
   have n6_ := Aside0.mk (Kd.R_lower (Kd.R_new' (Kd.R_new' (Kd.R_new' (Kd.R_new' (Kd.R_new' (Kd.R_new' ho0 (Kd.R_lt (sqy HO411.out))) (Kd.R_lt (sqy HO414.out))) (Kd.R_lt (sqy HO422.out))) (Kd.R_lt (sqy HO427.out))) (Kd.R_lt (sqy HO432.out))) (Kd.R_lt (sqy HO437.out))) (below_size (sqB HB)))
   have n7_ := sqb BK415 hb
   have n8_ := sqb BK423 hb
   have n9_ := sqb BK428 hb
   have n10_ := sqb BK433 hb
   have n11_ := sqs HB hb
   clear HO411
   clear HO414
   clear HO422
   clear HO427
   clear HO432
   clear HO437
   clear BK415
   clear BK423
   clear BK428
   clear BK433
   clear HB
   have HO411 := n0_
   have HO414 := n1_
   have HO422 := n2_
   have HO427 := n3_
   have HO432 := n4_
   have HO437 := n5_
   have HO442 := n6_
   have BK415 := n7_
   have BK423 := n8_
   have BK428 := n9_
   have BK433 := n10_
   have HB := n11_
   clear n0_ n1_ n2_ n3_ n4_ n5_ n6_ n7_ n8_ n9_ n10_ n11_
   (try clear hb)
   (try clear hb2)
   (try clear hk)
   (try clear hi)
   (try clear ho0)
   obtain ⟨Ao58, co58, eo58⟩ := Kd.R_slice HO442.out
   (first | subst eo58 | (injection eo58 with f1_ f2_ f3_; have f4_ := f1_.symm; have f5_ := f3_.symm; clear f1_ f2_ f3_; subst f4_; subst f5_))
   refine hK.out _ _ sqz (fun hHeld => ?_)
   clear hK K
   refine sqnm ?_
   refine sqp HT_ 16 70 ?_
   refine sqo HT_ 17 71 (fun K hK => ?_)
   refine sqG Try.func27 #[.slice Ao28 t425.length co28, .slice Ao58 t440.length co58] ?_
   with_reducible refine (laws_sameInts.calls k _ _ t425 _ _ t440 false _ ?side1 ?side2 ?side3 ?side4 A41.out).mono ?_
   (case side1 => exact sqC (Kd.R_reads' HO427.out).2.2)
   (case side2 => exact (Kd.R_reads' HO427.out).2.1)
   (case side3 => exact sqC (Kd.R_reads' HO442.out).2.2)
   (case side4 => exact (Kd.R_reads' HO442.out).2.1)
   rintro e w' ⟨rfl, ⟨nd, rfl⟩⟩
   refine ⟨_, rfl, ?_⟩
   refine hK.out _ _ sqz (fun hHeld => ?_)
   clear hK K
   refine sqnm ?_
   refine sqp HT_ 18 72 ?_
   refine sqp HT_ 19 73 ?_
   refine sqp HT_ 20 74 ?_
   refine sqpu HT_ 21 75 ?_
   refine sqpu HT_ 22 76 ?_
   refine sqpu HT_ 23 77 ?_
   refine sqpu HT_ 24 78 ?_
   refine sqpu HT_ 25 79 ?_
   refine sqpu HT_ 26 80 ?_
   refine sqpu HT_ 27 81 ?_
   refine sqpu HT_ 28 82 ?_
   refine sqpu HT_ 29 83 ?_
   refine sqpu HT_ 30 84 ?_
   refine sqp HT_ 31 85 ?_
   refine done_ (done_of HT_.out (by kernel_rfl)) ?_
   try go_wp2
   go_meet
   case rel => exact ⟨_, (true), (by first | rfl | (simp; done) | (simp [*]; done)), H', ⟨by first | omega | exact Nat.le_refl _⟩, ⟨by (with_reducible repeat (first | apply Kd.R_alloc | apply Kd.R_drewN | apply Kd.R_drew)); exact Kd.R_mono HO414.out (fun _ hk => ⟨hk.1.1.1, ⟨hk.1.1.2.1, ⟨hk.1.1.2.2.1, hk.1.1.2.2.2⟩⟩⟩)⟩, ⟨by (with_reducible repeat (first | apply Kd.R_alloc | apply Kd.R_drewN | apply Kd.R_drew)); exact Kd.R_mono HO411.out (fun _ hk => ⟨hk.1.1.1, ⟨hk.1.1.2.1, ⟨hk.1.1.2.2.1, hk.1.1.2.2.2⟩⟩⟩)⟩, ⟨by (with_reducible repeat (first | apply Kd.R_alloc | apply Kd.R_drewN | apply Kd.R_drew)); exact Kd.R_mono HO422.out (fun _ hk => ⟨hk.1.1.2.1, ⟨hk.1.1.1, ⟨hk.1.1.2.2.1, hk.1.1.2.2.2⟩⟩⟩)⟩, ⟨by (with_reducible repeat (first | apply Kd.R_alloc | apply Kd.R_drewN | apply Kd.R_drew)); exact Kd.R_mono HO427.out (fun _ hk => ⟨hk.1.1.2.1, ⟨hk.1.1.1, ⟨hk.1.1.2.2.1, hk.1.1.2.2.2⟩⟩⟩)⟩, ⟨by (with_reducible repeat (first | apply Kd.R_alloc | apply Kd.R_drewN | apply Kd.R_drew)); exact Kd.R_mono HO432.out (fun _ hk => ⟨hk.1.1.2.1, ⟨hk.1.1.1, ⟨hk.1.1.2.2.1, hk.1.1.2.2.2⟩⟩⟩)⟩, sqk BK415, sqk BK423, sqk BK428, sqk BK433, sqh HB⟩
  subst c42
  have H1 : ((spec_GapsCut.f k t408 t409 (wrap64 (1 + (Int.tmod (wrap64 (t416)) (wrap64 ((t412.length : Int) + 1))))) (Int.tmod (wrap64 (t417)) (wrap64 ((t412.length : Int) + 1))) (wrap64 ((Int.tmod (wrap64 (t418)) 11) - 5))).bind fun bt444 => ((laws_sameInts.f k t430 bt444.2).bind fun t448 => (laws_FnGapsDo.j0 k l0 t412 (wrap64 (1 + (Int.tmod (wrap64 (t416)) (wrap64 ((t412.length : Int) + 1))))) (Int.tmod (wrap64 (t417)) (wrap64 ((t412.length : Int) + 1))) (wrap64 ((Int.tmod (wrap64 (t418)) 11) - 5)) (!t448) t408 t409 t419 t420 t424 t425 t429 t430))) = some true := by rw [if_pos rfl] at H; exact H
  clear H
  have H := H1
  clear H1
  replace H := sqbi H
  obtain ⟨⟨t444, t445⟩, A43, H⟩ := H
  replace H : ((laws_sameInts.f k t430 t445).bind fun t448 => (laws_FnGapsDo.j0 k l0 t412 (wrap64 (1 + (Int.tmod (wrap64 (t416)) (wrap64 ((t412.length : Int) + 1))))) (Int.tmod (wrap64 (t417)) (wrap64 ((t412.length : Int) + 1))) (wrap64 ((Int.tmod (wrap64 (t418)) 11) - 5)) (!t448) t408 t409 t419 t420 t424 t425 t429 t430)) = some true := H
  replace H := sqbi H
  obtain ⟨t448, A44, H⟩ := H
  replace H : (laws_FnGapsDo.j0 k l0 t412 (wrap64 (1 + (Int.tmod (wrap64 (t416)) (wrap64 ((t412.length : Int) + 1))))) (Int.tmod (wrap64 (t417)) (wrap64 ((t412.length : Int) + 1))) (wrap64 ((Int.tmod (wrap64 (t418)) 11) - 5)) (!t448) t408 t409 t419 t420 t424 t425 t429 t430) = some true := H
  have H' := Aside0.mk H
  clear H
  try go_wp2
  have n0_ : Aside0 (Kd.R (Kd.int .i64) 3 ((w31.setCell ⟨gb433, 0, none⟩ (.int .i64 t429)).setCell ⟨gb433, 1, none⟩ (.slice Ao36 t430.length co36)) w.heap.size (fun k_ => some k_ ≠ (.slice Ao16 t412.length co16 : Value).ownBlock ∧ some k_ ≠ (.slice Ao21 t420.length co21 : Value).ownBlock ∧ some k_ ≠ (.slice Ao28 t425.length co28 : Value).ownBlock ∧ some k_ ≠ (.slice Ao36 t430.length co36 : Value).ownBlock) (.slice Ao15 t409.length co15) t409) := ⟨by (with_reducible repeat (first | apply Kd.R_alloc | apply Kd.R_drewN | apply Kd.R_drew)); exact Kd.R_mono (Kd.R_far (p := ⟨gb433, 1, none⟩) (Kd.R_far (p := ⟨gb433, 0, none⟩) (Kd.R_types HO411.out BK433.out (by decide)) (fun _ hk => hk.2) (.int .i64 t429)) (fun _ hk => hk.2) (.slice Ao36 t430.length co36)) (fun _ hk => ⟨hk.1.1.1.1, ⟨hk.1.1.1.2, ⟨hk.1.1.2, hk.1.2⟩⟩⟩)⟩
  have n1_ : Aside0 (Kd.R (Kd.int .i64) 3 ((w31.setCell ⟨gb433, 0, none⟩ (.int .i64 t429)).setCell ⟨gb433, 1, none⟩ (.slice Ao36 t430.length co36)) w.heap.size (fun k_ => some k_ ≠ (.slice Ao15 t409.length co15 : Value).ownBlock ∧ some k_ ≠ (.slice Ao21 t420.length co21 : Value).ownBlock ∧ some k_ ≠ (.slice Ao28 t425.length co28 : Value).ownBlock ∧ some k_ ≠ (.slice Ao36 t430.length co36 : Value).ownBlock) (.slice Ao16 t412.length co16) t412) := ⟨by (with_reducible repeat (first | apply Kd.R_alloc | apply Kd.R_drewN | apply Kd.R_drew)); exact Kd.R_mono (Kd.R_far (p := ⟨gb433, 1, none⟩) (Kd.R_far (p := ⟨gb433, 0, none⟩) (Kd.R_types HO414.out BK433.out (by decide)) (fun _ hk => hk.2) (.int .i64 t429)) (fun _ hk => hk.2) (.slice Ao36 t430.length co36)) (fun _ hk => ⟨hk.1.1.1.1, ⟨hk.1.1.1.2, ⟨hk.1.1.2, hk.1.2⟩⟩⟩)⟩
  have n2_ : Aside0 (Kd.R (Kd.int .i64) 3 ((w31.setCell ⟨gb433, 0, none⟩ (.int .i64 t429)).setCell ⟨gb433, 1, none⟩ (.slice Ao36 t430.length co36)) w.heap.size (fun k_ => some k_ ≠ (.slice Ao15 t409.length co15 : Value).ownBlock ∧ some k_ ≠ (.slice Ao16 t412.length co16 : Value).ownBlock ∧ some k_ ≠ (.slice Ao28 t425.length co28 : Value).ownBlock ∧ some k_ ≠ (.slice Ao36 t430.length co36 : Value).ownBlock) (.slice Ao21 t420.length co21) t420) := ⟨by (with_reducible repeat (first | apply Kd.R_alloc | apply Kd.R_drewN | apply Kd.R_drew)); exact Kd.R_mono (Kd.R_far (p := ⟨gb433, 1, none⟩) (Kd.R_far (p := ⟨gb433, 0, none⟩) (Kd.R_types HO422.out BK433.out (by decide)) (fun _ hk => hk.2) (.int .i64 t429)) (fun _ hk => hk.2) (.slice Ao36 t430.length co36)) (fun _ hk => ⟨hk.1.1.1.1.2, ⟨hk.1.1.1.2, ⟨hk.1.1.2, hk.1.2⟩⟩⟩)⟩
  have n3_ : Aside0 (Kd.R (Kd.int .i64) 3 ((w31.setCell ⟨gb433, 0, none⟩ (.int .i64 t429)).setCell ⟨gb433, 1, none⟩ (.slice Ao36 t430.length co36)) w.heap.size (fun k_ => some k_ ≠ (.slice Ao15 t409.length co15 : Value).ownBlock ∧ some k_ ≠ (.slice Ao16 t412.length co16 : Value).ownBlock ∧ some k_ ≠ (.slice Ao21 t420.length co21 : Value).ownBlock ∧ some k_ ≠ (.slice Ao36 t430.length co36 : Value).ownBlock) (.slice Ao28 t425.length co28) t425) := ⟨by (with_reducible repeat (first | apply Kd.R_alloc | apply Kd.R_drewN | apply Kd.R_drew)); exact Kd.R_mono (Kd.R_far (p := ⟨gb433, 1, none⟩) (Kd.R_far (p := ⟨gb433, 0, none⟩) (Kd.R_types HO427.out BK433.out (by decide)) (fun _ hk => hk.2) (.int .i64 t429)) (fun _ hk => hk.2) (.slice Ao36 t430.length co36)) (fun _ hk => ⟨hk.1.1.1.1.2, ⟨hk.1.1.1.2, ⟨hk.1.1.2, hk.1.2⟩⟩⟩)⟩
  have n4_ : Aside0 (Kd.R (Kd.int .i64) 3 ((w31.setCell ⟨gb433, 0, none⟩ (.int .i64 t429)).setCell ⟨gb433, 1, none⟩ (.slice Ao36 t430.length co36)) w.heap.size (fun k_ => some k_ ≠ (.slice Ao15 t409.length co15 : Value).ownBlock ∧ some k_ ≠ (.slice Ao16 t412.length co16 : Value).ownBlock ∧ some k_ ≠ (.slice Ao21 t420.length co21 : Value).ownBlock ∧ some k_ ≠ (.slice Ao28 t425.length co28 : Value).ownBlock) (.slice Ao36 t430.length co36) t430) := ⟨by (with_reducible repeat (first | apply Kd.R_alloc | apply Kd.R_drewN | apply Kd.R_drew)); exact Kd.R_mono (Kd.R_far (p := ⟨gb433, 1, none⟩) (Kd.R_far (p := ⟨gb433, 0, none⟩) (Kd.R_types HO432.out BK433.out (by decide)) (fun _ hk => hk.2) (.int .i64 t429)) (fun _ hk => hk.2) (.slice Ao36 t430.length co36)) (fun _ hk => ⟨hk.1.1.1.1.2, ⟨hk.1.1.1.2, ⟨hk.1.1.2, hk.1.2⟩⟩⟩)⟩
  have n5_ : Aside0 (((w31.setCell ⟨gb433, 0, none⟩ (.int .i64 t429)).setCell ⟨gb433, 1, none⟩ (.slice Ao36 t430.length co36)).heap[gb415]? = some (.cells #[.int .i64 t408, .slice Ao15 t409.length co15] 41 (0, 0))) := ⟨by refine sqt ?_; refine blk_far ?_ NB415_433.out _; refine sqt ?_; refine blk_far ?_ NB415_433.out _; refine sqt ?_; exact BK415.out⟩
  have n6_ : Aside0 (((w31.setCell ⟨gb433, 0, none⟩ (.int .i64 t429)).setCell ⟨gb433, 1, none⟩ (.slice Ao36 t430.length co36)).heap[gb423]? = some (.cells #[.int .i64 t419, .slice Ao21 t420.length co21] 41 (0, 0))) := ⟨by refine sqt ?_; refine blk_far ?_ NB423_433.out _; refine sqt ?_; refine blk_far ?_ NB423_433.out _; refine sqt ?_; exact BK423.out⟩
  have n7_ : Aside0 (((w31.setCell ⟨gb433, 0, none⟩ (.int .i64 t429)).setCell ⟨gb433, 1, none⟩ (.slice Ao36 t430.length co36)).heap[gb428]? = some (.cells #[.int .i64 t424, .slice Ao28 t425.length co28] 41 (0, 0))) := ⟨by refine sqt ?_; refine blk_far ?_ NB428_433.out _; refine sqt ?_; refine blk_far ?_ NB428_433.out _; refine sqt ?_; exact BK428.out⟩
  have n8_ : Aside0 (((w31.setCell ⟨gb433, 0, none⟩ (.int .i64 t429)).setCell ⟨gb433, 1, none⟩ (.slice Ao36 t430.length co36)).heap[gb433]? = some (.cells #[.int .i64 t429, .slice Ao36 t430.length co36] 41 (0, 0))) := ⟨by refine sqt ?_; refine blk_put (cs := #[.int .i64 t429, .slice none 0 0]) ?_ 1 _ rfl; refine sqt ?_; refine blk_put (cs := #[.int .i64 0, .slice none 0 0]) ?_ 0 _ rfl; refine sqt ?_; exact BK433.out⟩
  have n9_ : Aside0 (Below w.heap.size w ((w31.setCell ⟨gb433, 0, none⟩ (.int .i64 t429)).setCell ⟨gb433, 1, none⟩ (.slice Ao36 t430.length co36))) := sqh HB
  (try clear HO411)
  (try clear HO414)
  (try clear HO422)
  (try clear HO427)
  (try clear HO432)
  (try clear BK415)
  (try clear BK423)
  (try clear BK428)
  (try clear BK433)
  (try clear HB)
  generalize ((w31.setCell ⟨gb433, 0, none⟩ (.int .i64 t429)).setCell ⟨gb433, 1, none⟩ (.slice Ao36 t430.length co36)) = w45 at n0_ n1_ n2_ n3_ n4_ n5_ n6_ n7_ n8_ n9_ ⊢
  have HO411 := n0_
  have HO414 := n1_
  have HO422 := n2_
  have HO427 := n3_
  have HO432 := n4_
  have BK415 := n5_
  have BK423 := n6_
  have BK428 := n7_
  have BK433 := n8_
  have HB := n9_
  clear n0_ n1_ n2_ n3_ n4_ n5_ n6_ n7_ n8_ n9_
  replace HO411 := Aside0.mk (Kd.R_drew HO411.out)
  replace HO414 := Aside0.mk (Kd.R_drew HO414.out)
  replace HO422 := Aside0.mk (Kd.R_drew HO422.out)
  replace HO427 := Aside0.mk (Kd.R_drew HO427.out)
  replace HO432 := Aside0.mk (Kd.R_drew HO432.out)
  replace BK415 := Aside0.mk (blk_drew BK415.out)
  replace BK423 := Aside0.mk (blk_drew BK423.out)
  replace BK428 := Aside0.mk (blk_drew BK428.out)
  replace BK433 := Aside0.mk (blk_drew BK433.out)
  replace HB := Aside0.mk (below_drew1 HB.out)
  refine start_ (n := 32) (S := fun w' => w'.cell? ⟨gb423, 0, none⟩ = some (.int .i64 t419) ∧ w'.cell? ⟨gb423, 1, none⟩ = some (.slice Ao21 t420.length co21) ∧ w'.cell? ⟨gb415, 0, none⟩ = some (.int .i64 t408) ∧ w'.cell? ⟨gb415, 1, none⟩ = some (.slice Ao15 t409.length co15) ∧ w'.cell? ⟨gb428, 0, none⟩ = some (.int .i64 t424) ∧ w'.cell? ⟨gb428, 1, none⟩ = some (.slice Ao28 t425.length co28) ∧ w'.cell? ⟨gb433, 0, none⟩ = some (.int .i64 t429) ∧ w'.cell? ⟨gb433, 1, none⟩ = some (.slice Ao36 t430.length co36)) (ds := []) #[false, false, false, false, false, false, false, false, false, false, false, false, false, false, false, false, false, false, false, false, false, false, false, false, false, false, false, false, false, false, false, false] (by kernel_rfl) rfl rfl sqz (fun hHeld => ?_); refine with_tabW laws_FnGapsDo.tab10 laws_FnGapsDo.bits10 (fun HT_ HW_ => ?_)
  generalize w45.drew = w46 at HO411 HO414 HO422 HO427 HO432 BK415 BK423 BK428 BK433 HB hHeld ⊢
  refine sqp HT_ 0 54 ?_
  refine sqp HT_ 3 57 ?_
  refine sqw HT_ HW_ 1 55 hHeld ?_
  refine sqw HT_ HW_ 2 56 hHeld ?_
  refine sqo HT_ 4 58 (fun K hK => ?_)
  refine sqG Try.func51 #[.agg #[.int .i64 t408, .slice Ao15 t409.length co15], .int .i64 (wrap64 (1 + (Int.tmod (wrap64 (t416)) (wrap64 ((t412.length : Int) + 1)))))] ?_
  with_reducible refine (spec_GapsForget.calls k t408 _ _ t409 (wrap64 (1 + (Int.tmod (wrap64 (t416)) (wrap64 ((t412.length : Int) + 1))))) t434 t435 _ ?side1 ?side2 A37.out).mono ?_
  (case side1 => exact sqC (Kd.R_reads' HO411.out).2.2)
  (case side2 => exact (Kd.R_reads' HO411.out).2.1)
  rintro e w47 ⟨v436, rfl, ho0, hb⟩
  refine ⟨_, rfl, ?_⟩
  have n0_ := Aside0.mk (Kd.R_elder' (sqy HO411.out) (Kd.R_base ho0) hb)
  have n1_ := Aside0.mk (Kd.R_elder' (sqy HO414.out) (Kd.R_base ho0) hb)
  have n2_ := Aside0.mk (Kd.R_elder' (sqy HO422.out) (Kd.R_base ho0) hb)
  have n3_ := Aside0.mk (Kd.R_elder' (sqy HO427.out) (Kd.R_base ho0) hb)
  have n4_ := Aside0.mk (Kd.R_elder' (sqy HO432.out) (Kd.R_base ho0) hb)
  have n5_ := Aside0.mk (Kd.R_lower (Kd.R_new' (Kd.R_new' (Kd.R_new' (Kd.R_new' (Kd.R_new' ho0 (Kd.R_lt (sqy HO411.out))) (Kd.R_lt (sqy HO414.out))) (Kd.R_lt (sqy HO422.out))) (Kd.R_lt (sqy HO427.out))) (Kd.R_lt (sqy HO432.out))) (below_size (sqB HB)))
  have n6_ := sqb BK415 hb
  have n7_ := sqb BK423 hb
  have n8_ := sqb BK428 hb
  have n9_ := sqb BK433 hb
  have n10_ := sqs HB hb
  clear HO411
  clear HO414
  clear HO422
  clear HO427
  clear HO432
  clear BK415
  clear BK423
  clear BK428
  clear BK433
  clear HB
  have HO411 := n0_
  have HO414 := n1_
  have HO422 := n2_
  have HO427 := n3_
  have HO432 := n4_
  have HO437 := n5_
  have BK415 := n6_
  have BK423 := n7_
  have BK428 := n8_
  have BK433 := n9_
  have HB := n10_
  clear n0_ n1_ n2_ n3_ n4_ n5_ n6_ n7_ n8_ n9_ n10_
  (try clear hb)
  (try clear hb2)
  (try clear hk)
  (try clear hi)
  (try clear ho0)
  obtain ⟨Ao48, co48, eo48⟩ := Kd.R_slice HO437.out
  (first | subst eo48 | (injection eo48 with f1_ f2_ f3_; have f4_ := f1_.symm; have f5_ := f3_.symm; clear f1_ f2_ f3_; subst f4_; subst f5_))
  refine hK.out _ _ sqz (fun hHeld => ?_)
  clear hK K
  refine sqnm ?_
  refine sqp HT_ 5 59 ?_
  refine sqo HT_ 6 60 (fun K hK => ?_)
  refine sqG Try.func27 #[.slice Ao21 t420.length co21, .slice Ao48 t435.length co48] ?_
  with_reducible refine (laws_sameInts.calls k _ _ t420 _ _ t435 true _ ?side1 ?side2 ?side3 ?side4 A38.out).mono ?_
  (case side1 => exact sqC (Kd.R_reads' HO422.out).2.2)
  (case side2 => exact (Kd.R_reads' HO422.out).2.1)
  (case side3 => exact sqC (Kd.R_reads' HO437.out).2.2)
  (case side4 => exact (Kd.R_reads' HO437.out).2.1)
  rintro e w' ⟨rfl, ⟨nd, rfl⟩⟩
  refine ⟨_, rfl, ?_⟩
  refine hK.out _ _ sqz (fun hHeld => ?_)
  clear hK K
  refine sqnm ?_
  refine sqp HT_ 7 61 ?_
  refine sqp HT_ 8 62 ?_
  refine sqp HT_ 9 63 ?_
  refine sqp HT_ 12 66 ?_
  refine sqp HT_ 13 67 ?_
  refine sqp HT_ 14 68 ?_
  refine sqw HT_ HW_ 10 64 hHeld ?_
  refine sqw HT_ HW_ 11 65 hHeld ?_
  refine sqo HT_ 15 69 (fun K hK => ?_)
  refine sqG Try.func35 #[.agg #[.int .i64 t408, .slice Ao15 t409.length co15], .int .i64 (wrap64 (1 + (Int.tmod (wrap64 (t416)) (wrap64 ((t412.length : Int) + 1))))), .int .i64 (Int.tmod (wrap64 (t417)) (wrap64 ((t412.length : Int) + 1))), .int .i64 (wrap64 ((Int.tmod (wrap64 (t418)) 11) - 5))] ?_
  with_reducible refine (spec_GapsMove.calls k t408 _ _ t409 (wrap64 (1 + (Int.tmod (wrap64 (t416)) (wrap64 ((t412.length : Int) + 1))))) (Int.tmod (wrap64 (t417)) (wrap64 ((t412.length : Int) + 1))) (wrap64 ((Int.tmod (wrap64 (t418)) 11) - 5)) t439 t440 _ ?side1 ?side2 A40.out).mono ?_
  (case side1 => exact sqC (Kd.R_reads' HO411.out).2.2)
  (case side2 => exact (Kd.R_reads' HO411.out).2.1)
  rintro e w49 ⟨v441, rfl, ho0, hb⟩
  refine ⟨_, rfl, ?_⟩
  have n0_ := Aside0.mk (Kd.R_elder' (sqy HO411.out) (Kd.R_base ho0) hb)
  have n1_ := Aside0.mk (Kd.R_elder' (sqy HO414.out) (Kd.R_base ho0) hb)
  have n2_ := Aside0.mk (Kd.R_elder' (sqy HO422.out) (Kd.R_base ho0) hb)
  have n3_ := Aside0.mk (Kd.R_elder' (sqy HO427.out) (Kd.R_base ho0) hb)
  have n4_ := Aside0.mk (Kd.R_elder' (sqy HO432.out) (Kd.R_base ho0) hb)
  have n5_ := Aside0.mk (Kd.R_elder' (sqy HO437.out) (Kd.R_base ho0) hb)
  have n6_ := Aside0.mk (Kd.R_lower (Kd.R_new' (Kd.R_new' (Kd.R_new' (Kd.R_new' (Kd.R_new' (Kd.R_new' ho0 (Kd.R_lt (sqy HO411.out))) (Kd.R_lt (sqy HO414.out))) (Kd.R_lt (sqy HO422.out))) (Kd.R_lt (sqy HO427.out))) (Kd.R_lt (sqy HO432.out))) (Kd.R_lt (sqy HO437.out))) (below_size (sqB HB)))
  have n7_ := sqb BK415 hb
  have n8_ := sqb BK423 hb
  have n9_ := sqb BK428 hb
  have n10_ := sqb BK433 hb
  have n11_ := sqs HB hb
  clear HO411
  clear HO414
  clear HO422
  clear HO427
  clear HO432
  clear HO437
  clear BK415
  clear BK423
  clear BK428
  clear BK433
  clear HB
  have HO411 := n0_
  have HO414 := n1_
  have HO422 := n2_
  have HO427 := n3_
  have HO432 := n4_
  have HO437 := n5_
  have HO442 := n6_
  have BK415 := n7_
  have BK423 := n8_
  have BK428 := n9_
  have BK433 := n10_
  have HB := n11_
  clear n0_ n1_ n2_ n3_ n4_ n5_ n6_ n7_ n8_ n9_ n10_ n11_
  (try clear hb)
  (try clear hb2)
  (try clear hk)
  (try clear hi)
  (try clear ho0)
  obtain ⟨Ao50, co50, eo50⟩ := Kd.R_slice HO442.out
  (first | subst eo50 | (injection eo50 with f1_ f2_ f3_; have f4_ := f1_.symm; have f5_ := f3_.symm; clear f1_ f2_ f3_; subst f4_; subst f5_))
  refine hK.out _ _ sqz (fun hHeld => ?_)
  clear hK K
  refine sqnm ?_
  refine sqp HT_ 16 70 ?_
  refine sqo HT_ 17 71 (fun K hK => ?_)
  refine sqG Try.func27 #[.slice Ao28 t425.length co28, .slice Ao50 t440.length co50] ?_
  with_reducible refine (laws_sameInts.calls k _ _ t425 _ _ t440 true _ ?side1 ?side2 ?side3 ?side4 A41.out).mono ?_
  (case side1 => exact sqC (Kd.R_reads' HO427.out).2.2)
  (case side2 => exact (Kd.R_reads' HO427.out).2.1)
  (case side3 => exact sqC (Kd.R_reads' HO442.out).2.2)
  (case side4 => exact (Kd.R_reads' HO442.out).2.1)
  rintro e w' ⟨rfl, ⟨nd, rfl⟩⟩
  refine ⟨_, rfl, ?_⟩
  refine hK.out _ _ sqz (fun hHeld => ?_)
  clear hK K
  refine sqnm ?_
  refine sqp HT_ 18 72 ?_
  refine sqp HT_ 19 73 ?_
  refine sqp HT_ 20 74 ?_
  refine sqp HT_ 21 75 ?_
  refine sqp HT_ 24 78 ?_
  refine sqp HT_ 25 79 ?_
  refine sqp HT_ 26 80 ?_
  refine sqw HT_ HW_ 22 76 hHeld ?_
  refine sqw HT_ HW_ 23 77 hHeld ?_
  refine sqo HT_ 27 81 (fun K hK => ?_)
  refine sqG Try.func52 #[.agg #[.int .i64 t408, .slice Ao15 t409.length co15], .int .i64 (wrap64 (1 + (Int.tmod (wrap64 (t416)) (wrap64 ((t412.length : Int) + 1))))), .int .i64 (Int.tmod (wrap64 (t417)) (wrap64 ((t412.length : Int) + 1))), .int .i64 (wrap64 ((Int.tmod (wrap64 (t418)) 11) - 5))] ?_
  with_reducible refine (spec_GapsCut.calls k t408 _ _ t409 (wrap64 (1 + (Int.tmod (wrap64 (t416)) (wrap64 ((t412.length : Int) + 1))))) (Int.tmod (wrap64 (t417)) (wrap64 ((t412.length : Int) + 1))) (wrap64 ((Int.tmod (wrap64 (t418)) 11) - 5)) t444 t445 _ ?side1 ?side2 A43.out).mono ?_
  (case side1 => exact sqC (Kd.R_reads' HO411.out).2.2)
  (case side2 => exact (Kd.R_reads' HO411.out).2.1)
  rintro e w51 ⟨v446, rfl, ho0, hb⟩
  refine ⟨_, rfl, ?_⟩
  have n0_ := Aside0.mk (Kd.R_elder' (sqy HO411.out) (Kd.R_base ho0) hb)
  have n1_ := Aside0.mk (Kd.R_elder' (sqy HO414.out) (Kd.R_base ho0) hb)
  have n2_ := Aside0.mk (Kd.R_elder' (sqy HO422.out) (Kd.R_base ho0) hb)
  have n3_ := Aside0.mk (Kd.R_elder' (sqy HO427.out) (Kd.R_base ho0) hb)
  have n4_ := Aside0.mk (Kd.R_elder' (sqy HO432.out) (Kd.R_base ho0) hb)
  have n5_ := Aside0.mk (Kd.R_elder' (sqy HO437.out) (Kd.R_base ho0) hb)
  have n6_ := Aside0.mk (Kd.R_elder' (sqy HO442.out) (Kd.R_base ho0) hb)
  have n7_ := Aside0.mk (Kd.R_lower (Kd.R_new' (Kd.R_new' (Kd.R_new' (Kd.R_new' (Kd.R_new' (Kd.R_new' (Kd.R_new' ho0 (Kd.R_lt (sqy HO411.out))) (Kd.R_lt (sqy HO414.out))) (Kd.R_lt (sqy HO422.out))) (Kd.R_lt (sqy HO427.out))) (Kd.R_lt (sqy HO432.out))) (Kd.R_lt (sqy HO437.out))) (Kd.R_lt (sqy HO442.out))) (below_size (sqB HB)))
  have n8_ := sqb BK415 hb
  have n9_ := sqb BK423 hb
  have n10_ := sqb BK428 hb
  have n11_ := sqb BK433 hb
  have n12_ := sqs HB hb
  clear HO411
  clear HO414
  clear HO422
  clear HO427
  clear HO432
  clear HO437
  clear HO442
  clear BK415
  clear BK423
  clear BK428
  clear BK433
  clear HB
  have HO411 := n0_
  have HO414 := n1_
  have HO422 := n2_
  have HO427 := n3_
  have HO432 := n4_
  have HO437 := n5_
  have HO442 := n6_
  have HO447 := n7_
  have BK415 := n8_
  have BK423 := n9_
  have BK428 := n10_
  have BK433 := n11_
  have HB := n12_
  clear n0_ n1_ n2_ n3_ n4_ n5_ n6_ n7_ n8_ n9_ n10_ n11_ n12_
  (try clear hb)
  (try clear hb2)
  (try clear hk)
  (try clear hi)
  (try clear ho0)
  obtain ⟨Ao52, co52, eo52⟩ := Kd.R_slice HO447.out
  (first | subst eo52 | (injection eo52 with f1_ f2_ f3_; have f4_ := f1_.symm; have f5_ := f3_.symm; clear f1_ f2_ f3_; subst f4_; subst f5_))
  refine hK.out _ _ sqz (fun hHeld => ?_)
  clear hK K
  refine sqnm ?_
  refine sqp HT_ 28 82 ?_
  refine sqo HT_ 29 83 (fun K hK => ?_)
  refine sqG Try.func27 #[.slice Ao36 t430.length co36, .slice Ao52 t445.length co52] ?_
  with_reducible refine (laws_sameInts.calls k _ _ t430 _ _ t445 t448 _ ?side1 ?side2 ?side3 ?side4 A44.out).mono ?_
  (case side1 => exact sqC (Kd.R_reads' HO432.out).2.2)
  (case side2 => exact (Kd.R_reads' HO432.out).2.1)
  (case side3 => exact sqC (Kd.R_reads' HO447.out).2.2)
  (case side4 => exact (Kd.R_reads' HO447.out).2.1)
  rintro e w' ⟨rfl, ⟨nd, rfl⟩⟩
  refine ⟨_, rfl, ?_⟩
  refine hK.out _ _ sqz (fun hHeld => ?_)
  clear hK K
  refine sqnm ?_
  refine sqp HT_ 30 84 ?_
  refine sqp HT_ 31 85 ?_
  refine done_ (done_of HT_.out (by kernel_rfl)) ?_
  try go_wp2
  go_meet
  case rel => exact ⟨_, (!t448), (by first | rfl | (simp; done) | (simp [*]; done)), H', ⟨by first | omega | exact Nat.le_refl _⟩, ⟨by (with_reducible repeat (first | apply Kd.R_alloc | apply Kd.R_drewN | apply Kd.R_drew)); exact Kd.R_mono HO414.out (fun _ hk => ⟨hk.1.1.1.1, ⟨hk.1.1.1.2.1, ⟨hk.1.1.1.2.2.1, hk.1.1.1.2.2.2⟩⟩⟩)⟩, ⟨by (with_reducible repeat (first | apply Kd.R_alloc | apply Kd.R_drewN | apply Kd.R_drew)); exact Kd.R_mono HO411.out (fun _ hk => ⟨hk.1.1.1.1, ⟨hk.1.1.1.2.1, ⟨hk.1.1.1.2.2.1, hk.1.1.1.2.2.2⟩⟩⟩)⟩, ⟨by (with_reducible repeat (first | apply Kd.R_alloc | apply Kd.R_drewN | apply Kd.R_drew)); exact Kd.R_mono HO422.out (fun _ hk => ⟨hk.1.1.1.2.1, ⟨hk.1.1.1.1, ⟨hk.1.1.1.2.2.1, hk.1.1.1.2.2.2⟩⟩⟩)⟩, ⟨by (with_reducible repeat (first | apply Kd.R_alloc | apply Kd.R_drewN | apply Kd.R_drew)); exact Kd.R_mono HO427.out (fun _ hk => ⟨hk.1.1.1.2.1, ⟨hk.1.1.1.1, ⟨hk.1.1.1.2.2.1, hk.1.1.1.2.2.2⟩⟩⟩)⟩, ⟨by (with_reducible repeat (first | apply Kd.R_alloc | apply Kd.R_drewN | apply Kd.R_drew)); exact Kd.R_mono HO432.out (fun _ hk => ⟨hk.1.1.1.2.1, ⟨hk.1.1.1.1, ⟨hk.1.1.1.2.2.1, hk.1.1.1.2.2.2⟩⟩⟩)⟩, sqk BK415, sqk BK423, sqk BK428, sqk BK433, sqh HB⟩
 case rest =>
  as_aux_lemma =>
  clear HC11
  obtain ⟨kq, x85_10, rfl, HA, HJ10, HO_4, HO_416001, HO_424001, HO_429001, HO_434001, BK415, BK423, BK428, BK433, HB⟩ := hcut
  cases kq with
  | zero => exact absurd HA.out (by simp [laws_FnGapsDo.j0])
  | succ kj10 =>
   have H := HA.out
   clear HA
   simp only [laws_FnGapsDo.j0] at H
   by_cases c63 : x85_10 = true
   ·subst c63
    have H1 : (some false) = some true := by rw [if_pos rfl] at H; exact H
    clear H
    have H := H1
    clear H1
    exact absurd (Option.some.inj H) (by decide)
   replace c63 := Bool.eq_false_iff.mpr c63
   subst c63
   have H1 : ((spec_GapsHas.f kj10 t408 t409 t412).bind fun t449 => (if t449 = true then (laws_FnGapsDo.j1 kj10 l0 t412 (wrap64 (1 + (Int.tmod (wrap64 (t416)) (wrap64 ((t412.length : Int) + 1))))) (Int.tmod (wrap64 (t417)) (wrap64 ((t412.length : Int) + 1))) (wrap64 ((Int.tmod (wrap64 (t418)) 11) - 5)) (decide ((wrap64 (1 + (Int.tmod (wrap64 (t416)) (wrap64 ((t412.length : Int) + 1))))) > (t412.length : Int))) t408 t409 t419 t420 t424 t425 t429 t430) else (laws_FnGapsDo.j1 kj10 l0 t412 (wrap64 (1 + (Int.tmod (wrap64 (t416)) (wrap64 ((t412.length : Int) + 1))))) (Int.tmod (wrap64 (t417)) (wrap64 ((t412.length : Int) + 1))) (wrap64 ((Int.tmod (wrap64 (t418)) 11) - 5)) true t408 t409 t419 t420 t424 t425 t429 t430))) = some true := by rw [if_neg (show ¬ (false = true) by decide)] at H; exact H
   clear H
   have H := H1
   clear H1
   have HC64 := Aside0.mk H
   clear H
   go_upto_region 12 with (fail)
   go_cut [95] (fun v95 wc => ∃ (kq : Nat) (x95_63 : Bool), v95 = .bool x95_63 ∧ Aside0 (laws_FnGapsDo.j1 kq l0 t412 (wrap64 (1 + (Int.tmod (wrap64 (t416)) (wrap64 ((t412.length : Int) + 1))))) (Int.tmod (wrap64 (t417)) (wrap64 ((t412.length : Int) + 1))) (wrap64 ((Int.tmod (wrap64 (t418)) 11) - 5)) x95_63 t408 t409 t419 t420 t424 t425 t429 t430 = some true) ∧ Aside0 (kq ≤ kj10) ∧ Aside0 (Kd.R (Kd.int .i64) 3 wc w.heap.size (fun k_ => some k_ ≠ ((.slice Ao15 t409.length co15) : Value).ownBlock ∧ some k_ ≠ ((.slice Ao21 t420.length co21) : Value).ownBlock ∧ some k_ ≠ ((.slice Ao28 t425.length co28) : Value).ownBlock ∧ some k_ ≠ ((.slice Ao36 t430.length co36) : Value).ownBlock) (.slice Ao16 t412.length co16) t412) ∧ Aside0 (Kd.R (Kd.int .i64) 3 wc w.heap.size (fun k_ => some k_ ≠ ((.slice Ao16 t412.length co16) : Value).ownBlock ∧ some k_ ≠ ((.slice Ao21 t420.length co21) : Value).ownBlock ∧ some k_ ≠ ((.slice Ao28 t425.length co28) : Value).ownBlock ∧ some k_ ≠ ((.slice Ao36 t430.length co36) : Value).ownBlock) (.slice Ao15 t409.length co15) t409) ∧ Aside0 (Kd.R (Kd.int .i64) 3 wc w.heap.size (fun k_ => some k_ ≠ ((.slice Ao16 t412.length co16) : Value).ownBlock ∧ some k_ ≠ ((.slice Ao15 t409.length co15) : Value).ownBlock ∧ some k_ ≠ ((.slice Ao28 t425.length co28) : Value).ownBlock ∧ some k_ ≠ ((.slice Ao36 t430.length co36) : Value).ownBlock) (.slice Ao21 t420.length co21) t420) ∧ Aside0 (Kd.R (Kd.int .i64) 3 wc w.heap.size (fun k_ => some k_ ≠ ((.slice Ao16 t412.length co16) : Value).ownBlock ∧ some k_ ≠ ((.slice Ao15 t409.length co15) : Value).ownBlock ∧ some k_ ≠ ((.slice Ao21 t420.length co21) : Value).ownBlock ∧ some k_ ≠ ((.slice Ao36 t430.length co36) : Value).ownBlock) (.slice Ao28 t425.length co28) t425) ∧ Aside0 (Kd.R (Kd.int .i64) 3 wc w.heap.size (fun k_ => some k_ ≠ ((.slice Ao16 t412.length co16) : Value).ownBlock ∧ some k_ ≠ ((.slice Ao15 t409.length co15) : Value).ownBlock ∧ some k_ ≠ ((.slice Ao21 t420.length co21) : Value).ownBlock ∧ some k_ ≠ ((.slice Ao28 t425.length co28) : Value).ownBlock) (.slice Ao36 t430.length co36) t430) ∧ Aside0 (wc.heap[gb415]? = some (.cells #[.int .i64 t408, (.slice Ao15 t409.length co15)] 41 (0, 0))) ∧ Aside0 (wc.heap[gb423]? = some (.cells #[.int .i64 t419, (.slice Ao21 t420.length co21)] 41 (0, 0))) ∧ Aside0 (wc.heap[gb428]? = some (.cells #[.int .i64 t424, (.slice Ao28 t425.length co28)] 41 (0, 0))) ∧ Aside0 (wc.heap[gb433]? = some (.cells #[.int .i64 t429, (.slice Ao36 t430.length co36)] 41 (0, 0))) ∧ Aside0 (Below w.heap.size w wc))
   case first =>
    as_aux_lemma =>
    have H := HC64.out
    clear HC64
    replace H := sqbi H
    obtain ⟨t449, A65, H⟩ := H
    replace H : (if t449 = true then (laws_FnGapsDo.j1 kj10 l0 t412 (wrap64 (1 + (Int.tmod (wrap64 (t416)) (wrap64 ((t412.length : Int) + 1))))) (Int.tmod (wrap64 (t417)) (wrap64 ((t412.length : Int) + 1))) (wrap64 ((Int.tmod (wrap64 (t418)) 11) - 5)) (decide ((wrap64 (1 + (Int.tmod (wrap64 (t416)) (wrap64 ((t412.length : Int) + 1))))) > (t412.length : Int))) t408 t409 t419 t420 t424 t425 t429 t430) else (laws_FnGapsDo.j1 kj10 l0 t412 (wrap64 (1 + (Int.tmod (wrap64 (t416)) (wrap64 ((t412.length : Int) + 1))))) (Int.tmod (wrap64 (t417)) (wrap64 ((t412.length : Int) + 1))) (wrap64 ((Int.tmod (wrap64 (t418)) 11) - 5)) true t408 t409 t419 t420 t424 t425 t429 t430)) = some true := H
    rcases sqI (t449 = true) with c66 | c66
    ·replace c66 := Bool.eq_false_iff.mpr c66
     subst c66
     have H1 : (laws_FnGapsDo.j1 kj10 l0 t412 (wrap64 (1 + (Int.tmod (wrap64 (t416)) (wrap64 ((t412.length : Int) + 1))))) (Int.tmod (wrap64 (t417)) (wrap64 ((t412.length : Int) + 1))) (wrap64 ((Int.tmod (wrap64 (t418)) 11) - 5)) true t408 t409 t419 t420 t424 t425 t429 t430) = some true := by rw [if_neg (show ¬ (false = true) by decide)] at H; exact H
     clear H
     have H := H1
     clear H1
     have H' := Aside0.mk H
     clear H
     have hnb72 := NB415_423.out
     have hnc72 := NB423_415.out
     have hnb73 := NB415_428.out
     have hnc73 := NB428_415.out
     have hnb74 := NB415_433.out
     have hnc74 := NB433_415.out
     obtain ⟨hcz75_0, hcz75_1, hfz75_0, hfz75_1⟩ := sqc2 BK415
     go_wp2_with (first | ((with_reducible refine gate_callee (f := 29) rfl ?_); refine sqL (some 88) Try.func29 #[.agg #[.int .i64 t408, .slice Ao15 t409.length co15], .slice Ao16 t412.length co16] ?_; (with_reducible refine (spec_GapsHas.calls kj10 t408 _ _ t409 _ _ t412 false _ ?side1 ?side2 ?side3 ?side4 A65.out).mono ?_); (case side1 => exact sqC (Kd.R_reads' HO_416001.out).2.2); (case side2 => exact (Kd.R_reads' HO_416001.out).2.1); (case side3 => exact sqC (Kd.R_reads' HO_4.out).2.2); (case side4 => exact (Kd.R_reads' HO_4.out).2.1); rintro e w76 ⟨rfl, hb⟩; refine ⟨_, rfl, ?_⟩; have n0_ := Aside0.mk (Kd.R_below (sqy HO_4.out) hb); have n1_ := Aside0.mk (Kd.R_below (sqy HO_416001.out) hb); have n2_ := Aside0.mk (Kd.R_below (sqy HO_424001.out) hb); have n3_ := Aside0.mk (Kd.R_below (sqy HO_429001.out) hb); have n4_ := Aside0.mk (Kd.R_below (sqy HO_434001.out) hb); have n5_ := sqb BK415 hb; have n6_ := sqb BK423 hb; have n7_ := sqb BK428 hb; have n8_ := sqb BK433 hb; have n9_ := sqs HB hb; clear HO_4; clear HO_416001; clear HO_424001; clear HO_429001; clear HO_434001; clear BK415; clear BK423; clear BK428; clear BK433; clear HB; have HO_4 := n0_; have HO_416001 := n1_; have HO_424001 := n2_; have HO_429001 := n3_; have HO_434001 := n4_; have BK415 := n5_; have BK423 := n6_; have BK428 := n7_; have BK433 := n8_; have HB := n9_; clear n0_ n1_ n2_ n3_ n4_ n5_ n6_ n7_ n8_ n9_; (try clear hb)))
     go_meet
     case rel => exact ⟨_, (true), (by first | rfl | (simp; done) | (simp [*]; done)), H', ⟨by have := HJ10.out; first | omega | exact Nat.le_refl _⟩, ⟨sqy HO_4.out⟩, ⟨sqy HO_416001.out⟩, ⟨sqy HO_424001.out⟩, ⟨sqy HO_429001.out⟩, ⟨sqy HO_434001.out⟩, sqk BK415, sqk BK423, sqk BK428, sqk BK433, sqh HB⟩
    subst c66
    have H1 : (laws_FnGapsDo.j1 kj10 l0 t412 (wrap64 (1 + (Int.tmod (wrap64 (t416)) (wrap64 ((t412.length : Int) + 1))))) (Int.tmod (wrap64 (t417)) (wrap64 ((t412.length : Int) + 1))) (wrap64 ((Int.tmod (wrap64 (t418)) 11) - 5)) (decide ((wrap64 (1 + (Int.tmod (wrap64 (t416)) (wrap64 ((t412.length : Int) + 1))))) > (t412.length : Int))) t408 t409 t419 t420 t424 t425 t429 t430) = some true := by rw [if_pos rfl] at H; exact H
    clear H
    have H := H1
    clear H1
    have H' := Aside0.mk H
    clear H
    have hnb67 := NB415_423.out
    have hnc67 := NB423_415.out
    have hnb68 := NB415_428.out
    have hnc68 := NB428_415.out
    have hnb69 := NB415_433.out
    have hnc69 := NB433_415.out
    obtain ⟨hcz70_0, hcz70_1, hfz70_0, hfz70_1⟩ := sqc2 BK415
    go_wp2_with (first | ((with_reducible refine gate_callee (f := 29) rfl ?_); refine sqL (some 88) Try.func29 #[.agg #[.int .i64 t408, .slice Ao15 t409.length co15], .slice Ao16 t412.length co16] ?_; (with_reducible refine (spec_GapsHas.calls kj10 t408 _ _ t409 _ _ t412 true _ ?side1 ?side2 ?side3 ?side4 A65.out).mono ?_); (case side1 => exact sqC (Kd.R_reads' HO_416001.out).2.2); (case side2 => exact (Kd.R_reads' HO_416001.out).2.1); (case side3 => exact sqC (Kd.R_reads' HO_4.out).2.2); (case side4 => exact (Kd.R_reads' HO_4.out).2.1); rintro e w71 ⟨rfl, hb⟩; refine ⟨_, rfl, ?_⟩; have n0_ := Aside0.mk (Kd.R_below (sqy HO_4.out) hb); have n1_ := Aside0.mk (Kd.R_below (sqy HO_416001.out) hb); have n2_ := Aside0.mk (Kd.R_below (sqy HO_424001.out) hb); have n3_ := Aside0.mk (Kd.R_below (sqy HO_429001.out) hb); have n4_ := Aside0.mk (Kd.R_below (sqy HO_434001.out) hb); have n5_ := sqb BK415 hb; have n6_ := sqb BK423 hb; have n7_ := sqb BK428 hb; have n8_ := sqb BK433 hb; have n9_ := sqs HB hb; clear HO_4; clear HO_416001; clear HO_424001; clear HO_429001; clear HO_434001; clear BK415; clear BK423; clear BK428; clear BK433; clear HB; have HO_4 := n0_; have HO_416001 := n1_; have HO_424001 := n2_; have HO_429001 := n3_; have HO_434001 := n4_; have BK415 := n5_; have BK423 := n6_; have BK428 := n7_; have BK433 := n8_; have HB := n9_; clear n0_ n1_ n2_ n3_ n4_ n5_ n6_ n7_ n8_ n9_; (try clear hb)))
    go_meet
    case rel => exact ⟨_, (decide ((wrap64 (1 + (Int.tmod (wrap64 (t416)) (wrap64 ((t412.length : Int) + 1))))) > (t412.length : Int))), (by first | rfl | (simp; done) | (simp [*]; done)), H', ⟨by have := HJ10.out; first | omega | exact Nat.le_refl _⟩, ⟨sqy HO_4.out⟩, ⟨sqy HO_416001.out⟩, ⟨sqy HO_424001.out⟩, ⟨sqy HO_429001.out⟩, ⟨sqy HO_434001.out⟩, sqk BK415, sqk BK423, sqk BK428, sqk BK433, sqh HB⟩
   case rest =>
    as_aux_lemma =>
    clear HC64
    obtain ⟨kq, x95_63, rfl, HA, HJ63, HO_4, HO_416001, HO_424001, HO_429001, HO_434001, BK415, BK423, BK428, BK433, HB⟩ := hcut
    cases kq with
    | zero => exact absurd HA.out (by simp [laws_FnGapsDo.j1])
    | succ kj63 =>
     have H := HA.out
     clear HA
     simp only [laws_FnGapsDo.j1] at H
     by_cases c77 : x95_63 = true
     ·subst c77
      have H1 : (some true) = some true := rfl
      clear H
      have H := H1
      clear H1
      clear H
      go_wp2
      go_ret
      exact sqe HB
     replace c77 := Bool.eq_false_iff.mpr c77
     subst c77
     have H1 : ((impl_GapsRange.f kj63 t408 t409 (wrap64 (1 + (Int.tmod (wrap64 (t416)) (wrap64 ((t412.length : Int) + 1)))))).bind fun bt450 => (if 0 ≤ (wrap64 ((wrap64 (1 + (Int.tmod (wrap64 (t416)) (wrap64 ((t412.length : Int) + 1))))) - 1)) then (if (wrap64 ((wrap64 (1 + (Int.tmod (wrap64 (t416)) (wrap64 ((t412.length : Int) + 1))))) - 1)) < (t412.length : Int) then ((impl_RangeHas.f bt450.1 bt450.2 (rd t412 (wrap64 ((wrap64 (1 + (Int.tmod (wrap64 (t416)) (wrap64 ((t412.length : Int) + 1))))) - 1)))).bind fun t453 => (if t453 = true then (if (Int.tmod (wrap64 (t417)) (wrap64 ((t412.length : Int) + 1))) > 0 then (if 0 ≤ (wrap64 ((Int.tmod (wrap64 (t417)) (wrap64 ((t412.length : Int) + 1))) - 1)) then (if (wrap64 ((Int.tmod (wrap64 (t417)) (wrap64 ((t412.length : Int) + 1))) - 1)) < (t412.length : Int) then (laws_FnGapsDo.j2 kj63 l0 t412 (wrap64 (1 + (Int.tmod (wrap64 (t416)) (wrap64 ((t412.length : Int) + 1))))) (Int.tmod (wrap64 (t417)) (wrap64 ((t412.length : Int) + 1))) (wrap64 ((Int.tmod (wrap64 (t418)) 11) - 5)) (rd t412 (wrap64 ((Int.tmod (wrap64 (t417)) (wrap64 ((t412.length : Int) + 1))) - 1))) t419 t420 t424 t425 t429 t430) else (none)) else (none)) else (laws_FnGapsDo.j2 kj63 l0 t412 (wrap64 (1 + (Int.tmod (wrap64 (t416)) (wrap64 ((t412.length : Int) + 1))))) (Int.tmod (wrap64 (t417)) (wrap64 ((t412.length : Int) + 1))) (wrap64 ((Int.tmod (wrap64 (t418)) 11) - 5)) 0 t419 t420 t424 t425 t429 t430)) else (some false))) else (none)) else (none))) = some true := by rw [if_neg (show ¬ (false = true) by decide)] at H; exact H
     clear H
     have H := H1
     clear H1
     replace H := sqbi H
     obtain ⟨⟨t450, t451⟩, A78, H⟩ := H
     replace H : (if 0 ≤ (wrap64 ((wrap64 (1 + (Int.tmod (wrap64 (t416)) (wrap64 ((t412.length : Int) + 1))))) - 1)) then (if (wrap64 ((wrap64 (1 + (Int.tmod (wrap64 (t416)) (wrap64 ((t412.length : Int) + 1))))) - 1)) < (t412.length : Int) then ((impl_RangeHas.f t450 t451 (rd t412 (wrap64 ((wrap64 (1 + (Int.tmod (wrap64 (t416)) (wrap64 ((t412.length : Int) + 1))))) - 1)))).bind fun t453 => (if t453 = true then (if (Int.tmod (wrap64 (t417)) (wrap64 ((t412.length : Int) + 1))) > 0 then (if 0 ≤ (wrap64 ((Int.tmod (wrap64 (t417)) (wrap64 ((t412.length : Int) + 1))) - 1)) then (if (wrap64 ((Int.tmod (wrap64 (t417)) (wrap64 ((t412.length : Int) + 1))) - 1)) < (t412.length : Int) then (laws_FnGapsDo.j2 kj63 l0 t412 (wrap64 (1 + (Int.tmod (wrap64 (t416)) (wrap64 ((t412.length : Int) + 1))))) (Int.tmod (wrap64 (t417)) (wrap64 ((t412.length : Int) + 1))) (wrap64 ((Int.tmod (wrap64 (t418)) 11) - 5)) (rd t412 (wrap64 ((Int.tmod (wrap64 (t417)) (wrap64 ((t412.length : Int) + 1))) - 1))) t419 t420 t424 t425 t429 t430) else (none)) else (none)) else (laws_FnGapsDo.j2 kj63 l0 t412 (wrap64 (1 + (Int.tmod (wrap64 (t416)) (wrap64 ((t412.length : Int) + 1))))) (Int.tmod (wrap64 (t417)) (wrap64 ((t412.length : Int) + 1))) (wrap64 ((Int.tmod (wrap64 (t418)) 11) - 5)) 0 t419 t420 t424 t425 t429 t430)) else (some false))) else (none)) else (none)) = some true := H
     obtain ⟨ji79, hji79⟩ : ∃ j_ : Int, (wrap64 ((wrap64 (1 + (Int.tmod (wrap64 (t416)) (wrap64 ((t412.length : Int) + 1))))) - 1)) = j_ := ⟨_, rfl⟩
     replace H : (if 0 ≤ (ji79) then (if (ji79) < (t412.length : Int) then ((impl_RangeHas.f t450 t451 (rd t412 (ji79))).bind fun t453 => (if t453 = true then (if (Int.tmod (wrap64 (t417)) (wrap64 ((t412.length : Int) + 1))) > 0 then (if 0 ≤ (wrap64 ((Int.tmod (wrap64 (t417)) (wrap64 ((t412.length : Int) + 1))) - 1)) then (if (wrap64 ((Int.tmod (wrap64 (t417)) (wrap64 ((t412.length : Int) + 1))) - 1)) < (t412.length : Int) then (laws_FnGapsDo.j2 kj63 l0 t412 (wrap64 (1 + (Int.tmod (wrap64 (t416)) (wrap64 ((t412.length : Int) + 1))))) (Int.tmod (wrap64 (t417)) (wrap64 ((t412.length : Int) + 1))) (wrap64 ((Int.tmod (wrap64 (t418)) 11) - 5)) (rd t412 (wrap64 ((Int.tmod (wrap64 (t417)) (wrap64 ((t412.length : Int) + 1))) - 1))) t419 t420 t424 t425 t429 t430) else (none)) else (none)) else (laws_FnGapsDo.j2 kj63 l0 t412 (wrap64 (1 + (Int.tmod (wrap64 (t416)) (wrap64 ((t412.length : Int) + 1))))) (Int.tmod (wrap64 (t417)) (wrap64 ((t412.length : Int) + 1))) (wrap64 ((Int.tmod (wrap64 (t418)) 11) - 5)) 0 t419 t420 t424 t425 t429 t430)) else (some false))) else (none)) else (none)) = some true := by first | (rw [hji79] at H; exact H) | (simp only [hji79] at H ⊢; exact H)
     (try rw [hji79] at A78)
     have hji79w : (IntKind.i64.wrap ((wrap64 (1 + (Int.tmod (wrap64 (t416)) (wrap64 ((t412.length : Int) + 1))))) - 1)) = ji79 := (i64_w _).trans hji79
     replace H := sqi H
     rcases H with ⟨c80, H⟩ | ⟨c80, H⟩
     ·exact absurd H (by simp)
     have c80b0 := decide_eq_true c80
     clear c80
     replace H := sqi H
     rcases H with ⟨c81, H⟩ | ⟨c81, H⟩
     ·exact absurd H (by simp)
     have c81b0 := decide_eq_true c81
     clear c81
     replace H := sqbi H
     obtain ⟨t453, A82, H⟩ := H
     replace H : (if t453 = true then (if (Int.tmod (wrap64 (t417)) (wrap64 ((t412.length : Int) + 1))) > 0 then (if 0 ≤ (wrap64 ((Int.tmod (wrap64 (t417)) (wrap64 ((t412.length : Int) + 1))) - 1)) then (if (wrap64 ((Int.tmod (wrap64 (t417)) (wrap64 ((t412.length : Int) + 1))) - 1)) < (t412.length : Int) then (laws_FnGapsDo.j2 kj63 l0 t412 (wrap64 (1 + (Int.tmod (wrap64 (t416)) (wrap64 ((t412.length : Int) + 1))))) (Int.tmod (wrap64 (t417)) (wrap64 ((t412.length : Int) + 1))) (wrap64 ((Int.tmod (wrap64 (t418)) 11) - 5)) (rd t412 (wrap64 ((Int.tmod (wrap64 (t417)) (wrap64 ((t412.length : Int) + 1))) - 1))) t419 t420 t424 t425 t429 t430) else (none)) else (none)) else (laws_FnGapsDo.j2 kj63 l0 t412 (wrap64 (1 + (Int.tmod (wrap64 (t416)) (wrap64 ((t412.length : Int) + 1))))) (Int.tmod (wrap64 (t417)) (wrap64 ((t412.length : Int) + 1))) (wrap64 ((Int.tmod (wrap64 (t418)) 11) - 5)) 0 t419 t420 t424 t425 t429 t430)) else (some false)) = some true := H
     rcases sqI (t453 = true) with c83 | c83
     ·replace c83 := Bool.eq_false_iff.mpr c83
      subst c83
      have H1 : (some false) = some true := by rw [if_neg (show ¬ (false = true) by decide)] at H; exact H
      clear H
      have H := H1
      clear H1
      exact absurd (Option.some.inj H) (by decide)
     subst c83
     have H1 : (if (Int.tmod (wrap64 (t417)) (wrap64 ((t412.length : Int) + 1))) > 0 then (if 0 ≤ (wrap64 ((Int.tmod (wrap64 (t417)) (wrap64 ((t412.length : Int) + 1))) - 1)) then (if (wrap64 ((Int.tmod (wrap64 (t417)) (wrap64 ((t412.length : Int) + 1))) - 1)) < (t412.length : Int) then (laws_FnGapsDo.j2 kj63 l0 t412 (wrap64 (1 + (Int.tmod (wrap64 (t416)) (wrap64 ((t412.length : Int) + 1))))) (Int.tmod (wrap64 (t417)) (wrap64 ((t412.length : Int) + 1))) (wrap64 ((Int.tmod (wrap64 (t418)) 11) - 5)) (rd t412 (wrap64 ((Int.tmod (wrap64 (t417)) (wrap64 ((t412.length : Int) + 1))) - 1))) t419 t420 t424 t425 t429 t430) else (none)) else (none)) else (laws_FnGapsDo.j2 kj63 l0 t412 (wrap64 (1 + (Int.tmod (wrap64 (t416)) (wrap64 ((t412.length : Int) + 1))))) (Int.tmod (wrap64 (t417)) (wrap64 ((t412.length : Int) + 1))) (wrap64 ((Int.tmod (wrap64 (t418)) 11) - 5)) 0 t419 t420 t424 t425 t429 t430)) = some true := by rw [if_pos rfl] at H; exact H
     clear H
     have H := H1
     clear H1
     have HC84 := Aside0.mk H
     clear H
     try go_wp2
     replace HO_4 := Aside0.mk (Kd.R_drew HO_4.out)
     replace HO_416001 := Aside0.mk (Kd.R_drew HO_416001.out)
     replace HO_424001 := Aside0.mk (Kd.R_drew HO_424001.out)
     replace HO_429001 := Aside0.mk (Kd.R_drew HO_429001.out)
     replace HO_434001 := Aside0.mk (Kd.R_drew HO_434001.out)
     replace BK415 := Aside0.mk (blk_drew BK415.out)
     replace BK423 := Aside0.mk (blk_drew BK423.out)
     replace BK428 := Aside0.mk (blk_drew BK428.out)
     replace BK433 := Aside0.mk (blk_drew BK433.out)
     replace HB := Aside0.mk (below_drew1 HB.out)
     have p452 : 0 ≤ ((ji79) : Int) := sqd
     have q452 : (ji79) < (t412.length : Int) := sqd
     obtain ⟨ad452, e452, hx452_0⟩ := Kd.at_int (Kd.R_reads' HO_4.out).2.2 (ji79) p452 q452
     cases e452
     replace p452 := eq_true p452
     replace q452 := eq_true q452
     refine start_ (n := 10) (S := fun w' => w'.cell? ⟨gb415, 0, none⟩ = some (.int .i64 t408) ∧ w'.cell? ⟨gb415, 1, none⟩ = some (.slice Ao15 t409.length co15) ∧ w'.cell? (ad452.add ((ji79)).toNat) = some (.int .i64 (rd t412 (ji79)))) (ds := []) #[false, false, false, false, false, false, false, false, false, false] (by kernel_rfl) rfl rfl ⟨(blk_cell BK415.out 0).trans rfl, (blk_cell BK415.out 1).trans rfl, hx452_0⟩ (fun hHeld => ?_); refine with_tabW laws_FnGapsDo.tab14 laws_FnGapsDo.bits14 (fun HT_ HW_ => ?_)
     generalize wc.drew = w85 at HO_4 HO_416001 HO_424001 HO_429001 HO_434001 BK415 BK423 BK428 BK433 HB hx452_0 hHeld ⊢
     refine sqp HT_ 1 97 ?_
     refine sqp HT_ 3 99 ?_
     refine sqp HT_ 4 100 ?_
     refine sqp HT_ 5 101 ?_
     refine sqp HT_ 6 102 ?_
     refine sqw HT_ HW_ 0 96 hHeld ?_
     refine sqw HT_ HW_ 7 103 hHeld ?_
     refine sqo HT_ 2 98 (fun K hK => ?_)
     refine sqG Try.func53 #[.agg #[.int .i64 t408, .slice Ao15 t409.length co15], .int .i64 (wrap64 (1 + (Int.tmod (wrap64 (t416)) (wrap64 ((t412.length : Int) + 1)))))] ?_
     with_reducible refine (impl_GapsRange.calls kj63 t408 _ _ t409 (wrap64 (1 + (Int.tmod (wrap64 (t416)) (wrap64 ((t412.length : Int) + 1))))) t450 t451 _ ?side1 ?side2 A78.out).mono ?_
     (case side1 => exact sqC (Kd.R_reads' HO_416001.out).2.2)
     (case side2 => exact (Kd.R_reads' HO_416001.out).2.1)
     rintro e w86 ⟨rfl, hb⟩
     have HS2_ := (hb.cell (World.block_lt_of_cell? _ _ (hHeld.2.2))).trans (hHeld.2.2)
     refine ⟨_, rfl, ?_⟩
     have n0_ := Aside0.mk (Kd.R_below (sqy HO_4.out) hb)
     have n1_ := Aside0.mk (Kd.R_below (sqy HO_416001.out) hb)
     have n2_ := Aside0.mk (Kd.R_below (sqy HO_424001.out) hb)
     have n3_ := Aside0.mk (Kd.R_below (sqy HO_429001.out) hb)
     have n4_ := Aside0.mk (Kd.R_below (sqy HO_434001.out) hb)
     have n5_ := sqb BK415 hb
     have n6_ := sqb BK423 hb
     have n7_ := sqb BK428 hb
     have n8_ := sqb BK433 hb
     have n9_ := sqs HB hb
     clear HO_4
     clear HO_416001
     clear HO_424001
     clear HO_429001
     clear HO_434001
     clear BK415
     clear BK423
     clear BK428
     clear BK433
     clear HB
     have HO_4 := n0_
     have HO_416001 := n1_
     have HO_424001 := n2_
     have HO_429001 := n3_
     have HO_434001 := n4_
     have BK415 := n5_
     have BK423 := n6_
     have BK428 := n7_
     have BK433 := n8_
     have HB := n9_
     clear n0_ n1_ n2_ n3_ n4_ n5_ n6_ n7_ n8_ n9_
     (try clear hb)
     refine hK.out _ _ ⟨(blk_cell BK415.out 0).trans rfl, (blk_cell BK415.out 1).trans rfl, HS2_⟩ (fun hHeld => ?_)
     clear hK K
     refine sqnm ?_
     refine sqo HT_ 8 104 (fun K hK => ?_)
     refine goes_ Try.func48 (by kernel_rfl) rfl #[.agg #[.int .i64 t450, .int .i64 t451], .int .i64 (rd t412 (ji79))] (by rfl) rfl rfl (by (try simp only [List.map_toArray, List.map_cons, List.map_nil]); first | done | (simp only [hji79]; rfl) | rfl | (simp only [List.length_drop, List.length_take]; rfl)) ?_
     with_reducible refine (impl_RangeHas.calls t450 t451 (rd t412 (ji79)) true _ A82.out).mono ?_
     rintro e w87 ⟨rfl, hb⟩
     have HS2_ := (hb.cell (World.block_lt_of_cell? _ _ (hHeld.2.2))).trans (hHeld.2.2)
     refine ⟨_, rfl, ?_⟩
     have n0_ := Aside0.mk (Kd.R_below (sqy HO_4.out) hb)
     have n1_ := Aside0.mk (Kd.R_below (sqy HO_416001.out) hb)
     have n2_ := Aside0.mk (Kd.R_below (sqy HO_424001.out) hb)
     have n3_ := Aside0.mk (Kd.R_below (sqy HO_429001.out) hb)
     have n4_ := Aside0.mk (Kd.R_below (sqy HO_434001.out) hb)
     have n5_ := sqb BK415 hb
     have n6_ := sqb BK423 hb
     have n7_ := sqb BK428 hb
     have n8_ := sqb BK433 hb
     have n9_ := sqs HB hb
     clear HO_4
     clear HO_416001
     clear HO_424001
     clear HO_429001
     clear HO_434001
     clear BK415
     clear BK423
     clear BK428
     clear BK433
     clear HB
     have HO_4 := n0_
     have HO_416001 := n1_
     have HO_424001 := n2_
     have HO_429001 := n3_
     have HO_434001 := n4_
     have BK415 := n5_
     have BK423 := n6_
     have BK428 := n7_
     have BK433 := n8_
     have HB := n9_
     clear n0_ n1_ n2_ n3_ n4_ n5_ n6_ n7_ n8_ n9_
     (try clear hb)
     refine hK.out _ _ ⟨(blk_cell BK415.out 0).trans rfl, (blk_cell BK415.out 1).trans rfl, HS2_⟩ (fun hHeld => ?_)
     clear hK K
     refine sqnm ?_
     refine sqp HT_ 9 105 ?_
     refine done_ (done_of HT_.out (by kernel_rfl)) ?_
     go_upto_if 107 with (fail)
     go_cut [11] (fun v11 wc => ∃ (kq : Nat) (x11_83 : Int), v11 = .int .i64 x11_83 ∧ Aside0 (laws_FnGapsDo.j2 kq l0 t412 (wrap64 (1 + (Int.tmod (wrap64 (t416)) (wrap64 ((t412.length : Int) + 1))))) (Int.tmod (wrap64 (t417)) (wrap64 ((t412.length : Int) + 1))) (wrap64 ((Int.tmod (wrap64 (t418)) 11) - 5)) x11_83 t419 t420 t424 t425 t429 t430 = some true) ∧ Aside0 (kq ≤ kj63) ∧ Aside0 (Kd.R (Kd.int .i64) 3 wc w.heap.size (fun k_ => some k_ ≠ ((.slice Ao15 t409.length co15) : Value).ownBlock ∧ some k_ ≠ ((.slice Ao21 t420.length co21) : Value).ownBlock ∧ some k_ ≠ ((.slice Ao28 t425.length co28) : Value).ownBlock ∧ some k_ ≠ ((.slice Ao36 t430.length co36) : Value).ownBlock) (.slice (some ad452) t412.length co16) t412) ∧ Aside0 (Kd.R (Kd.int .i64) 3 wc w.heap.size (fun k_ => some k_ ≠ ((.slice (some ad452) t412.length co16) : Value).ownBlock ∧ some k_ ≠ ((.slice Ao21 t420.length co21) : Value).ownBlock ∧ some k_ ≠ ((.slice Ao28 t425.length co28) : Value).ownBlock ∧ some k_ ≠ ((.slice Ao36 t430.length co36) : Value).ownBlock) (.slice Ao15 t409.length co15) t409) ∧ Aside0 (Kd.R (Kd.int .i64) 3 wc w.heap.size (fun k_ => some k_ ≠ ((.slice (some ad452) t412.length co16) : Value).ownBlock ∧ some k_ ≠ ((.slice Ao15 t409.length co15) : Value).ownBlock ∧ some k_ ≠ ((.slice Ao28 t425.length co28) : Value).ownBlock ∧ some k_ ≠ ((.slice Ao36 t430.length co36) : Value).ownBlock) (.slice Ao21 t420.length co21) t420) ∧ Aside0 (Kd.R (Kd.int .i64) 3 wc w.heap.size (fun k_ => some k_ ≠ ((.slice (some ad452) t412.length co16) : Value).ownBlock ∧ some k_ ≠ ((.slice Ao15 t409.length co15) : Value).ownBlock ∧ some k_ ≠ ((.slice Ao21 t420.length co21) : Value).ownBlock ∧ some k_ ≠ ((.slice Ao36 t430.length co36) : Value).ownBlock) (.slice Ao28 t425.length co28) t425) ∧ Aside0 (Kd.R (Kd.int .i64) 3 wc w.heap.size (fun k_ => some k_ ≠ ((.slice (some ad452) t412.length co16) : Value).ownBlock ∧ some k_ ≠ ((.slice Ao15 t409.length co15) : Value).ownBlock ∧ some k_ ≠ ((.slice Ao21 t420.length co21) : Value).ownBlock ∧ some k_ ≠ ((.slice Ao28 t425.length co28) : Value).ownBlock) (.slice Ao36 t430.length co36) t430) ∧ Aside0 (wc.heap[gb415]? = some (.cells #[.int .i64 t408, (.slice Ao15 t409.length co15)] 41 (0, 0))) ∧ Aside0 (wc.heap[gb423]? = some (.cells #[.int .i64 t419, (.slice Ao21 t420.length co21)] 41 (0, 0))) ∧ Aside0 (wc.heap[gb428]? = some (.cells #[.int .i64 t424, (.slice Ao28 t425.length co28)] 41 (0, 0))) ∧ Aside0 (wc.heap[gb433]? = some (.cells #[.int .i64 t429, (.slice Ao36 t430.length co36)] 41 (0, 0))) ∧ Aside0 (Below w.heap.size w wc))
     case first =>
      as_aux_lemma =>
      have H := HC84.out
      clear HC84
      replace H := sqi H
      rcases H with ⟨c88, H⟩ | ⟨c88, H⟩
      ·have c88b0 : decide (0 < (Int.tmod (wrap64 (t417)) (wrap64 ((t412.length : Int) + 1)))) = false := decide_eq_false c88
       clear c88
       (first | rw [c88b0] | (simp only [i64_w, i32_w]; rw [c88b0]) | skip)
       have H' := Aside0.mk H
       clear H
       go_wp2
       go_meet
       case rel => exact ⟨_, (0), (by first | rfl | (simp; done) | (simp [*]; done)), H', ⟨by have := HJ10.out; have := HJ63.out; first | omega | exact Nat.le_refl _⟩, ⟨sqy HO_4.out⟩, ⟨sqy HO_416001.out⟩, ⟨sqy HO_424001.out⟩, ⟨sqy HO_429001.out⟩, ⟨sqy HO_434001.out⟩, sqk BK415, sqk BK423, sqk BK428, sqk BK433, sqh HB⟩
      have c88b0 : decide (0 < (Int.tmod (wrap64 (t417)) (wrap64 ((t412.length : Int) + 1)))) = true := decide_eq_true c88
      clear c88
      (first | rw [c88b0] | (simp only [i64_w, i32_w]; rw [c88b0]) | skip)
      obtain ⟨ji89, hji89⟩ : ∃ j_ : Int, (wrap64 ((Int.tmod (wrap64 (t417)) (wrap64 ((t412.length : Int) + 1))) - 1)) = j_ := ⟨_, rfl⟩
      replace H : (if 0 ≤ (ji89) then (if (ji89) < (t412.length : Int) then (laws_FnGapsDo.j2 kj63 l0 t412 (wrap64 (1 + (Int.tmod (wrap64 (t416)) (wrap64 ((t412.length : Int) + 1))))) (Int.tmod (wrap64 (t417)) (wrap64 ((t412.length : Int) + 1))) (wrap64 ((Int.tmod (wrap64 (t418)) 11) - 5)) (rd t412 (ji89)) t419 t420 t424 t425 t429 t430) else (none)) else (none)) = some true := by first | (rw [hji89] at H; exact H) | (simp only [hji89] at H ⊢; exact H)
      have hji89w : (IntKind.i64.wrap ((Int.tmod (wrap64 (t417)) (wrap64 ((t412.length : Int) + 1))) - 1)) = ji89 := (i64_w _).trans hji89
      replace H := sqi H
      rcases H with ⟨c90, H⟩ | ⟨c90, H⟩
      ·exact absurd H (by simp)
      have c90b0 := decide_eq_true c90
      clear c90
      replace H := sqi H
      rcases H with ⟨c91, H⟩ | ⟨c91, H⟩
      ·exact absurd H (by simp)
      have c91b0 := decide_eq_true c91
      clear c91
      have H' := Aside0.mk H
      clear H
      have p454 : 0 ≤ ((ji89) : Int) := sqd
      have q454 : (ji89) < (t412.length : Int) := sqd
      obtain ⟨ad454, e454, hx454_0⟩ := Kd.at_int (Kd.R_reads' HO_4.out).2.2 (ji89) p454 q454
      obtain rfl : ad452 = ad454 := (by injection e454)
      replace p454 := eq_true p454
      replace q454 := eq_true q454
      go_wp2
      go_meet
      case rel => exact ⟨_, (rd t412 (ji89)), (by first | rfl | (simp; done) | (simp only [← hji89] <;> (first | rfl | simp)) | (simp [*]; done)), H', ⟨by have := HJ10.out; have := HJ63.out; first | omega | exact Nat.le_refl _⟩, ⟨sqy HO_4.out⟩, ⟨sqy HO_416001.out⟩, ⟨sqy HO_424001.out⟩, ⟨sqy HO_429001.out⟩, ⟨sqy HO_434001.out⟩, sqk BK415, sqk BK423, sqk BK428, sqk BK433, sqh HB⟩
     case rest =>
      as_aux_lemma =>
      clear HC84
      obtain ⟨kq, x11_83, rfl, HA, HJ83, HO_4, HO_416001, HO_424001, HO_429001, HO_434001, BK415, BK423, BK428, BK433, HB⟩ := hcut
      cases kq with
      | zero => exact absurd HA.out (by simp [laws_FnGapsDo.j2])
      | succ kj83 =>
       have H := HA.out
       clear HA
       simp only [laws_FnGapsDo.j2] at H
       have HC92 := Aside0.mk H
       clear H
       go_upto_region 19 with (fail)
       go_cut [130] (fun v130 wc => ∃ (kq : Nat) (x130_91 : Bool), v130 = .bool x130_91 ∧ Aside0 (laws_FnGapsDo.j3 kq l0 t412 (wrap64 (1 + (Int.tmod (wrap64 (t416)) (wrap64 ((t412.length : Int) + 1))))) (wrap64 ((Int.tmod (wrap64 (t418)) 11) - 5)) x11_83 x130_91 t419 t420 t424 t425 = some true) ∧ Aside0 (kq ≤ kj83) ∧ Aside0 (Kd.R (Kd.int .i64) 3 wc w.heap.size (fun k_ => some k_ ≠ ((.slice Ao15 t409.length co15) : Value).ownBlock ∧ some k_ ≠ ((.slice Ao21 t420.length co21) : Value).ownBlock ∧ some k_ ≠ ((.slice Ao28 t425.length co28) : Value).ownBlock ∧ some k_ ≠ ((.slice Ao36 t430.length co36) : Value).ownBlock) (.slice (some ad452) t412.length co16) t412) ∧ Aside0 (Kd.R (Kd.int .i64) 3 wc w.heap.size (fun k_ => some k_ ≠ ((.slice (some ad452) t412.length co16) : Value).ownBlock ∧ some k_ ≠ ((.slice Ao21 t420.length co21) : Value).ownBlock ∧ some k_ ≠ ((.slice Ao28 t425.length co28) : Value).ownBlock ∧ some k_ ≠ ((.slice Ao36 t430.length co36) : Value).ownBlock) (.slice Ao15 t409.length co15) t409) ∧ Aside0 (Kd.R (Kd.int .i64) 3 wc w.heap.size (fun k_ => some k_ ≠ ((.slice (some ad452) t412.length co16) : Value).ownBlock ∧ some k_ ≠ ((.slice Ao15 t409.length co15) : Value).ownBlock ∧ some k_ ≠ ((.slice Ao28 t425.length co28) : Value).ownBlock ∧ some k_ ≠ ((.slice Ao36 t430.length co36) : Value).ownBlock) (.slice Ao21 t420.length co21) t420) ∧ Aside0 (Kd.R (Kd.int .i64) 3 wc w.heap.size (fun k_ => some k_ ≠ ((.slice (some ad452) t412.length co16) : Value).ownBlock ∧ some k_ ≠ ((.slice Ao15 t409.length co15) : Value).ownBlock ∧ some k_ ≠ ((.slice Ao21 t420.length co21) : Value).ownBlock ∧ some k_ ≠ ((.slice Ao36 t430.length co36) : Value).ownBlock) (.slice Ao28 t425.length co28) t425) ∧ Aside0 (Kd.R (Kd.int .i64) 3 wc w.heap.size (fun k_ => some k_ ≠ ((.slice (some ad452) t412.length co16) : Value).ownBlock ∧ some k_ ≠ ((.slice Ao15 t409.length co15) : Value).ownBlock ∧ some k_ ≠ ((.slice Ao21 t420.length co21) : Value).ownBlock ∧ some k_ ≠ ((.slice Ao28 t425.length co28) : Value).ownBlock) (.slice Ao36 t430.length co36) t430) ∧ Aside0 (wc.heap[gb415]? = some (.cells #[.int .i64 t408, (.slice Ao15 t409.length co15)] 41 (0, 0))) ∧ Aside0 (wc.heap[gb423]? = some (.cells #[.int .i64 t419, (.slice Ao21 t420.length co21)] 41 (0, 0))) ∧ Aside0 (wc.heap[gb428]? = some (.cells #[.int .i64 t424, (.slice Ao28 t425.length co28)] 41 (0, 0))) ∧ Aside0 (wc.heap[gb433]? = some (.cells #[.int .i64 t429, (.slice Ao36 t430.length co36)] 41 (0, 0))) ∧ Aside0 (Below w.heap.size w wc))
       case first =>
        as_aux_lemma =>
        have H := HC92.out
        clear HC92
        replace H := sqj H
        rcases H with ⟨c93, H⟩ | ⟨c93, H⟩
        ·have c93b0 : ((wrap64 (1 + (Int.tmod (wrap64 (t416)) (wrap64 ((t412.length : Int) + 1))))) == (Int.tmod (wrap64 (t417)) (wrap64 ((t412.length : Int) + 1)))) = true := beq_iff_eq.mpr c93
         have c93b1 : ((wrap64 (1 + (Int.tmod (wrap64 (t416)) (wrap64 ((t412.length : Int) + 1))))) != (Int.tmod (wrap64 (t417)) (wrap64 ((t412.length : Int) + 1)))) = false := bne_eq_false_iff_eq.mpr c93
         clear c93
         (first | rw [c93b0] | (simp only [i64_w, i32_w]; rw [c93b0]) | skip)
         have H' := Aside0.mk H
         clear H
         try go_wp2
         replace HO_4 := Aside0.mk (Kd.R_drew HO_4.out)
         replace HO_416001 := Aside0.mk (Kd.R_drew HO_416001.out)
         replace HO_424001 := Aside0.mk (Kd.R_drew HO_424001.out)
         replace HO_429001 := Aside0.mk (Kd.R_drew HO_429001.out)
         replace HO_434001 := Aside0.mk (Kd.R_drew HO_434001.out)
         replace BK415 := Aside0.mk (blk_drew BK415.out)
         replace BK423 := Aside0.mk (blk_drew BK423.out)
         replace BK428 := Aside0.mk (blk_drew BK428.out)
         replace BK433 := Aside0.mk (blk_drew BK433.out)
         replace HB := Aside0.mk (below_drew1 HB.out)
         refine start_ (n := 18) (S := fun w' => True) (ds := []) #[false, false, false, false, false, false, false, false, false, false, false, false, false, false, false, false, false, false] (by kernel_rfl) rfl rfl trivial (fun hHeld => ?_); refine with_tabW laws_FnGapsDo.tab19 laws_FnGapsDo.bits19 (fun HT_ HW_ => ?_)
         generalize wc.drew = w94 at HO_4 HO_416001 HO_424001 HO_429001 HO_434001 BK415 BK423 BK428 BK433 HB hHeld ⊢
         refine sqp HT_ 0 113 ?_
         refine sqp HT_ 1 114 ?_
         refine sqp HT_ 2 115 ?_
         refine sqp HT_ 3 116 ?_
         refine sqpu HT_ 4 117 ?_
         refine sqpu HT_ 5 118 ?_
         refine sqpu HT_ 6 119 ?_
         refine sqpu HT_ 7 120 ?_
         refine sqpu HT_ 8 121 ?_
         refine sqpu HT_ 9 122 ?_
         refine sqpu HT_ 10 123 ?_
         refine sqpu HT_ 11 124 ?_
         refine sqpu HT_ 12 125 ?_
         refine sqpu HT_ 13 126 ?_
         refine sqpu HT_ 14 127 ?_
         refine sqpu HT_ 15 128 ?_
         refine sqpu HT_ 16 129 ?_
         refine sqp HT_ 17 130 ?_
         refine done_ (done_of HT_.out (by kernel_rfl)) ?_
         try go_wp2
         go_meet
         case rel => exact ⟨_, (false), (by first | rfl | (simp; done) | (simp [*]; done)), H', ⟨by have := HJ10.out; have := HJ63.out; have := HJ83.out; first | omega | exact Nat.le_refl _⟩, ⟨sqy HO_4.out⟩, ⟨sqy HO_416001.out⟩, ⟨sqy HO_424001.out⟩, ⟨sqy HO_429001.out⟩, ⟨sqy HO_434001.out⟩, sqk BK415, sqk BK423, sqk BK428, sqk BK433, sqh HB⟩
        have c93b0 : ((wrap64 (1 + (Int.tmod (wrap64 (t416)) (wrap64 ((t412.length : Int) + 1))))) == (Int.tmod (wrap64 (t417)) (wrap64 ((t412.length : Int) + 1)))) = false := beq_eq_false_iff_ne.mpr c93
        have c93b1 : ((wrap64 (1 + (Int.tmod (wrap64 (t416)) (wrap64 ((t412.length : Int) + 1))))) != (Int.tmod (wrap64 (t417)) (wrap64 ((t412.length : Int) + 1)))) = true := bne_iff_ne.mpr c93
        (first | rw [c93b0] | (simp only [i64_w, i32_w]; rw [c93b0]) | skip)
        replace H := sqbi H
        obtain ⟨t455, A95, H⟩ := H
        replace H : (if 0 ≤ (wrap64 ((wrap64 (1 + (Int.tmod (wrap64 (t416)) (wrap64 ((t412.length : Int) + 1))))) - 1)) then (if (wrap64 ((wrap64 (1 + (Int.tmod (wrap64 (t416)) (wrap64 ((t412.length : Int) + 1))))) - 1)) < (t412.length : Int) then (laws_FnGapsDo.j3 kj83 l0 t412 (wrap64 (1 + (Int.tmod (wrap64 (t416)) (wrap64 ((t412.length : Int) + 1))))) (wrap64 ((Int.tmod (wrap64 (t418)) 11) - 5)) x11_83 (t455 != (decide ((wrap64 ((rd t412 (wrap64 ((wrap64 (1 + (Int.tmod (wrap64 (t416)) (wrap64 ((t412.length : Int) + 1))))) - 1))) - x11_83)) ≤ (wrap64 ((Int.tmod (wrap64 (t418)) 11) - 5))))) t419 t420 t424 t425) else (none)) else (none)) = some true := H
        replace H : (if 0 ≤ (ji79) then (if (ji79) < (t412.length : Int) then (laws_FnGapsDo.j3 kj83 l0 t412 (wrap64 (1 + (Int.tmod (wrap64 (t416)) (wrap64 ((t412.length : Int) + 1))))) (wrap64 ((Int.tmod (wrap64 (t418)) 11) - 5)) x11_83 (t455 != (decide ((wrap64 ((rd t412 (ji79)) - x11_83)) ≤ (wrap64 ((Int.tmod (wrap64 (t418)) 11) - 5))))) t419 t420 t424 t425) else (none)) else (none)) = some true := by first | (rw [hji79] at H; exact H) | (simp only [hji79] at H ⊢; exact H)
        (try rw [hji79] at A95)
        have hji79w : (IntKind.i64.wrap ((wrap64 (1 + (Int.tmod (wrap64 (t416)) (wrap64 ((t412.length : Int) + 1))))) - 1)) = ji79 := (i64_w _).trans hji79
        replace H := sqi H
        rcases H with ⟨c97, H⟩ | ⟨c97, H⟩
        ·exact absurd H (by simp)
        have c97b0 := decide_eq_true c97
        clear c97
        replace H := sqi H
        rcases H with ⟨c98, H⟩ | ⟨c98, H⟩
        ·exact absurd H (by simp)
        have c98b0 := decide_eq_true c98
        clear c98
        have H' := Aside0.mk H
        clear H
        try go_wp2
        replace HO_4 := Aside0.mk (Kd.R_drew HO_4.out)
        replace HO_416001 := Aside0.mk (Kd.R_drew HO_416001.out)
        replace HO_424001 := Aside0.mk (Kd.R_drew HO_424001.out)
        replace HO_429001 := Aside0.mk (Kd.R_drew HO_429001.out)
        replace HO_434001 := Aside0.mk (Kd.R_drew HO_434001.out)
        replace BK415 := Aside0.mk (blk_drew BK415.out)
        replace BK423 := Aside0.mk (blk_drew BK423.out)
        replace BK428 := Aside0.mk (blk_drew BK428.out)
        replace BK433 := Aside0.mk (blk_drew BK433.out)
        replace HB := Aside0.mk (below_drew1 HB.out)
        have p456 : 0 ≤ ((ji79) : Int) := sqd
        have q456 : (ji79) < (t412.length : Int) := sqd
        obtain ⟨ad456, e456, hx456_0⟩ := Kd.at_int (Kd.R_reads' HO_4.out).2.2 (ji79) p456 q456
        obtain rfl : ad452 = ad456 := (by injection e456)
        replace p456 := eq_true p456
        replace q456 := eq_true q456
        refine start_ (n := 18) (S := fun w' => w'.cell? ⟨gb433, 0, none⟩ = some (.int .i64 t429) ∧ w'.cell? ⟨gb433, 1, none⟩ = some (.slice Ao36 t430.length co36) ∧ w'.cell? (ad452.add ((ji79)).toNat) = some (.int .i64 (rd t412 (ji79)))) (ds := []) #[false, false, false, false, false, false, false, false, false, false, false, false, false, false, false, false, false, false] (by kernel_rfl) rfl rfl ⟨(blk_cell BK433.out 0).trans rfl, (blk_cell BK433.out 1).trans rfl, hx456_0⟩ (fun hHeld => ?_); refine with_tabW laws_FnGapsDo.tab19 laws_FnGapsDo.bits19 (fun HT_ HW_ => ?_)
        generalize wc.drew = w99 at HO_4 HO_416001 HO_424001 HO_429001 HO_434001 BK415 BK423 BK428 BK433 HB hx456_0 hHeld ⊢
        refine sqp HT_ 0 113 ?_
        refine sqp HT_ 1 114 ?_
        refine sqp HT_ 2 115 ?_
        refine sqp HT_ 3 116 ?_
        refine sqp HT_ 5 118 ?_
        refine sqp HT_ 7 120 ?_
        refine sqp HT_ 8 121 ?_
        refine sqp HT_ 9 122 ?_
        refine sqp HT_ 10 123 ?_
        refine sqp HT_ 12 125 ?_
        refine sqp HT_ 14 127 ?_
        refine sqw HT_ HW_ 4 117 hHeld ?_
        refine sqw HT_ HW_ 11 124 hHeld ?_
        refine sqp HT_ 13 126 ?_
        refine sqp HT_ 15 128 ?_
        refine sqo HT_ 6 119 (fun K hK => ?_)
        refine sqG Try.func28 #[.agg #[.int .i64 t429, .slice Ao36 t430.length co36], .slice (some ad452) t412.length co16] ?_
        with_reducible refine (impl_GapsHas.calls kj83 t429 _ _ t430 _ _ t412 t455 _ ?side1 ?side2 ?side3 ?side4 A95.out).mono ?_
        (case side1 => exact sqC (Kd.R_reads' HO_434001.out).2.2)
        (case side2 => exact (Kd.R_reads' HO_434001.out).2.1)
        (case side3 => exact sqC (Kd.R_reads' HO_4.out).2.2)
        (case side4 => exact (Kd.R_reads' HO_4.out).2.1)
        rintro e w100 ⟨rfl, hb⟩
        have HS2_ := (hb.cell (World.block_lt_of_cell? _ _ (hHeld.2.2))).trans (hHeld.2.2)
        refine ⟨_, rfl, ?_⟩
        have n0_ := Aside0.mk (Kd.R_below (sqy HO_4.out) hb)
        have n1_ := Aside0.mk (Kd.R_below (sqy HO_416001.out) hb)
        have n2_ := Aside0.mk (Kd.R_below (sqy HO_424001.out) hb)
        have n3_ := Aside0.mk (Kd.R_below (sqy HO_429001.out) hb)
        have n4_ := Aside0.mk (Kd.R_below (sqy HO_434001.out) hb)
        have n5_ := sqb BK415 hb
        have n6_ := sqb BK423 hb
        have n7_ := sqb BK428 hb
        have n8_ := sqb BK433 hb
        have n9_ := sqs HB hb
        clear HO_4
        clear HO_416001
        clear HO_424001
        clear HO_429001
        clear HO_434001
        clear BK415
        clear BK423
        clear BK428
        clear BK433
        clear HB
        have HO_4 := n0_
        have HO_416001 := n1_
        have HO_424001 := n2_
        have HO_429001 := n3_
        have HO_434001 := n4_
        have BK415 := n5_
        have BK423 := n6_
        have BK428 := n7_
        have BK433 := n8_
        have HB := n9_
        clear n0_ n1_ n2_ n3_ n4_ n5_ n6_ n7_ n8_ n9_
        (try clear hb)
        refine hK.out _ _ ⟨(blk_cell BK433.out 0).trans rfl, (blk_cell BK433.out 1).trans rfl, HS2_⟩ (fun hHeld => ?_)
        clear hK K
        refine sqnm ?_
        refine sqp HT_ 16 129 ?_
        refine sqp HT_ 17 130 ?_
        refine done_ (done_of HT_.out (by kernel_rfl)) ?_
        try go_wp2
        go_meet
        case rel => exact ⟨_, ((t455 != (decide ((wrap64 ((rd t412 (ji79)) - x11_83)) ≤ (wrap64 ((Int.tmod (wrap64 (t418)) 11) - 5)))))), (by first | rfl | (simp; done) | (simp only [← hji79] <;> (first | rfl | simp)) | (simp [*]; done)), H', ⟨by have := HJ10.out; have := HJ63.out; have := HJ83.out; first | omega | exact Nat.le_refl _⟩, ⟨sqy HO_4.out⟩, ⟨sqy HO_416001.out⟩, ⟨sqy HO_424001.out⟩, ⟨sqy HO_429001.out⟩, ⟨sqy HO_434001.out⟩, sqk BK415, sqk BK423, sqk BK428, sqk BK433, sqh HB⟩
       case rest =>
        as_aux_lemma =>
        clear HC92
        obtain ⟨kq, x130_91, rfl, HA, HJ91, HO_4, HO_416001, HO_424001, HO_429001, HO_434001, BK415, BK423, BK428, BK433, HB⟩ := hcut
        cases kq with
        | zero => exact absurd HA.out (by simp [laws_FnGapsDo.j3])
        | succ kj91 =>
         have H := HA.out
         clear HA
         simp only [laws_FnGapsDo.j3] at H
         by_cases c101 : x130_91 = true
         ·subst c101
          have H1 : (some false) = some true := by rw [if_pos rfl] at H; exact H
          clear H
          have H := H1
          clear H1
          exact absurd (Option.some.inj H) (by decide)
         replace c101 := Bool.eq_false_iff.mpr c101
         subst c101
         have H1 : ((some (([] : List Int) : List Int)).bind fun y457 => (if y457.length + t412.length < 17592186044416 then ((some (y457 ++ t412 : List Int)).bind fun y460 => ((laws_wide.f l0 7).bind fun t463 => ((spec_NumWrap.f t463).bind fun t464 => (if 0 ≤ (wrap64 ((wrap64 (1 + (Int.tmod (wrap64 (t416)) (wrap64 ((t412.length : Int) + 1))))) - 1)) then (if (wrap64 ((wrap64 (1 + (Int.tmod (wrap64 (t416)) (wrap64 ((t412.length : Int) + 1))))) - 1)) < (y460.length : Int) then ((some (y460.set ((wrap64 ((wrap64 (1 + (Int.tmod (wrap64 (t416)) (wrap64 ((t412.length : Int) + 1))))) - 1)) : Int).toNat t464 : List Int)).bind fun y465 => ((impl_GapsHas.f kj91 t419 t420 y465).bind fun t466 => (if t466 = true then ((spec_NumOk.f (wrap64 (x11_83 + (wrap64 ((Int.tmod (wrap64 (t418)) 11) - 5))))).bind fun t468 => (if t468 = true then ((impl_GapsHas.f kj91 t424 t425 (y465.set ((wrap64 ((wrap64 (1 + (Int.tmod (wrap64 (t416)) (wrap64 ((t412.length : Int) + 1))))) - 1)) : Int).toNat (wrap64 (x11_83 + (wrap64 ((Int.tmod (wrap64 (t418)) 11) - 5)))))).bind fun t469 => (some t469)) else (some true))) else (some false)))) else (none)) else (none))))) else (none))) = some true := by rw [if_neg (show ¬ (false = true) by decide)] at H; exact H
         clear H
         have H := H1
         clear H1
         obtain ⟨y457, hy457⟩ : ∃ y_ : List Int, y_ = (([] : List Int)) := ⟨_, rfl⟩
         replace H : (if y457.length + t412.length < 17592186044416 then ((some (y457 ++ t412 : List Int)).bind fun y460 => ((laws_wide.f l0 7).bind fun t463 => ((spec_NumWrap.f t463).bind fun t464 => (if 0 ≤ (wrap64 ((wrap64 (1 + (Int.tmod (wrap64 (t416)) (wrap64 ((t412.length : Int) + 1))))) - 1)) then (if (wrap64 ((wrap64 (1 + (Int.tmod (wrap64 (t416)) (wrap64 ((t412.length : Int) + 1))))) - 1)) < (y460.length : Int) then ((some (y460.set ((wrap64 ((wrap64 (1 + (Int.tmod (wrap64 (t416)) (wrap64 ((t412.length : Int) + 1))))) - 1)) : Int).toNat t464 : List Int)).bind fun y465 => ((impl_GapsHas.f kj91 t419 t420 y465).bind fun t466 => (if t466 = true then ((spec_NumOk.f (wrap64 (x11_83 + (wrap64 ((Int.tmod (wrap64 (t418)) 11) - 5))))).bind fun t468 => (if t468 = true then ((impl_GapsHas.f kj91 t424 t425 (y465.set ((wrap64 ((wrap64 (1 + (Int.tmod (wrap64 (t416)) (wrap64 ((t412.length : Int) + 1))))) - 1)) : Int).toNat (wrap64 (x11_83 + (wrap64 ((Int.tmod (wrap64 (t418)) 11) - 5)))))).bind fun t469 => (some t469)) else (some true))) else (some false)))) else (none)) else (none))))) else (none)) = some true := by first | (rw [hy457]; with_reducible exact H) | (have H2_ := (Option.bind_some _ _).symm.trans H; rw [hy457]; with_reducible exact H2_) | (have H2_ := (Option.bind_some _ _).symm.trans H; with_reducible exact H2_) | with_reducible exact H | (rw [hy457]; exact H) | exact H
         have Ny457 := Aside0.mk hy457
         clear hy457
         replace H := sqi H
         rcases H with ⟨c102, H⟩ | ⟨c102, H⟩
         ·exact absurd H (by simp)
         have LMc102 := Aside0.mk c102
         clear c102
         obtain ⟨y460, hy460⟩ : ∃ y_ : List Int, y_ = (y457 ++ t412) := ⟨_, rfl⟩
         replace H : ((laws_wide.f l0 7).bind fun t463 => ((spec_NumWrap.f t463).bind fun t464 => (if 0 ≤ (wrap64 ((wrap64 (1 + (Int.tmod (wrap64 (t416)) (wrap64 ((t412.length : Int) + 1))))) - 1)) then (if (wrap64 ((wrap64 (1 + (Int.tmod (wrap64 (t416)) (wrap64 ((t412.length : Int) + 1))))) - 1)) < (y460.length : Int) then ((some (y460.set ((wrap64 ((wrap64 (1 + (Int.tmod (wrap64 (t416)) (wrap64 ((t412.length : Int) + 1))))) - 1)) : Int).toNat t464 : List Int)).bind fun y465 => ((impl_GapsHas.f kj91 t419 t420 y465).bind fun t466 => (if t466 = true then ((spec_NumOk.f (wrap64 (x11_83 + (wrap64 ((Int.tmod (wrap64 (t418)) 11) - 5))))).bind fun t468 => (if t468 = true then ((impl_GapsHas.f kj91 t424 t425 (y465.set ((wrap64 ((wrap64 (1 + (Int.tmod (wrap64 (t416)) (wrap64 ((t412.length : Int) + 1))))) - 1)) : Int).toNat (wrap64 (x11_83 + (wrap64 ((Int.tmod (wrap64 (t418)) 11) - 5)))))).bind fun t469 => (some t469)) else (some true))) else (some false)))) else (none)) else (none)))) = some true := by first | (rw [hy460]; with_reducible exact H) | (have H2_ := (Option.bind_some _ _).symm.trans H; rw [hy460]; with_reducible exact H2_) | (have H2_ := (Option.bind_some _ _).symm.trans H; with_reducible exact H2_) | with_reducible exact H | (rw [hy460]; exact H) | exact H
         have Ny460 := Aside0.mk hy460
         clear hy460
         replace H := sqbi H
         obtain ⟨t463, A103, H⟩ := H
         replace H : ((spec_NumWrap.f t463).bind fun t464 => (if 0 ≤ (wrap64 ((wrap64 (1 + (Int.tmod (wrap64 (t416)) (wrap64 ((t412.length : Int) + 1))))) - 1)) then (if (wrap64 ((wrap64 (1 + (Int.tmod (wrap64 (t416)) (wrap64 ((t412.length : Int) + 1))))) - 1)) < (y460.length : Int) then ((some (y460.set ((wrap64 ((wrap64 (1 + (Int.tmod (wrap64 (t416)) (wrap64 ((t412.length : Int) + 1))))) - 1)) : Int).toNat t464 : List Int)).bind fun y465 => ((impl_GapsHas.f kj91 t419 t420 y465).bind fun t466 => (if t466 = true then ((spec_NumOk.f (wrap64 (x11_83 + (wrap64 ((Int.tmod (wrap64 (t418)) 11) - 5))))).bind fun t468 => (if t468 = true then ((impl_GapsHas.f kj91 t424 t425 (y465.set ((wrap64 ((wrap64 (1 + (Int.tmod (wrap64 (t416)) (wrap64 ((t412.length : Int) + 1))))) - 1)) : Int).toNat (wrap64 (x11_83 + (wrap64 ((Int.tmod (wrap64 (t418)) 11) - 5)))))).bind fun t469 => (some t469)) else (some true))) else (some false)))) else (none)) else (none))) = some true := H
         replace H := sqbi H
         obtain ⟨t464, A104, H⟩ := H
         replace H : (if 0 ≤ (wrap64 ((wrap64 (1 + (Int.tmod (wrap64 (t416)) (wrap64 ((t412.length : Int) + 1))))) - 1)) then (if (wrap64 ((wrap64 (1 + (Int.tmod (wrap64 (t416)) (wrap64 ((t412.length : Int) + 1))))) - 1)) < (y460.length : Int) then ((some (y460.set ((wrap64 ((wrap64 (1 + (Int.tmod (wrap64 (t416)) (wrap64 ((t412.length : Int) + 1))))) - 1)) : Int).toNat t464 : List Int)).bind fun y465 => ((impl_GapsHas.f kj91 t419 t420 y465).bind fun t466 => (if t466 = true then ((spec_NumOk.f (wrap64 (x11_83 + (wrap64 ((Int.tmod (wrap64 (t418)) 11) - 5))))).bind fun t468 => (if t468 = true then ((impl_GapsHas.f kj91 t424 t425 (y465.set ((wrap64 ((wrap64 (1 + (Int.tmod (wrap64 (t416)) (wrap64 ((t412.length : Int) + 1))))) - 1)) : Int).toNat (wrap64 (x11_83 + (wrap64 ((Int.tmod (wrap64 (t418)) 11) - 5)))))).bind fun t469 => (some t469)) else (some true))) else (some false)))) else (none)) else (none)) = some true := H
         replace H : (if 0 ≤ (ji79) then (if (ji79) < (y460.length : Int) then ((some (y460.set ((ji79) : Int).toNat t464 : List Int)).bind fun y465 => ((impl_GapsHas.f kj91 t419 t420 y465).bind fun t466 => (if t466 = true then ((spec_NumOk.f (wrap64 (x11_83 + (wrap64 ((Int.tmod (wrap64 (t418)) 11) - 5))))).bind fun t468 => (if t468 = true then ((impl_GapsHas.f kj91 t424 t425 (y465.set ((ji79) : Int).toNat (wrap64 (x11_83 + (wrap64 ((Int.tmod (wrap64 (t418)) 11) - 5)))))).bind fun t469 => (some t469)) else (some true))) else (some false)))) else (none)) else (none)) = some true := by first | (rw [hji79] at H; exact H) | (simp only [hji79] at H ⊢; exact H)
         (try rw [hji79] at A103)
         (try rw [hji79] at A104)
         have hji79w : (IntKind.i64.wrap ((wrap64 (1 + (Int.tmod (wrap64 (t416)) (wrap64 ((t412.length : Int) + 1))))) - 1)) = ji79 := (i64_w _).trans hji79
         replace H := sqi H
         rcases H with ⟨c106, H⟩ | ⟨c106, H⟩
         ·exact absurd H (by simp)
         have c106b0 := decide_eq_true c106
         clear c106
         replace H := sqi H
         rcases H with ⟨c107, H⟩ | ⟨c107, H⟩
         ·exact absurd H (by simp)
         have c107b0 := decide_eq_true c107
         clear c107
         obtain ⟨y465, hy465⟩ : ∃ y_ : List Int, y_ = (y460.set ((ji79) : Int).toNat t464) := ⟨_, rfl⟩
         replace H : ((impl_GapsHas.f kj91 t419 t420 y465).bind fun t466 => (if t466 = true then ((spec_NumOk.f (wrap64 (x11_83 + (wrap64 ((Int.tmod (wrap64 (t418)) 11) - 5))))).bind fun t468 => (if t468 = true then ((impl_GapsHas.f kj91 t424 t425 (y465.set ((ji79) : Int).toNat (wrap64 (x11_83 + (wrap64 ((Int.tmod (wrap64 (t418)) 11) - 5)))))).bind fun t469 => (some t469)) else (some true))) else (some false))) = some true := by first | (rw [hy465]; with_reducible exact H) | (have H2_ := (Option.bind_some _ _).symm.trans H; rw [hy465]; with_reducible exact H2_) | (have H2_ := (Option.bind_some _ _).symm.trans H; with_reducible exact H2_) | with_reducible exact H | (rw [hy465]; exact H) | exact H
         have Ny465 := Aside0.mk hy465
         clear hy465
         replace H := sqbi H
         obtain ⟨t466, A109, H⟩ := H
         replace H : (if t466 = true then ((spec_NumOk.f (wrap64 (x11_83 + (wrap64 ((Int.tmod (wrap64 (t418)) 11) - 5))))).bind fun t468 => (if t468 = true then ((impl_GapsHas.f kj91 t424 t425 (y465.set ((ji79) : Int).toNat (wrap64 (x11_83 + (wrap64 ((Int.tmod (wrap64 (t418)) 11) - 5)))))).bind fun t469 => (some t469)) else (some true))) else (some false)) = some true := H
         rcases sqI (t466 = true) with c110 | c110
         ·replace c110 := Bool.eq_false_iff.mpr c110
          subst c110
          have H1 : (some false) = some true := by rw [if_neg (show ¬ (false = true) by decide)] at H; exact H
          clear H
          have H := H1
          clear H1
          exact absurd (Option.some.inj H) (by decide)
         subst c110
         have H1 : ((spec_NumOk.f (wrap64 (x11_83 + (wrap64 ((Int.tmod (wrap64 (t418)) 11) - 5))))).bind fun t468 => (if t468 = true then ((impl_GapsHas.f kj91 t424 t425 (y465.set ((ji79) : Int).toNat (wrap64 (x11_83 + (wrap64 ((Int.tmod (wrap64 (t418)) 11) - 5)))))).bind fun t469 => (some t469)) else (some true))) = some true := by rw [if_pos rfl] at H; exact H
         clear H
         have H := H1
         clear H1
         obtain ⟨y467, hy467⟩ : ∃ y_ : List Int, y_ = (y465.set ((ji79) : Int).toNat (wrap64 (x11_83 + (wrap64 ((Int.tmod (wrap64 (t418)) 11) - 5))))) := ⟨_, rfl⟩
         replace H : ((spec_NumOk.f (wrap64 (x11_83 + (wrap64 ((Int.tmod (wrap64 (t418)) 11) - 5))))).bind fun t468 => (if t468 = true then ((impl_GapsHas.f kj91 t424 t425 y467).bind fun t469 => (some t469)) else (some true))) = some true := by first | (rw [hy467]; with_reducible exact H) | (have H2_ := (Option.bind_some _ _).symm.trans H; rw [hy467]; with_reducible exact H2_) | (have H2_ := (Option.bind_some _ _).symm.trans H; with_reducible exact H2_) | with_reducible exact H | (rw [hy467]; exact H) | exact H
         have Ny467 := Aside0.mk hy467
         clear hy467
         replace H := sqbi H
         obtain ⟨t468, A112, H⟩ := H
         replace H : (if t468 = true then ((impl_GapsHas.f kj91 t424 t425 y467).bind fun t469 => (some t469)) else (some true)) = some true := H
         rcases sqI (t468 = true) with c113 | c113
         ·replace c113 := Bool.eq_false_iff.mpr c113
          subst c113
          have H1 : (some true) = some true := rfl
          clear H
          have H := H1
          clear H1
          clear H
          go_wp2_with (first | ((with_reducible refine gate_dst (N := 131) rfl ?_); (try (refine gate_guard (by rfl) ?_; dsimp only)); refine Kd.R_lit (Kd.int .i64) _ 3 ?hg (N := 131) ?hd (xs := ([] : List Int)) (inner := []) (ok := fun _ => True) (okp := fun _ => True) ?hr ?hp (fun _ hk => hk) trivial (Below.refl _ _) (Nat.le_refl _) (by simp) ?_; (case hd => rfl); (case hg => rfl); (case hr => first | (go_simp; done) | (go_simp; rfl)); (case hp => exact (Reps.none _ _)); intro v458 w131 ho132 hb hg_ hnew_; clear hg_ hnew_; (first | rw [← Ny457.out] at ho132 | (simp only [Int.reduceToNat] at ho132; rw [← Ny457.out] at ho132)); have n0_ := Aside0.mk (Kd.R_elder' (sqy HO_4.out) (Kd.R_base ho132) hb); have n1_ := Aside0.mk (Kd.R_elder' (sqy HO_416001.out) (Kd.R_base ho132) hb); have n2_ := Aside0.mk (Kd.R_elder' (sqy HO_424001.out) (Kd.R_base ho132) hb); have n3_ := Aside0.mk (Kd.R_elder' (sqy HO_429001.out) (Kd.R_base ho132) hb); have n4_ := Aside0.mk (Kd.R_elder' (sqy HO_434001.out) (Kd.R_base ho132) hb); have n5_ := Aside0.mk (Kd.R_lower (Kd.R_new' (Kd.R_new' (Kd.R_new' (Kd.R_new' (Kd.R_new' ho132 (Kd.R_lt (sqy HO_4.out))) (Kd.R_lt (sqy HO_416001.out))) (Kd.R_lt (sqy HO_424001.out))) (Kd.R_lt (sqy HO_429001.out))) (Kd.R_lt (sqy HO_434001.out))) (below_size (sqB HB))); have n6_ := sqb BK415 hb; have n7_ := sqb BK423 hb; have n8_ := sqb BK428 hb; have n9_ := sqb BK433 hb; have n10_ := sqs HB hb; clear HO_4; clear HO_416001; clear HO_424001; clear HO_429001; clear HO_434001; clear BK415; clear BK423; clear BK428; clear BK433; clear HB; have HO_4 := n0_; have HO_416001 := n1_; have HO_424001 := n2_; have HO_429001 := n3_; have HO_434001 := n4_; have HO459 := n5_; have BK415 := n6_; have BK423 := n7_; have BK428 := n8_; have BK433 := n9_; have HB := n10_; clear n0_ n1_ n2_ n3_ n4_ n5_ n6_ n7_ n8_ n9_ n10_; clear hb ho132) | ((with_reducible refine gate_builtin (b := .append) (xs := #[(.tmp 131), .tmp 132]) rfl ?_); (try (refine gate_guard (by rfl) ?_; dsimp only)); at_builtin; refine Kd.R_append_rows (Kd.int .i64) (w0 := w) w.heap.size rfl (.tmp 131) (.tmp 132) 39 3 (.int .i64 0) 8 rfl Try.underlying39 info3 rfl (by decide) (by omega) v458 y457 t412 _ _ _ (fun k_ => some k_ ≠ (.slice (some ad452) t412.length co16 : Value).ownBlock ∧ some k_ ≠ (.slice Ao15 t409.length co15 : Value).ownBlock ∧ some k_ ≠ (.slice Ao21 t420.length co21 : Value).ownBlock ∧ some k_ ≠ (.slice Ao28 t425.length co28 : Value).ownBlock ∧ some k_ ≠ (.slice Ao36 t430.length co36 : Value).ownBlock) (fun _ => False) rfl rfl ?aO ?aR (fun _ _ h => h) (fun _ h => h.elim) ?aF ?aB ?aS ?aL ?_; (case aR => repeat (first | exact (Kd.R_reads' HO_4.out).2.2 | (with_reducible refine Kd.C_alloc ?_ _) | (with_reducible refine Kd.C_drewN ?_ _) | (with_reducible refine Kd.C_drew ?_))); (case aB => exact (sqB HB)); (case aF => exact (fun k_ hk => ⟨Kd.fresh' (Kd.R_lt (sqy HO_4.out)) k_ hk, Kd.fresh' (Kd.R_lt (sqy HO_416001.out)) k_ hk, Kd.fresh' (Kd.R_lt (sqy HO_424001.out)) k_ hk, Kd.fresh' (Kd.R_lt (sqy HO_429001.out)) k_ hk, Kd.fresh' (Kd.R_lt (sqy HO_434001.out)) k_ hk⟩)); (case aO => exact (by (with_reducible repeat (first | apply Kd.R_alloc | apply Kd.R_drewN | apply Kd.R_drew)); exact Kd.R_mono HO459.out (fun _ hk => ⟨hk.1.1.1.1.2, ⟨hk.1.1.1.2, ⟨hk.1.1.2, ⟨hk.1.2, hk.2⟩⟩⟩⟩))); (case aS => exact (below_size (sqB HB))); (case aL => have := LMc102.out; omega); intro v461 w133 ho hb hg hat; rw [← Ny460.out] at ho; have n0_ := Aside0.mk (Kd.R_after (ok := (fun k_ => some k_ ≠ (.slice Ao15 t409.length co15 : Value).ownBlock ∧ some k_ ≠ (.slice Ao21 t420.length co21 : Value).ownBlock ∧ some k_ ≠ (.slice Ao28 t425.length co28 : Value).ownBlock ∧ some k_ ≠ (.slice Ao36 t430.length co36 : Value).ownBlock)) (sqy HO_4.out) hg hat); have n1_ := Aside0.mk (Kd.R_after (ok := (fun k_ => some k_ ≠ (.slice (some ad452) t412.length co16 : Value).ownBlock ∧ some k_ ≠ (.slice Ao21 t420.length co21 : Value).ownBlock ∧ some k_ ≠ (.slice Ao28 t425.length co28 : Value).ownBlock ∧ some k_ ≠ (.slice Ao36 t430.length co36 : Value).ownBlock)) (sqy HO_416001.out) hg hat); have n2_ := Aside0.mk (Kd.R_after (ok := (fun k_ => some k_ ≠ (.slice (some ad452) t412.length co16 : Value).ownBlock ∧ some k_ ≠ (.slice Ao15 t409.length co15 : Value).ownBlock ∧ some k_ ≠ (.slice Ao28 t425.length co28 : Value).ownBlock ∧ some k_ ≠ (.slice Ao36 t430.length co36 : Value).ownBlock)) (sqy HO_424001.out) hg hat); have n3_ := Aside0.mk (Kd.R_after (ok := (fun k_ => some k_ ≠ (.slice (some ad452) t412.length co16 : Value).ownBlock ∧ some k_ ≠ (.slice Ao15 t409.length co15 : Value).ownBlock ∧ some k_ ≠ (.slice Ao21 t420.length co21 : Value).ownBlock ∧ some k_ ≠ (.slice Ao36 t430.length co36 : Value).ownBlock)) (sqy HO_429001.out) hg hat); have n4_ := Aside0.mk (Kd.R_after (ok := (fun k_ => some k_ ≠ (.slice (some ad452) t412.length co16 : Value).ownBlock ∧ some k_ ≠ (.slice Ao15 t409.length co15 : Value).ownBlock ∧ some k_ ≠ (.slice Ao21 t420.length co21 : Value).ownBlock ∧ some k_ ≠ (.slice Ao28 t425.length co28 : Value).ownBlock)) (sqy HO_434001.out) hg hat); have n5_ := Aside0.mk (blk_grown (g := gb415) (o := .cells #[.int .i64 t408, .slice Ao15 t409.length co15] 41 (0, 0)) (sqt BK415.out) hg (Kd.R_ne HO459.out BK415.out (by decide))); have n6_ := Aside0.mk (blk_grown (g := gb423) (o := .cells #[.int .i64 t419, .slice Ao21 t420.length co21] 41 (0, 0)) (sqt BK423.out) hg (Kd.R_ne HO459.out BK423.out (by decide))); have n7_ := Aside0.mk (blk_grown (g := gb428) (o := .cells #[.int .i64 t424, .slice Ao28 t425.length co28] 41 (0, 0)) (sqt BK428.out) hg (Kd.R_ne HO459.out BK428.out (by decide))); have n8_ := Aside0.mk (blk_grown (g := gb433) (o := .cells #[.int .i64 t429, .slice Ao36 t430.length co36] 41 (0, 0)) (sqt BK433.out) hg (Kd.R_ne HO459.out BK433.out (by decide))); have n9_ := Aside0.mk (hb); have n10_ := Aside0.mk (ho); clear HO_4; clear HO_416001; clear HO_424001; clear HO_429001; clear HO_434001; clear BK415; clear BK423; clear BK428; clear BK433; clear HB; clear HO459; have HO_4 := n0_; have HO_416001 := n1_; have HO_424001 := n2_; have HO_429001 := n3_; have HO_434001 := n4_; have BK415 := n5_; have BK423 := n6_; have BK428 := n7_; have BK433 := n8_; have HB := n9_; have HO462 := n10_; clear n0_ n1_ n2_ n3_ n4_ n5_ n6_ n7_ n8_ n9_ n10_; clear ho hb hg hat) | ((with_reducible refine gate_callee (f := 55) rfl ?_); refine sqL (some 138) Try.func55 #[.slice A0 l0.length c0, .int .i64 7] ?_; (with_reducible refine (laws_wide.calls _ _ l0 7 t463 _ ?side1 ?side2 A103.out).mono ?_); (case side1 => exact sqC (Kd.C_below HR0.out HB.out)); (case side2 => exact HC0.out); rintro e w' ⟨rfl, ⟨nd, rfl⟩⟩; refine ⟨_, rfl, ?_⟩; (try (rw [drewN_self w133]; generalize hq_ : World.drewN w133 _ = w133; replace HO462 := sqv HO462 hq_; replace HO_4 := sqv HO_4 hq_; replace HO_416001 := sqv HO_416001 hq_; replace HO_424001 := sqv HO_424001 hq_; replace HO_429001 := sqv HO_429001 hq_; replace HO_434001 := sqv HO_434001 hq_; replace BK415 := sqq BK415 hq_; replace BK423 := sqq BK423 hq_; replace BK428 := sqq BK428 hq_; replace BK433 := sqq BK433 hq_; replace HB := sqr HB hq_; clear hq_; obtain ⟨hqz9_0, hqz9_1, hqf9_0, hqf9_1⟩ := sqc2 BK415; obtain ⟨hqz10_0, hqz10_1, hqf10_0, hqf10_1⟩ := sqc2 BK423; obtain ⟨hqz11_0, hqz11_1, hqf11_0, hqf11_1⟩ := sqc2 BK428; obtain ⟨hqz12_0, hqz12_1, hqf12_0, hqf12_1⟩ := sqc2 BK433))) | ((with_reducible refine gate_callee (f := 54) rfl ?_); refine sqL (some 139) Try.func54 #[.int .i64 t463] ?_; (with_reducible refine (spec_NumWrap.calls t463 t464 _ A104.out).mono ?_); rintro e w' ⟨rfl, ⟨nd, rfl⟩⟩; refine ⟨_, rfl, ?_⟩; (try (rw [drewN_self w133]; generalize hq_ : World.drewN w133 _ = w133; replace HO462 := sqv HO462 hq_; replace HO_4 := sqv HO_4 hq_; replace HO_416001 := sqv HO_416001 hq_; replace HO_424001 := sqv HO_424001 hq_; replace HO_429001 := sqv HO_429001 hq_; replace HO_434001 := sqv HO_434001 hq_; replace BK415 := sqq BK415 hq_; replace BK423 := sqq BK423 hq_; replace BK428 := sqq BK428 hq_; replace BK433 := sqq BK433 hq_; replace HB := sqr HB hq_; clear hq_; obtain ⟨hqz13_0, hqz13_1, hqf13_0, hqf13_1⟩ := sqc2 BK415; obtain ⟨hqz14_0, hqz14_1, hqf14_0, hqf14_1⟩ := sqc2 BK423; obtain ⟨hqz15_0, hqz15_1, hqf15_0, hqf15_1⟩ := sqc2 BK428; obtain ⟨hqz16_0, hqz16_1, hqf16_0, hqf16_1⟩ := sqc2 BK433)); have p108 : 0 ≤ ((ji79) : Int) := sqd; have q108 : ((ji79) : Int) < ((y460.length : Int) : Int) := sqd; obtain ⟨go108, co108, eo108, gb108, gl108, cl108, HG108⟩ := Kd.R_form HO462.out (by omega); (first | cases eo108 | (injection eo108 with ea_ en_ ec_; (first | subst ea_ | (injection ea_ with ea_; subst ea_)); subst ec_; clear en_)); have GB108 := Aside0.mk gb108; have GG108 := Aside0.mk HG108; clear gb108 gl108 HG108; obtain ⟨hx108_0, hf108_0⟩ := Kd.R_celln 0 HO462.out ((ji79) : Int) p108 q108; replace p108 := eq_true p108; replace q108 := eq_true q108; obtain ⟨hy134_, hz134_⟩ := Kd.R_celln 0 HO462.out ((ji79) : Int) sqd sqd; have HP134 := Kd.R_putg HO462.out ((ji79) : Int) t464) | ((with_reducible refine gate_store (t := 3) (p := 140) rfl ?_); refine store_event (t := 3) (p := 140) (v := ?vo_w135) (w1 := (w133.setCell ⟨go108, ((ji79) : Int).toNat, none⟩ (.int .i64 t464))) ?hg ?ho ?hn ?hr ?_; (case ho => rfl); (case hg => rfl); (case hn => rfl); (case hr => first | (go_simp; done) | (go_simp; rfl)); intro w135 hw; have hg : w133.grownBy w135 (some go108) := (by rw [hw]; exact HP134.2); have hp_ : Kd.R (Kd.int .i64) 3 w135 w.heap.size (fun k_ => some k_ ≠ (.slice (some ad452) t412.length co16 : Value).ownBlock ∧ some k_ ≠ (.slice Ao15 t409.length co15 : Value).ownBlock ∧ some k_ ≠ (.slice Ao21 t420.length co21 : Value).ownBlock ∧ some k_ ≠ (.slice Ao28 t425.length co28 : Value).ownBlock ∧ some k_ ≠ (.slice Ao36 t430.length co36 : Value).ownBlock) (.slice (some ⟨go108, 0, none⟩) y460.length co108) y465 := (by rw [hw, Ny465.out]; exact HP134.1); clear HP134; have n0_ := Aside0.mk (Kd.R_after (v := (.slice (some ⟨go108, 0, none⟩) y460.length co108)) (v1 := (.slice (some ⟨go108, 0, none⟩) y460.length co108)) (ok := (fun k_ => some k_ ≠ (.slice Ao15 t409.length co15 : Value).ownBlock ∧ some k_ ≠ (.slice Ao21 t420.length co21 : Value).ownBlock ∧ some k_ ≠ (.slice Ao28 t425.length co28 : Value).ownBlock ∧ some k_ ≠ (.slice Ao36 t430.length co36 : Value).ownBlock)) (sqy HO_4.out) hg (.inl rfl)); have n1_ := Aside0.mk (Kd.R_after (v := (.slice (some ⟨go108, 0, none⟩) y460.length co108)) (v1 := (.slice (some ⟨go108, 0, none⟩) y460.length co108)) (ok := (fun k_ => some k_ ≠ (.slice (some ad452) t412.length co16 : Value).ownBlock ∧ some k_ ≠ (.slice Ao21 t420.length co21 : Value).ownBlock ∧ some k_ ≠ (.slice Ao28 t425.length co28 : Value).ownBlock ∧ some k_ ≠ (.slice Ao36 t430.length co36 : Value).ownBlock)) (sqy HO_416001.out) hg (.inl rfl)); have n2_ := Aside0.mk (Kd.R_after (v := (.slice (some ⟨go108, 0, none⟩) y460.length co108)) (v1 := (.slice (some ⟨go108, 0, none⟩) y460.length co108)) (ok := (fun k_ => some k_ ≠ (.slice (some ad452) t412.length co16 : Value).ownBlock ∧ some k_ ≠ (.slice Ao15 t409.length co15 : Value).ownBlock ∧ some k_ ≠ (.slice Ao28 t425.length co28 : Value).ownBlock ∧ some k_ ≠ (.slice Ao36 t430.length co36 : Value).ownBlock)) (sqy HO_424001.out) hg (.inl rfl)); have n3_ := Aside0.mk (Kd.R_after (v := (.slice (some ⟨go108, 0, none⟩) y460.length co108)) (v1 := (.slice (some ⟨go108, 0, none⟩) y460.length co108)) (ok := (fun k_ => some k_ ≠ (.slice (some ad452) t412.length co16 : Value).ownBlock ∧ some k_ ≠ (.slice Ao15 t409.length co15 : Value).ownBlock ∧ some k_ ≠ (.slice Ao21 t420.length co21 : Value).ownBlock ∧ some k_ ≠ (.slice Ao36 t430.length co36 : Value).ownBlock)) (sqy HO_429001.out) hg (.inl rfl)); have n4_ := Aside0.mk (Kd.R_after (v := (.slice (some ⟨go108, 0, none⟩) y460.length co108)) (v1 := (.slice (some ⟨go108, 0, none⟩) y460.length co108)) (ok := (fun k_ => some k_ ≠ (.slice (some ad452) t412.length co16 : Value).ownBlock ∧ some k_ ≠ (.slice Ao15 t409.length co15 : Value).ownBlock ∧ some k_ ≠ (.slice Ao21 t420.length co21 : Value).ownBlock ∧ some k_ ≠ (.slice Ao28 t425.length co28 : Value).ownBlock)) (sqy HO_434001.out) hg (.inl rfl)); have n5_ := Aside0.mk (blk_grown (g := gb415) (o := .cells #[.int .i64 t408, .slice Ao15 t409.length co15] 41 (0, 0)) (sqt BK415.out) hg (Kd.R_ne HO462.out BK415.out (by decide))); have n6_ := Aside0.mk (blk_grown (g := gb423) (o := .cells #[.int .i64 t419, .slice Ao21 t420.length co21] 41 (0, 0)) (sqt BK423.out) hg (Kd.R_ne HO462.out BK423.out (by decide))); have n7_ := Aside0.mk (blk_grown (g := gb428) (o := .cells #[.int .i64 t424, .slice Ao28 t425.length co28] 41 (0, 0)) (sqt BK428.out) hg (Kd.R_ne HO462.out BK428.out (by decide))); have n8_ := Aside0.mk (blk_grown (g := gb433) (o := .cells #[.int .i64 t429, .slice Ao36 t430.length co36] 41 (0, 0)) (sqt BK433.out) hg (Kd.R_ne HO462.out BK433.out (by decide))); have n9_ := Aside0.mk (hp_); have n10_ := Aside0.mk ((by rw [hw]; exact below_set (HB.out) GB108.out : Below w.heap.size w w135)); clear HO_4; clear HO_416001; clear HO_424001; clear HO_429001; clear HO_434001; clear BK415; clear BK423; clear BK428; clear BK433; clear HO462; clear HB; have HO_4 := n0_; have HO_416001 := n1_; have HO_424001 := n2_; have HO_429001 := n3_; have HO_434001 := n4_; have BK415 := n5_; have BK423 := n6_; have BK428 := n7_; have BK433 := n8_; have HO462 := n9_; have HB := n10_; clear n0_ n1_ n2_ n3_ n4_ n5_ n6_ n7_ n8_ n9_ n10_; clear hg hw hp_; have hnb136 := NB423_415.out; have hnc136 := NB415_423.out; have hnb137 := NB423_428.out; have hnc137 := NB428_423.out; have hnb138 := NB423_433.out; have hnc138 := NB433_423.out; obtain ⟨hcz139_0, hcz139_1, hfz139_0, hfz139_1⟩ := sqc2 BK423) | ((with_reducible refine gate_callee (f := 28) rfl ?_); refine goesL_ (some 143) rfl rfl Try.func28 (by kernel_rfl) rfl #[.agg #[.int .i64 t419, .slice Ao21 t420.length co21], .slice (some ⟨go108, 0, none⟩) y465.length co108] rfl (by (try simp only [List.map_toArray, List.map_cons, List.map_nil]); first | done | (rw [show y465.length = y460.length from (Kd.R_reads' HO462.out).1.symm] <;> rfl) | rfl | (simp only [List.length_drop, List.length_take]; rfl)) ?_; (with_reducible refine (impl_GapsHas.calls kj91 t419 _ _ t420 _ _ y465 true _ ?side1 ?side2 ?side3 ?side4 A109.out).mono ?_); (case side1 => exact sqC (Kd.R_reads' HO_424001.out).2.2); (case side2 => exact (Kd.R_reads' HO_424001.out).2.1); (case side3 => exact sqC (Kd.R_reads' HO462.out).2.2); (case side4 => rw [show y465.length = y460.length from (Kd.R_reads' HO462.out).1.symm]; exact (Kd.R_reads' HO462.out).2.1); rintro e w140 ⟨rfl, hb⟩; refine ⟨_, rfl, ?_⟩; have n0_ := Aside0.mk (Kd.R_below (sqy HO_4.out) hb); have n1_ := Aside0.mk (Kd.R_below (sqy HO_416001.out) hb); have n2_ := Aside0.mk (Kd.R_below (sqy HO_424001.out) hb); have n3_ := Aside0.mk (Kd.R_below (sqy HO_429001.out) hb); have n4_ := Aside0.mk (Kd.R_below (sqy HO_434001.out) hb); have n5_ := Aside0.mk (Kd.R_below (sqy HO462.out) hb); have n6_ := sqb BK415 hb; have n7_ := sqb BK423 hb; have n8_ := sqb BK428 hb; have n9_ := sqb BK433 hb; have n10_ := sqs HB hb; clear HO_4; clear HO_416001; clear HO_424001; clear HO_429001; clear HO_434001; clear HO462; clear BK415; clear BK423; clear BK428; clear BK433; clear HB; have HO_4 := n0_; have HO_416001 := n1_; have HO_424001 := n2_; have HO_429001 := n3_; have HO_434001 := n4_; have HO462 := n5_; have BK415 := n6_; have BK423 := n7_; have BK428 := n8_; have BK433 := n9_; have HB := n10_; clear n0_ n1_ n2_ n3_ n4_ n5_ n6_ n7_ n8_ n9_ n10_; (try clear hb); have p111 : 0 ≤ ((ji79) : Int) := sqd; have q111 : ((ji79) : Int) < ((y460.length : Int) : Int) := sqd; obtain ⟨hx111_0, hf111_0⟩ := Kd.R_celln 0 HO462.out ((ji79) : Int) p111 q111; replace p111 := eq_true p111; replace q111 := eq_true q111; obtain ⟨hy141_, hz141_⟩ := Kd.R_celln 0 HO462.out ((ji79) : Int) sqd sqd; have HP141 := Kd.R_putg HO462.out ((ji79) : Int) (wrap64 (x11_83 + (wrap64 ((Int.tmod (wrap64 (t418)) 11) - 5))))) | ((with_reducible refine gate_store (t := 3) (p := 151) rfl ?_); refine store_event (t := 3) (p := 151) (v := ?vo_w142) (w1 := (w140.setCell ⟨go108, ((ji79) : Int).toNat, none⟩ (.int .i64 (wrap64 (x11_83 + (wrap64 ((Int.tmod (wrap64 (t418)) 11) - 5))))))) ?hg ?ho ?hn ?hr ?_; (case ho => rfl); (case hg => rfl); (case hn => rfl); (case hr => first | (go_simp; done) | (go_simp; rfl)); intro w142 hw; have hg : w140.grownBy w142 (some go108) := (by rw [hw]; exact HP141.2); have hp_ : Kd.R (Kd.int .i64) 3 w142 w.heap.size (fun k_ => some k_ ≠ (.slice (some ad452) t412.length co16 : Value).ownBlock ∧ some k_ ≠ (.slice Ao15 t409.length co15 : Value).ownBlock ∧ some k_ ≠ (.slice Ao21 t420.length co21 : Value).ownBlock ∧ some k_ ≠ (.slice Ao28 t425.length co28 : Value).ownBlock ∧ some k_ ≠ (.slice Ao36 t430.length co36 : Value).ownBlock) (.slice (some ⟨go108, 0, none⟩) y460.length co108) y467 := (by rw [hw, Ny467.out]; exact HP141.1); clear HP141; have n0_ := Aside0.mk (Kd.R_after (v := (.slice (some ⟨go108, 0, none⟩) y460.length co108)) (v1 := (.slice (some ⟨go108, 0, none⟩) y460.length co108)) (ok := (fun k_ => some k_ ≠ (.slice Ao15 t409.length co15 : Value).ownBlock ∧ some k_ ≠ (.slice Ao21 t420.length co21 : Value).ownBlock ∧ some k_ ≠ (.slice Ao28 t425.length co28 : Value).ownBlock ∧ some k_ ≠ (.slice Ao36 t430.length co36 : Value).ownBlock)) (sqy HO_4.out) hg (.inl rfl)); have n1_ := Aside0.mk (Kd.R_after (v := (.slice (some ⟨go108, 0, none⟩) y460.length co108)) (v1 := (.slice (some ⟨go108, 0, none⟩) y460.length co108)) (ok := (fun k_ => some k_ ≠ (.slice (some ad452) t412.length co16 : Value).ownBlock ∧ some k_ ≠ (.slice Ao21 t420.length co21 : Value).ownBlock ∧ some k_ ≠ (.slice Ao28 t425.length co28 : Value).ownBlock ∧ some k_ ≠ (.slice Ao36 t430.length co36 : Value).ownBlock)) (sqy HO_416001.out) hg (.inl rfl)); have n2_ := Aside0.mk (Kd.R_after (v := (.slice (some ⟨go108, 0, none⟩) y460.length co108)) (v1 := (.slice (some ⟨go108, 0, none⟩) y460.length co108)) (ok := (fun k_ => some k_ ≠ (.slice (some ad452) t412.length co16 : Value).ownBlock ∧ some k_ ≠ (.slice Ao15 t409.length co15 : Value).ownBlock ∧ some k_ ≠ (.slice Ao28 t425.length co28 : Value).ownBlock ∧ some k_ ≠ (.slice Ao36 t430.length co36 : Value).ownBlock)) (sqy HO_424001.out) hg (.inl rfl)); have n3_ := Aside0.mk (Kd.R_after (v := (.slice (some ⟨go108, 0, none⟩) y460.length co108)) (v1 := (.slice (some ⟨go108, 0, none⟩) y460.length co108)) (ok := (fun k_ => some k_ ≠ (.slice (some ad452) t412.length co16 : Value).ownBlock ∧ some k_ ≠ (.slice Ao15 t409.length co15 : Value).ownBlock ∧ some k_ ≠ (.slice Ao21 t420.length co21 : Value).ownBlock ∧ some k_ ≠ (.slice Ao36 t430.length co36 : Value).ownBlock)) (sqy HO_429001.out) hg (.inl rfl)); have n4_ := Aside0.mk (Kd.R_after (v := (.slice (some ⟨go108, 0, none⟩) y460.length co108)) (v1 := (.slice (some ⟨go108, 0, none⟩) y460.length co108)) (ok := (fun k_ => some k_ ≠ (.slice (some ad452) t412.length co16 : Value).ownBlock ∧ some k_ ≠ (.slice Ao15 t409.length co15 : Value).ownBlock ∧ some k_ ≠ (.slice Ao21 t420.length co21 : Value).ownBlock ∧ some k_ ≠ (.slice Ao28 t425.length co28 : Value).ownBlock)) (sqy HO_434001.out) hg (.inl rfl)); have n5_ := Aside0.mk (blk_grown (g := gb415) (o := .cells #[.int .i64 t408, .slice Ao15 t409.length co15] 41 (0, 0)) (sqt BK415.out) hg (Kd.R_ne HO462.out BK415.out (by decide))); have n6_ := Aside0.mk (blk_grown (g := gb423) (o := .cells #[.int .i64 t419, .slice Ao21 t420.length co21] 41 (0, 0)) (sqt BK423.out) hg (Kd.R_ne HO462.out BK423.out (by decide))); have n7_ := Aside0.mk (blk_grown (g := gb428) (o := .cells #[.int .i64 t424, .slice Ao28 t425.length co28] 41 (0, 0)) (sqt BK428.out) hg (Kd.R_ne HO462.out BK428.out (by decide))); have n8_ := Aside0.mk (blk_grown (g := gb433) (o := .cells #[.int .i64 t429, .slice Ao36 t430.length co36] 41 (0, 0)) (sqt BK433.out) hg (Kd.R_ne HO462.out BK433.out (by decide))); have n9_ := Aside0.mk (hp_); have n10_ := Aside0.mk ((by rw [hw]; exact below_set (HB.out) GB108.out : Below w.heap.size w w142)); clear HO_4; clear HO_416001; clear HO_424001; clear HO_429001; clear HO_434001; clear BK415; clear BK423; clear BK428; clear BK433; clear HO462; clear HB; have HO_4 := n0_; have HO_416001 := n1_; have HO_424001 := n2_; have HO_429001 := n3_; have HO_434001 := n4_; have BK415 := n5_; have BK423 := n6_; have BK428 := n7_; have BK433 := n8_; have HO462 := n9_; have HB := n10_; clear n0_ n1_ n2_ n3_ n4_ n5_ n6_ n7_ n8_ n9_ n10_; clear hg hw hp_) | ((with_reducible refine gate_callee (f := 56) rfl ?_); refine sqL (some 155) Try.func56 #[.int .i64 (wrap64 (x11_83 + (wrap64 ((Int.tmod (wrap64 (t418)) 11) - 5))))] ?_; (with_reducible refine (spec_NumOk.calls (wrap64 (x11_83 + (wrap64 ((Int.tmod (wrap64 (t418)) 11) - 5)))) false _ A112.out).mono ?_); rintro e w' ⟨rfl, ⟨nd, rfl⟩⟩; refine ⟨_, rfl, ?_⟩))
          go_ret
          exact ⟨by first | rfl | (simp [errW_none, errW_some] <;> rfl) | (simp only [← hji79, ← hji79]; first | rfl | (simp [errW_none, errW_some] <;> rfl)) | (simp [*, errW_none, errW_some] <;> rfl), by repeat (first | (with_reducible first | exact HB.out | apply below_alloc | apply pw_below_drewN | apply below_drew1 | refine below_set ?_ GE415.out | refine below_set ?_ GE423.out | refine below_set ?_ GE428.out | refine below_set ?_ GE433.out) | exact HB.out)⟩
         subst c113
         have H1 : ((impl_GapsHas.f kj91 t424 t425 y467).bind fun t469 => (some t469)) = some true := by rw [if_pos rfl] at H; exact H
         clear H
         have H := H1
         clear H1
         replace H := sqbi H
         obtain ⟨t469, A114, H⟩ := H
         replace H : (some t469) = some true := H
         (first | (obtain rfl := Option.some.inj H) | (have ht_ : (_ == _) = true := Option.some.inj H; clear H) | clear H)
         go_wp2_with (first | ((with_reducible refine gate_dst (N := 131) rfl ?_); (try (refine gate_guard (by rfl) ?_; dsimp only)); refine Kd.R_lit (Kd.int .i64) _ 3 ?hg (N := 131) ?hd (xs := ([] : List Int)) (inner := []) (ok := fun _ => True) (okp := fun _ => True) ?hr ?hp (fun _ hk => hk) trivial (Below.refl _ _) (Nat.le_refl _) (by simp) ?_; (case hd => rfl); (case hg => rfl); (case hr => first | (go_simp; done) | (go_simp; rfl)); (case hp => exact (Reps.none _ _)); intro v458 w115 ho116 hb hg_ hnew_; clear hg_ hnew_; (first | rw [← Ny457.out] at ho116 | (simp only [Int.reduceToNat] at ho116; rw [← Ny457.out] at ho116)); have n0_ := Aside0.mk (Kd.R_elder' (sqy HO_4.out) (Kd.R_base ho116) hb); have n1_ := Aside0.mk (Kd.R_elder' (sqy HO_416001.out) (Kd.R_base ho116) hb); have n2_ := Aside0.mk (Kd.R_elder' (sqy HO_424001.out) (Kd.R_base ho116) hb); have n3_ := Aside0.mk (Kd.R_elder' (sqy HO_429001.out) (Kd.R_base ho116) hb); have n4_ := Aside0.mk (Kd.R_elder' (sqy HO_434001.out) (Kd.R_base ho116) hb); have n5_ := Aside0.mk (Kd.R_lower (Kd.R_new' (Kd.R_new' (Kd.R_new' (Kd.R_new' (Kd.R_new' ho116 (Kd.R_lt (sqy HO_4.out))) (Kd.R_lt (sqy HO_416001.out))) (Kd.R_lt (sqy HO_424001.out))) (Kd.R_lt (sqy HO_429001.out))) (Kd.R_lt (sqy HO_434001.out))) (below_size (sqB HB))); have n6_ := sqb BK415 hb; have n7_ := sqb BK423 hb; have n8_ := sqb BK428 hb; have n9_ := sqb BK433 hb; have n10_ := sqs HB hb; clear HO_4; clear HO_416001; clear HO_424001; clear HO_429001; clear HO_434001; clear BK415; clear BK423; clear BK428; clear BK433; clear HB; have HO_4 := n0_; have HO_416001 := n1_; have HO_424001 := n2_; have HO_429001 := n3_; have HO_434001 := n4_; have HO459 := n5_; have BK415 := n6_; have BK423 := n7_; have BK428 := n8_; have BK433 := n9_; have HB := n10_; clear n0_ n1_ n2_ n3_ n4_ n5_ n6_ n7_ n8_ n9_ n10_; clear hb ho116) | ((with_reducible refine gate_builtin (b := .append) (xs := #[(.tmp 131), .tmp 132]) rfl ?_); (try (refine gate_guard (by rfl) ?_; dsimp only)); at_builtin; refine Kd.R_append_rows (Kd.int .i64) (w0 := w) w.heap.size rfl (.tmp 131) (.tmp 132) 39 3 (.int .i64 0) 8 rfl Try.underlying39 info3 rfl (by decide) (by omega) v458 y457 t412 _ _ _ (fun k_ => some k_ ≠ (.slice (some ad452) t412.length co16 : Value).ownBlock ∧ some k_ ≠ (.slice Ao15 t409.length co15 : Value).ownBlock ∧ some k_ ≠ (.slice Ao21 t420.length co21 : Value).ownBlock ∧ some k_ ≠ (.slice Ao28 t425.length co28 : Value).ownBlock ∧ some k_ ≠ (.slice Ao36 t430.length co36 : Value).ownBlock) (fun _ => False) rfl rfl ?aO ?aR (fun _ _ h => h) (fun _ h => h.elim) ?aF ?aB ?aS ?aL ?_; (case aR => repeat (first | exact (Kd.R_reads' HO_4.out).2.2 | (with_reducible refine Kd.C_alloc ?_ _) | (with_reducible refine Kd.C_drewN ?_ _) | (with_reducible refine Kd.C_drew ?_))); (case aB => exact (sqB HB)); (case aF => exact (fun k_ hk => ⟨Kd.fresh' (Kd.R_lt (sqy HO_4.out)) k_ hk, Kd.fresh' (Kd.R_lt (sqy HO_416001.out)) k_ hk, Kd.fresh' (Kd.R_lt (sqy HO_424001.out)) k_ hk, Kd.fresh' (Kd.R_lt (sqy HO_429001.out)) k_ hk, Kd.fresh' (Kd.R_lt (sqy HO_434001.out)) k_ hk⟩)); (case aO => exact (by (with_reducible repeat (first | apply Kd.R_alloc | apply Kd.R_drewN | apply Kd.R_drew)); exact Kd.R_mono HO459.out (fun _ hk => ⟨hk.1.1.1.1.2, ⟨hk.1.1.1.2, ⟨hk.1.1.2, ⟨hk.1.2, hk.2⟩⟩⟩⟩))); (case aS => exact (below_size (sqB HB))); (case aL => have := LMc102.out; omega); intro v461 w117 ho hb hg hat; rw [← Ny460.out] at ho; have n0_ := Aside0.mk (Kd.R_after (ok := (fun k_ => some k_ ≠ (.slice Ao15 t409.length co15 : Value).ownBlock ∧ some k_ ≠ (.slice Ao21 t420.length co21 : Value).ownBlock ∧ some k_ ≠ (.slice Ao28 t425.length co28 : Value).ownBlock ∧ some k_ ≠ (.slice Ao36 t430.length co36 : Value).ownBlock)) (sqy HO_4.out) hg hat); have n1_ := Aside0.mk (Kd.R_after (ok := (fun k_ => some k_ ≠ (.slice (some ad452) t412.length co16 : Value).ownBlock ∧ some k_ ≠ (.slice Ao21 t420.length co21 : Value).ownBlock ∧ some k_ ≠ (.slice Ao28 t425.length co28 : Value).ownBlock ∧ some k_ ≠ (.slice Ao36 t430.length co36 : Value).ownBlock)) (sqy HO_416001.out) hg hat); have n2_ := Aside0.mk (Kd.R_after (ok := (fun k_ => some k_ ≠ (.slice (some ad452) t412.length co16 : Value).ownBlock ∧ some k_ ≠ (.slice Ao15 t409.length co15 : Value).ownBlock ∧ some k_ ≠ (.slice Ao28 t425.length co28 : Value).ownBlock ∧ some k_ ≠ (.slice Ao36 t430.length co36 : Value).ownBlock)) (sqy HO_424001.out) hg hat); have n3_ := Aside0.mk (Kd.R_after (ok := (fun k_ => some k_ ≠ (.slice (some ad452) t412.length co16 : Value).ownBlock ∧ some k_ ≠ (.slice Ao15 t409.length co15 : Value).ownBlock ∧ some k_ ≠ (.slice Ao21 t420.length co21 : Value).ownBlock ∧ some k_ ≠ (.slice Ao36 t430.length co36 : Value).ownBlock)) (sqy HO_429001.out) hg hat); have n4_ := Aside0.mk (Kd.R_after (ok := (fun k_ => some k_ ≠ (.slice (some ad452) t412.length co16 : Value).ownBlock ∧ some k_ ≠ (.slice Ao15 t409.length co15 : Value).ownBlock ∧ some k_ ≠ (.slice Ao21 t420.length co21 : Value).ownBlock ∧ some k_ ≠ (.slice Ao28 t425.length co28 : Value).ownBlock)) (sqy HO_434001.out) hg hat); have n5_ := Aside0.mk (blk_grown (g := gb415) (o := .cells #[.int .i64 t408, .slice Ao15 t409.length co15] 41 (0, 0)) (sqt BK415.out) hg (Kd.R_ne HO459.out BK415.out (by decide))); have n6_ := Aside0.mk (blk_grown (g := gb423) (o := .cells #[.int .i64 t419, .slice Ao21 t420.length co21] 41 (0, 0)) (sqt BK423.out) hg (Kd.R_ne HO459.out BK423.out (by decide))); have n7_ := Aside0.mk (blk_grown (g := gb428) (o := .cells #[.int .i64 t424, .slice Ao28 t425.length co28] 41 (0, 0)) (sqt BK428.out) hg (Kd.R_ne HO459.out BK428.out (by decide))); have n8_ := Aside0.mk (blk_grown (g := gb433) (o := .cells #[.int .i64 t429, .slice Ao36 t430.length co36] 41 (0, 0)) (sqt BK433.out) hg (Kd.R_ne HO459.out BK433.out (by decide))); have n9_ := Aside0.mk (hb); have n10_ := Aside0.mk (ho); clear HO_4; clear HO_416001; clear HO_424001; clear HO_429001; clear HO_434001; clear BK415; clear BK423; clear BK428; clear BK433; clear HB; clear HO459; have HO_4 := n0_; have HO_416001 := n1_; have HO_424001 := n2_; have HO_429001 := n3_; have HO_434001 := n4_; have BK415 := n5_; have BK423 := n6_; have BK428 := n7_; have BK433 := n8_; have HB := n9_; have HO462 := n10_; clear n0_ n1_ n2_ n3_ n4_ n5_ n6_ n7_ n8_ n9_ n10_; clear ho hb hg hat) | ((with_reducible refine gate_callee (f := 55) rfl ?_); refine sqL (some 138) Try.func55 #[.slice A0 l0.length c0, .int .i64 7] ?_; (with_reducible refine (laws_wide.calls _ _ l0 7 t463 _ ?side1 ?side2 A103.out).mono ?_); (case side1 => exact sqC (Kd.C_below HR0.out HB.out)); (case side2 => exact HC0.out); rintro e w' ⟨rfl, ⟨nd, rfl⟩⟩; refine ⟨_, rfl, ?_⟩; (try (rw [drewN_self w117]; generalize hq_ : World.drewN w117 _ = w117; replace HO462 := sqv HO462 hq_; replace HO_4 := sqv HO_4 hq_; replace HO_416001 := sqv HO_416001 hq_; replace HO_424001 := sqv HO_424001 hq_; replace HO_429001 := sqv HO_429001 hq_; replace HO_434001 := sqv HO_434001 hq_; replace BK415 := sqq BK415 hq_; replace BK423 := sqq BK423 hq_; replace BK428 := sqq BK428 hq_; replace BK433 := sqq BK433 hq_; replace HB := sqr HB hq_; clear hq_; obtain ⟨hqz1_0, hqz1_1, hqf1_0, hqf1_1⟩ := sqc2 BK415; obtain ⟨hqz2_0, hqz2_1, hqf2_0, hqf2_1⟩ := sqc2 BK423; obtain ⟨hqz3_0, hqz3_1, hqf3_0, hqf3_1⟩ := sqc2 BK428; obtain ⟨hqz4_0, hqz4_1, hqf4_0, hqf4_1⟩ := sqc2 BK433))) | ((with_reducible refine gate_callee (f := 54) rfl ?_); refine sqL (some 139) Try.func54 #[.int .i64 t463] ?_; (with_reducible refine (spec_NumWrap.calls t463 t464 _ A104.out).mono ?_); rintro e w' ⟨rfl, ⟨nd, rfl⟩⟩; refine ⟨_, rfl, ?_⟩; (try (rw [drewN_self w117]; generalize hq_ : World.drewN w117 _ = w117; replace HO462 := sqv HO462 hq_; replace HO_4 := sqv HO_4 hq_; replace HO_416001 := sqv HO_416001 hq_; replace HO_424001 := sqv HO_424001 hq_; replace HO_429001 := sqv HO_429001 hq_; replace HO_434001 := sqv HO_434001 hq_; replace BK415 := sqq BK415 hq_; replace BK423 := sqq BK423 hq_; replace BK428 := sqq BK428 hq_; replace BK433 := sqq BK433 hq_; replace HB := sqr HB hq_; clear hq_; obtain ⟨hqz5_0, hqz5_1, hqf5_0, hqf5_1⟩ := sqc2 BK415; obtain ⟨hqz6_0, hqz6_1, hqf6_0, hqf6_1⟩ := sqc2 BK423; obtain ⟨hqz7_0, hqz7_1, hqf7_0, hqf7_1⟩ := sqc2 BK428; obtain ⟨hqz8_0, hqz8_1, hqf8_0, hqf8_1⟩ := sqc2 BK433)); have p108 : 0 ≤ ((ji79) : Int) := sqd; have q108 : ((ji79) : Int) < ((y460.length : Int) : Int) := sqd; obtain ⟨go108, co108, eo108, gb108, gl108, cl108, HG108⟩ := Kd.R_form HO462.out (by omega); (first | cases eo108 | (injection eo108 with ea_ en_ ec_; (first | subst ea_ | (injection ea_ with ea_; subst ea_)); subst ec_; clear en_)); have GB108 := Aside0.mk gb108; have GG108 := Aside0.mk HG108; clear gb108 gl108 HG108; obtain ⟨hx108_0, hf108_0⟩ := Kd.R_celln 0 HO462.out ((ji79) : Int) p108 q108; replace p108 := eq_true p108; replace q108 := eq_true q108; obtain ⟨hy118_, hz118_⟩ := Kd.R_celln 0 HO462.out ((ji79) : Int) sqd sqd; have HP118 := Kd.R_putg HO462.out ((ji79) : Int) t464) | ((with_reducible refine gate_store (t := 3) (p := 140) rfl ?_); refine store_event (t := 3) (p := 140) (v := ?vo_w119) (w1 := (w117.setCell ⟨go108, ((ji79) : Int).toNat, none⟩ (.int .i64 t464))) ?hg ?ho ?hn ?hr ?_; (case ho => rfl); (case hg => rfl); (case hn => rfl); (case hr => first | (go_simp; done) | (go_simp; rfl)); intro w119 hw; have hg : w117.grownBy w119 (some go108) := (by rw [hw]; exact HP118.2); have hp_ : Kd.R (Kd.int .i64) 3 w119 w.heap.size (fun k_ => some k_ ≠ (.slice (some ad452) t412.length co16 : Value).ownBlock ∧ some k_ ≠ (.slice Ao15 t409.length co15 : Value).ownBlock ∧ some k_ ≠ (.slice Ao21 t420.length co21 : Value).ownBlock ∧ some k_ ≠ (.slice Ao28 t425.length co28 : Value).ownBlock ∧ some k_ ≠ (.slice Ao36 t430.length co36 : Value).ownBlock) (.slice (some ⟨go108, 0, none⟩) y460.length co108) y465 := (by rw [hw, Ny465.out]; exact HP118.1); clear HP118; have n0_ := Aside0.mk (Kd.R_after (v := (.slice (some ⟨go108, 0, none⟩) y460.length co108)) (v1 := (.slice (some ⟨go108, 0, none⟩) y460.length co108)) (ok := (fun k_ => some k_ ≠ (.slice Ao15 t409.length co15 : Value).ownBlock ∧ some k_ ≠ (.slice Ao21 t420.length co21 : Value).ownBlock ∧ some k_ ≠ (.slice Ao28 t425.length co28 : Value).ownBlock ∧ some k_ ≠ (.slice Ao36 t430.length co36 : Value).ownBlock)) (sqy HO_4.out) hg (.inl rfl)); have n1_ := Aside0.mk (Kd.R_after (v := (.slice (some ⟨go108, 0, none⟩) y460.length co108)) (v1 := (.slice (some ⟨go108, 0, none⟩) y460.length co108)) (ok := (fun k_ => some k_ ≠ (.slice (some ad452) t412.length co16 : Value).ownBlock ∧ some k_ ≠ (.slice Ao21 t420.length co21 : Value).ownBlock ∧ some k_ ≠ (.slice Ao28 t425.length co28 : Value).ownBlock ∧ some k_ ≠ (.slice Ao36 t430.length co36 : Value).ownBlock)) (sqy HO_416001.out) hg (.inl rfl)); have n2_ := Aside0.mk (Kd.R_after (v := (.slice (some ⟨go108, 0, none⟩) y460.length co108)) (v1 := (.slice (some ⟨go108, 0, none⟩) y460.length co108)) (ok := (fun k_ => some k_ ≠ (.slice (some ad452) t412.length co16 : Value).ownBlock ∧ some k_ ≠ (.slice Ao15 t409.length co15 : Value).ownBlock ∧ some k_ ≠ (.slice Ao28 t425.length co28 : Value).ownBlock ∧ some k_ ≠ (.slice Ao36 t430.length co36 : Value).ownBlock)) (sqy HO_424001.out) hg (.inl rfl)); have n3_ := Aside0.mk (Kd.R_after (v := (.slice (some ⟨go108, 0, none⟩) y460.length co108)) (v1 := (.slice (some ⟨go108, 0, none⟩) y460.length co108)) (ok := (fun k_ => some k_ ≠ (.slice (some ad452) t412.length co16 : Value).ownBlock ∧ some k_ ≠ (.slice Ao15 t409.length co15 : Value).ownBlock ∧ some k_ ≠ (.slice Ao21 t420.length co21 : Value).ownBlock ∧ some k_ ≠ (.slice Ao36 t430.length co36 : Value).ownBlock)) (sqy HO_429001.out) hg (.inl rfl)); have n4_ := Aside0.mk (Kd.R_after (v := (.slice (some ⟨go108, 0, none⟩) y460.length co108)) (v1 := (.slice (some ⟨go108, 0, none⟩) y460.length co108)) (ok := (fun k_ => some k_ ≠ (.slice (some ad452) t412.length co16 : Value).ownBlock ∧ some k_ ≠ (.slice Ao15 t409.length co15 : Value).ownBlock ∧ some k_ ≠ (.slice Ao21 t420.length co21 : Value).ownBlock ∧ some k_ ≠ (.slice Ao28 t425.length co28 : Value).ownBlock)) (sqy HO_434001.out) hg (.inl rfl)); have n5_ := Aside0.mk (blk_grown (g := gb415) (o := .cells #[.int .i64 t408, .slice Ao15 t409.length co15] 41 (0, 0)) (sqt BK415.out) hg (Kd.R_ne HO462.out BK415.out (by decide))); have n6_ := Aside0.mk (blk_grown (g := gb423) (o := .cells #[.int .i64 t419, .slice Ao21 t420.length co21] 41 (0, 0)) (sqt BK423.out) hg (Kd.R_ne HO462.out BK423.out (by decide))); have n7_ := Aside0.mk (blk_grown (g := gb428) (o := .cells #[.int .i64 t424, .slice Ao28 t425.length co28] 41 (0, 0)) (sqt BK428.out) hg (Kd.R_ne HO462.out BK428.out (by decide))); have n8_ := Aside0.mk (blk_grown (g := gb433) (o := .cells #[.int .i64 t429, .slice Ao36 t430.length co36] 41 (0, 0)) (sqt BK433.out) hg (Kd.R_ne HO462.out BK433.out (by decide))); have n9_ := Aside0.mk (hp_); have n10_ := Aside0.mk ((by rw [hw]; exact below_set (HB.out) GB108.out : Below w.heap.size w w119)); clear HO_4; clear HO_416001; clear HO_424001; clear HO_429001; clear HO_434001; clear BK415; clear BK423; clear BK428; clear BK433; clear HO462; clear HB; have HO_4 := n0_; have HO_416001 := n1_; have HO_424001 := n2_; have HO_429001 := n3_; have HO_434001 := n4_; have BK415 := n5_; have BK423 := n6_; have BK428 := n7_; have BK433 := n8_; have HO462 := n9_; have HB := n10_; clear n0_ n1_ n2_ n3_ n4_ n5_ n6_ n7_ n8_ n9_ n10_; clear hg hw hp_; have hnb120 := NB423_415.out; have hnc120 := NB415_423.out; have hnb121 := NB423_428.out; have hnc121 := NB428_423.out; have hnb122 := NB423_433.out; have hnc122 := NB433_423.out; obtain ⟨hcz123_0, hcz123_1, hfz123_0, hfz123_1⟩ := sqc2 BK423) | ((with_reducible refine gate_callee (f := 28) rfl ?_); refine goesL_ (some 143) rfl rfl Try.func28 (by kernel_rfl) rfl #[.agg #[.int .i64 t419, .slice Ao21 t420.length co21], .slice (some ⟨go108, 0, none⟩) y465.length co108] rfl (by (try simp only [List.map_toArray, List.map_cons, List.map_nil]); first | done | (rw [show y465.length = y460.length from (Kd.R_reads' HO462.out).1.symm] <;> rfl) | rfl | (simp only [List.length_drop, List.length_take]; rfl)) ?_; (with_reducible refine (impl_GapsHas.calls kj91 t419 _ _ t420 _ _ y465 true _ ?side1 ?side2 ?side3 ?side4 A109.out).mono ?_); (case side1 => exact sqC (Kd.R_reads' HO_424001.out).2.2); (case side2 => exact (Kd.R_reads' HO_424001.out).2.1); (case side3 => exact sqC (Kd.R_reads' HO462.out).2.2); (case side4 => rw [show y465.length = y460.length from (Kd.R_reads' HO462.out).1.symm]; exact (Kd.R_reads' HO462.out).2.1); rintro e w124 ⟨rfl, hb⟩; refine ⟨_, rfl, ?_⟩; have n0_ := Aside0.mk (Kd.R_below (sqy HO_4.out) hb); have n1_ := Aside0.mk (Kd.R_below (sqy HO_416001.out) hb); have n2_ := Aside0.mk (Kd.R_below (sqy HO_424001.out) hb); have n3_ := Aside0.mk (Kd.R_below (sqy HO_429001.out) hb); have n4_ := Aside0.mk (Kd.R_below (sqy HO_434001.out) hb); have n5_ := Aside0.mk (Kd.R_below (sqy HO462.out) hb); have n6_ := sqb BK415 hb; have n7_ := sqb BK423 hb; have n8_ := sqb BK428 hb; have n9_ := sqb BK433 hb; have n10_ := sqs HB hb; clear HO_4; clear HO_416001; clear HO_424001; clear HO_429001; clear HO_434001; clear HO462; clear BK415; clear BK423; clear BK428; clear BK433; clear HB; have HO_4 := n0_; have HO_416001 := n1_; have HO_424001 := n2_; have HO_429001 := n3_; have HO_434001 := n4_; have HO462 := n5_; have BK415 := n6_; have BK423 := n7_; have BK428 := n8_; have BK433 := n9_; have HB := n10_; clear n0_ n1_ n2_ n3_ n4_ n5_ n6_ n7_ n8_ n9_ n10_; (try clear hb); have p111 : 0 ≤ ((ji79) : Int) := sqd; have q111 : ((ji79) : Int) < ((y460.length : Int) : Int) := sqd; obtain ⟨hx111_0, hf111_0⟩ := Kd.R_celln 0 HO462.out ((ji79) : Int) p111 q111; replace p111 := eq_true p111; replace q111 := eq_true q111; obtain ⟨hy125_, hz125_⟩ := Kd.R_celln 0 HO462.out ((ji79) : Int) sqd sqd; have HP125 := Kd.R_putg HO462.out ((ji79) : Int) (wrap64 (x11_83 + (wrap64 ((Int.tmod (wrap64 (t418)) 11) - 5))))) | ((with_reducible refine gate_store (t := 3) (p := 151) rfl ?_); refine store_event (t := 3) (p := 151) (v := ?vo_w126) (w1 := (w124.setCell ⟨go108, ((ji79) : Int).toNat, none⟩ (.int .i64 (wrap64 (x11_83 + (wrap64 ((Int.tmod (wrap64 (t418)) 11) - 5))))))) ?hg ?ho ?hn ?hr ?_; (case ho => rfl); (case hg => rfl); (case hn => rfl); (case hr => first | (go_simp; done) | (go_simp; rfl)); intro w126 hw; have hg : w124.grownBy w126 (some go108) := (by rw [hw]; exact HP125.2); have hp_ : Kd.R (Kd.int .i64) 3 w126 w.heap.size (fun k_ => some k_ ≠ (.slice (some ad452) t412.length co16 : Value).ownBlock ∧ some k_ ≠ (.slice Ao15 t409.length co15 : Value).ownBlock ∧ some k_ ≠ (.slice Ao21 t420.length co21 : Value).ownBlock ∧ some k_ ≠ (.slice Ao28 t425.length co28 : Value).ownBlock ∧ some k_ ≠ (.slice Ao36 t430.length co36 : Value).ownBlock) (.slice (some ⟨go108, 0, none⟩) y460.length co108) y467 := (by rw [hw, Ny467.out]; exact HP125.1); clear HP125; have n0_ := Aside0.mk (Kd.R_after (v := (.slice (some ⟨go108, 0, none⟩) y460.length co108)) (v1 := (.slice (some ⟨go108, 0, none⟩) y460.length co108)) (ok := (fun k_ => some k_ ≠ (.slice Ao15 t409.length co15 : Value).ownBlock ∧ some k_ ≠ (.slice Ao21 t420.length co21 : Value).ownBlock ∧ some k_ ≠ (.slice Ao28 t425.length co28 : Value).ownBlock ∧ some k_ ≠ (.slice Ao36 t430.length co36 : Value).ownBlock)) (sqy HO_4.out) hg (.inl rfl)); have n1_ := Aside0.mk (Kd.R_after (v := (.slice (some ⟨go108, 0, none⟩) y460.length co108)) (v1 := (.slice (some ⟨go108, 0, none⟩) y460.length co108)) (ok := (fun k_ => some k_ ≠ (.slice (some ad452) t412.length co16 : Value).ownBlock ∧ some k_ ≠ (.slice Ao21 t420.length co21 : Value).ownBlock ∧ some k_ ≠ (.slice Ao28 t425.length co28 : Value).ownBlock ∧ some k_ ≠ (.slice Ao36 t430.length co36 : Value).ownBlock)) (sqy HO_416001.out) hg (.inl rfl)); have n2_ := Aside0.mk (Kd.R_after (v := (.slice (some ⟨go108, 0, none⟩) y460.length co108)) (v1 := (.slice (some ⟨go108, 0, none⟩) y460.length co108)) (ok := (fun k_ => some k_ ≠ (.slice (some ad452) t412.length co16 : Value).ownBlock ∧ some k_ ≠ (.slice Ao15 t409.length co15 : Value).ownBlock ∧ some k_ ≠ (.slice Ao28 t425.length co28 : Value).ownBlock ∧ some k_ ≠ (.slice Ao36 t430.length co36 : Value).ownBlock)) (sqy HO_424001.out) hg (.inl rfl)); have n3_ := Aside0.mk (Kd.R_after (v := (.slice (some ⟨go108, 0, none⟩) y460.length co108)) (v1 := (.slice (some ⟨go108, 0, none⟩) y460.length co108)) (ok := (fun k_ => some k_ ≠ (.slice (some ad452) t412.length co16 : Value).ownBlock ∧ some k_ ≠ (.slice Ao15 t409.length co15 : Value).ownBlock ∧ some k_ ≠ (.slice Ao21 t420.length co21 : Value).ownBlock ∧ some k_ ≠ (.slice Ao36 t430.length co36 : Value).ownBlock)) (sqy HO_429001.out) hg (.inl rfl)); have n4_ := Aside0.mk (Kd.R_after (v := (.slice (some ⟨go108, 0, none⟩) y460.length co108)) (v1 := (.slice (some ⟨go108, 0, none⟩) y460.length co108)) (ok := (fun k_ => some k_ ≠ (.slice (some ad452) t412.length co16 : Value).ownBlock ∧ some k_ ≠ (.slice Ao15 t409.length co15 : Value).ownBlock ∧ some k_ ≠ (.slice Ao21 t420.length co21 : Value).ownBlock ∧ some k_ ≠ (.slice Ao28 t425.length co28 : Value).ownBlock)) (sqy HO_434001.out) hg (.inl rfl)); have n5_ := Aside0.mk (blk_grown (g := gb415) (o := .cells #[.int .i64 t408, .slice Ao15 t409.length co15] 41 (0, 0)) (sqt BK415.out) hg (Kd.R_ne HO462.out BK415.out (by decide))); have n6_ := Aside0.mk (blk_grown (g := gb423) (o := .cells #[.int .i64 t419, .slice Ao21 t420.length co21] 41 (0, 0)) (sqt BK423.out) hg (Kd.R_ne HO462.out BK423.out (by decide))); have n7_ := Aside0.mk (blk_grown (g := gb428) (o := .cells #[.int .i64 t424, .slice Ao28 t425.length co28] 41 (0, 0)) (sqt BK428.out) hg (Kd.R_ne HO462.out BK428.out (by decide))); have n8_ := Aside0.mk (blk_grown (g := gb433) (o := .cells #[.int .i64 t429, .slice Ao36 t430.length co36] 41 (0, 0)) (sqt BK433.out) hg (Kd.R_ne HO462.out BK433.out (by decide))); have n9_ := Aside0.mk (hp_); have n10_ := Aside0.mk ((by rw [hw]; exact below_set (HB.out) GB108.out : Below w.heap.size w w126)); clear HO_4; clear HO_416001; clear HO_424001; clear HO_429001; clear HO_434001; clear BK415; clear BK423; clear BK428; clear BK433; clear HO462; clear HB; have HO_4 := n0_; have HO_416001 := n1_; have HO_424001 := n2_; have HO_429001 := n3_; have HO_434001 := n4_; have BK415 := n5_; have BK423 := n6_; have BK428 := n7_; have BK433 := n8_; have HO462 := n9_; have HB := n10_; clear n0_ n1_ n2_ n3_ n4_ n5_ n6_ n7_ n8_ n9_ n10_; clear hg hw hp_) | ((with_reducible refine gate_callee (f := 56) rfl ?_); refine sqL (some 155) Try.func56 #[.int .i64 (wrap64 (x11_83 + (wrap64 ((Int.tmod (wrap64 (t418)) 11) - 5))))] ?_; (with_reducible refine (spec_NumOk.calls (wrap64 (x11_83 + (wrap64 ((Int.tmod (wrap64 (t418)) 11) - 5)))) true _ A112.out).mono ?_); rintro e w' ⟨rfl, ⟨nd, rfl⟩⟩; refine ⟨_, rfl, ?_⟩; have hnb127 := NB428_415.out; have hnc127 := NB415_428.out; have hnb128 := NB428_433.out; have hnc128 := NB433_428.out; obtain ⟨hcz129_0, hcz129_1, hfz129_0, hfz129_1⟩ := sqc2 BK428) | (go_at_call 28; refine calls_of_args (args' := #[.agg #[.int .i64 t424, .slice Ao28 t425.length co28], .slice (some ⟨go108, 0, none⟩) y467.length co108]) (by first | (rw [show y467.length = y460.length from (Kd.R_reads' HO462.out).1.symm] <;> rfl) | rfl) ?_; (with_reducible refine (impl_GapsHas.calls kj91 t424 _ _ t425 _ _ y467 true _ ?side1 ?side2 ?side3 ?side4 A114.out).mono ?_); (case side1 => exact sqC (Kd.R_reads' HO_429001.out).2.2); (case side2 => exact (Kd.R_reads' HO_429001.out).2.1); (case side3 => exact sqC (Kd.R_reads' HO462.out).2.2); (case side4 => rw [show y467.length = y460.length from (Kd.R_reads' HO462.out).1.symm]; exact (Kd.R_reads' HO462.out).2.1); rintro e w130 ⟨rfl, hb⟩; have n0_ := Aside0.mk (Kd.R_below (sqy HO_4.out) hb); have n1_ := Aside0.mk (Kd.R_below (sqy HO_416001.out) hb); have n2_ := Aside0.mk (Kd.R_below (sqy HO_424001.out) hb); have n3_ := Aside0.mk (Kd.R_below (sqy HO_429001.out) hb); have n4_ := Aside0.mk (Kd.R_below (sqy HO_434001.out) hb); have n5_ := Aside0.mk (Kd.R_below (sqy HO462.out) hb); have n6_ := sqb BK415 hb; have n7_ := sqb BK423 hb; have n8_ := sqb BK428 hb; have n9_ := sqb BK433 hb; have n10_ := sqs HB hb; clear HO_4; clear HO_416001; clear HO_424001; clear HO_429001; clear HO_434001; clear HO462; clear BK415; clear BK423; clear BK428; clear BK433; clear HB; have HO_4 := n0_; have HO_416001 := n1_; have HO_424001 := n2_; have HO_429001 := n3_; have HO_434001 := n4_; have HO462 := n5_; have BK415 := n6_; have BK423 := n7_; have BK428 := n8_; have BK433 := n9_; have HB := n10_; clear n0_ n1_ n2_ n3_ n4_ n5_ n6_ n7_ n8_ n9_ n10_; (try clear hb)))
         go_ret
         exact ⟨by first | rfl | (simp [errW_none, errW_some] <;> rfl) | (simp only [← hji79, ← hji79]; first | rfl | (simp [errW_none, errW_some] <;> rfl)) | (simp [*, errW_none, errW_some] <;> rfl), by repeat (first | (with_reducible first | exact HB.out | apply below_alloc | apply pw_below_drewN | apply below_drew1 | refine below_set ?_ GE415.out | refine below_set ?_ GE423.out | refine below_set ?_ GE428.out | refine below_set ?_ GE433.out) | exact HB.out)⟩

/-- THE ONE PURE STATEMENT of laws_FnGapsDo: yours. -/
theorem laws_FnGapsDo.walk (P : laws_FnGapsDo.Pure) (a0 : Option Addr) (len0 cap0 : Nat) (z0 : List Int) (w : World) (w0 : (a0 = none ∧ len0 = 0 ∧ cap0 = 0 ∧ z0 = []) ∨ ∃ x, a0 = some x ∧ len0 ≤ cap0 ∧ cap0 ≤ maxLen ∧ z0.length = cap0 ∧ (∀ i, i < z0.length → w.cell? (x.add i) = some (.int .u8 (z0.getD i 0))) ∧ ∀ n ∈ z0, (Lit.int .u8 n).wf = true) (y0 : len0 * 1 ≤ 140737488351232) :
  Calls Try.prog 8 #[.slice a0 len0 cap0] w fun e w' => e = .returned (.bool true) ∧ Below w.heap.size w w' := by
 obtain ⟨l0, rfl, hr0, hm0, hw0, hc0⟩ := ReadsInt.ofRowC w0
 obtain ⟨k, h⟩ := P l0 hm0 y0 hw0
 refine (laws_FnGapsDo.calls k _ _ l0 true w (Kd.C_of_reads (d := (0 : Int)) (h1 := fun _ => rfl) hr0) hc0 h).mono ?_
 rintro e w' ⟨rfl, hd⟩
 exact ⟨rfl, hd⟩

end Go.Proofs.Ytkekcenlleebeaa.PFnGapsDo
