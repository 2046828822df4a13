/- Functions of the program as plain Lean functions, and that calls of them come to what these tell. Conditions: those in each law. -/
import Derived.Test.YtkekcenlleebeaaSq
import Derived.Test.YtkekcenlleebeaaDFnGapsJoin
import Derived.Test.YtkekcenlleebeaaQFnGapsJoinx0
import Derived.Test.YtkekcenlleebeaaQFnGapsJoinx4
import Derived.Test.YtkekcenlleebeaaQFnGapsJoinx6
import Derived.Test.YtkekcenlleebeaaQFnGapsJoinx7
import Derived.Test.YtkekcenlleebeaaQFnGapsJoinx8
import Derived.Test.YtkekcenlleebeaaQFnGapsJoinx9
import Derived.Test.YtkekcenlleebeaaQFnGapsJoinx11
import Derived.Test.YtkekcenlleebeaaQFnGapsJoinx12
import Derived.Test.YtkekcenlleebeaaQFnGapsJoinx13
namespace Go.Proofs.Ytkekcenlleebeaa.PFnGapsJoin
open Go.RowKit Go.Proofs.Ytkekcenlleebeaa.Sq Go.Proofs.YtkekcenlleebeaaW.PrintWords Go.Proofs.YtkekcenlleebeaaW.PrintLast Go.Proofs.YtkekcenlleebeaaW.PrintMore
attribute [local go_sem] max2_int min2_int max_two min_two max_three min_three max_four min_four   -- for this text's walks alone
set_option linter.unusedVariables false
set_option linter.unusedSimpArgs false

/-! ### laws_FnGapsJoin: function 6 -/
theorem laws_FnGapsJoin.mono_l : ∀ k, (∀ y0 y1 y2 y3 y4 y5 y6 y7 y8 y9, LeO (laws_FnGapsJoin.j0 k y0 y1 y2 y3 y4 y5 y6 y7 y8 y9) (laws_FnGapsJoin.j0 (k + 1) y0 y1 y2 y3 y4 y5 y6 y7 y8 y9)) ∧ (∀ y0 y1 y2 y3 y4 y5 y6 y7 y8 y9, LeO (laws_FnGapsJoin.j1 k y0 y1 y2 y3 y4 y5 y6 y7 y8 y9) (laws_FnGapsJoin.j1 (k + 1) y0 y1 y2 y3 y4 y5 y6 y7 y8 y9)) ∧ (∀ y0 y1 y2 y3 y4 y5 y6 y7 y8 y9, LeO (laws_FnGapsJoin.l0 k y0 y1 y2 y3 y4 y5 y6 y7 y8 y9) (laws_FnGapsJoin.l0 (k + 1) y0 y1 y2 y3 y4 y5 y6 y7 y8 y9)) ∧ (∀ y0 y1 y2 y3 y4 y5 y6 y7 y8, LeO (laws_FnGapsJoin.j3 k y0 y1 y2 y3 y4 y5 y6 y7 y8) (laws_FnGapsJoin.j3 (k + 1) y0 y1 y2 y3 y4 y5 y6 y7 y8))
  | 0 => ⟨fun _ _ _ _ _ _ _ _ _ _ r h => by simp [laws_FnGapsJoin.j0] at h, fun _ _ _ _ _ _ _ _ _ _ r h => by simp [laws_FnGapsJoin.j1] at h, fun _ _ _ _ _ _ _ _ _ _ r h => by simp [laws_FnGapsJoin.l0] at h, fun _ _ _ _ _ _ _ _ _ r h => by simp [laws_FnGapsJoin.j3] at h⟩
  | k + 1 => by
    obtain ⟨ih0, ih1, ih2, ih3⟩ := laws_FnGapsJoin.mono_l k
    refine ⟨?_, ?_, ?_, ?_⟩
    · intro y0 y1 y2 y3 y4 y5 y6 y7 y8 y9
      unfold laws_FnGapsJoin.j0
      repeat' first
      | (with_reducible exact ih0 _ _ _ _ _ _ _ _ _ _)
      | (with_reducible exact ih1 _ _ _ _ _ _ _ _ _ _)
      | (with_reducible exact ih2 _ _ _ _ _ _ _ _ _ _)
      | (with_reducible exact ih3 _ _ _ _ _ _ _ _ _)
      | (with_reducible exact impl_GapsHas.mono _ _ _ _)
      | (with_reducible exact impl_GapsIn.mono _ _ _ _ _)
      | (with_reducible exact impl_GapsJoin.mono _ _ _ _ _)
      | (with_reducible exact impl_GapsWiden.mono _ _ _ _ _)
      | (with_reducible exact laws_sameInts.mono _ _ _)
      | (with_reducible exact spec_DrawGapsHas.mono _ _)
      | (with_reducible exact spec_DrawGapsWiden.mono _ _)
      | (with_reducible exact spec_GapsHas.mono _ _ _ _)
      | (with_reducible exact spec_GapsJoin.mono _ _ _ _ _)
      | (with_reducible exact spec_GapsOk.mono _ _ _)
      | (with_reducible exact spec_GapsWiden.mono _ _ _ _ _)
      | (with_reducible exact LeO.refl _)
      | (with_reducible exact LeO.none _)
      | (with_reducible refine LeO.ite ?_ ?_)
      | (with_reducible refine LeO.bind ?_ (fun _ => ?_))
      | exact ih0 _ _ _ _ _ _ _ _ _ _
      | exact ih1 _ _ _ _ _ _ _ _ _ _
      | exact ih2 _ _ _ _ _ _ _ _ _ _
      | exact ih3 _ _ _ _ _ _ _ _ _
      | exact impl_GapsHas.mono _ _ _ _
      | exact impl_GapsIn.mono _ _ _ _ _
      | exact impl_GapsJoin.mono _ _ _ _ _
      | exact impl_GapsWiden.mono _ _ _ _ _
      | exact laws_sameInts.mono _ _ _
      | exact spec_DrawGapsHas.mono _ _
      | exact spec_DrawGapsWiden.mono _ _
      | exact spec_GapsHas.mono _ _ _ _
      | exact spec_GapsJoin.mono _ _ _ _ _
      | exact spec_GapsOk.mono _ _ _
      | exact spec_GapsWiden.mono _ _ _ _ _
      | exact LeO.none _
      | refine LeO.ite ?_ ?_
      | refine LeO.bind ?_ (fun _ => ?_)
    · intro y0 y1 y2 y3 y4 y5 y6 y7 y8 y9
      unfold laws_FnGapsJoin.j1
      repeat' first
      | (with_reducible exact ih0 _ _ _ _ _ _ _ _ _ _)
      | (with_reducible exact ih1 _ _ _ _ _ _ _ _ _ _)
      | (with_reducible exact ih2 _ _ _ _ _ _ _ _ _ _)
      | (with_reducible exact ih3 _ _ _ _ _ _ _ _ _)
      | (with_reducible exact impl_GapsHas.mono _ _ _ _)
      | (with_reducible exact impl_GapsIn.mono _ _ _ _ _)
      | (with_reducible exact impl_GapsJoin.mono _ _ _ _ _)
      | (with_reducible exact impl_GapsWiden.mono _ _ _ _ _)
      | (with_reducible exact laws_sameInts.mono _ _ _)
      | (with_reducible exact spec_DrawGapsHas.mono _ _)
      | (with_reducible exact spec_DrawGapsWiden.mono _ _)
      | (with_reducible exact spec_GapsHas.mono _ _ _ _)
      | (with_reducible exact spec_GapsJoin.mono _ _ _ _ _)
      | (with_reducible exact spec_GapsOk.mono _ _ _)
      | (with_reducible exact spec_GapsWiden.mono _ _ _ _ _)
      | (with_reducible exact LeO.refl _)
      | (with_reducible exact LeO.none _)
      | (with_reducible refine LeO.ite ?_ ?_)
      | (with_reducible refine LeO.bind ?_ (fun _ => ?_))
      | exact ih0 _ _ _ _ _ _ _ _ _ _
      | exact ih1 _ _ _ _ _ _ _ _ _ _
      | exact ih2 _ _ _ _ _ _ _ _ _ _
      | exact ih3 _ _ _ _ _ _ _ _ _
      | exact impl_GapsHas.mono _ _ _ _
      | exact impl_GapsIn.mono _ _ _ _ _
      | exact impl_GapsJoin.mono _ _ _ _ _
      | exact impl_GapsWiden.mono _ _ _ _ _
      | exact laws_sameInts.mono _ _ _
      | exact spec_DrawGapsHas.mono _ _
      | exact spec_DrawGapsWiden.mono _ _
      | exact spec_GapsHas.mono _ _ _ _
      | exact spec_GapsJoin.mono _ _ _ _ _
      | exact spec_GapsOk.mono _ _ _
      | exact spec_GapsWiden.mono _ _ _ _ _
      | exact LeO.none _
      | refine LeO.ite ?_ ?_
      | refine LeO.bind ?_ (fun _ => ?_)
    · intro y0 y1 y2 y3 y4 y5 y6 y7 y8 y9
      unfold laws_FnGapsJoin.l0
      repeat' first
      | (with_reducible exact ih0 _ _ _ _ _ _ _ _ _ _)
      | (with_reducible exact ih1 _ _ _ _ _ _ _ _ _ _)
      | (with_reducible exact ih2 _ _ _ _ _ _ _ _ _ _)
      | (with_reducible exact ih3 _ _ _ _ _ _ _ _ _)
      | (with_reducible exact impl_GapsHas.mono _ _ _ _)
      | (with_reducible exact impl_GapsIn.mono _ _ _ _ _)
      | (with_reducible exact impl_GapsJoin.mono _ _ _ _ _)
      | (with_reducible exact impl_GapsWiden.mono _ _ _ _ _)
      | (with_reducible exact laws_sameInts.mono _ _ _)
      | (with_reducible exact spec_DrawGapsHas.mono _ _)
      | (with_reducible exact spec_DrawGapsWiden.mono _ _)
      | (with_reducible exact spec_GapsHas.mono _ _ _ _)
      | (with_reducible exact spec_GapsJoin.mono _ _ _ _ _)
      | (with_reducible exact spec_GapsOk.mono _ _ _)
      | (with_reducible exact spec_GapsWiden.mono _ _ _ _ _)
      | (with_reducible exact LeO.refl _)
      | (with_reducible exact LeO.none _)
      | (with_reducible refine LeO.ite ?_ ?_)
      | (with_reducible refine LeO.bind ?_ (fun _ => ?_))
      | exact ih0 _ _ _ _ _ _ _ _ _ _
      | exact ih1 _ _ _ _ _ _ _ _ _ _
      | exact ih2 _ _ _ _ _ _ _ _ _ _
      | exact ih3 _ _ _ _ _ _ _ _ _
      | exact impl_GapsHas.mono _ _ _ _
      | exact impl_GapsIn.mono _ _ _ _ _
      | exact impl_GapsJoin.mono _ _ _ _ _
      | exact impl_GapsWiden.mono _ _ _ _ _
      | exact laws_sameInts.mono _ _ _
      | exact spec_DrawGapsHas.mono _ _
      | exact spec_DrawGapsWiden.mono _ _
      | exact spec_GapsHas.mono _ _ _ _
      | exact spec_GapsJoin.mono _ _ _ _ _
      | exact spec_GapsOk.mono _ _ _
      | exact spec_GapsWiden.mono _ _ _ _ _
      | exact LeO.none _
      | refine LeO.ite ?_ ?_
      | refine LeO.bind ?_ (fun _ => ?_)
    · intro y0 y1 y2 y3 y4 y5 y6 y7 y8
      unfold laws_FnGapsJoin.j3
      repeat' first
      | (with_reducible exact ih0 _ _ _ _ _ _ _ _ _ _)
      | (with_reducible exact ih1 _ _ _ _ _ _ _ _ _ _)
      | (with_reducible exact ih2 _ _ _ _ _ _ _ _ _ _)
      | (with_reducible exact ih3 _ _ _ _ _ _ _ _ _)
      | (with_reducible exact impl_GapsHas.mono _ _ _ _)
      | (with_reducible exact impl_GapsIn.mono _ _ _ _ _)
      | (with_reducible exact impl_GapsJoin.mono _ _ _ _ _)
      | (with_reducible exact impl_GapsWiden.mono _ _ _ _ _)
      | (with_reducible exact laws_sameInts.mono _ _ _)
      | (with_reducible exact spec_DrawGapsHas.mono _ _)
      | (with_reducible exact spec_DrawGapsWiden.mono _ _)
      | (with_reducible exact spec_GapsHas.mono _ _ _ _)
      | (with_reducible exact spec_GapsJoin.mono _ _ _ _ _)
      | (with_reducible exact spec_GapsOk.mono _ _ _)
      | (with_reducible exact spec_GapsWiden.mono _ _ _ _ _)
      | (with_reducible exact LeO.refl _)
      | (with_reducible exact LeO.none _)
      | (with_reducible refine LeO.ite ?_ ?_)
      | (with_reducible refine LeO.bind ?_ (fun _ => ?_))
      | exact ih0 _ _ _ _ _ _ _ _ _ _
      | exact ih1 _ _ _ _ _ _ _ _ _ _
      | exact ih2 _ _ _ _ _ _ _ _ _ _
      | exact ih3 _ _ _ _ _ _ _ _ _
      | exact impl_GapsHas.mono _ _ _ _
      | exact impl_GapsIn.mono _ _ _ _ _
      | exact impl_GapsJoin.mono _ _ _ _ _
      | exact impl_GapsWiden.mono _ _ _ _ _
      | exact laws_sameInts.mono _ _ _
      | exact spec_DrawGapsHas.mono _ _
      | exact spec_DrawGapsWiden.mono _ _
      | exact spec_GapsHas.mono _ _ _ _
      | exact spec_GapsJoin.mono _ _ _ _ _
      | exact spec_GapsOk.mono _ _ _
      | exact spec_GapsWiden.mono _ _ _ _ _
      | exact LeO.none _
      | refine LeO.ite ?_ ?_
      | refine LeO.bind ?_ (fun _ => ?_)
theorem laws_FnGapsJoin.mono : ∀ a0 k, LeO (laws_FnGapsJoin.f k a0) (laws_FnGapsJoin.f (k + 1) a0) := by
  intro a0 k
  obtain ⟨ih0, ih1, ih2, ih3⟩ := laws_FnGapsJoin.mono_l k
  unfold laws_FnGapsJoin.f
  repeat' first
      | (with_reducible exact ih0 _ _ _ _ _ _ _ _ _ _)
      | (with_reducible exact ih1 _ _ _ _ _ _ _ _ _ _)
      | (with_reducible exact ih2 _ _ _ _ _ _ _ _ _ _)
      | (with_reducible exact ih3 _ _ _ _ _ _ _ _ _)
      | (with_reducible exact impl_GapsHas.mono _ _ _ _)
      | (with_reducible exact impl_GapsIn.mono _ _ _ _ _)
      | (with_reducible exact impl_GapsJoin.mono _ _ _ _ _)
      | (with_reducible exact impl_GapsWiden.mono _ _ _ _ _)
      | (with_reducible exact laws_sameInts.mono _ _ _)
      | (with_reducible exact spec_DrawGapsHas.mono _ _)
      | (with_reducible exact spec_DrawGapsWiden.mono _ _)
      | (with_reducible exact spec_GapsHas.mono _ _ _ _)
      | (with_reducible exact spec_GapsJoin.mono _ _ _ _ _)
      | (with_reducible exact spec_GapsOk.mono _ _ _)
      | (with_reducible exact spec_GapsWiden.mono _ _ _ _ _)
      | (with_reducible exact LeO.refl _)
      | (with_reducible exact LeO.none _)
      | (with_reducible refine LeO.ite ?_ ?_)
      | (with_reducible refine LeO.bind ?_ (fun _ => ?_))
      | exact ih0 _ _ _ _ _ _ _ _ _ _
      | exact ih1 _ _ _ _ _ _ _ _ _ _
      | exact ih2 _ _ _ _ _ _ _ _ _ _
      | exact ih3 _ _ _ _ _ _ _ _ _
      | exact impl_GapsHas.mono _ _ _ _
      | exact impl_GapsIn.mono _ _ _ _ _
      | exact impl_GapsJoin.mono _ _ _ _ _
      | exact impl_GapsWiden.mono _ _ _ _ _
      | exact laws_sameInts.mono _ _ _
      | exact spec_DrawGapsHas.mono _ _
      | exact spec_DrawGapsWiden.mono _ _
      | exact spec_GapsHas.mono _ _ _ _
      | exact spec_GapsJoin.mono _ _ _ _ _
      | exact spec_GapsOk.mono _ _ _
      | exact spec_GapsWiden.mono _ _ _ _ _
      | exact LeO.none _
      | refine LeO.ite ?_ ?_
      | refine LeO.bind ?_ (fun _ => ?_)
def laws_FnGapsJoin.T6 : Bool × List (List Nat × List Nat) := (true, [([], []), ([0], [0]), ([], []), ([], []), ([2, 3], [2, 3]), ([4], [4]), ([1, 5, 4], [1, 5]), ([6], [6]), ([7, 6], [7]), ([8], [8]), ([9, 8], [8, 9]), ([8], [8]), ([8], [8]), ([11, 12, 8, 8], [8, 11, 12]), ([13, 8], [8, 13]), ([10, 14, 13, 8], [8, 10, 14]), ([15, 8], [8, 15]), ([8, 16], [8, 16])])
def laws_FnGapsJoin.B6 : List Nat := [0, 1, 0, 0, 12, 28, 63, 127, 255, 511, 1023, 511, 511, 6655, 14847, 32767, 65535, 131071]
theorem laws_FnGapsJoin.tab6 : rtab .any (opsOf Try.f6 6) = laws_FnGapsJoin.T6 := by kernel_rfl
theorem laws_FnGapsJoin.bits6 : waitsOk laws_FnGapsJoin.T6.2 laws_FnGapsJoin.B6 = true := by kernel_rfl
set_option maxHeartbeats 8000000 in
set_option maxRecDepth 100000 in
theorem laws_FnGapsJoin.calls (k : Nat) (A0 : Option Addr) (c0 : Nat) (l0 : List Int) (r : Bool) (w : World) (hr0 : Kd.C (Kd.int .u8) w A0 l0.length l0) (hc0 : l0.length ≤ c0) (h : laws_FnGapsJoin.f k l0 = some r) (hr_ : r = true := by rfl) :
    Calls Try.prog 6 #[.slice A0 l0.length c0] w fun e w' => e = .returned (.bool r) ∧ Below w.heap.size w w' := by
  subst hr_
  have hfd_ : ∀ (w : World) (n : Int) (A : Option Addr) (m c : Nat), (Instr.field 41 (.agg #[.int .i64 n, .slice A m c]) 1).run Try.prog w = .ok (.slice A m c) w := fun _ _ _ _ _ => by kernel_rfl
  have hu41 := Try.underlying41
  have HR0 := Aside0.mk hr0
  have HC0 := Aside0.mk hc0
  clear hr0 hc0
  have HB := Aside0.mk (Below.refl w.heap.size w)
  have H : (if (l0.length : Int) > 1048576 then (some true) else ((spec_DrawGapsWiden.f k l0).bind fun bt397 => ((impl_GapsJoin.f k bt397.1 bt397.2.1 bt397.2.2.1 bt397.2.2.2).bind fun bt407 => ((impl_GapsWiden.f k bt397.1 bt397.2.1 bt397.2.2.1 bt397.2.2.2).bind fun bt412 => ((spec_GapsJoin.f k bt397.1 bt397.2.1 bt397.2.2.1 bt397.2.2.2).bind fun bt417 => ((laws_sameInts.f k bt407.2 bt417.2).bind fun t421 => (if t421 = true then ((spec_GapsWiden.f k bt397.1 bt397.2.1 bt397.2.2.1 bt397.2.2.2).bind fun bt422 => ((laws_sameInts.f k bt412.2 bt422.2).bind fun t426 => (laws_FnGapsJoin.j0 k l0 (!t426) bt397.1 bt397.2.1 bt397.2.2.1 bt397.2.2.2 bt407.1 bt407.2 bt412.1 bt412.2))) else (laws_FnGapsJoin.j0 k l0 true bt397.1 bt397.2.1 bt397.2.2.1 bt397.2.2.2 bt407.1 bt407.2 bt412.1 bt412.2)))))))) = some true := h
  clear h
  by_cases c2 : (l0.length : Int) > 1048576
  · rw [if_pos c2] at H
    have c2b0 : decide (1048576 < (l0.length : Int)) = true := decide_eq_true c2
    have c2b1 : decide (1048576 < l0.length) = true := decide_eq_true (by omega)
    clear c2
    clear H
    go_enter Try.func6, Try.ntmps6
    go_wp2
    go_ret
    exact sqe HB
  · rw [if_neg c2] at H
    have c2b0 : decide (1048576 < (l0.length : Int)) = false := decide_eq_false c2
    have c2b1 : decide (1048576 < l0.length) = false := decide_eq_false (by omega)
    clear c2
    replace H := Option.bind_eq_some_iff.mp H
    obtain ⟨⟨t397, t398, t401, t402⟩, A30, H⟩ := H
    replace H : ((impl_GapsJoin.f k t397 t398 t401 t402).bind fun bt407 => ((impl_GapsWiden.f k t397 t398 t401 t402).bind fun bt412 => ((spec_GapsJoin.f k t397 t398 t401 t402).bind fun bt417 => ((laws_sameInts.f k bt407.2 bt417.2).bind fun t421 => (if t421 = true then ((spec_GapsWiden.f k t397 t398 t401 t402).bind fun bt422 => ((laws_sameInts.f k bt412.2 bt422.2).bind fun t426 => (laws_FnGapsJoin.j0 k l0 (!t426) t397 t398 t401 t402 bt407.1 bt407.2 bt412.1 bt412.2))) else (laws_FnGapsJoin.j0 k l0 true t397 t398 t401 t402 bt407.1 bt407.2 bt412.1 bt412.2)))))) = some true := H
    have A3 := Aside0.mk A30
    clear A30
    replace H := Option.bind_eq_some_iff.mp H
    obtain ⟨⟨t407, t408⟩, A40, H⟩ := H
    replace H : ((impl_GapsWiden.f k t397 t398 t401 t402).bind fun bt412 => ((spec_GapsJoin.f k t397 t398 t401 t402).bind fun bt417 => ((laws_sameInts.f k t408 bt417.2).bind fun t421 => (if t421 = true then ((spec_GapsWiden.f k t397 t398 t401 t402).bind fun bt422 => ((laws_sameInts.f k bt412.2 bt422.2).bind fun t426 => (laws_FnGapsJoin.j0 k l0 (!t426) t397 t398 t401 t402 t407 t408 bt412.1 bt412.2))) else (laws_FnGapsJoin.j0 k l0 true t397 t398 t401 t402 t407 t408 bt412.1 bt412.2))))) = some true := H
    have A4 := Aside0.mk A40
    clear A40
    replace H := Option.bind_eq_some_iff.mp H
    obtain ⟨⟨t412, t413⟩, A50, H⟩ := H
    replace H : ((spec_GapsJoin.f k t397 t398 t401 t402).bind fun bt417 => ((laws_sameInts.f k t408 bt417.2).bind fun t421 => (if t421 = true then ((spec_GapsWiden.f k t397 t398 t401 t402).bind fun bt422 => ((laws_sameInts.f k t413 bt422.2).bind fun t426 => (laws_FnGapsJoin.j0 k l0 (!t426) t397 t398 t401 t402 t407 t408 t412 t413))) else (laws_FnGapsJoin.j0 k l0 true t397 t398 t401 t402 t407 t408 t412 t413)))) = some true := H
    have A5 := Aside0.mk A50
    clear A50
    have HC6 := Aside0.mk H
    clear H
    go_enter Try.func6, Try.ntmps6
    go_upto_region 6 with (first | ((with_reducible refine gate_callee (f := 36) rfl ?_); refine sqL (some 14) Try.func36 #[.slice A0 l0.length c0] ?_; (with_reducible refine (spec_DrawGapsWiden.calls k _ _ l0 t397 t398 t401 t402 _ ?side1 ?side2 A3.out).mono ?_); (case side1 => repeat (first | exact HR0.out | (with_reducible refine Kd.C_alloc ?_ _) | (with_reducible refine Kd.C_drewN ?_ _) | (with_reducible refine Kd.C_drew ?_))); (case side2 => exact HC0.out); rintro e w7 ⟨v399, v403, rfl, ho0, ho1, hb⟩; refine ⟨_, rfl, ?_⟩; have HO400 := Aside0.mk (Kd.R_lower ho0 (below_size (by repeat (first | (with_reducible first | exact HB.out | apply below_alloc | apply pw_below_drewN | apply below_drew1) | exact HB.out)))); have HO404 := Aside0.mk (Kd.R_lower ho1 (below_size (by repeat (first | (with_reducible first | exact HB.out | apply below_alloc | apply pw_below_drewN | apply below_drew1) | exact HB.out)))); replace HB := sqs HB hb; (try clear hb); (try clear hb2); (try clear hk); (try clear hi); (try clear ho0); (try clear ho1)) | ((with_reducible refine gate_dst (N := 3) rfl ?_); (try (refine gate_guard (by rfl) ?_; dsimp only)); refine sqx 3 #[.int .i64 0, .slice none 0 0] 41 ?_; intro gb405 hg w8 hbox hb; have n0_ := Aside0.mk (Kd.R_below (by (with_reducible repeat (first | apply Kd.R_alloc | apply Kd.R_drewN | apply Kd.R_drew)); exact HO400.out) hb); have n1_ := Aside0.mk (Kd.R_below (by (with_reducible repeat (first | apply Kd.R_alloc | apply Kd.R_drewN | apply Kd.R_drew)); exact HO404.out) hb); have n2_ := sqs HB hb; have n3_ := Aside0.mk (hbox); have n4_ := sqg HB hg; have n5_ := sqg HB hg; clear HO400; clear HO404; clear HB; have HO400 := n0_; have HO404 := n1_; have HB := n2_; have BK405 := n3_; have GW405 := n4_; have GE405 := n5_; clear n0_ n1_ n2_ n3_ n4_ n5_; clear hb hbox hg) | ((with_reducible refine gate_dst (N := 4) rfl ?_); (try (refine gate_guard (by rfl) ?_; dsimp only)); refine sqx 4 #[.int .i64 0, .slice none 0 0] 41 ?_; intro gb406 hg w9 hbox hb; have n0_ := Aside0.mk (Kd.R_below (by (with_reducible repeat (first | apply Kd.R_alloc | apply Kd.R_drewN | apply Kd.R_drew)); exact HO400.out) hb); have n1_ := Aside0.mk (Kd.R_below (by (with_reducible repeat (first | apply Kd.R_alloc | apply Kd.R_drewN | apply Kd.R_drew)); exact HO404.out) hb); have n2_ := sqb BK405 hb; have n3_ := sqs HB hb; have n4_ := Aside0.mk (hbox); have n5_ := sqg HB hg; have n6_ := sqg HB hg; have n7_ := sqn BK405 hg; have n8_ := sqm BK405 hg; clear HO400; clear HO404; clear BK405; clear HB; have HO400 := n0_; have HO404 := n1_; have BK405 := n2_; have HB := n3_; have BK406 := n4_; have GW406 := n5_; have GE406 := n6_; have NB405_406 := n7_; have NB406_405 := n8_; clear n0_ n1_ n2_ n3_ n4_ n5_ n6_ n7_ n8_; clear hb hbox hg; have hnb10 := NB405_406.out; have hnc10 := NB406_405.out; obtain ⟨hcz11_0, hcz11_1, hfz11_0, hfz11_1⟩ := sqc2 BK405; obtain ⟨Ao12, co12, eo12⟩ := Kd.R_slice HO400.out; subst eo12; obtain ⟨hcz13_0, hcz13_1, hfz13_0, hfz13_1⟩ := sqc2 BK406; obtain ⟨Ao14, co14, eo14⟩ := Kd.R_slice HO404.out; subst eo14) | ((with_reducible refine gate_callee (f := 37) rfl ?_); refine sqL (some 19) Try.func37 #[.agg #[.int .i64 t397, .slice Ao12 t398.length co12], .agg #[.int .i64 t401, .slice Ao14 t402.length co14]] ?_; (with_reducible refine (impl_GapsJoin.calls k t397 _ _ t398 t401 _ _ t402 t407 t408 _ ?side1 ?side2 ?side3 ?side4 A4.out).mono ?_); (case side1 => refine (Kd.R_reads' (e := 3) (base := w.heap.size) (ok := fun k_ => some k_ ≠ (.slice Ao14 t402.length co14 : Value).ownBlock) (n := t398.length) (c := co12) ?_).2.2; exact (by (with_reducible repeat (first | apply Kd.R_alloc | apply Kd.R_drewN | apply Kd.R_drew)); exact (Kd.R_mono (Kd.R_mono (Kd.R_far (p := ⟨gb406, 1, none⟩) (Kd.R_far (p := ⟨gb406, 0, none⟩) (Kd.R_far (p := ⟨gb405, 1, none⟩) (Kd.R_far (p := ⟨gb405, 0, none⟩) (Kd.R_types (Kd.R_types HO400.out BK405.out (by decide)) BK406.out (by decide)) (fun _ hk => hk.1.2) (.int .i64 t397)) (fun _ hk => hk.1.2) (.slice Ao12 t398.length co12)) (fun _ hk => hk.2) (.int .i64 t401)) (fun _ hk => hk.2) (.slice Ao14 t402.length co14)) (fun _ h_ => h_.1)) (fun _ h_ => h_.1)))); (case side2 => exact (Kd.R_reads' HO400.out).2.1); (case side3 => refine (Kd.R_reads' (e := 3) (base := w.heap.size) (ok := fun k_ => some k_ ≠ (.slice Ao12 t398.length co12 : Value).ownBlock) (n := t402.length) (c := co14) ?_).2.2; exact (by (with_reducible repeat (first | apply Kd.R_alloc | apply Kd.R_drewN | apply Kd.R_drew)); exact (Kd.R_mono (Kd.R_mono (Kd.R_far (p := ⟨gb406, 1, none⟩) (Kd.R_far (p := ⟨gb406, 0, none⟩) (Kd.R_far (p := ⟨gb405, 1, none⟩) (Kd.R_far (p := ⟨gb405, 0, none⟩) (Kd.R_types (Kd.R_types HO404.out BK405.out (by decide)) BK406.out (by decide)) (fun _ hk => hk.1.2) (.int .i64 t397)) (fun _ hk => hk.1.2) (.slice Ao12 t398.length co12)) (fun _ hk => hk.2) (.int .i64 t401)) (fun _ hk => hk.2) (.slice Ao14 t402.length co14)) (fun _ h_ => h_.1)) (fun _ h_ => h_.1)))); (case side4 => exact (Kd.R_reads' HO404.out).2.1); rintro e w15 ⟨v409, rfl, ho0, hb⟩; refine ⟨_, rfl, ?_⟩; have n0_ := Aside0.mk (Kd.R_elder' (by (with_reducible repeat (first | apply Kd.R_alloc | apply Kd.R_drewN | apply Kd.R_drew)); exact (Kd.R_mono (Kd.R_mono (Kd.R_far (p := ⟨gb406, 1, none⟩) (Kd.R_far (p := ⟨gb406, 0, none⟩) (Kd.R_far (p := ⟨gb405, 1, none⟩) (Kd.R_far (p := ⟨gb405, 0, none⟩) (Kd.R_types (Kd.R_types HO400.out BK405.out (by decide)) BK406.out (by decide)) (fun _ hk => hk.1.2) (.int .i64 t397)) (fun _ hk => hk.1.2) (.slice Ao12 t398.length co12)) (fun _ hk => hk.2) (.int .i64 t401)) (fun _ hk => hk.2) (.slice Ao14 t402.length co14)) (fun _ h_ => h_.1)) (fun _ h_ => h_.1))) (Kd.R_base ho0) hb); have n1_ := Aside0.mk (Kd.R_elder' (by (with_reducible repeat (first | apply Kd.R_alloc | apply Kd.R_drewN | apply Kd.R_drew)); exact (Kd.R_mono (Kd.R_mono (Kd.R_far (p := ⟨gb406, 1, none⟩) (Kd.R_far (p := ⟨gb406, 0, none⟩) (Kd.R_far (p := ⟨gb405, 1, none⟩) (Kd.R_far (p := ⟨gb405, 0, none⟩) (Kd.R_types (Kd.R_types HO404.out BK405.out (by decide)) BK406.out (by decide)) (fun _ hk => hk.1.2) (.int .i64 t397)) (fun _ hk => hk.1.2) (.slice Ao12 t398.length co12)) (fun _ hk => hk.2) (.int .i64 t401)) (fun _ hk => hk.2) (.slice Ao14 t402.length co14)) (fun _ h_ => h_.1)) (fun _ h_ => h_.1))) (Kd.R_base ho0) hb); have n2_ := Aside0.mk (Kd.R_lower (Kd.R_new' (Kd.R_new' ho0 (Kd.R_lt (by (with_reducible repeat (first | apply Kd.R_alloc | apply Kd.R_drewN | apply Kd.R_drew)); exact (Kd.R_mono (Kd.R_mono (Kd.R_far (p := ⟨gb406, 1, none⟩) (Kd.R_far (p := ⟨gb406, 0, none⟩) (Kd.R_far (p := ⟨gb405, 1, none⟩) (Kd.R_far (p := ⟨gb405, 0, none⟩) (Kd.R_types (Kd.R_types HO400.out BK405.out (by decide)) BK406.out (by decide)) (fun _ hk => hk.1.2) (.int .i64 t397)) (fun _ hk => hk.1.2) (.slice Ao12 t398.length co12)) (fun _ hk => hk.2) (.int .i64 t401)) (fun _ hk => hk.2) (.slice Ao14 t402.length co14)) (fun _ h_ => h_.1)) (fun _ h_ => h_.1))))) (Kd.R_lt (by (with_reducible repeat (first | apply Kd.R_alloc | apply Kd.R_drewN | apply Kd.R_drew)); exact (Kd.R_mono (Kd.R_mono (Kd.R_far (p := ⟨gb406, 1, none⟩) (Kd.R_far (p := ⟨gb406, 0, none⟩) (Kd.R_far (p := ⟨gb405, 1, none⟩) (Kd.R_far (p := ⟨gb405, 0, none⟩) (Kd.R_types (Kd.R_types HO404.out BK405.out (by decide)) BK406.out (by decide)) (fun _ hk => hk.1.2) (.int .i64 t397)) (fun _ hk => hk.1.2) (.slice Ao12 t398.length co12)) (fun _ hk => hk.2) (.int .i64 t401)) (fun _ hk => hk.2) (.slice Ao14 t402.length co14)) (fun _ h_ => h_.1)) (fun _ h_ => h_.1))))) (below_size (by repeat (first | (with_reducible first | exact HB.out | apply below_alloc | apply pw_below_drewN | apply below_drew1 | refine below_set ?_ GE405.out | refine below_set ?_ GE406.out) | exact HB.out)))); have n3_ := Aside0.mk (blk_below (g := gb405) (o := .cells #[.int .i64 t397, .slice Ao12 t398.length co12] 41 (0, 0)) (by refine sqt ?_; refine blk_far ?_ NB405_406.out _; refine sqt ?_; refine blk_far ?_ NB405_406.out _; refine sqt ?_; refine blk_put (cs := #[.int .i64 t397, .slice none 0 0]) ?_ 1 _ rfl; refine sqt ?_; refine blk_put (cs := #[.int .i64 0, .slice none 0 0]) ?_ 0 _ rfl; refine sqt ?_; exact BK405.out) hb); have n4_ := Aside0.mk (blk_below (g := gb406) (o := .cells #[.int .i64 t401, .slice Ao14 t402.length co14] 41 (0, 0)) (by refine sqt ?_; refine blk_put (cs := #[.int .i64 t401, .slice none 0 0]) ?_ 1 _ rfl; refine sqt ?_; refine blk_put (cs := #[.int .i64 0, .slice none 0 0]) ?_ 0 _ rfl; refine sqt ?_; refine blk_far ?_ NB406_405.out _; refine sqt ?_; refine blk_far ?_ NB406_405.out _; refine sqt ?_; exact BK406.out) hb); have n5_ := sqs HB hb; clear HO400; clear HO404; clear BK405; clear BK406; clear HB; have HO400 := n0_; have HO404 := n1_; have HO410 := n2_; have BK405 := n3_; have BK406 := n4_; have HB := n5_; clear n0_ n1_ n2_ n3_ n4_ n5_; (try clear hb); (try clear hb2); (try clear hk); (try clear hi); (try clear ho0)) | ((with_reducible refine gate_dst (N := 5) rfl ?_); (try (refine gate_guard (by rfl) ?_; dsimp only)); refine sqx 5 #[.int .i64 0, .slice none 0 0] 41 ?_; intro gb411 hg w16 hbox hb; have n0_ := Aside0.mk (Kd.R_below (by (with_reducible repeat (first | apply Kd.R_alloc | apply Kd.R_drewN | apply Kd.R_drew)); exact HO400.out) hb); have n1_ := Aside0.mk (Kd.R_below (by (with_reducible repeat (first | apply Kd.R_alloc | apply Kd.R_drewN | apply Kd.R_drew)); exact HO404.out) hb); have n2_ := Aside0.mk (Kd.R_below (by (with_reducible repeat (first | apply Kd.R_alloc | apply Kd.R_drewN | apply Kd.R_drew)); exact HO410.out) hb); have n3_ := sqb BK405 hb; have n4_ := sqb BK406 hb; have n5_ := sqs HB hb; have n6_ := Aside0.mk (hbox); have n7_ := sqg HB hg; have n8_ := sqg HB hg; have n9_ := sqn BK405 hg; have n10_ := sqm BK405 hg; have n11_ := sqn BK406 hg; have n12_ := sqm BK406 hg; clear HO400; clear HO404; clear HO410; clear BK405; clear BK406; clear HB; have HO400 := n0_; have HO404 := n1_; have HO410 := n2_; have BK405 := n3_; have BK406 := n4_; have HB := n5_; have BK411 := n6_; have GW411 := n7_; have GE411 := n8_; have NB405_411 := n9_; have NB411_405 := n10_; have NB406_411 := n11_; have NB411_406 := n12_; clear n0_ n1_ n2_ n3_ n4_ n5_ n6_ n7_ n8_ n9_ n10_ n11_ n12_; clear hb hbox hg; have hnb17 := NB411_405.out; have hnc17 := NB405_411.out; have hnb18 := NB411_406.out; have hnc18 := NB406_411.out; obtain ⟨hcz19_0, hcz19_1, hfz19_0, hfz19_1⟩ := sqc2 BK411; obtain ⟨Ao20, co20, eo20⟩ := Kd.R_slice HO410.out; subst eo20; obtain ⟨hcz21_0, hcz21_1, hfz21_0, hfz21_1⟩ := sqc2 BK405; obtain ⟨hcz22_0, hcz22_1, hfz22_0, hfz22_1⟩ := sqc2 BK406) | ((with_reducible refine gate_callee (f := 38) rfl ?_); refine sqL (some 22) Try.func38 #[.agg #[.int .i64 t397, .slice Ao12 t398.length co12], .agg #[.int .i64 t401, .slice Ao14 t402.length co14]] ?_; (with_reducible refine (impl_GapsWiden.calls k t397 _ _ t398 t401 _ _ t402 t412 t413 _ ?side1 ?side2 ?side3 ?side4 A5.out).mono ?_); (case side1 => refine (Kd.R_reads' (e := 3) (base := w.heap.size) (ok := fun k_ => (some k_ ≠ (.slice Ao14 t402.length co14 : Value).ownBlock ∧ some k_ ≠ (.slice Ao20 t408.length co20 : Value).ownBlock)) (n := t398.length) (c := co12) ?_).2.2; exact (by (with_reducible repeat (first | apply Kd.R_alloc | apply Kd.R_drewN | apply Kd.R_drew)); exact (Kd.R_mono (Kd.R_far (p := ⟨gb411, 1, none⟩) (Kd.R_far (p := ⟨gb411, 0, none⟩) (Kd.R_types HO400.out BK411.out (by decide)) (fun _ hk => hk.2) (.int .i64 t407)) (fun _ hk => hk.2) (.slice Ao20 t408.length co20)) (fun _ h_ => h_.1)))); (case side2 => exact (Kd.R_reads' HO400.out).2.1); (case side3 => refine (Kd.R_reads' (e := 3) (base := w.heap.size) (ok := fun k_ => (some k_ ≠ (.slice Ao12 t398.length co12 : Value).ownBlock ∧ some k_ ≠ (.slice Ao20 t408.length co20 : Value).ownBlock)) (n := t402.length) (c := co14) ?_).2.2; exact (by (with_reducible repeat (first | apply Kd.R_alloc | apply Kd.R_drewN | apply Kd.R_drew)); exact (Kd.R_mono (Kd.R_far (p := ⟨gb411, 1, none⟩) (Kd.R_far (p := ⟨gb411, 0, none⟩) (Kd.R_types HO404.out BK411.out (by decide)) (fun _ hk => hk.2) (.int .i64 t407)) (fun _ hk => hk.2) (.slice Ao20 t408.length co20)) (fun _ h_ => h_.1)))); (case side4 => exact (Kd.R_reads' HO404.out).2.1); rintro e w23 ⟨v414, rfl, ho0, hb⟩; refine ⟨_, rfl, ?_⟩; have n0_ := Aside0.mk (Kd.R_elder' (by (with_reducible repeat (first | apply Kd.R_alloc | apply Kd.R_drewN | apply Kd.R_drew)); exact (Kd.R_mono (Kd.R_far (p := ⟨gb411, 1, none⟩) (Kd.R_far (p := ⟨gb411, 0, none⟩) (Kd.R_types HO400.out BK411.out (by decide)) (fun _ hk => hk.2) (.int .i64 t407)) (fun _ hk => hk.2) (.slice Ao20 t408.length co20)) (fun _ h_ => h_.1))) (Kd.R_base ho0) hb); have n1_ := Aside0.mk (Kd.R_elder' (by (with_reducible repeat (first | apply Kd.R_alloc | apply Kd.R_drewN | apply Kd.R_drew)); exact (Kd.R_mono (Kd.R_far (p := ⟨gb411, 1, none⟩) (Kd.R_far (p := ⟨gb411, 0, none⟩) (Kd.R_types HO404.out BK411.out (by decide)) (fun _ hk => hk.2) (.int .i64 t407)) (fun _ hk => hk.2) (.slice Ao20 t408.length co20)) (fun _ h_ => h_.1))) (Kd.R_base ho0) hb); have n2_ := Aside0.mk (Kd.R_elder' (by (with_reducible repeat (first | apply Kd.R_alloc | apply Kd.R_drewN | apply Kd.R_drew)); exact (Kd.R_mono (Kd.R_far (p := ⟨gb411, 1, none⟩) (Kd.R_far (p := ⟨gb411, 0, none⟩) (Kd.R_types HO410.out BK411.out (by decide)) (fun _ hk => hk.2) (.int .i64 t407)) (fun _ hk => hk.2) (.slice Ao20 t408.length co20)) (fun _ h_ => h_.1))) (Kd.R_base ho0) hb); have n3_ := Aside0.mk (Kd.R_lower (Kd.R_new' (Kd.R_new' (Kd.R_new' ho0 (Kd.R_lt (by (with_reducible repeat (first | apply Kd.R_alloc | apply Kd.R_drewN | apply Kd.R_drew)); exact (Kd.R_mono (Kd.R_far (p := ⟨gb411, 1, none⟩) (Kd.R_far (p := ⟨gb411, 0, none⟩) (Kd.R_types HO400.out BK411.out (by decide)) (fun _ hk => hk.2) (.int .i64 t407)) (fun _ hk => hk.2) (.slice Ao20 t408.length co20)) (fun _ h_ => h_.1))))) (Kd.R_lt (by (with_reducible repeat (first | apply Kd.R_alloc | apply Kd.R_drewN | apply Kd.R_drew)); exact (Kd.R_mono (Kd.R_far (p := ⟨gb411, 1, none⟩) (Kd.R_far (p := ⟨gb411, 0, none⟩) (Kd.R_types HO404.out BK411.out (by decide)) (fun _ hk => hk.2) (.int .i64 t407)) (fun _ hk => hk.2) (.slice Ao20 t408.length co20)) (fun _ h_ => h_.1))))) (Kd.R_lt (by (with_reducible repeat (first | apply Kd.R_alloc | apply Kd.R_drewN | apply Kd.R_drew)); exact (Kd.R_mono (Kd.R_far (p := ⟨gb411, 1, none⟩) (Kd.R_far (p := ⟨gb411, 0, none⟩) (Kd.R_types HO410.out BK411.out (by decide)) (fun _ hk => hk.2) (.int .i64 t407)) (fun _ hk => hk.2) (.slice Ao20 t408.length co20)) (fun _ h_ => h_.1))))) (below_size (by repeat (first | (with_reducible first | exact HB.out | apply below_alloc | apply pw_below_drewN | apply below_drew1 | refine below_set ?_ GE405.out | refine below_set ?_ GE406.out | refine below_set ?_ GE411.out) | exact HB.out)))); have n4_ := Aside0.mk (blk_below (g := gb405) (o := .cells #[.int .i64 t397, .slice Ao12 t398.length co12] 41 (0, 0)) (by refine sqt ?_; refine blk_far ?_ NB405_411.out _; refine sqt ?_; refine blk_far ?_ NB405_411.out _; refine sqt ?_; exact BK405.out) hb); have n5_ := Aside0.mk (blk_below (g := gb406) (o := .cells #[.int .i64 t401, .slice Ao14 t402.length co14] 41 (0, 0)) (by refine sqt ?_; refine blk_far ?_ NB406_411.out _; refine sqt ?_; refine blk_far ?_ NB406_411.out _; refine sqt ?_; exact BK406.out) hb); have n6_ := Aside0.mk (blk_below (g := gb411) (o := .cells #[.int .i64 t407, .slice Ao20 t408.length co20] 41 (0, 0)) (by refine sqt ?_; refine blk_put (cs := #[.int .i64 t407, .slice none 0 0]) ?_ 1 _ rfl; refine sqt ?_; refine blk_put (cs := #[.int .i64 0, .slice none 0 0]) ?_ 0 _ rfl; refine sqt ?_; exact BK411.out) hb); have n7_ := sqs HB hb; clear HO400; clear HO404; clear HO410; clear BK405; clear BK406; clear BK411; clear HB; have HO400 := n0_; have HO404 := n1_; have HO410 := n2_; have HO415 := n3_; have BK405 := n4_; have BK406 := n5_; have BK411 := n6_; have HB := n7_; clear n0_ n1_ n2_ n3_ n4_ n5_ n6_ n7_; (try clear hb); (try clear hb2); (try clear hk); (try clear hi); (try clear ho0)) | ((with_reducible refine gate_dst (N := 6) rfl ?_); (try (refine gate_guard (by rfl) ?_; dsimp only)); refine sqx 6 #[.int .i64 0, .slice none 0 0] 41 ?_; intro gb416 hg w24 hbox hb; have n0_ := Aside0.mk (Kd.R_below (by (with_reducible repeat (first | apply Kd.R_alloc | apply Kd.R_drewN | apply Kd.R_drew)); exact HO400.out) hb); have n1_ := Aside0.mk (Kd.R_below (by (with_reducible repeat (first | apply Kd.R_alloc | apply Kd.R_drewN | apply Kd.R_drew)); exact HO404.out) hb); have n2_ := Aside0.mk (Kd.R_below (by (with_reducible repeat (first | apply Kd.R_alloc | apply Kd.R_drewN | apply Kd.R_drew)); exact HO410.out) hb); have n3_ := Aside0.mk (Kd.R_below (by (with_reducible repeat (first | apply Kd.R_alloc | apply Kd.R_drewN | apply Kd.R_drew)); exact HO415.out) hb); have n4_ := sqb BK405 hb; have n5_ := sqb BK406 hb; have n6_ := sqb BK411 hb; have n7_ := sqs HB hb; have n8_ := Aside0.mk (hbox); have n9_ := sqg HB hg; have n10_ := sqg HB hg; have n11_ := sqn BK405 hg; have n12_ := sqm BK405 hg; have n13_ := sqn BK406 hg; have n14_ := sqm BK406 hg; have n15_ := sqn BK411 hg; have n16_ := sqm BK411 hg; clear HO400; clear HO404; clear HO410; clear HO415; clear BK405; clear BK406; clear BK411; clear HB; have HO400 := n0_; have HO404 := n1_; have HO410 := n2_; have HO415 := n3_; have BK405 := n4_; have BK406 := n5_; have BK411 := n6_; have HB := n7_; have BK416 := n8_; have GW416 := n9_; have GE416 := n10_; have NB405_416 := n11_; have NB416_405 := n12_; have NB406_416 := n13_; have NB416_406 := n14_; have NB411_416 := n15_; have NB416_411 := n16_; clear n0_ n1_ n2_ n3_ n4_ n5_ n6_ n7_ n8_ n9_ n10_ n11_ n12_ n13_ n14_ n15_ n16_; clear hb hbox hg; have hnb25 := NB416_405.out; have hnc25 := NB405_416.out; have hnb26 := NB416_406.out; have hnc26 := NB406_416.out; have hnb27 := NB416_411.out; have hnc27 := NB411_416.out; obtain ⟨hcz28_0, hcz28_1, hfz28_0, hfz28_1⟩ := sqc2 BK416; obtain ⟨Ao29, co29, eo29⟩ := Kd.R_slice HO415.out; subst eo29))
    (try simp only [Act.put, List.setIfInBounds_toArray, List.set_cons_zero, List.set_cons_succ])
    go_cut [40] (fun v40 wc => ∃ (kq : Nat) (x40_5 : Bool), v40 = .bool x40_5 ∧ Aside0 (laws_FnGapsJoin.j0 kq l0 x40_5 t397 t398 t401 t402 t407 t408 t412 t413 = some true) ∧ Aside0 (kq ≤ k) ∧ Aside0 (Kd.R (Kd.int .i64) 3 wc w.heap.size (fun k_ => some k_ ≠ ((.slice Ao14 t402.length co14) : Value).ownBlock ∧ some k_ ≠ ((.slice Ao20 t408.length co20) : Value).ownBlock ∧ some k_ ≠ ((.slice Ao29 t413.length co29) : Value).ownBlock) (.slice Ao12 t398.length co12) t398) ∧ Aside0 (Kd.R (Kd.int .i64) 3 wc w.heap.size (fun k_ => some k_ ≠ ((.slice Ao12 t398.length co12) : Value).ownBlock ∧ some k_ ≠ ((.slice Ao20 t408.length co20) : Value).ownBlock ∧ some k_ ≠ ((.slice Ao29 t413.length co29) : Value).ownBlock) (.slice Ao14 t402.length co14) t402) ∧ Aside0 (Kd.R (Kd.int .i64) 3 wc w.heap.size (fun k_ => some k_ ≠ ((.slice Ao12 t398.length co12) : Value).ownBlock ∧ some k_ ≠ ((.slice Ao14 t402.length co14) : Value).ownBlock ∧ some k_ ≠ ((.slice Ao29 t413.length co29) : Value).ownBlock) (.slice Ao20 t408.length co20) t408) ∧ Aside0 (Kd.R (Kd.int .i64) 3 wc w.heap.size (fun k_ => some k_ ≠ ((.slice Ao12 t398.length co12) : Value).ownBlock ∧ some k_ ≠ ((.slice Ao14 t402.length co14) : Value).ownBlock ∧ some k_ ≠ ((.slice Ao20 t408.length co20) : Value).ownBlock) (.slice Ao29 t413.length co29) t413) ∧ Aside0 (wc.heap[gb405]? = some (.cells #[.int .i64 t397, (.slice Ao12 t398.length co12)] 41 (0, 0))) ∧ Aside0 (wc.heap[gb406]? = some (.cells #[.int .i64 t401, (.slice Ao14 t402.length co14)] 41 (0, 0))) ∧ Aside0 (wc.heap[gb411]? = some (.cells #[.int .i64 t407, (.slice Ao20 t408.length co20)] 41 (0, 0))) ∧ Aside0 (wc.heap[gb416]? = some (.cells #[.int .i64 t412, (.slice Ao29 t413.length co29)] 41 (0, 0))) ∧ Aside0 (Below w.heap.size w wc))
    case first =>
      as_aux_lemma =>
      have H := HC6.out
      clear HC6
      replace H := Option.bind_eq_some_iff.mp H
      obtain ⟨⟨t417, t418⟩, A300, H⟩ := H
      replace H : ((laws_sameInts.f k t408 t418).bind fun t421 => (if t421 = true then ((spec_GapsWiden.f k t397 t398 t401 t402).bind fun bt422 => ((laws_sameInts.f k t413 bt422.2).bind fun t426 => (laws_FnGapsJoin.j0 k l0 (!t426) t397 t398 t401 t402 t407 t408 t412 t413))) else (laws_FnGapsJoin.j0 k l0 true t397 t398 t401 t402 t407 t408 t412 t413))) = some true := H
      have A30 := Aside0.mk A300
      clear A300
      replace H := Option.bind_eq_some_iff.mp H
      obtain ⟨t421, A310, H⟩ := H
      replace H : (if t421 = true then ((spec_GapsWiden.f k t397 t398 t401 t402).bind fun bt422 => ((laws_sameInts.f k t413 bt422.2).bind fun t426 => (laws_FnGapsJoin.j0 k l0 (!t426) t397 t398 t401 t402 t407 t408 t412 t413))) else (laws_FnGapsJoin.j0 k l0 true t397 t398 t401 t402 t407 t408 t412 t413)) = some true := H
      have A31 := Aside0.mk A310
      clear A310
      by_cases c32 : t421 = true
      · subst c32
        have H1 : ((spec_GapsWiden.f k t397 t398 t401 t402).bind fun bt422 => ((laws_sameInts.f k t413 bt422.2).bind fun t426 => (laws_FnGapsJoin.j0 k l0 (!t426) t397 t398 t401 t402 t407 t408 t412 t413))) = some true := by rw [if_pos rfl] at H; exact H
        clear H
        have H := H1
        clear H1
        replace H := Option.bind_eq_some_iff.mp H
        obtain ⟨⟨t422, t423⟩, A330, H⟩ := H
        replace H : ((laws_sameInts.f k t413 t423).bind fun t426 => (laws_FnGapsJoin.j0 k l0 (!t426) t397 t398 t401 t402 t407 t408 t412 t413)) = some true := H
        have A33 := Aside0.mk A330
        clear A330
        replace H := Option.bind_eq_some_iff.mp H
        obtain ⟨t426, A340, H⟩ := H
        replace H : (laws_FnGapsJoin.j0 k l0 (!t426) t397 t398 t401 t402 t407 t408 t412 t413) = some true := H
        have A34 := Aside0.mk A340
        clear A340
        have H' := Aside0.mk H
        clear H
        try go_wp2
        have n0_ : Aside0 (Kd.R (Kd.int .i64) 3 ((w24.setCell ⟨gb416, 0, none⟩ (.int .i64 t412)).setCell ⟨gb416, 1, none⟩ (.slice Ao29 t413.length co29)) w.heap.size (fun k_ => some k_ ≠ (.slice Ao14 t402.length co14 : Value).ownBlock ∧ some k_ ≠ (.slice Ao20 t408.length co20 : Value).ownBlock ∧ some k_ ≠ (.slice Ao29 t413.length co29 : Value).ownBlock) (.slice Ao12 t398.length co12) t398) := ⟨by (with_reducible repeat (first | apply Kd.R_alloc | apply Kd.R_drewN | apply Kd.R_drew)); exact Kd.R_mono (Kd.R_far (p := ⟨gb416, 1, none⟩) (Kd.R_far (p := ⟨gb416, 0, none⟩) (Kd.R_types HO400.out BK416.out (by decide)) (fun _ hk => hk.2) (.int .i64 t412)) (fun _ hk => hk.2) (.slice Ao29 t413.length co29)) (fun _ hk => ⟨hk.1.1.1, ⟨hk.1.1.2, hk.1.2⟩⟩)⟩
        have n1_ : Aside0 (Kd.R (Kd.int .i64) 3 ((w24.setCell ⟨gb416, 0, none⟩ (.int .i64 t412)).setCell ⟨gb416, 1, none⟩ (.slice Ao29 t413.length co29)) w.heap.size (fun k_ => some k_ ≠ (.slice Ao12 t398.length co12 : Value).ownBlock ∧ some k_ ≠ (.slice Ao20 t408.length co20 : Value).ownBlock ∧ some k_ ≠ (.slice Ao29 t413.length co29 : Value).ownBlock) (.slice Ao14 t402.length co14) t402) := ⟨by (with_reducible repeat (first | apply Kd.R_alloc | apply Kd.R_drewN | apply Kd.R_drew)); exact Kd.R_mono (Kd.R_far (p := ⟨gb416, 1, none⟩) (Kd.R_far (p := ⟨gb416, 0, none⟩) (Kd.R_types HO404.out BK416.out (by decide)) (fun _ hk => hk.2) (.int .i64 t412)) (fun _ hk => hk.2) (.slice Ao29 t413.length co29)) (fun _ hk => ⟨hk.1.1.1, ⟨hk.1.1.2, hk.1.2⟩⟩)⟩
        have n2_ : Aside0 (Kd.R (Kd.int .i64) 3 ((w24.setCell ⟨gb416, 0, none⟩ (.int .i64 t412)).setCell ⟨gb416, 1, none⟩ (.slice Ao29 t413.length co29)) w.heap.size (fun k_ => some k_ ≠ (.slice Ao12 t398.length co12 : Value).ownBlock ∧ some k_ ≠ (.slice Ao14 t402.length co14 : Value).ownBlock ∧ some k_ ≠ (.slice Ao29 t413.length co29 : Value).ownBlock) (.slice Ao20 t408.length co20) t408) := ⟨by (with_reducible repeat (first | apply Kd.R_alloc | apply Kd.R_drewN | apply Kd.R_drew)); exact Kd.R_mono (Kd.R_far (p := ⟨gb416, 1, none⟩) (Kd.R_far (p := ⟨gb416, 0, none⟩) (Kd.R_types HO410.out BK416.out (by decide)) (fun _ hk => hk.2) (.int .i64 t412)) (fun _ hk => hk.2) (.slice Ao29 t413.length co29)) (fun _ hk => ⟨hk.1.1.1.2, ⟨hk.1.1.2, hk.1.2⟩⟩)⟩
        have n3_ : Aside0 (Kd.R (Kd.int .i64) 3 ((w24.setCell ⟨gb416, 0, none⟩ (.int .i64 t412)).setCell ⟨gb416, 1, none⟩ (.slice Ao29 t413.length co29)) w.heap.size (fun k_ => some k_ ≠ (.slice Ao12 t398.length co12 : Value).ownBlock ∧ some k_ ≠ (.slice Ao14 t402.length co14 : Value).ownBlock ∧ some k_ ≠ (.slice Ao20 t408.length co20 : Value).ownBlock) (.slice Ao29 t413.length co29) t413) := ⟨by (with_reducible repeat (first | apply Kd.R_alloc | apply Kd.R_drewN | apply Kd.R_drew)); exact Kd.R_mono (Kd.R_far (p := ⟨gb416, 1, none⟩) (Kd.R_far (p := ⟨gb416, 0, none⟩) (Kd.R_types HO415.out BK416.out (by decide)) (fun _ hk => hk.2) (.int .i64 t412)) (fun _ hk => hk.2) (.slice Ao29 t413.length co29)) (fun _ hk => ⟨hk.1.1.1.2, ⟨hk.1.1.2, hk.1.2⟩⟩)⟩
        have n4_ : Aside0 (((w24.setCell ⟨gb416, 0, none⟩ (.int .i64 t412)).setCell ⟨gb416, 1, none⟩ (.slice Ao29 t413.length co29)).heap[gb405]? = some (.cells #[.int .i64 t397, .slice Ao12 t398.length co12] 41 (0, 0))) := ⟨by refine sqt ?_; refine blk_far ?_ NB405_416.out _; refine sqt ?_; refine blk_far ?_ NB405_416.out _; refine sqt ?_; exact BK405.out⟩
        have n5_ : Aside0 (((w24.setCell ⟨gb416, 0, none⟩ (.int .i64 t412)).setCell ⟨gb416, 1, none⟩ (.slice Ao29 t413.length co29)).heap[gb406]? = some (.cells #[.int .i64 t401, .slice Ao14 t402.length co14] 41 (0, 0))) := ⟨by refine sqt ?_; refine blk_far ?_ NB406_416.out _; refine sqt ?_; refine blk_far ?_ NB406_416.out _; refine sqt ?_; exact BK406.out⟩
        have n6_ : Aside0 (((w24.setCell ⟨gb416, 0, none⟩ (.int .i64 t412)).setCell ⟨gb416, 1, none⟩ (.slice Ao29 t413.length co29)).heap[gb411]? = some (.cells #[.int .i64 t407, .slice Ao20 t408.length co20] 41 (0, 0))) := ⟨by refine sqt ?_; refine blk_far ?_ NB411_416.out _; refine sqt ?_; refine blk_far ?_ NB411_416.out _; refine sqt ?_; exact BK411.out⟩
        have n7_ : Aside0 (((w24.setCell ⟨gb416, 0, none⟩ (.int .i64 t412)).setCell ⟨gb416, 1, none⟩ (.slice Ao29 t413.length co29)).heap[gb416]? = some (.cells #[.int .i64 t412, .slice Ao29 t413.length co29] 41 (0, 0))) := ⟨by refine sqt ?_; refine blk_put (cs := #[.int .i64 t412, .slice none 0 0]) ?_ 1 _ rfl; refine sqt ?_; refine blk_put (cs := #[.int .i64 0, .slice none 0 0]) ?_ 0 _ rfl; refine sqt ?_; exact BK416.out⟩
        have n8_ : Aside0 (Below w.heap.size w ((w24.setCell ⟨gb416, 0, none⟩ (.int .i64 t412)).setCell ⟨gb416, 1, none⟩ (.slice Ao29 t413.length co29))) := sqh HB
        (try clear HO400)
        (try clear HO404)
        (try clear HO410)
        (try clear HO415)
        (try clear BK405)
        (try clear BK406)
        (try clear BK411)
        (try clear BK416)
        (try clear HB)
        generalize ((w24.setCell ⟨gb416, 0, none⟩ (.int .i64 t412)).setCell ⟨gb416, 1, none⟩ (.slice Ao29 t413.length co29)) = w35 at n0_ n1_ n2_ n3_ n4_ n5_ n6_ n7_ n8_ ⊢
        have HO400 := n0_
        have HO404 := n1_
        have HO410 := n2_
        have HO415 := n3_
        have BK405 := n4_
        have BK406 := n5_
        have BK411 := n6_
        have BK416 := n7_
        have HB := n8_
        clear n0_ n1_ n2_ n3_ n4_ n5_ n6_ n7_ n8_
        replace HO400 := Aside0.mk (Kd.R_drew HO400.out)
        replace HO404 := Aside0.mk (Kd.R_drew HO404.out)
        replace HO410 := Aside0.mk (Kd.R_drew HO410.out)
        replace HO415 := Aside0.mk (Kd.R_drew HO415.out)
        replace BK405 := Aside0.mk (blk_drew BK405.out)
        replace BK406 := Aside0.mk (blk_drew BK406.out)
        replace BK411 := Aside0.mk (blk_drew BK411.out)
        replace BK416 := Aside0.mk (blk_drew BK416.out)
        replace HB := Aside0.mk (below_drew1 HB.out)
        refine start_ (n := 18) (S := fun w' => w'.cell? ⟨gb411, 0, none⟩ = some (.int .i64 t407) ∧ w'.cell? ⟨gb411, 1, none⟩ = some (.slice Ao20 t408.length co20) ∧ w'.cell? ⟨gb405, 0, none⟩ = some (.int .i64 t397) ∧ w'.cell? ⟨gb405, 1, none⟩ = some (.slice Ao12 t398.length co12) ∧ w'.cell? ⟨gb406, 0, none⟩ = some (.int .i64 t401) ∧ w'.cell? ⟨gb406, 1, none⟩ = some (.slice Ao14 t402.length co14) ∧ w'.cell? ⟨gb416, 0, none⟩ = some (.int .i64 t412) ∧ w'.cell? ⟨gb416, 1, none⟩ = some (.slice Ao29 t413.length co29)) (ds := []) #[false, false, false, false, false, false, false, false, false, false, false, false, false, false, false, false, false, false] (by kernel_rfl) rfl rfl ⟨(blk_cell BK411.out 0).trans rfl, (blk_cell BK411.out 1).trans rfl, (blk_cell BK405.out 0).trans rfl, (blk_cell BK405.out 1).trans rfl, (blk_cell BK406.out 0).trans rfl, (blk_cell BK406.out 1).trans rfl, (blk_cell BK416.out 0).trans rfl, (blk_cell BK416.out 1).trans rfl⟩ (fun hHeld => ?_); refine with_tabW laws_FnGapsJoin.tab6 laws_FnGapsJoin.bits6 (fun HT_ HW_ => ?_)
        generalize w35.drew = w36 at HO400 HO404 HO410 HO415 BK405 BK406 BK411 BK416 HB hHeld ⊢
        refine sqp HT_ 0 23 ?_
        refine sqw HT_ HW_ 1 24 hHeld ?_
        refine sqw HT_ HW_ 2 25 hHeld ?_
        refine sqw HT_ HW_ 3 26 hHeld ?_
        refine sqo HT_ 4 27 (fun K hK => ?_)
        refine sqG Try.func39 #[.agg #[.int .i64 t397, .slice Ao12 t398.length co12], .agg #[.int .i64 t401, .slice Ao14 t402.length co14]] ?_
        with_reducible refine (spec_GapsJoin.calls k t397 _ _ t398 t401 _ _ t402 t417 t418 _ ?side1 ?side2 ?side3 ?side4 A30.out).mono ?_
        (case side1 => repeat (first | exact (Kd.R_reads' HO400.out).2.2 | (with_reducible refine Kd.C_alloc ?_ _) | (with_reducible refine Kd.C_drewN ?_ _) | (with_reducible refine Kd.C_drew ?_)))
        (case side2 => exact (Kd.R_reads' HO400.out).2.1)
        (case side3 => repeat (first | exact (Kd.R_reads' HO404.out).2.2 | (with_reducible refine Kd.C_alloc ?_ _) | (with_reducible refine Kd.C_drewN ?_ _) | (with_reducible refine Kd.C_drew ?_)))
        (case side4 => exact (Kd.R_reads' HO404.out).2.1)
        rintro e w37 ⟨v419, rfl, ho0, hb⟩
        refine ⟨_, rfl, ?_⟩
        have n0_ := Aside0.mk (Kd.R_elder' (by (with_reducible repeat (first | apply Kd.R_alloc | apply Kd.R_drewN | apply Kd.R_drew)); exact HO400.out) (Kd.R_base ho0) hb)
        have n1_ := Aside0.mk (Kd.R_elder' (by (with_reducible repeat (first | apply Kd.R_alloc | apply Kd.R_drewN | apply Kd.R_drew)); exact HO404.out) (Kd.R_base ho0) hb)
        have n2_ := Aside0.mk (Kd.R_elder' (by (with_reducible repeat (first | apply Kd.R_alloc | apply Kd.R_drewN | apply Kd.R_drew)); exact HO410.out) (Kd.R_base ho0) hb)
        have n3_ := Aside0.mk (Kd.R_elder' (by (with_reducible repeat (first | apply Kd.R_alloc | apply Kd.R_drewN | apply Kd.R_drew)); exact HO415.out) (Kd.R_base ho0) hb)
        have n4_ := Aside0.mk (Kd.R_lower (Kd.R_new' (Kd.R_new' (Kd.R_new' (Kd.R_new' ho0 (Kd.R_lt (by (with_reducible repeat (first | apply Kd.R_alloc | apply Kd.R_drewN | apply Kd.R_drew)); exact HO400.out))) (Kd.R_lt (by (with_reducible repeat (first | apply Kd.R_alloc | apply Kd.R_drewN | apply Kd.R_drew)); exact HO404.out))) (Kd.R_lt (by (with_reducible repeat (first | apply Kd.R_alloc | apply Kd.R_drewN | apply Kd.R_drew)); exact HO410.out))) (Kd.R_lt (by (with_reducible repeat (first | apply Kd.R_alloc | apply Kd.R_drewN | apply Kd.R_drew)); exact HO415.out))) (below_size (by repeat (first | (with_reducible first | exact HB.out | apply below_alloc | apply pw_below_drewN | apply below_drew1 | refine below_set ?_ GE405.out | refine below_set ?_ GE406.out | refine below_set ?_ GE411.out | refine below_set ?_ GE416.out) | exact HB.out))))
        have n5_ := sqb BK405 hb
        have n6_ := sqb BK406 hb
        have n7_ := sqb BK411 hb
        have n8_ := sqb BK416 hb
        have n9_ := sqs HB hb
        clear HO400
        clear HO404
        clear HO410
        clear HO415
        clear BK405
        clear BK406
        clear BK411
        clear BK416
        clear HB
        have HO400 := n0_
        have HO404 := n1_
        have HO410 := n2_
        have HO415 := n3_
        have HO420 := n4_
        have BK405 := n5_
        have BK406 := n6_
        have BK411 := n7_
        have BK416 := n8_
        have HB := n9_
        clear n0_ n1_ n2_ n3_ n4_ n5_ n6_ n7_ n8_ n9_
        (try clear hb)
        (try clear hb2)
        (try clear hk)
        (try clear hi)
        (try clear ho0)
        obtain ⟨Ao38, co38, eo38⟩ := Kd.R_slice HO420.out
        (first | subst eo38 | (injection eo38 with f1_ f2_ f3_; have f4_ := f1_.symm; have f5_ := f3_.symm; clear f1_ f2_ f3_; subst f4_; subst f5_))
        refine hK.out _ _ sqz (fun hHeld => ?_)
        clear hK K
        refine sqnm ?_
        refine sqp HT_ 5 28 ?_
        refine sqo HT_ 6 29 (fun K hK => ?_)
        refine sqG Try.func27 #[.slice Ao20 t408.length co20, .slice Ao38 t418.length co38] ?_
        with_reducible refine (laws_sameInts.calls k _ _ t408 _ _ t418 true _ ?side1 ?side2 ?side3 ?side4 A31.out).mono ?_
        (case side1 => repeat (first | exact (Kd.R_reads' HO410.out).2.2 | (with_reducible refine Kd.C_alloc ?_ _) | (with_reducible refine Kd.C_drewN ?_ _) | (with_reducible refine Kd.C_drew ?_)))
        (case side2 => exact (Kd.R_reads' HO410.out).2.1)
        (case side3 => repeat (first | exact (Kd.R_reads' HO420.out).2.2 | (with_reducible refine Kd.C_alloc ?_ _) | (with_reducible refine Kd.C_drewN ?_ _) | (with_reducible refine Kd.C_drew ?_)))
        (case side4 => exact (Kd.R_reads' HO420.out).2.1)
        rintro e w' ⟨rfl, ⟨nd, rfl⟩⟩
        refine ⟨_, rfl, ?_⟩
        refine hK.out _ _ sqz (fun hHeld => ?_)
        clear hK K
        refine sqnm ?_
        refine sqp HT_ 7 30 ?_
        refine sqp HT_ 8 31 ?_
        refine sqp HT_ 9 32 ?_
        refine sqw HT_ HW_ 10 33 hHeld ?_
        refine sqw HT_ HW_ 11 34 hHeld ?_
        refine sqw HT_ HW_ 12 35 hHeld ?_
        refine sqo HT_ 13 36 (fun K hK => ?_)
        refine sqG Try.func40 #[.agg #[.int .i64 t397, .slice Ao12 t398.length co12], .agg #[.int .i64 t401, .slice Ao14 t402.length co14]] ?_
        with_reducible refine (spec_GapsWiden.calls k t397 _ _ t398 t401 _ _ t402 t422 t423 _ ?side1 ?side2 ?side3 ?side4 A33.out).mono ?_
        (case side1 => repeat (first | exact (Kd.R_reads' HO400.out).2.2 | (with_reducible refine Kd.C_alloc ?_ _) | (with_reducible refine Kd.C_drewN ?_ _) | (with_reducible refine Kd.C_drew ?_)))
        (case side2 => exact (Kd.R_reads' HO400.out).2.1)
        (case side3 => repeat (first | exact (Kd.R_reads' HO404.out).2.2 | (with_reducible refine Kd.C_alloc ?_ _) | (with_reducible refine Kd.C_drewN ?_ _) | (with_reducible refine Kd.C_drew ?_)))
        (case side4 => exact (Kd.R_reads' HO404.out).2.1)
        rintro e w39 ⟨v424, rfl, ho0, hb⟩
        refine ⟨_, rfl, ?_⟩
        have n0_ := Aside0.mk (Kd.R_elder' (by (with_reducible repeat (first | apply Kd.R_alloc | apply Kd.R_drewN | apply Kd.R_drew)); exact HO400.out) (Kd.R_base ho0) hb)
        have n1_ := Aside0.mk (Kd.R_elder' (by (with_reducible repeat (first | apply Kd.R_alloc | apply Kd.R_drewN | apply Kd.R_drew)); exact HO404.out) (Kd.R_base ho0) hb)
        have n2_ := Aside0.mk (Kd.R_elder' (by (with_reducible repeat (first | apply Kd.R_alloc | apply Kd.R_drewN | apply Kd.R_drew)); exact HO410.out) (Kd.R_base ho0) hb)
        have n3_ := Aside0.mk (Kd.R_elder' (by (with_reducible repeat (first | apply Kd.R_alloc | apply Kd.R_drewN | apply Kd.R_drew)); exact HO415.out) (Kd.R_base ho0) hb)
        have n4_ := Aside0.mk (Kd.R_elder' (by (with_reducible repeat (first | apply Kd.R_alloc | apply Kd.R_drewN | apply Kd.R_drew)); exact HO420.out) (Kd.R_base ho0) hb)
        have n5_ := Aside0.mk (Kd.R_lower (Kd.R_new' (Kd.R_new' (Kd.R_new' (Kd.R_new' (Kd.R_new' ho0 (Kd.R_lt (by (with_reducible repeat (first | apply Kd.R_alloc | apply Kd.R_drewN | apply Kd.R_drew)); exact HO400.out))) (Kd.R_lt (by (with_reducible repeat (first | apply Kd.R_alloc | apply Kd.R_drewN | apply Kd.R_drew)); exact HO404.out))) (Kd.R_lt (by (with_reducible repeat (first | apply Kd.R_alloc | apply Kd.R_drewN | apply Kd.R_drew)); exact HO410.out))) (Kd.R_lt (by (with_reducible repeat (first | apply Kd.R_alloc | apply Kd.R_drewN | apply Kd.R_drew)); exact HO415.out))) (Kd.R_lt (by (with_reducible repeat (first | apply Kd.R_alloc | apply Kd.R_drewN | apply Kd.R_drew)); exact HO420.out))) (below_size (by repeat (first | (with_reducible first | exact HB.out | apply below_alloc | apply pw_below_drewN | apply below_drew1 | refine below_set ?_ GE405.out | refine below_set ?_ GE406.out | refine below_set ?_ GE411.out | refine below_set ?_ GE416.out) | exact HB.out))))
        have n6_ := sqb BK405 hb
        have n7_ := sqb BK406 hb
        have n8_ := sqb BK411 hb
        have n9_ := sqb BK416 hb
        have n10_ := sqs HB hb
        clear HO400
        clear HO404
        clear HO410
        clear HO415
        clear HO420
        clear BK405
        clear BK406
        clear BK411
        clear BK416
        clear HB
        have HO400 := n0_
        have HO404 := n1_
        have HO410 := n2_
        have HO415 := n3_
        have HO420 := n4_
        have HO425 := n5_
        have BK405 := n6_
        have BK406 := n7_
        have BK411 := n8_
        have BK416 := n9_
        have HB := n10_
        clear n0_ n1_ n2_ n3_ n4_ n5_ n6_ n7_ n8_ n9_ n10_
        (try clear hb)
        (try clear hb2)
        (try clear hk)
        (try clear hi)
        (try clear ho0)
        obtain ⟨Ao40, co40, eo40⟩ := Kd.R_slice HO425.out
        (first | subst eo40 | (injection eo40 with f1_ f2_ f3_; have f4_ := f1_.symm; have f5_ := f3_.symm; clear f1_ f2_ f3_; subst f4_; subst f5_))
        refine hK.out _ _ sqz (fun hHeld => ?_)
        clear hK K
        refine sqnm ?_
        refine sqp HT_ 14 37 ?_
        refine sqo HT_ 15 38 (fun K hK => ?_)
        refine sqG Try.func27 #[.slice Ao29 t413.length co29, .slice Ao40 t423.length co40] ?_
        with_reducible refine (laws_sameInts.calls k _ _ t413 _ _ t423 t426 _ ?side1 ?side2 ?side3 ?side4 A34.out).mono ?_
        (case side1 => repeat (first | exact (Kd.R_reads' HO415.out).2.2 | (with_reducible refine Kd.C_alloc ?_ _) | (with_reducible refine Kd.C_drewN ?_ _) | (with_reducible refine Kd.C_drew ?_)))
        (case side2 => exact (Kd.R_reads' HO415.out).2.1)
        (case side3 => repeat (first | exact (Kd.R_reads' HO425.out).2.2 | (with_reducible refine Kd.C_alloc ?_ _) | (with_reducible refine Kd.C_drewN ?_ _) | (with_reducible refine Kd.C_drew ?_)))
        (case side4 => exact (Kd.R_reads' HO425.out).2.1)
        rintro e w' ⟨rfl, ⟨nd, rfl⟩⟩
        refine ⟨_, rfl, ?_⟩
        refine hK.out _ _ sqz (fun hHeld => ?_)
        clear hK K
        refine sqnm ?_
        refine sqp HT_ 16 39 ?_
        refine sqp HT_ 17 40 ?_
        refine done_ (done_of HT_.out (by kernel_rfl)) ?_
        try go_wp2
        go_meet
        case rel => exact ⟨_, (!t426), (by first | rfl | (simp; done) | (simp [*]; done)), H', ⟨by first | omega | exact Nat.le_refl _⟩, ⟨by (with_reducible repeat (first | apply Kd.R_alloc | apply Kd.R_drewN | apply Kd.R_drew)); exact Kd.R_mono HO400.out (fun _ hk => ⟨hk.1.1.1, ⟨hk.1.1.2.1, hk.1.1.2.2⟩⟩)⟩, ⟨by (with_reducible repeat (first | apply Kd.R_alloc | apply Kd.R_drewN | apply Kd.R_drew)); exact Kd.R_mono HO404.out (fun _ hk => ⟨hk.1.1.1, ⟨hk.1.1.2.1, hk.1.1.2.2⟩⟩)⟩, ⟨by (with_reducible repeat (first | apply Kd.R_alloc | apply Kd.R_drewN | apply Kd.R_drew)); exact Kd.R_mono HO410.out (fun _ hk => ⟨hk.1.1.1, ⟨hk.1.1.2.1, hk.1.1.2.2⟩⟩)⟩, ⟨by (with_reducible repeat (first | apply Kd.R_alloc | apply Kd.R_drewN | apply Kd.R_drew)); exact Kd.R_mono HO415.out (fun _ hk => ⟨hk.1.1.1, ⟨hk.1.1.2.1, hk.1.1.2.2⟩⟩)⟩, sqk BK405, sqk BK406, sqk BK411, sqk BK416, sqh HB⟩
      · replace c32 := Bool.eq_false_iff.mpr c32
        subst c32
        have H1 : (laws_FnGapsJoin.j0 k l0 true t397 t398 t401 t402 t407 t408 t412 t413) = some true := by rw [if_neg (show ¬ (false = true) by decide)] at H; exact H
        clear H
        have H := H1
        clear H1
        have H' := Aside0.mk H
        clear H
        try go_wp2
        have n0_ : Aside0 (Kd.R (Kd.int .i64) 3 ((w24.setCell ⟨gb416, 0, none⟩ (.int .i64 t412)).setCell ⟨gb416, 1, none⟩ (.slice Ao29 t413.length co29)) w.heap.size (fun k_ => some k_ ≠ (.slice Ao14 t402.length co14 : Value).ownBlock ∧ some k_ ≠ (.slice Ao20 t408.length co20 : Value).ownBlock ∧ some k_ ≠ (.slice Ao29 t413.length co29 : Value).ownBlock) (.slice Ao12 t398.length co12) t398) := ⟨by (with_reducible repeat (first | apply Kd.R_alloc | apply Kd.R_drewN | apply Kd.R_drew)); exact Kd.R_mono (Kd.R_far (p := ⟨gb416, 1, none⟩) (Kd.R_far (p := ⟨gb416, 0, none⟩) (Kd.R_types HO400.out BK416.out (by decide)) (fun _ hk => hk.2) (.int .i64 t412)) (fun _ hk => hk.2) (.slice Ao29 t413.length co29)) (fun _ hk => ⟨hk.1.1.1, ⟨hk.1.1.2, hk.1.2⟩⟩)⟩
        have n1_ : Aside0 (Kd.R (Kd.int .i64) 3 ((w24.setCell ⟨gb416, 0, none⟩ (.int .i64 t412)).setCell ⟨gb416, 1, none⟩ (.slice Ao29 t413.length co29)) w.heap.size (fun k_ => some k_ ≠ (.slice Ao12 t398.length co12 : Value).ownBlock ∧ some k_ ≠ (.slice Ao20 t408.length co20 : Value).ownBlock ∧ some k_ ≠ (.slice Ao29 t413.length co29 : Value).ownBlock) (.slice Ao14 t402.length co14) t402) := ⟨by (with_reducible repeat (first | apply Kd.R_alloc | apply Kd.R_drewN | apply Kd.R_drew)); exact Kd.R_mono (Kd.R_far (p := ⟨gb416, 1, none⟩) (Kd.R_far (p := ⟨gb416, 0, none⟩) (Kd.R_types HO404.out BK416.out (by decide)) (fun _ hk => hk.2) (.int .i64 t412)) (fun _ hk => hk.2) (.slice Ao29 t413.length co29)) (fun _ hk => ⟨hk.1.1.1, ⟨hk.1.1.2, hk.1.2⟩⟩)⟩
        have n2_ : Aside0 (Kd.R (Kd.int .i64) 3 ((w24.setCell ⟨gb416, 0, none⟩ (.int .i64 t412)).setCell ⟨gb416, 1, none⟩ (.slice Ao29 t413.length co29)) w.heap.size (fun k_ => some k_ ≠ (.slice Ao12 t398.length co12 : Value).ownBlock ∧ some k_ ≠ (.slice Ao14 t402.length co14 : Value).ownBlock ∧ some k_ ≠ (.slice Ao29 t413.length co29 : Value).ownBlock) (.slice Ao20 t408.length co20) t408) := ⟨by (with_reducible repeat (first | apply Kd.R_alloc | apply Kd.R_drewN | apply Kd.R_drew)); exact Kd.R_mono (Kd.R_far (p := ⟨gb416, 1, none⟩) (Kd.R_far (p := ⟨gb416, 0, none⟩) (Kd.R_types HO410.out BK416.out (by decide)) (fun _ hk => hk.2) (.int .i64 t412)) (fun _ hk => hk.2) (.slice Ao29 t413.length co29)) (fun _ hk => ⟨hk.1.1.1.2, ⟨hk.1.1.2, hk.1.2⟩⟩)⟩
        have n3_ : Aside0 (Kd.R (Kd.int .i64) 3 ((w24.setCell ⟨gb416, 0, none⟩ (.int .i64 t412)).setCell ⟨gb416, 1, none⟩ (.slice Ao29 t413.length co29)) w.heap.size (fun k_ => some k_ ≠ (.slice Ao12 t398.length co12 : Value).ownBlock ∧ some k_ ≠ (.slice Ao14 t402.length co14 : Value).ownBlock ∧ some k_ ≠ (.slice Ao20 t408.length co20 : Value).ownBlock) (.slice Ao29 t413.length co29) t413) := ⟨by (with_reducible repeat (first | apply Kd.R_alloc | apply Kd.R_drewN | apply Kd.R_drew)); exact Kd.R_mono (Kd.R_far (p := ⟨gb416, 1, none⟩) (Kd.R_far (p := ⟨gb416, 0, none⟩) (Kd.R_types HO415.out BK416.out (by decide)) (fun _ hk => hk.2) (.int .i64 t412)) (fun _ hk => hk.2) (.slice Ao29 t413.length co29)) (fun _ hk => ⟨hk.1.1.1.2, ⟨hk.1.1.2, hk.1.2⟩⟩)⟩
        have n4_ : Aside0 (((w24.setCell ⟨gb416, 0, none⟩ (.int .i64 t412)).setCell ⟨gb416, 1, none⟩ (.slice Ao29 t413.length co29)).heap[gb405]? = some (.cells #[.int .i64 t397, .slice Ao12 t398.length co12] 41 (0, 0))) := ⟨by refine sqt ?_; refine blk_far ?_ NB405_416.out _; refine sqt ?_; refine blk_far ?_ NB405_416.out _; refine sqt ?_; exact BK405.out⟩
        have n5_ : Aside0 (((w24.setCell ⟨gb416, 0, none⟩ (.int .i64 t412)).setCell ⟨gb416, 1, none⟩ (.slice Ao29 t413.length co29)).heap[gb406]? = some (.cells #[.int .i64 t401, .slice Ao14 t402.length co14] 41 (0, 0))) := ⟨by refine sqt ?_; refine blk_far ?_ NB406_416.out _; refine sqt ?_; refine blk_far ?_ NB406_416.out _; refine sqt ?_; exact BK406.out⟩
        have n6_ : Aside0 (((w24.setCell ⟨gb416, 0, none⟩ (.int .i64 t412)).setCell ⟨gb416, 1, none⟩ (.slice Ao29 t413.length co29)).heap[gb411]? = some (.cells #[.int .i64 t407, .slice Ao20 t408.length co20] 41 (0, 0))) := ⟨by refine sqt ?_; refine blk_far ?_ NB411_416.out _; refine sqt ?_; refine blk_far ?_ NB411_416.out _; refine sqt ?_; exact BK411.out⟩
        have n7_ : Aside0 (((w24.setCell ⟨gb416, 0, none⟩ (.int .i64 t412)).setCell ⟨gb416, 1, none⟩ (.slice Ao29 t413.length co29)).heap[gb416]? = some (.cells #[.int .i64 t412, .slice Ao29 t413.length co29] 41 (0, 0))) := ⟨by refine sqt ?_; refine blk_put (cs := #[.int .i64 t412, .slice none 0 0]) ?_ 1 _ rfl; refine sqt ?_; refine blk_put (cs := #[.int .i64 0, .slice none 0 0]) ?_ 0 _ rfl; refine sqt ?_; exact BK416.out⟩
        have n8_ : Aside0 (Below w.heap.size w ((w24.setCell ⟨gb416, 0, none⟩ (.int .i64 t412)).setCell ⟨gb416, 1, none⟩ (.slice Ao29 t413.length co29))) := sqh HB
        (try clear HO400)
        (try clear HO404)
        (try clear HO410)
        (try clear HO415)
        (try clear BK405)
        (try clear BK406)
        (try clear BK411)
        (try clear BK416)
        (try clear HB)
        generalize ((w24.setCell ⟨gb416, 0, none⟩ (.int .i64 t412)).setCell ⟨gb416, 1, none⟩ (.slice Ao29 t413.length co29)) = w41 at n0_ n1_ n2_ n3_ n4_ n5_ n6_ n7_ n8_ ⊢
        have HO400 := n0_
        have HO404 := n1_
        have HO410 := n2_
        have HO415 := n3_
        have BK405 := n4_
        have BK406 := n5_
        have BK411 := n6_
        have BK416 := n7_
        have HB := n8_
        clear n0_ n1_ n2_ n3_ n4_ n5_ n6_ n7_ n8_
        replace HO400 := Aside0.mk (Kd.R_drew HO400.out)
        replace HO404 := Aside0.mk (Kd.R_drew HO404.out)
        replace HO410 := Aside0.mk (Kd.R_drew HO410.out)
        replace HO415 := Aside0.mk (Kd.R_drew HO415.out)
        replace BK405 := Aside0.mk (blk_drew BK405.out)
        replace BK406 := Aside0.mk (blk_drew BK406.out)
        replace BK411 := Aside0.mk (blk_drew BK411.out)
        replace BK416 := Aside0.mk (blk_drew BK416.out)
        replace HB := Aside0.mk (below_drew1 HB.out)
        refine start_ (n := 18) (S := fun w' => w'.cell? ⟨gb411, 0, none⟩ = some (.int .i64 t407) ∧ w'.cell? ⟨gb411, 1, none⟩ = some (.slice Ao20 t408.length co20) ∧ w'.cell? ⟨gb405, 0, none⟩ = some (.int .i64 t397) ∧ w'.cell? ⟨gb405, 1, none⟩ = some (.slice Ao12 t398.length co12) ∧ w'.cell? ⟨gb406, 0, none⟩ = some (.int .i64 t401) ∧ w'.cell? ⟨gb406, 1, none⟩ = some (.slice Ao14 t402.length co14)) (ds := []) #[false, false, false, false, false, false, false, false, false, false, false, false, false, false, false, false, false, false] (by kernel_rfl) rfl rfl ⟨(blk_cell BK411.out 0).trans rfl, (blk_cell BK411.out 1).trans rfl, (blk_cell BK405.out 0).trans rfl, (blk_cell BK405.out 1).trans rfl, (blk_cell BK406.out 0).trans rfl, (blk_cell BK406.out 1).trans rfl⟩ (fun hHeld => ?_); refine with_tabW laws_FnGapsJoin.tab6 laws_FnGapsJoin.bits6 (fun HT_ HW_ => ?_)
        generalize w41.drew = w42 at HO400 HO404 HO410 HO415 BK405 BK406 BK411 BK416 HB hHeld ⊢
        refine sqp HT_ 0 23 ?_
        refine sqw HT_ HW_ 1 24 hHeld ?_
        refine sqw HT_ HW_ 2 25 hHeld ?_
        refine sqw HT_ HW_ 3 26 hHeld ?_
        refine sqo HT_ 4 27 (fun K hK => ?_)
        refine sqG Try.func39 #[.agg #[.int .i64 t397, .slice Ao12 t398.length co12], .agg #[.int .i64 t401, .slice Ao14 t402.length co14]] ?_
        with_reducible refine (spec_GapsJoin.calls k t397 _ _ t398 t401 _ _ t402 t417 t418 _ ?side1 ?side2 ?side3 ?side4 A30.out).mono ?_
        (case side1 => repeat (first | exact (Kd.R_reads' HO400.out).2.2 | (with_reducible refine Kd.C_alloc ?_ _) | (with_reducible refine Kd.C_drewN ?_ _) | (with_reducible refine Kd.C_drew ?_)))
        (case side2 => exact (Kd.R_reads' HO400.out).2.1)
        (case side3 => repeat (first | exact (Kd.R_reads' HO404.out).2.2 | (with_reducible refine Kd.C_alloc ?_ _) | (with_reducible refine Kd.C_drewN ?_ _) | (with_reducible refine Kd.C_drew ?_)))
        (case side4 => exact (Kd.R_reads' HO404.out).2.1)
        rintro e w43 ⟨v419, rfl, ho0, hb⟩
        refine ⟨_, rfl, ?_⟩
        have n0_ := Aside0.mk (Kd.R_elder' (by (with_reducible repeat (first | apply Kd.R_alloc | apply Kd.R_drewN | apply Kd.R_drew)); exact HO400.out) (Kd.R_base ho0) hb)
        have n1_ := Aside0.mk (Kd.R_elder' (by (with_reducible repeat (first | apply Kd.R_alloc | apply Kd.R_drewN | apply Kd.R_drew)); exact HO404.out) (Kd.R_base ho0) hb)
        have n2_ := Aside0.mk (Kd.R_elder' (by (with_reducible repeat (first | apply Kd.R_alloc | apply Kd.R_drewN | apply Kd.R_drew)); exact HO410.out) (Kd.R_base ho0) hb)
        have n3_ := Aside0.mk (Kd.R_elder' (by (with_reducible repeat (first | apply Kd.R_alloc | apply Kd.R_drewN | apply Kd.R_drew)); exact HO415.out) (Kd.R_base ho0) hb)
        have n4_ := Aside0.mk (Kd.R_lower (Kd.R_new' (Kd.R_new' (Kd.R_new' (Kd.R_new' ho0 (Kd.R_lt (by (with_reducible repeat (first | apply Kd.R_alloc | apply Kd.R_drewN | apply Kd.R_drew)); exact HO400.out))) (Kd.R_lt (by (with_reducible repeat (first | apply Kd.R_alloc | apply Kd.R_drewN | apply Kd.R_drew)); exact HO404.out))) (Kd.R_lt (by (with_reducible repeat (first | apply Kd.R_alloc | apply Kd.R_drewN | apply Kd.R_drew)); exact HO410.out))) (Kd.R_lt (by (with_reducible repeat (first | apply Kd.R_alloc | apply Kd.R_drewN | apply Kd.R_drew)); exact HO415.out))) (below_size (by repeat (first | (with_reducible first | exact HB.out | apply below_alloc | apply pw_below_drewN | apply below_drew1 | refine below_set ?_ GE405.out | refine below_set ?_ GE406.out | refine below_set ?_ GE411.out | refine below_set ?_ GE416.out) | exact HB.out))))
        have n5_ := sqb BK405 hb
        have n6_ := sqb BK406 hb
        have n7_ := sqb BK411 hb
        have n8_ := sqb BK416 hb
        have n9_ := sqs HB hb
        clear HO400
        clear HO404
        clear HO410
        clear HO415
        clear BK405
        clear BK406
        clear BK411
        clear BK416
        clear HB
        have HO400 := n0_
        have HO404 := n1_
        have HO410 := n2_
        have HO415 := n3_
        have HO420 := n4_
        have BK405 := n5_
        have BK406 := n6_
        have BK411 := n7_
        have BK416 := n8_
        have HB := n9_
        clear n0_ n1_ n2_ n3_ n4_ n5_ n6_ n7_ n8_ n9_
        (try clear hb)
        (try clear hb2)
        (try clear hk)
        (try clear hi)
        (try clear ho0)
        obtain ⟨Ao44, co44, eo44⟩ := Kd.R_slice HO420.out
        (first | subst eo44 | (injection eo44 with f1_ f2_ f3_; have f4_ := f1_.symm; have f5_ := f3_.symm; clear f1_ f2_ f3_; subst f4_; subst f5_))
        refine hK.out _ _ sqz (fun hHeld => ?_)
        clear hK K
        refine sqnm ?_
        refine sqp HT_ 5 28 ?_
        refine sqo HT_ 6 29 (fun K hK => ?_)
        refine sqG Try.func27 #[.slice Ao20 t408.length co20, .slice Ao44 t418.length co44] ?_
        with_reducible refine (laws_sameInts.calls k _ _ t408 _ _ t418 false _ ?side1 ?side2 ?side3 ?side4 A31.out).mono ?_
        (case side1 => repeat (first | exact (Kd.R_reads' HO410.out).2.2 | (with_reducible refine Kd.C_alloc ?_ _) | (with_reducible refine Kd.C_drewN ?_ _) | (with_reducible refine Kd.C_drew ?_)))
        (case side2 => exact (Kd.R_reads' HO410.out).2.1)
        (case side3 => repeat (first | exact (Kd.R_reads' HO420.out).2.2 | (with_reducible refine Kd.C_alloc ?_ _) | (with_reducible refine Kd.C_drewN ?_ _) | (with_reducible refine Kd.C_drew ?_)))
        (case side4 => exact (Kd.R_reads' HO420.out).2.1)
        rintro e w' ⟨rfl, ⟨nd, rfl⟩⟩
        refine ⟨_, rfl, ?_⟩
        refine hK.out _ _ sqz (fun hHeld => ?_)
        clear hK K
        refine sqnm ?_
        refine sqp HT_ 7 30 ?_
        refine sqp HT_ 8 31 ?_
        refine sqpu HT_ 9 32 ?_
        refine sqpu HT_ 10 33 ?_
        refine sqpu HT_ 11 34 ?_
        refine sqpu HT_ 12 35 ?_
        refine sqpu HT_ 13 36 ?_
        refine sqpu HT_ 14 37 ?_
        refine sqpu HT_ 15 38 ?_
        refine sqpu HT_ 16 39 ?_
        refine sqp HT_ 17 40 ?_
        refine done_ (done_of HT_.out (by kernel_rfl)) ?_
        try go_wp2
        go_meet
        case rel => exact ⟨_, (true), (by first | rfl | (simp; done) | (simp [*]; done)), H', ⟨by first | omega | exact Nat.le_refl _⟩, ⟨by (with_reducible repeat (first | apply Kd.R_alloc | apply Kd.R_drewN | apply Kd.R_drew)); exact Kd.R_mono HO400.out (fun _ hk => ⟨hk.1.1, ⟨hk.1.2.1, hk.1.2.2⟩⟩)⟩, ⟨by (with_reducible repeat (first | apply Kd.R_alloc | apply Kd.R_drewN | apply Kd.R_drew)); exact Kd.R_mono HO404.out (fun _ hk => ⟨hk.1.1, ⟨hk.1.2.1, hk.1.2.2⟩⟩)⟩, ⟨by (with_reducible repeat (first | apply Kd.R_alloc | apply Kd.R_drewN | apply Kd.R_drew)); exact Kd.R_mono HO410.out (fun _ hk => ⟨hk.1.1, ⟨hk.1.2.1, hk.1.2.2⟩⟩)⟩, ⟨by (with_reducible repeat (first | apply Kd.R_alloc | apply Kd.R_drewN | apply Kd.R_drew)); exact Kd.R_mono HO415.out (fun _ hk => ⟨hk.1.1, ⟨hk.1.2.1, hk.1.2.2⟩⟩)⟩, sqk BK405, sqk BK406, sqk BK411, sqk BK416, sqh HB⟩
    case rest =>
      as_aux_lemma =>
      clear HC6
      try clear c2
      try clear hcz11_0
      try clear hcz11_1
      try clear hcz13_0
      try clear hcz13_1
      try clear hcz19_0
      try clear hcz19_1
      try clear hcz21_0
      try clear hcz21_1
      try clear hcz22_0
      try clear hcz22_1
      try clear hcz28_0
      try clear hcz28_1
      try clear hfz11_0
      try clear hfz11_1
      try clear hfz13_0
      try clear hfz13_1
      try clear hfz19_0
      try clear hfz19_1
      try clear hfz21_0
      try clear hfz21_1
      try clear hfz22_0
      try clear hfz22_1
      try clear hfz28_0
      try clear hfz28_1
      obtain ⟨kq, x40_5, rfl, HA, HJ5, HO_406001, HO_407001, HO_412001, HO_417001, BK405, BK406, BK411, BK416, HB⟩ := hcut
      cases kq with
      | zero => exact absurd HA.out (by simp [laws_FnGapsJoin.j0])
      | succ kj5 =>
        have H := HA.out
        clear HA
        simp only [laws_FnGapsJoin.j0] at H
        by_cases c45 : x40_5 = true
        · subst c45
          have H1 : (some false) = some true := by rw [if_pos rfl] at H; exact H
          clear H
          have H := H1
          clear H1
          exact absurd (Option.some.inj H) (by decide)
        · replace c45 := Bool.eq_false_iff.mpr c45
          subst c45
          have H1 : ((spec_GapsOk.f kj5 t397 t398).bind fun t427 => (if t427 = true then ((spec_GapsOk.f kj5 t401 t402).bind fun t428 => (if t428 = true then (laws_FnGapsJoin.j1 kj5 l0 (t397 != t401) t397 t398 t401 t402 t407 t408 t412 t413) else (laws_FnGapsJoin.j1 kj5 l0 true t397 t398 t401 t402 t407 t408 t412 t413))) else (laws_FnGapsJoin.j1 kj5 l0 true t397 t398 t401 t402 t407 t408 t412 t413))) = some true := by rw [if_neg (show ¬ (false = true) by decide)] at H; exact H
          clear H
          have H := H1
          clear H1
          have HC46 := Aside0.mk H
          clear H
          go_upto_region 8 with (fail)
          go_cut [55] (fun v55 wc => ∃ (kq : Nat) (x55_45 : Bool), v55 = .bool x55_45 ∧ Aside0 (laws_FnGapsJoin.j1 kq l0 x55_45 t397 t398 t401 t402 t407 t408 t412 t413 = some true) ∧ Aside0 (kq ≤ kj5) ∧ Aside0 (Kd.R (Kd.int .i64) 3 wc w.heap.size (fun k_ => some k_ ≠ ((.slice Ao14 t402.length co14) : Value).ownBlock ∧ some k_ ≠ ((.slice Ao20 t408.length co20) : Value).ownBlock ∧ some k_ ≠ ((.slice Ao29 t413.length co29) : Value).ownBlock) (.slice Ao12 t398.length co12) t398) ∧ Aside0 (Kd.R (Kd.int .i64) 3 wc w.heap.size (fun k_ => some k_ ≠ ((.slice Ao12 t398.length co12) : Value).ownBlock ∧ some k_ ≠ ((.slice Ao20 t408.length co20) : Value).ownBlock ∧ some k_ ≠ ((.slice Ao29 t413.length co29) : Value).ownBlock) (.slice Ao14 t402.length co14) t402) ∧ Aside0 (Kd.R (Kd.int .i64) 3 wc w.heap.size (fun k_ => some k_ ≠ ((.slice Ao12 t398.length co12) : Value).ownBlock ∧ some k_ ≠ ((.slice Ao14 t402.length co14) : Value).ownBlock ∧ some k_ ≠ ((.slice Ao29 t413.length co29) : Value).ownBlock) (.slice Ao20 t408.length co20) t408) ∧ Aside0 (Kd.R (Kd.int .i64) 3 wc w.heap.size (fun k_ => some k_ ≠ ((.slice Ao12 t398.length co12) : Value).ownBlock ∧ some k_ ≠ ((.slice Ao14 t402.length co14) : Value).ownBlock ∧ some k_ ≠ ((.slice Ao20 t408.length co20) : Value).ownBlock) (.slice Ao29 t413.length co29) t413) ∧ Aside0 (wc.heap[gb405]? = some (.cells #[.int .i64 t397, (.slice Ao12 t398.length co12)] 41 (0, 0))) ∧ Aside0 (wc.heap[gb406]? = some (.cells #[.int .i64 t401, (.slice Ao14 t402.length co14)] 41 (0, 0))) ∧ Aside0 (wc.heap[gb411]? = some (.cells #[.int .i64 t407, (.slice Ao20 t408.length co20)] 41 (0, 0))) ∧ Aside0 (wc.heap[gb416]? = some (.cells #[.int .i64 t412, (.slice Ao29 t413.length co29)] 41 (0, 0))) ∧ Aside0 (Below w.heap.size w wc))
          case first =>
            as_aux_lemma =>
            have H := HC46.out
            clear HC46
            replace H := Option.bind_eq_some_iff.mp H
            obtain ⟨t427, A470, H⟩ := H
            replace H : (if t427 = true then ((spec_GapsOk.f kj5 t401 t402).bind fun t428 => (if t428 = true then (laws_FnGapsJoin.j1 kj5 l0 (t397 != t401) t397 t398 t401 t402 t407 t408 t412 t413) else (laws_FnGapsJoin.j1 kj5 l0 true t397 t398 t401 t402 t407 t408 t412 t413))) else (laws_FnGapsJoin.j1 kj5 l0 true t397 t398 t401 t402 t407 t408 t412 t413)) = some true := H
            have A47 := Aside0.mk A470
            clear A470
            by_cases c48 : t427 = true
            · subst c48
              have H1 : ((spec_GapsOk.f kj5 t401 t402).bind fun t428 => (if t428 = true then (laws_FnGapsJoin.j1 kj5 l0 (t397 != t401) t397 t398 t401 t402 t407 t408 t412 t413) else (laws_FnGapsJoin.j1 kj5 l0 true t397 t398 t401 t402 t407 t408 t412 t413))) = some true := by rw [if_pos rfl] at H; exact H
              clear H
              have H := H1
              clear H1
              replace H := Option.bind_eq_some_iff.mp H
              obtain ⟨t428, A490, H⟩ := H
              replace H : (if t428 = true then (laws_FnGapsJoin.j1 kj5 l0 (t397 != t401) t397 t398 t401 t402 t407 t408 t412 t413) else (laws_FnGapsJoin.j1 kj5 l0 true t397 t398 t401 t402 t407 t408 t412 t413)) = some true := H
              have A49 := Aside0.mk A490
              clear A490
              by_cases c50 : t428 = true
              · subst c50
                have H1 : (laws_FnGapsJoin.j1 kj5 l0 (t397 != t401) t397 t398 t401 t402 t407 t408 t412 t413) = some true := by rw [if_pos rfl] at H; exact H
                clear H
                have H := H1
                clear H1
                have H' := Aside0.mk H
                clear H
                have hnb51 := NB405_406.out
                have hnc51 := NB406_405.out
                have hnb52 := NB405_411.out
                have hnc52 := NB411_405.out
                have hnb53 := NB405_416.out
                have hnc53 := NB416_405.out
                obtain ⟨hcz54_0, hcz54_1, hfz54_0, hfz54_1⟩ := sqc2 BK405
                go_wp2_with (first | ((with_reducible refine gate_callee (f := 41) rfl ?_); refine sqL (some 42) Try.func41 #[.agg #[.int .i64 t397, .slice Ao12 t398.length co12]] ?_; (with_reducible refine (spec_GapsOk.calls kj5 t397 _ _ t398 true _ ?side1 ?side2 A47.out).mono ?_); (case side1 => repeat (first | exact (Kd.R_reads' HO_406001.out).2.2 | (with_reducible refine Kd.C_alloc ?_ _) | (with_reducible refine Kd.C_drewN ?_ _) | (with_reducible refine Kd.C_drew ?_))); (case side2 => exact (Kd.R_reads' HO_406001.out).2.1); rintro e w55 ⟨rfl, hb⟩; refine ⟨_, rfl, ?_⟩; have n0_ := Aside0.mk (Kd.R_below (by (with_reducible repeat (first | apply Kd.R_alloc | apply Kd.R_drewN | apply Kd.R_drew)); exact HO_406001.out) hb); have n1_ := Aside0.mk (Kd.R_below (by (with_reducible repeat (first | apply Kd.R_alloc | apply Kd.R_drewN | apply Kd.R_drew)); exact HO_407001.out) hb); have n2_ := Aside0.mk (Kd.R_below (by (with_reducible repeat (first | apply Kd.R_alloc | apply Kd.R_drewN | apply Kd.R_drew)); exact HO_412001.out) hb); have n3_ := Aside0.mk (Kd.R_below (by (with_reducible repeat (first | apply Kd.R_alloc | apply Kd.R_drewN | apply Kd.R_drew)); exact HO_417001.out) hb); have n4_ := sqb BK405 hb; have n5_ := sqb BK406 hb; have n6_ := sqb BK411 hb; have n7_ := sqb BK416 hb; have n8_ := sqs HB hb; clear HO_406001; clear HO_407001; clear HO_412001; clear HO_417001; clear BK405; clear BK406; clear BK411; clear BK416; clear HB; have HO_406001 := n0_; have HO_407001 := n1_; have HO_412001 := n2_; have HO_417001 := n3_; have BK405 := n4_; have BK406 := n5_; have BK411 := n6_; have BK416 := n7_; have HB := n8_; clear n0_ n1_ n2_ n3_ n4_ n5_ n6_ n7_ n8_; (try clear hb); have hnb56 := NB406_411.out; have hnc56 := NB411_406.out; have hnb57 := NB406_416.out; have hnc57 := NB416_406.out; obtain ⟨hcz58_0, hcz58_1, hfz58_0, hfz58_1⟩ := sqc2 BK406) | (go_at_call 41; (with_reducible refine (spec_GapsOk.calls kj5 t401 _ _ t402 true _ ?side1 ?side2 A49.out).mono ?_); (case side1 => repeat (first | exact (Kd.R_reads' HO_407001.out).2.2 | (with_reducible refine Kd.C_alloc ?_ _) | (with_reducible refine Kd.C_drewN ?_ _) | (with_reducible refine Kd.C_drew ?_))); (case side2 => exact (Kd.R_reads' HO_407001.out).2.1); rintro e w59 ⟨rfl, hb⟩; have n0_ := Aside0.mk (Kd.R_below (by (with_reducible repeat (first | apply Kd.R_alloc | apply Kd.R_drewN | apply Kd.R_drew)); exact HO_406001.out) hb); have n1_ := Aside0.mk (Kd.R_below (by (with_reducible repeat (first | apply Kd.R_alloc | apply Kd.R_drewN | apply Kd.R_drew)); exact HO_407001.out) hb); have n2_ := Aside0.mk (Kd.R_below (by (with_reducible repeat (first | apply Kd.R_alloc | apply Kd.R_drewN | apply Kd.R_drew)); exact HO_412001.out) hb); have n3_ := Aside0.mk (Kd.R_below (by (with_reducible repeat (first | apply Kd.R_alloc | apply Kd.R_drewN | apply Kd.R_drew)); exact HO_417001.out) hb); have n4_ := sqb BK405 hb; have n5_ := sqb BK406 hb; have n6_ := sqb BK411 hb; have n7_ := sqb BK416 hb; have n8_ := sqs HB hb; clear HO_406001; clear HO_407001; clear HO_412001; clear HO_417001; clear BK405; clear BK406; clear BK411; clear BK416; clear HB; have HO_406001 := n0_; have HO_407001 := n1_; have HO_412001 := n2_; have HO_417001 := n3_; have BK405 := n4_; have BK406 := n5_; have BK411 := n6_; have BK416 := n7_; have HB := n8_; clear n0_ n1_ n2_ n3_ n4_ n5_ n6_ n7_ n8_; (try clear hb); obtain ⟨hcz60_0, hcz60_1, hfz60_0, hfz60_1⟩ := sqc2 BK405; obtain ⟨hcz61_0, hcz61_1, hfz61_0, hfz61_1⟩ := sqc2 BK406))
                go_meet
                case rel => exact ⟨_, ((t397 != t401)), (by first | rfl | (simp; done) | (simp [*]; done)), H', ⟨by have := HJ5.out; first | omega | exact Nat.le_refl _⟩, ⟨by (with_reducible repeat (first | apply Kd.R_alloc | apply Kd.R_drewN | apply Kd.R_drew)); exact HO_406001.out⟩, ⟨by (with_reducible repeat (first | apply Kd.R_alloc | apply Kd.R_drewN | apply Kd.R_drew)); exact HO_407001.out⟩, ⟨by (with_reducible repeat (first | apply Kd.R_alloc | apply Kd.R_drewN | apply Kd.R_drew)); exact HO_412001.out⟩, ⟨by (with_reducible repeat (first | apply Kd.R_alloc | apply Kd.R_drewN | apply Kd.R_drew)); exact HO_417001.out⟩, sqk BK405, sqk BK406, sqk BK411, sqk BK416, sqh HB⟩
              · replace c50 := Bool.eq_false_iff.mpr c50
                subst c50
                have H1 : (laws_FnGapsJoin.j1 kj5 l0 true t397 t398 t401 t402 t407 t408 t412 t413) = some true := by rw [if_neg (show ¬ (false = true) by decide)] at H; exact H
                clear H
                have H := H1
                clear H1
                have H' := Aside0.mk H
                clear H
                have hnb62 := NB405_406.out
                have hnc62 := NB406_405.out
                have hnb63 := NB405_411.out
                have hnc63 := NB411_405.out
                have hnb64 := NB405_416.out
                have hnc64 := NB416_405.out
                obtain ⟨hcz65_0, hcz65_1, hfz65_0, hfz65_1⟩ := sqc2 BK405
                go_wp2_with (first | ((with_reducible refine gate_callee (f := 41) rfl ?_); refine sqL (some 42) Try.func41 #[.agg #[.int .i64 t397, .slice Ao12 t398.length co12]] ?_; (with_reducible refine (spec_GapsOk.calls kj5 t397 _ _ t398 true _ ?side1 ?side2 A47.out).mono ?_); (case side1 => repeat (first | exact (Kd.R_reads' HO_406001.out).2.2 | (with_reducible refine Kd.C_alloc ?_ _) | (with_reducible refine Kd.C_drewN ?_ _) | (with_reducible refine Kd.C_drew ?_))); (case side2 => exact (Kd.R_reads' HO_406001.out).2.1); rintro e w66 ⟨rfl, hb⟩; refine ⟨_, rfl, ?_⟩; have n0_ := Aside0.mk (Kd.R_below (by (with_reducible repeat (first | apply Kd.R_alloc | apply Kd.R_drewN | apply Kd.R_drew)); exact HO_406001.out) hb); have n1_ := Aside0.mk (Kd.R_below (by (with_reducible repeat (first | apply Kd.R_alloc | apply Kd.R_drewN | apply Kd.R_drew)); exact HO_407001.out) hb); have n2_ := Aside0.mk (Kd.R_below (by (with_reducible repeat (first | apply Kd.R_alloc | apply Kd.R_drewN | apply Kd.R_drew)); exact HO_412001.out) hb); have n3_ := Aside0.mk (Kd.R_below (by (with_reducible repeat (first | apply Kd.R_alloc | apply Kd.R_drewN | apply Kd.R_drew)); exact HO_417001.out) hb); have n4_ := sqb BK405 hb; have n5_ := sqb BK406 hb; have n6_ := sqb BK411 hb; have n7_ := sqb BK416 hb; have n8_ := sqs HB hb; clear HO_406001; clear HO_407001; clear HO_412001; clear HO_417001; clear BK405; clear BK406; clear BK411; clear BK416; clear HB; have HO_406001 := n0_; have HO_407001 := n1_; have HO_412001 := n2_; have HO_417001 := n3_; have BK405 := n4_; have BK406 := n5_; have BK411 := n6_; have BK416 := n7_; have HB := n8_; clear n0_ n1_ n2_ n3_ n4_ n5_ n6_ n7_ n8_; (try clear hb); have hnb67 := NB406_411.out; have hnc67 := NB411_406.out; have hnb68 := NB406_416.out; have hnc68 := NB416_406.out; obtain ⟨hcz69_0, hcz69_1, hfz69_0, hfz69_1⟩ := sqc2 BK406) | (go_at_call 41; (with_reducible refine (spec_GapsOk.calls kj5 t401 _ _ t402 false _ ?side1 ?side2 A49.out).mono ?_); (case side1 => repeat (first | exact (Kd.R_reads' HO_407001.out).2.2 | (with_reducible refine Kd.C_alloc ?_ _) | (with_reducible refine Kd.C_drewN ?_ _) | (with_reducible refine Kd.C_drew ?_))); (case side2 => exact (Kd.R_reads' HO_407001.out).2.1); rintro e w70 ⟨rfl, hb⟩; have n0_ := Aside0.mk (Kd.R_below (by (with_reducible repeat (first | apply Kd.R_alloc | apply Kd.R_drewN | apply Kd.R_drew)); exact HO_406001.out) hb); have n1_ := Aside0.mk (Kd.R_below (by (with_reducible repeat (first | apply Kd.R_alloc | apply Kd.R_drewN | apply Kd.R_drew)); exact HO_407001.out) hb); have n2_ := Aside0.mk (Kd.R_below (by (with_reducible repeat (first | apply Kd.R_alloc | apply Kd.R_drewN | apply Kd.R_drew)); exact HO_412001.out) hb); have n3_ := Aside0.mk (Kd.R_below (by (with_reducible repeat (first | apply Kd.R_alloc | apply Kd.R_drewN | apply Kd.R_drew)); exact HO_417001.out) hb); have n4_ := sqb BK405 hb; have n5_ := sqb BK406 hb; have n6_ := sqb BK411 hb; have n7_ := sqb BK416 hb; have n8_ := sqs HB hb; clear HO_406001; clear HO_407001; clear HO_412001; clear HO_417001; clear BK405; clear BK406; clear BK411; clear BK416; clear HB; have HO_406001 := n0_; have HO_407001 := n1_; have HO_412001 := n2_; have HO_417001 := n3_; have BK405 := n4_; have BK406 := n5_; have BK411 := n6_; have BK416 := n7_; have HB := n8_; clear n0_ n1_ n2_ n3_ n4_ n5_ n6_ n7_ n8_; (try clear hb)))
                go_meet
                case rel => exact ⟨_, (true), (by first | rfl | (simp; done) | (simp [*]; done)), H', ⟨by have := HJ5.out; first | omega | exact Nat.le_refl _⟩, ⟨by (with_reducible repeat (first | apply Kd.R_alloc | apply Kd.R_drewN | apply Kd.R_drew)); exact HO_406001.out⟩, ⟨by (with_reducible repeat (first | apply Kd.R_alloc | apply Kd.R_drewN | apply Kd.R_drew)); exact HO_407001.out⟩, ⟨by (with_reducible repeat (first | apply Kd.R_alloc | apply Kd.R_drewN | apply Kd.R_drew)); exact HO_412001.out⟩, ⟨by (with_reducible repeat (first | apply Kd.R_alloc | apply Kd.R_drewN | apply Kd.R_drew)); exact HO_417001.out⟩, sqk BK405, sqk BK406, sqk BK411, sqk BK416, sqh HB⟩
            · replace c48 := Bool.eq_false_iff.mpr c48
              subst c48
              have H1 : (laws_FnGapsJoin.j1 kj5 l0 true t397 t398 t401 t402 t407 t408 t412 t413) = some true := by rw [if_neg (show ¬ (false = true) by decide)] at H; exact H
              clear H
              have H := H1
              clear H1
              have H' := Aside0.mk H
              clear H
              have hnb71 := NB405_406.out
              have hnc71 := NB406_405.out
              have hnb72 := NB405_411.out
              have hnc72 := NB411_405.out
              have hnb73 := NB405_416.out
              have hnc73 := NB416_405.out
              obtain ⟨hcz74_0, hcz74_1, hfz74_0, hfz74_1⟩ := sqc2 BK405
              go_wp2_with (first | ((with_reducible refine gate_callee (f := 41) rfl ?_); refine sqL (some 42) Try.func41 #[.agg #[.int .i64 t397, .slice Ao12 t398.length co12]] ?_; (with_reducible refine (spec_GapsOk.calls kj5 t397 _ _ t398 false _ ?side1 ?side2 A47.out).mono ?_); (case side1 => repeat (first | exact (Kd.R_reads' HO_406001.out).2.2 | (with_reducible refine Kd.C_alloc ?_ _) | (with_reducible refine Kd.C_drewN ?_ _) | (with_reducible refine Kd.C_drew ?_))); (case side2 => exact (Kd.R_reads' HO_406001.out).2.1); rintro e w75 ⟨rfl, hb⟩; refine ⟨_, rfl, ?_⟩; have n0_ := Aside0.mk (Kd.R_below (by (with_reducible repeat (first | apply Kd.R_alloc | apply Kd.R_drewN | apply Kd.R_drew)); exact HO_406001.out) hb); have n1_ := Aside0.mk (Kd.R_below (by (with_reducible repeat (first | apply Kd.R_alloc | apply Kd.R_drewN | apply Kd.R_drew)); exact HO_407001.out) hb); have n2_ := Aside0.mk (Kd.R_below (by (with_reducible repeat (first | apply Kd.R_alloc | apply Kd.R_drewN | apply Kd.R_drew)); exact HO_412001.out) hb); have n3_ := Aside0.mk (Kd.R_below (by (with_reducible repeat (first | apply Kd.R_alloc | apply Kd.R_drewN | apply Kd.R_drew)); exact HO_417001.out) hb); have n4_ := sqb BK405 hb; have n5_ := sqb BK406 hb; have n6_ := sqb BK411 hb; have n7_ := sqb BK416 hb; have n8_ := sqs HB hb; clear HO_406001; clear HO_407001; clear HO_412001; clear HO_417001; clear BK405; clear BK406; clear BK411; clear BK416; clear HB; have HO_406001 := n0_; have HO_407001 := n1_; have HO_412001 := n2_; have HO_417001 := n3_; have BK405 := n4_; have BK406 := n5_; have BK411 := n6_; have BK416 := n7_; have HB := n8_; clear n0_ n1_ n2_ n3_ n4_ n5_ n6_ n7_ n8_; (try clear hb)))
              go_meet
              case rel => exact ⟨_, (true), (by first | rfl | (simp; done) | (simp [*]; done)), H', ⟨by have := HJ5.out; first | omega | exact Nat.le_refl _⟩, ⟨by (with_reducible repeat (first | apply Kd.R_alloc | apply Kd.R_drewN | apply Kd.R_drew)); exact HO_406001.out⟩, ⟨by (with_reducible repeat (first | apply Kd.R_alloc | apply Kd.R_drewN | apply Kd.R_drew)); exact HO_407001.out⟩, ⟨by (with_reducible repeat (first | apply Kd.R_alloc | apply Kd.R_drewN | apply Kd.R_drew)); exact HO_412001.out⟩, ⟨by (with_reducible repeat (first | apply Kd.R_alloc | apply Kd.R_drewN | apply Kd.R_drew)); exact HO_417001.out⟩, sqk BK405, sqk BK406, sqk BK411, sqk BK416, sqh HB⟩
          case rest =>
            as_aux_lemma =>
            clear HC46
            try clear c2
            try clear c32
            try clear c45
            try clear hcz11_0
            try clear hcz11_1
            try clear hcz13_0
            try clear hcz13_1
            try clear hcz19_0
            try clear hcz19_1
            try clear hcz21_0
            try clear hcz21_1
            try clear hcz22_0
            try clear hcz22_1
            try clear hcz28_0
            try clear hcz28_1
            try clear hfz11_0
            try clear hfz11_1
            try clear hfz13_0
            try clear hfz13_1
            try clear hfz19_0
            try clear hfz19_1
            try clear hfz21_0
            try clear hfz21_1
            try clear hfz22_0
            try clear hfz22_1
            try clear hfz28_0
            try clear hfz28_1
            obtain ⟨kq, x55_45, rfl, HA, HJ45, HO_406001, HO_407001, HO_412001, HO_417001, BK405, BK406, BK411, BK416, HB⟩ := hcut
            cases kq with
            | zero => exact absurd HA.out (by simp [laws_FnGapsJoin.j1])
            | succ kj45 =>
              have H := HA.out
              clear HA
              simp only [laws_FnGapsJoin.j1] at H
              by_cases c76 : x55_45 = true
              · subst c76
                have H1 : (if (t408.length : Int) = 0 then (some ((t413.length : Int) == 0)) else (some false)) = some true := by rw [if_pos rfl] at H; exact H
                clear H
                have H := H1
                clear H1
                by_cases c77 : (t408.length : Int) = 0
                · rw [if_pos c77] at H
                  have c77b0 : ((t408.length : Int) == 0) = true := beq_iff_eq.mpr c77
                  have c77b1 : ((t408.length : Int) != 0) = false := bne_eq_false_iff_eq.mpr c77
                  clear c77
                  (first | (obtain rfl := Option.some.inj H) | (have ht_ : (_ == _) = true := Option.some.inj H; clear H) | clear H)
                  have hnb78 := NB411_405.out
                  have hnc78 := NB405_411.out
                  have hnb79 := NB411_406.out
                  have hnc79 := NB406_411.out
                  have hnb80 := NB411_416.out
                  have hnc80 := NB416_411.out
                  obtain ⟨hcz81_0, hcz81_1, hfz81_0, hfz81_1⟩ := sqc2 BK411
                  have hnb82 := NB416_405.out
                  have hnc82 := NB405_416.out
                  have hnb83 := NB416_406.out
                  have hnc83 := NB406_416.out
                  obtain ⟨hcz84_0, hcz84_1, hfz84_0, hfz84_1⟩ := sqc2 BK416
                  go_wp2
                  go_ret
                  exact sqe HB
                · rw [if_neg c77] at H
                  have c77b0 : ((t408.length : Int) == 0) = false := beq_eq_false_iff_ne.mpr c77
                  have c77b1 : ((t408.length : Int) != 0) = true := bne_iff_ne.mpr c77
                  have c77b2 : ¬ (t408 = []) := fun h_ => c77 (by rw [h_]; rfl)
                  exact absurd (Option.some.inj H) (by decide)
              · replace c76 := Bool.eq_false_iff.mpr c76
                subst c76
                have H1 : ((spec_DrawGapsHas.f kj45 l0).bind fun bt429 => (laws_FnGapsJoin.l0 kj45 l0 bt429.2.2 t397 t398 t401 t402 t407 t408 t412 t413)) = some true := by rw [if_neg (show ¬ (false = true) by decide)] at H; exact H
                clear H
                have H := H1
                clear H1
                replace H := Option.bind_eq_some_iff.mp H
                obtain ⟨⟨t429, t430, t433⟩, A890, H⟩ := H
                replace H : (laws_FnGapsJoin.l0 kj45 l0 t433 t397 t398 t401 t402 t407 t408 t412 t413) = some true := H
                have A89 := Aside0.mk A890
                clear A890
                have H' := Aside0.mk H
                clear H
                go_wp2_with (first | ((with_reducible refine gate_callee (f := 24) rfl ?_); refine sqL (some 68) Try.func24 #[.slice A0 l0.length c0] ?_; (with_reducible refine (spec_DrawGapsHas.calls kj45 _ _ l0 t429 t430 t433 _ ?side1 ?side2 A89.out).mono ?_); (case side1 => repeat (first | exact (Kd.C_below HR0.out HB.out) | (with_reducible refine Kd.C_alloc ?_ _) | (with_reducible refine Kd.C_drewN ?_ _) | (with_reducible refine Kd.C_drew ?_))); (case side2 => exact HC0.out); rintro e w90 ⟨v431, v434, rfl, ho0, ho1, hb⟩; refine ⟨_, rfl, ?_⟩; have n0_ := Aside0.mk (Kd.R_mono (Kd.R_told (Kd.R_told (Kd.R_old (by (with_reducible repeat (first | apply Kd.R_alloc | apply Kd.R_drewN | apply Kd.R_drew)); exact HO_406001.out) hb) (Kd.R_base ho0)) (Kd.R_base ho1)) (fun _ h_ => h_.1)); have n1_ := Aside0.mk (Kd.R_mono (Kd.R_told (Kd.R_told (Kd.R_old (by (with_reducible repeat (first | apply Kd.R_alloc | apply Kd.R_drewN | apply Kd.R_drew)); exact HO_407001.out) hb) (Kd.R_base ho0)) (Kd.R_base ho1)) (fun _ h_ => h_.1)); have n2_ := Aside0.mk (Kd.R_mono (Kd.R_told (Kd.R_told (Kd.R_old (by (with_reducible repeat (first | apply Kd.R_alloc | apply Kd.R_drewN | apply Kd.R_drew)); exact HO_412001.out) hb) (Kd.R_base ho0)) (Kd.R_base ho1)) (fun _ h_ => h_.1)); have n3_ := Aside0.mk (Kd.R_mono (Kd.R_told (Kd.R_told (Kd.R_old (by (with_reducible repeat (first | apply Kd.R_alloc | apply Kd.R_drewN | apply Kd.R_drew)); exact HO_417001.out) hb) (Kd.R_base ho0)) (Kd.R_base ho1)) (fun _ h_ => h_.1)); have n4_ := Aside0.mk (Kd.R_lower (Kd.R_new' (Kd.R_new' (Kd.R_new' (Kd.R_new' ho0 (Kd.R_lt (by (with_reducible repeat (first | apply Kd.R_alloc | apply Kd.R_drewN | apply Kd.R_drew)); exact HO_406001.out))) (Kd.R_lt (by (with_reducible repeat (first | apply Kd.R_alloc | apply Kd.R_drewN | apply Kd.R_drew)); exact HO_407001.out))) (Kd.R_lt (by (with_reducible repeat (first | apply Kd.R_alloc | apply Kd.R_drewN | apply Kd.R_drew)); exact HO_412001.out))) (Kd.R_lt (by (with_reducible repeat (first | apply Kd.R_alloc | apply Kd.R_drewN | apply Kd.R_drew)); exact HO_417001.out))) (below_size (by repeat (first | (with_reducible first | exact HB.out | apply below_alloc | apply pw_below_drewN | apply below_drew1 | refine below_set ?_ GE405.out | refine below_set ?_ GE406.out | refine below_set ?_ GE411.out | refine below_set ?_ GE416.out) | exact HB.out)))); have n5_ := Aside0.mk (Kd.R_lower (Kd.R_new' (Kd.R_new' (Kd.R_new' (Kd.R_new' ho1 (Kd.R_lt (by (with_reducible repeat (first | apply Kd.R_alloc | apply Kd.R_drewN | apply Kd.R_drew)); exact HO_406001.out))) (Kd.R_lt (by (with_reducible repeat (first | apply Kd.R_alloc | apply Kd.R_drewN | apply Kd.R_drew)); exact HO_407001.out))) (Kd.R_lt (by (with_reducible repeat (first | apply Kd.R_alloc | apply Kd.R_drewN | apply Kd.R_drew)); exact HO_412001.out))) (Kd.R_lt (by (with_reducible repeat (first | apply Kd.R_alloc | apply Kd.R_drewN | apply Kd.R_drew)); exact HO_417001.out))) (below_size (by repeat (first | (with_reducible first | exact HB.out | apply below_alloc | apply pw_below_drewN | apply below_drew1 | refine below_set ?_ GE405.out | refine below_set ?_ GE406.out | refine below_set ?_ GE411.out | refine below_set ?_ GE416.out) | exact HB.out)))); have n6_ := sqb BK405 hb; have n7_ := sqb BK406 hb; have n8_ := sqb BK411 hb; have n9_ := sqb BK416 hb; have n10_ := sqs HB hb; clear HO_406001; clear HO_407001; clear HO_412001; clear HO_417001; clear BK405; clear BK406; clear BK411; clear BK416; clear HB; have HO_406001 := n0_; have HO_407001 := n1_; have HO_412001 := n2_; have HO_417001 := n3_; have HO432 := n4_; have HO435 := n5_; have BK405 := n6_; have BK406 := n7_; have BK411 := n8_; have BK416 := n9_; have HB := n10_; clear n0_ n1_ n2_ n3_ n4_ n5_ n6_ n7_ n8_ n9_ n10_; (try clear hb); (try clear hb2); (try clear hk); (try clear hi); (try clear ho0); (try clear ho1)) | ((with_reducible refine gate_dst (N := 7) rfl ?_); (try (refine gate_guard (by rfl) ?_; dsimp only)); refine sqx 7 #[.int .i64 0, .slice none 0 0] 41 ?_; intro gb436 hg w91 hbox hb; have n0_ := Aside0.mk (Kd.R_below (by (with_reducible repeat (first | apply Kd.R_alloc | apply Kd.R_drewN | apply Kd.R_drew)); exact HO_406001.out) hb); have n1_ := Aside0.mk (Kd.R_below (by (with_reducible repeat (first | apply Kd.R_alloc | apply Kd.R_drewN | apply Kd.R_drew)); exact HO_407001.out) hb); have n2_ := Aside0.mk (Kd.R_below (by (with_reducible repeat (first | apply Kd.R_alloc | apply Kd.R_drewN | apply Kd.R_drew)); exact HO_412001.out) hb); have n3_ := Aside0.mk (Kd.R_below (by (with_reducible repeat (first | apply Kd.R_alloc | apply Kd.R_drewN | apply Kd.R_drew)); exact HO_417001.out) hb); have n4_ := Aside0.mk (Kd.R_below (by (with_reducible repeat (first | apply Kd.R_alloc | apply Kd.R_drewN | apply Kd.R_drew)); exact HO432.out) hb); have n5_ := Aside0.mk (Kd.R_below (by (with_reducible repeat (first | apply Kd.R_alloc | apply Kd.R_drewN | apply Kd.R_drew)); exact HO435.out) hb); have n6_ := sqb BK405 hb; have n7_ := sqb BK406 hb; have n8_ := sqb BK411 hb; have n9_ := sqb BK416 hb; have n10_ := sqs HB hb; have n11_ := Aside0.mk (hbox); have n12_ := sqg HB hg; have n13_ := sqg HB hg; have n14_ := sqn BK405 hg; have n15_ := sqm BK405 hg; have n16_ := sqn BK406 hg; have n17_ := sqm BK406 hg; have n18_ := sqn BK411 hg; have n19_ := sqm BK411 hg; have n20_ := sqn BK416 hg; have n21_ := sqm BK416 hg; clear HO_406001; clear HO_407001; clear HO_412001; clear HO_417001; clear HO432; clear HO435; clear BK405; clear BK406; clear BK411; clear BK416; clear HB; have HO_406001 := n0_; have HO_407001 := n1_; have HO_412001 := n2_; have HO_417001 := n3_; have HO432 := n4_; have HO435 := n5_; have BK405 := n6_; have BK406 := n7_; have BK411 := n8_; have BK416 := n9_; have HB := n10_; have BK436 := n11_; have GW436 := n12_; have GE436 := n13_; have NB405_436 := n14_; have NB436_405 := n15_; have NB406_436 := n16_; have NB436_406 := n17_; have NB411_436 := n18_; have NB436_411 := n19_; have NB416_436 := n20_; have NB436_416 := n21_; clear n0_ n1_ n2_ n3_ n4_ n5_ n6_ n7_ n8_ n9_ n10_ n11_ n12_ n13_ n14_ n15_ n16_ n17_ n18_ n19_ n20_ n21_; clear hb hbox hg; have hnb92 := NB436_405.out; have hnc92 := NB405_436.out; have hnb93 := NB436_406.out; have hnc93 := NB406_436.out; have hnb94 := NB436_411.out; have hnc94 := NB411_436.out; have hnb95 := NB436_416.out; have hnc95 := NB416_436.out; obtain ⟨hcz96_0, hcz96_1, hfz96_0, hfz96_1⟩ := sqc2 BK436; obtain ⟨Ao97, co97, eo97⟩ := Kd.R_slice HO432.out; subst eo97))
                go_loopg [8] kj45 (fun kq v8 w' => ∃ (x8_3 : List Int), Aside0 (laws_FnGapsJoin.l0 kq l0 x8_3 t397 t398 t401 t402 t407 t408 t412 t413 = some true) ∧ Aside0 (kq ≤ kj45) ∧ Aside0 (Kd.R (Kd.int .i64) 3 w' w.heap.size (fun k_ => some k_ ≠ ((.slice Ao12 t398.length co12) : Value).ownBlock ∧ some k_ ≠ ((.slice Ao14 t402.length co14) : Value).ownBlock ∧ some k_ ≠ ((.slice Ao20 t408.length co20) : Value).ownBlock ∧ some k_ ≠ ((.slice Ao29 t413.length co29) : Value).ownBlock ∧ some k_ ≠ ((.slice Ao97 t430.length co97) : Value).ownBlock) v8 x8_3) ∧ Aside0 (Kd.R (Kd.int .i64) 3 w' w.heap.size (fun k_ => some k_ ≠ (v8 : Value).ownBlock ∧ some k_ ≠ ((.slice Ao14 t402.length co14) : Value).ownBlock ∧ some k_ ≠ ((.slice Ao20 t408.length co20) : Value).ownBlock ∧ some k_ ≠ ((.slice Ao29 t413.length co29) : Value).ownBlock ∧ some k_ ≠ ((.slice Ao97 t430.length co97) : Value).ownBlock) (.slice Ao12 t398.length co12) t398) ∧ Aside0 (Kd.R (Kd.int .i64) 3 w' w.heap.size (fun k_ => some k_ ≠ (v8 : Value).ownBlock ∧ some k_ ≠ ((.slice Ao12 t398.length co12) : Value).ownBlock ∧ some k_ ≠ ((.slice Ao20 t408.length co20) : Value).ownBlock ∧ some k_ ≠ ((.slice Ao29 t413.length co29) : Value).ownBlock ∧ some k_ ≠ ((.slice Ao97 t430.length co97) : Value).ownBlock) (.slice Ao14 t402.length co14) t402) ∧ Aside0 (Kd.R (Kd.int .i64) 3 w' w.heap.size (fun k_ => some k_ ≠ (v8 : Value).ownBlock ∧ some k_ ≠ ((.slice Ao12 t398.length co12) : Value).ownBlock ∧ some k_ ≠ ((.slice Ao14 t402.length co14) : Value).ownBlock ∧ some k_ ≠ ((.slice Ao29 t413.length co29) : Value).ownBlock ∧ some k_ ≠ ((.slice Ao97 t430.length co97) : Value).ownBlock) (.slice Ao20 t408.length co20) t408) ∧ Aside0 (Kd.R (Kd.int .i64) 3 w' w.heap.size (fun k_ => some k_ ≠ (v8 : Value).ownBlock ∧ some k_ ≠ ((.slice Ao12 t398.length co12) : Value).ownBlock ∧ some k_ ≠ ((.slice Ao14 t402.length co14) : Value).ownBlock ∧ some k_ ≠ ((.slice Ao20 t408.length co20) : Value).ownBlock ∧ some k_ ≠ ((.slice Ao97 t430.length co97) : Value).ownBlock) (.slice Ao29 t413.length co29) t413) ∧ Aside0 (Kd.R (Kd.int .i64) 3 w' w.heap.size (fun k_ => some k_ ≠ (v8 : Value).ownBlock ∧ some k_ ≠ ((.slice Ao12 t398.length co12) : Value).ownBlock ∧ some k_ ≠ ((.slice Ao14 t402.length co14) : Value).ownBlock ∧ some k_ ≠ ((.slice Ao20 t408.length co20) : Value).ownBlock ∧ some k_ ≠ ((.slice Ao29 t413.length co29) : Value).ownBlock) (.slice Ao97 t430.length co97) t430) ∧ Aside0 (w'.heap[gb405]? = some (.cells #[.int .i64 t397, (.slice Ao12 t398.length co12)] 41 (0, 0))) ∧ Aside0 (w'.heap[gb406]? = some (.cells #[.int .i64 t401, (.slice Ao14 t402.length co14)] 41 (0, 0))) ∧ Aside0 (w'.heap[gb411]? = some (.cells #[.int .i64 t407, (.slice Ao20 t408.length co20)] 41 (0, 0))) ∧ Aside0 (w'.heap[gb416]? = some (.cells #[.int .i64 t412, (.slice Ao29 t413.length co29)] 41 (0, 0))) ∧ Aside0 (w'.heap[gb436]? = some (.cells #[.int .i64 t429, (.slice Ao97 t430.length co97)] 41 (0, 0))) ∧ Aside0 (Below w.heap.size w w'))
                case atStart => exact ⟨(t433), H', ⟨Nat.le_refl _⟩, ⟨by (with_reducible repeat (first | apply Kd.R_alloc | apply Kd.R_drewN | apply Kd.R_drew)); exact Kd.R_mono (Kd.R_far (p := ⟨gb436, 1, none⟩) (Kd.R_far (p := ⟨gb436, 0, none⟩) (Kd.R_types HO435.out BK436.out (by decide)) (fun _ hk => hk.2) (.int .i64 t429)) (fun _ hk => hk.2) (.slice Ao97 t430.length co97)) (fun _ hk => ⟨hk.1.1.1.1.2, ⟨hk.1.1.1.2, ⟨hk.1.1.2, ⟨hk.1.2, hk.1.1.1.1.1⟩⟩⟩⟩)⟩, ⟨by (with_reducible repeat (first | apply Kd.R_alloc | apply Kd.R_drewN | apply Kd.R_drew)); exact Kd.R_mono (Kd.R_far (p := ⟨gb436, 1, none⟩) (Kd.R_far (p := ⟨gb436, 0, none⟩) (Kd.R_types HO_406001.out BK436.out (by decide)) (fun _ hk => hk.2) (.int .i64 t429)) (fun _ hk => hk.2) (.slice Ao97 t430.length co97)) (fun _ hk => ⟨hk.1.2, ⟨hk.1.1.1.1, ⟨hk.1.1.1.2.1, ⟨hk.1.1.1.2.2, hk.1.1.2⟩⟩⟩⟩)⟩, ⟨by (with_reducible repeat (first | apply Kd.R_alloc | apply Kd.R_drewN | apply Kd.R_drew)); exact Kd.R_mono (Kd.R_far (p := ⟨gb436, 1, none⟩) (Kd.R_far (p := ⟨gb436, 0, none⟩) (Kd.R_types HO_407001.out BK436.out (by decide)) (fun _ hk => hk.2) (.int .i64 t429)) (fun _ hk => hk.2) (.slice Ao97 t430.length co97)) (fun _ hk => ⟨hk.1.2, ⟨hk.1.1.1.1, ⟨hk.1.1.1.2.1, ⟨hk.1.1.1.2.2, hk.1.1.2⟩⟩⟩⟩)⟩, ⟨by (with_reducible repeat (first | apply Kd.R_alloc | apply Kd.R_drewN | apply Kd.R_drew)); exact Kd.R_mono (Kd.R_far (p := ⟨gb436, 1, none⟩) (Kd.R_far (p := ⟨gb436, 0, none⟩) (Kd.R_types HO_412001.out BK436.out (by decide)) (fun _ hk => hk.2) (.int .i64 t429)) (fun _ hk => hk.2) (.slice Ao97 t430.length co97)) (fun _ hk => ⟨hk.1.2, ⟨hk.1.1.1.1, ⟨hk.1.1.1.2.1, ⟨hk.1.1.1.2.2, hk.1.1.2⟩⟩⟩⟩)⟩, ⟨by (with_reducible repeat (first | apply Kd.R_alloc | apply Kd.R_drewN | apply Kd.R_drew)); exact Kd.R_mono (Kd.R_far (p := ⟨gb436, 1, none⟩) (Kd.R_far (p := ⟨gb436, 0, none⟩) (Kd.R_types HO_417001.out BK436.out (by decide)) (fun _ hk => hk.2) (.int .i64 t429)) (fun _ hk => hk.2) (.slice Ao97 t430.length co97)) (fun _ hk => ⟨hk.1.2, ⟨hk.1.1.1.1, ⟨hk.1.1.1.2.1, ⟨hk.1.1.1.2.2, hk.1.1.2⟩⟩⟩⟩)⟩, ⟨by (with_reducible repeat (first | apply Kd.R_alloc | apply Kd.R_drewN | apply Kd.R_drew)); exact Kd.R_mono (Kd.R_far (p := ⟨gb436, 1, none⟩) (Kd.R_far (p := ⟨gb436, 0, none⟩) (Kd.R_types HO432.out BK436.out (by decide)) (fun _ hk => hk.2) (.int .i64 t429)) (fun _ hk => hk.2) (.slice Ao97 t430.length co97)) (fun _ hk => ⟨hk.1.1.1.1.1, ⟨hk.1.1.1.1.2, ⟨hk.1.1.1.2, ⟨hk.1.1.2, hk.1.2⟩⟩⟩⟩)⟩, ⟨by refine sqt ?_; refine blk_far ?_ NB405_436.out _; refine sqt ?_; refine blk_far ?_ NB405_436.out _; refine sqt ?_; exact BK405.out⟩, ⟨by refine sqt ?_; refine blk_far ?_ NB406_436.out _; refine sqt ?_; refine blk_far ?_ NB406_436.out _; refine sqt ?_; exact BK406.out⟩, ⟨by refine sqt ?_; refine blk_far ?_ NB411_436.out _; refine sqt ?_; refine blk_far ?_ NB411_436.out _; refine sqt ?_; exact BK411.out⟩, ⟨by refine sqt ?_; refine blk_far ?_ NB416_436.out _; refine sqt ?_; refine blk_far ?_ NB416_436.out _; refine sqt ?_; exact BK416.out⟩, ⟨by refine sqt ?_; refine blk_put (cs := #[.int .i64 t429, .slice none 0 0]) ?_ 1 _ rfl; refine sqt ?_; refine blk_put (cs := #[.int .i64 0, .slice none 0 0]) ?_ 0 _ rfl; refine sqt ?_; exact BK436.out⟩, sqh HB⟩
                case round =>
                  clear H'
                  try clear c1
                  try clear c2
                  try clear p2
                  try clear c3
                  try clear c4
                  try clear c5
                  try clear c6
                  try clear c7
                  try clear c8
                  try clear c9
                  try clear c10
                  try clear c17
                  try clear c18
                  try clear c24
                  try clear c25
                  try clear c26
                  try clear c27
                  try clear c32
                  try clear c36
                  try clear c37
                  try clear c38
                  try clear c39
                  try clear c40
                  try clear c41
                  try clear c45
                  try clear c48
                  try clear c50
                  try clear c51
                  try clear c52
                  try clear c53
                  try clear c56
                  try clear c57
                  try clear c62
                  try clear c63
                  try clear c64
                  try clear c67
                  try clear c68
                  try clear c71
                  try clear c72
                  try clear c73
                  try clear c76
                  try clear c77
                  try clear c77b0
                  try clear c77b1
                  try clear c77b2
                  try clear c78
                  try clear c79
                  try clear c80
                  try clear c82
                  try clear c83
                  try clear c85
                  try clear c86
                  try clear c87
                  try clear c92
                  try clear c93
                  try clear c94
                  try clear c95
                  try clear hcz11_0
                  try clear hcz11_1
                  try clear hcz13_0
                  try clear hcz13_1
                  try clear hcz19_0
                  try clear hcz19_1
                  try clear hcz21_0
                  try clear hcz21_1
                  try clear hcz22_0
                  try clear hcz22_1
                  try clear hcz28_0
                  try clear hcz28_1
                  try clear hcz54_0
                  try clear hcz54_1
                  try clear hcz58_0
                  try clear hcz58_1
                  try clear hcz60_0
                  try clear hcz60_1
                  try clear hcz61_0
                  try clear hcz61_1
                  try clear hcz65_0
                  try clear hcz65_1
                  try clear hcz69_0
                  try clear hcz69_1
                  try clear hcz74_0
                  try clear hcz74_1
                  try clear hcz81_0
                  try clear hcz81_1
                  try clear hcz84_0
                  try clear hcz84_1
                  try clear hcz88_0
                  try clear hcz88_1
                  try clear hcz96_0
                  try clear hcz96_1
                  try clear hfz11_0
                  try clear hfz11_1
                  try clear hfz13_0
                  try clear hfz13_1
                  try clear hfz19_0
                  try clear hfz19_1
                  try clear hfz21_0
                  try clear hfz21_1
                  try clear hfz22_0
                  try clear hfz22_1
                  try clear hfz28_0
                  try clear hfz28_1
                  try clear hfz54_0
                  try clear hfz54_1
                  try clear hfz58_0
                  try clear hfz58_1
                  try clear hfz60_0
                  try clear hfz60_1
                  try clear hfz61_0
                  try clear hfz61_1
                  try clear hfz65_0
                  try clear hfz65_1
                  try clear hfz69_0
                  try clear hfz69_1
                  try clear hfz74_0
                  try clear hfz74_1
                  try clear hfz81_0
                  try clear hfz81_1
                  try clear hfz84_0
                  try clear hfz84_1
                  try clear hfz88_0
                  try clear hfz88_1
                  try clear hfz96_0
                  try clear hfz96_1
                  try clear p2
                  obtain ⟨x8_3, HA, HK3, HO_8, HO_406001, HO_407001, HO_412001, HO_417001, HO_437001, BK405, BK406, BK411, BK416, BK436, HB⟩ := hrel
                  cases gk with
                  | zero => exact absurd HA.out (by simp [laws_FnGapsJoin.l0])
                  | succ k3 =>
                    have H := HA.out
                    clear HA
                    simp only [laws_FnGapsJoin.l0] at H
                    by_cases c98 : (x8_3.length : Int) < t397
                    · rw [if_pos c98] at H
                      have c98b0 : decide ((x8_3.length : Int) < t397) = true := decide_eq_true c98
                      clear c98
                      replace H := Option.bind_eq_some_iff.mp H
                      obtain ⟨t437, A990, H⟩ := H
                      replace H : (if x8_3.length < 17592186044416 then (laws_FnGapsJoin.l0 k3 l0 (x8_3 ++ [wrap64 ((Int.tmod (wrap64 (t437)) 21) - 10)]) t397 t398 t401 t402 t407 t408 t412 t413) else (none)) = some true := H
                      have A99 := Aside0.mk A990
                      clear A990
                      by_cases c100 : x8_3.length < 17592186044416
                      · rw [if_pos c100] at H
                        have LMc100 := Aside0.mk c100
                        clear c100
                        obtain ⟨y438, hy438⟩ : ∃ y_ : List Int, y_ = (x8_3 ++ [wrap64 ((Int.tmod (wrap64 (t437)) 21) - 10)]) := ⟨_, rfl⟩
                        replace H : (laws_FnGapsJoin.l0 k3 l0 y438 t397 t398 t401 t402 t407 t408 t412 t413) = some true := by first | (rw [hy438]; with_reducible exact H) | (have H2_ := (Option.bind_some _ _).symm.trans H; rw [hy438]; with_reducible exact H2_) | (have H2_ := (Option.bind_some _ _).symm.trans H; with_reducible exact H2_) | with_reducible exact H | (rw [hy438]; exact H) | exact H
                        have Ny438 := Aside0.mk hy438
                        clear hy438
                        have H' := Aside0.mk H
                        clear H
                        obtain ⟨Ao101, co101, eo101⟩ := Kd.R_slice HO_8.out
                        subst eo101
                        have hnb102 := NB405_406.out
                        have hnc102 := NB406_405.out
                        have hnb103 := NB405_411.out
                        have hnc103 := NB411_405.out
                        have hnb104 := NB405_416.out
                        have hnc104 := NB416_405.out
                        have hnb105 := NB405_436.out
                        have hnc105 := NB436_405.out
                        obtain ⟨hcz106_0, hcz106_1, hfz106_0, hfz106_1⟩ := sqc2 BK405
                        go_wp2_with (first | ((with_reducible refine gate_callee (f := 33) rfl ?_); refine sqL (some 80) Try.func33 #[.slice A0 l0.length c0, .int .i64 (x8_3.length : Int)] ?_; (with_reducible refine (laws_at.calls _ _ l0 (x8_3.length : Int) t437 _ ?side1 ?side2 A99.out).mono ?_); (case side1 => repeat (first | exact (Kd.C_below HR0.out HB.out) | (with_reducible refine Kd.C_alloc ?_ _) | (with_reducible refine Kd.C_drewN ?_ _) | (with_reducible refine Kd.C_drew ?_))); (case side2 => exact HC0.out); rintro e w' ⟨rfl, ⟨nd, rfl⟩⟩; refine ⟨_, rfl, ?_⟩) | ((with_reducible refine gate_builtin (b := .append) (xs := #[.tmp 76, .tmp 84]) rfl ?_); (try (refine gate_guard (by rfl) ?_; dsimp only)); at_builtin; refine Kd.R_append (Kd.int .i64) (w0 := w) w.heap.size rfl (.tmp 76) (.tmp 84) 39 3 (.int .i64 0) 8 rfl Try.underlying39 info3 rfl (by decide) (by omega) (.slice Ao101 x8_3.length co101) x8_3 (wrap64 ((Int.tmod (wrap64 (t437)) 21) - 10)) [.int .i64 (wrap64 ((Int.tmod (wrap64 (t437)) 21) - 10))] (fun k_ => some k_ ≠ (.slice Ao12 t398.length co12 : Value).ownBlock ∧ some k_ ≠ (.slice Ao14 t402.length co14 : Value).ownBlock ∧ some k_ ≠ (.slice Ao20 t408.length co20 : Value).ownBlock ∧ some k_ ≠ (.slice Ao29 t413.length co29 : Value).ownBlock ∧ some k_ ≠ (.slice Ao97 t430.length co97 : Value).ownBlock) (fun _ => False) rfl rfl ?aP (fun _ hk => hk.elim) ?aF ?aO ?aB ?aS ?aL ?_; (case aP => exact rfl); (case aB => exact (by repeat (first | (with_reducible first | exact HB.out | apply below_alloc | apply pw_below_drewN | apply below_drew1 | refine below_set ?_ GE405.out | refine below_set ?_ GE406.out | refine below_set ?_ GE411.out | refine below_set ?_ GE416.out | refine below_set ?_ GE436.out) | exact HB.out))); (case aF => exact (fun k_ hk => ⟨Kd.fresh' (Kd.R_lt (by (with_reducible repeat (first | apply Kd.R_alloc | apply Kd.R_drewN | apply Kd.R_drew)); exact HO_406001.out)) k_ hk, Kd.fresh' (Kd.R_lt (by (with_reducible repeat (first | apply Kd.R_alloc | apply Kd.R_drewN | apply Kd.R_drew)); exact HO_407001.out)) k_ hk, Kd.fresh' (Kd.R_lt (by (with_reducible repeat (first | apply Kd.R_alloc | apply Kd.R_drewN | apply Kd.R_drew)); exact HO_412001.out)) k_ hk, Kd.fresh' (Kd.R_lt (by (with_reducible repeat (first | apply Kd.R_alloc | apply Kd.R_drewN | apply Kd.R_drew)); exact HO_417001.out)) k_ hk, Kd.fresh' (Kd.R_lt (by (with_reducible repeat (first | apply Kd.R_alloc | apply Kd.R_drewN | apply Kd.R_drew)); exact HO_437001.out)) k_ hk⟩)); (case aO => exact (by (with_reducible repeat (first | apply Kd.R_alloc | apply Kd.R_drewN | apply Kd.R_drew)); exact HO_8.out)); (case aS => exact (below_size (by repeat (first | (with_reducible first | exact HB.out | apply below_alloc | apply pw_below_drewN | apply below_drew1 | refine below_set ?_ GE405.out | refine below_set ?_ GE406.out | refine below_set ?_ GE411.out | refine below_set ?_ GE416.out | refine below_set ?_ GE436.out) | exact HB.out)))); (case aL => have := LMc100.out; omega); intro v439 w107 ho hb hg hat; rw [← Ny438.out] at ho; have n0_ := Aside0.mk (Kd.R_after (ok := (fun k_ => some k_ ≠ (.slice Ao14 t402.length co14 : Value).ownBlock ∧ some k_ ≠ (.slice Ao20 t408.length co20 : Value).ownBlock ∧ some k_ ≠ (.slice Ao29 t413.length co29 : Value).ownBlock ∧ some k_ ≠ (.slice Ao97 t430.length co97 : Value).ownBlock)) (by (with_reducible repeat (first | apply Kd.R_alloc | apply Kd.R_drewN | apply Kd.R_drew)); exact Kd.R_mono HO_406001.out (fun _ hk => ⟨⟨hk.2.1, ⟨hk.2.2.1, ⟨hk.2.2.2.1, hk.2.2.2.2⟩⟩⟩, hk.1⟩)) hg hat); have n1_ := Aside0.mk (Kd.R_after (ok := (fun k_ => some k_ ≠ (.slice Ao12 t398.length co12 : Value).ownBlock ∧ some k_ ≠ (.slice Ao20 t408.length co20 : Value).ownBlock ∧ some k_ ≠ (.slice Ao29 t413.length co29 : Value).ownBlock ∧ some k_ ≠ (.slice Ao97 t430.length co97 : Value).ownBlock)) (by (with_reducible repeat (first | apply Kd.R_alloc | apply Kd.R_drewN | apply Kd.R_drew)); exact Kd.R_mono HO_407001.out (fun _ hk => ⟨⟨hk.2.1, ⟨hk.2.2.1, ⟨hk.2.2.2.1, hk.2.2.2.2⟩⟩⟩, hk.1⟩)) hg hat); have n2_ := Aside0.mk (Kd.R_after (ok := (fun k_ => some k_ ≠ (.slice Ao12 t398.length co12 : Value).ownBlock ∧ some k_ ≠ (.slice Ao14 t402.length co14 : Value).ownBlock ∧ some k_ ≠ (.slice Ao29 t413.length co29 : Value).ownBlock ∧ some k_ ≠ (.slice Ao97 t430.length co97 : Value).ownBlock)) (by (with_reducible repeat (first | apply Kd.R_alloc | apply Kd.R_drewN | apply Kd.R_drew)); exact Kd.R_mono HO_412001.out (fun _ hk => ⟨⟨hk.2.1, ⟨hk.2.2.1, ⟨hk.2.2.2.1, hk.2.2.2.2⟩⟩⟩, hk.1⟩)) hg hat); have n3_ := Aside0.mk (Kd.R_after (ok := (fun k_ => some k_ ≠ (.slice Ao12 t398.length co12 : Value).ownBlock ∧ some k_ ≠ (.slice Ao14 t402.length co14 : Value).ownBlock ∧ some k_ ≠ (.slice Ao20 t408.length co20 : Value).ownBlock ∧ some k_ ≠ (.slice Ao97 t430.length co97 : Value).ownBlock)) (by (with_reducible repeat (first | apply Kd.R_alloc | apply Kd.R_drewN | apply Kd.R_drew)); exact Kd.R_mono HO_417001.out (fun _ hk => ⟨⟨hk.2.1, ⟨hk.2.2.1, ⟨hk.2.2.2.1, hk.2.2.2.2⟩⟩⟩, hk.1⟩)) hg hat); have n4_ := Aside0.mk (Kd.R_after (ok := (fun k_ => some k_ ≠ (.slice Ao12 t398.length co12 : Value).ownBlock ∧ some k_ ≠ (.slice Ao14 t402.length co14 : Value).ownBlock ∧ some k_ ≠ (.slice Ao20 t408.length co20 : Value).ownBlock ∧ some k_ ≠ (.slice Ao29 t413.length co29 : Value).ownBlock)) (by (with_reducible repeat (first | apply Kd.R_alloc | apply Kd.R_drewN | apply Kd.R_drew)); exact Kd.R_mono HO_437001.out (fun _ hk => ⟨⟨hk.2.1, ⟨hk.2.2.1, ⟨hk.2.2.2.1, hk.2.2.2.2⟩⟩⟩, hk.1⟩)) hg hat); have n5_ := Aside0.mk (blk_grown (g := gb405) (o := .cells #[.int .i64 t397, .slice Ao12 t398.length co12] 41 (0, 0)) (by refine sqt ?_; exact BK405.out) hg (Kd.R_ne HO_8.out BK405.out (by decide))); have n6_ := Aside0.mk (blk_grown (g := gb406) (o := .cells #[.int .i64 t401, .slice Ao14 t402.length co14] 41 (0, 0)) (by refine sqt ?_; exact BK406.out) hg (Kd.R_ne HO_8.out BK406.out (by decide))); have n7_ := Aside0.mk (blk_grown (g := gb411) (o := .cells #[.int .i64 t407, .slice Ao20 t408.length co20] 41 (0, 0)) (by refine sqt ?_; exact BK411.out) hg (Kd.R_ne HO_8.out BK411.out (by decide))); have n8_ := Aside0.mk (blk_grown (g := gb416) (o := .cells #[.int .i64 t412, .slice Ao29 t413.length co29] 41 (0, 0)) (by refine sqt ?_; exact BK416.out) hg (Kd.R_ne HO_8.out BK416.out (by decide))); have n9_ := Aside0.mk (blk_grown (g := gb436) (o := .cells #[.int .i64 t429, .slice Ao97 t430.length co97] 41 (0, 0)) (by refine sqt ?_; exact BK436.out) hg (Kd.R_ne HO_8.out BK436.out (by decide))); have n10_ := Aside0.mk (hb); have n11_ := Aside0.mk (ho); clear HO_406001; clear HO_407001; clear HO_412001; clear HO_417001; clear HO_437001; clear BK405; clear BK406; clear BK411; clear BK416; clear BK436; clear HB; clear HO_8; have HO_406001 := n0_; have HO_407001 := n1_; have HO_412001 := n2_; have HO_417001 := n3_; have HO_437001 := n4_; have BK405 := n5_; have BK406 := n6_; have BK411 := n7_; have BK416 := n8_; have BK436 := n9_; have HB := n10_; have HO440 := n11_; clear n0_ n1_ n2_ n3_ n4_ n5_ n6_ n7_ n8_ n9_ n10_ n11_; clear ho hb hg hat))
                        go_roundg k3
                        case measure => have := HJ5.out; have := HJ45.out; have := HK3.out; omega
                        case rel => exact ⟨(y438), H', ⟨by have := HJ5.out; have := HJ45.out; have := HK3.out; omega⟩, ⟨by (with_reducible repeat (first | apply Kd.R_alloc | apply Kd.R_drewN | apply Kd.R_drew)); exact HO440.out⟩, ⟨by (with_reducible repeat (first | apply Kd.R_alloc | apply Kd.R_drewN | apply Kd.R_drew)); exact Kd.R_mono HO_406001.out (fun _ hk => ⟨hk.2, ⟨hk.1.1, ⟨hk.1.2.1, ⟨hk.1.2.2.1, hk.1.2.2.2⟩⟩⟩⟩)⟩, ⟨by (with_reducible repeat (first | apply Kd.R_alloc | apply Kd.R_drewN | apply Kd.R_drew)); exact Kd.R_mono HO_407001.out (fun _ hk => ⟨hk.2, ⟨hk.1.1, ⟨hk.1.2.1, ⟨hk.1.2.2.1, hk.1.2.2.2⟩⟩⟩⟩)⟩, ⟨by (with_reducible repeat (first | apply Kd.R_alloc | apply Kd.R_drewN | apply Kd.R_drew)); exact Kd.R_mono HO_412001.out (fun _ hk => ⟨hk.2, ⟨hk.1.1, ⟨hk.1.2.1, ⟨hk.1.2.2.1, hk.1.2.2.2⟩⟩⟩⟩)⟩, ⟨by (with_reducible repeat (first | apply Kd.R_alloc | apply Kd.R_drewN | apply Kd.R_drew)); exact Kd.R_mono HO_417001.out (fun _ hk => ⟨hk.2, ⟨hk.1.1, ⟨hk.1.2.1, ⟨hk.1.2.2.1, hk.1.2.2.2⟩⟩⟩⟩)⟩, ⟨by (with_reducible repeat (first | apply Kd.R_alloc | apply Kd.R_drewN | apply Kd.R_drew)); exact Kd.R_mono HO_437001.out (fun _ hk => ⟨hk.2, ⟨hk.1.1, ⟨hk.1.2.1, ⟨hk.1.2.2.1, hk.1.2.2.2⟩⟩⟩⟩)⟩, sqk BK405, sqk BK406, sqk BK411, sqk BK416, sqk BK436, sqh HB⟩
                      · rw [if_neg c100] at H
                        exact absurd H (by simp)
                    · rw [if_neg c98] at H
                      have c98b0 : decide ((x8_3.length : Int) < t397) = false := decide_eq_false c98
                      clear c98
                      by_cases c108 : 0 ≤ t397
                      · rw [if_pos c108] at H
                        have c108b0 := eq_true c108
                        have c108b1 : decide (0 ≤ t397) = true := decide_eq_true c108
                        clear c108
                        by_cases c109 : t397 ≤ (x8_3.length : Int)
                        · rw [if_pos c109] at H
                          have c109b0 := eq_true c109
                          have c109b1 : decide (t397 ≤ (x8_3.length : Int)) = true := decide_eq_true c109
                          clear c109
                          obtain ⟨y441, hy441⟩ : ∃ y_ : List Int, y_ = (x8_3.take (t397 : Int).toNat) := ⟨_, rfl⟩
                          replace H : ((spec_GapsHas.f k3 t397 t398 y441).bind fun t444 => (if t444 = true then ((impl_GapsHas.f k3 t407 t408 y441).bind fun t445 => (if t445 = true then ((impl_GapsHas.f k3 t412 t413 y441).bind fun t446 => (laws_FnGapsJoin.j3 k3 (!t446) t397 t398 t401 t402 t407 t408 t412 t413)) else (laws_FnGapsJoin.j3 k3 true t397 t398 t401 t402 t407 t408 t412 t413))) else ((spec_GapsHas.f k3 t401 t402 y441).bind fun t447 => (if t447 = true then ((impl_GapsHas.f k3 t407 t408 y441).bind fun t448 => (if t448 = true then ((impl_GapsHas.f k3 t412 t413 y441).bind fun t449 => (laws_FnGapsJoin.j3 k3 (!t449) t397 t398 t401 t402 t407 t408 t412 t413)) else (laws_FnGapsJoin.j3 k3 true t397 t398 t401 t402 t407 t408 t412 t413))) else (laws_FnGapsJoin.j3 k3 false t397 t398 t401 t402 t407 t408 t412 t413))))) = some true := by first | (rw [hy441]; with_reducible exact H) | (have H2_ := (Option.bind_some _ _).symm.trans H; rw [hy441]; with_reducible exact H2_) | (have H2_ := (Option.bind_some _ _).symm.trans H; with_reducible exact H2_) | with_reducible exact H | (rw [hy441]; exact H) | exact H
                          have Ny441 := Aside0.mk hy441
                          clear hy441
                          have HC110 := Aside0.mk H
                          clear H
                          obtain ⟨Ao111, co111, eo111⟩ := Kd.R_slice HO_8.out
                          subst eo111
                          have hnb112 := NB405_406.out
                          have hnc112 := NB406_405.out
                          have hnb113 := NB405_411.out
                          have hnc113 := NB411_405.out
                          have hnb114 := NB405_416.out
                          have hnc114 := NB416_405.out
                          have hnb115 := NB405_436.out
                          have hnc115 := NB436_405.out
                          obtain ⟨hcz116_0, hcz116_1, hfz116_0, hfz116_1⟩ := sqc2 BK405
                          have q117 : (t397 : Int) ≤ ((x8_3.length : Int) : Int) := of_decide_eq_true (by first | (with_reducible assumption) | assumption)
                          obtain ⟨i0117, hi0117, _, hsz117, _⟩ := info_parts info3
                          have hcut117 := cut_to (P := Try.prog) 39 3 .i64 Try.underlying39 hi0117 Ao111 x8_3.length co111 t397 (of_decide_eq_true (by first | (with_reducible assumption) | assumption)) q117 (Kd.R_reads' HO_8.out).2.1
                          have hr117 := Kd.R_take (m := (t397 : Int).toNat) HO_8.out (by omega)
                          have hy117 : y441.length = (t397 : Int).toNat := (by rw [Ny441.out, List.length_take]; omega)
                          rw [← Ny441.out] at hr117
                          rw [← hy117] at hr117 hcut117
                          clear hy117 hi0117 hsz117 HO_8
                          have HO443 := Aside0.mk hr117
                          clear hr117
                          replace q117 := eq_true q117
                          go_upto_region 14 with (fail)
                          go_cut [109] (fun v109 wc => ∃ (kq : Nat) (x109_109 : Bool), v109 = .bool x109_109 ∧ Aside0 (laws_FnGapsJoin.j3 kq x109_109 t397 t398 t401 t402 t407 t408 t412 t413 = some true) ∧ Aside0 (kq ≤ k3) ∧ Aside0 (Kd.R (Kd.int .i64) 3 wc w.heap.size (fun k_ => some k_ ≠ ((.slice Ao14 t402.length co14) : Value).ownBlock ∧ some k_ ≠ ((.slice Ao20 t408.length co20) : Value).ownBlock ∧ some k_ ≠ ((.slice Ao29 t413.length co29) : Value).ownBlock ∧ some k_ ≠ ((.slice Ao97 t430.length co97) : Value).ownBlock) (.slice Ao12 t398.length co12) t398) ∧ Aside0 (Kd.R (Kd.int .i64) 3 wc w.heap.size (fun k_ => some k_ ≠ ((.slice Ao12 t398.length co12) : Value).ownBlock ∧ some k_ ≠ ((.slice Ao20 t408.length co20) : Value).ownBlock ∧ some k_ ≠ ((.slice Ao29 t413.length co29) : Value).ownBlock ∧ some k_ ≠ ((.slice Ao97 t430.length co97) : Value).ownBlock) (.slice Ao14 t402.length co14) t402) ∧ Aside0 (Kd.R (Kd.int .i64) 3 wc w.heap.size (fun k_ => some k_ ≠ ((.slice Ao12 t398.length co12) : Value).ownBlock ∧ some k_ ≠ ((.slice Ao14 t402.length co14) : Value).ownBlock ∧ some k_ ≠ ((.slice Ao29 t413.length co29) : Value).ownBlock ∧ some k_ ≠ ((.slice Ao97 t430.length co97) : Value).ownBlock) (.slice Ao20 t408.length co20) t408) ∧ Aside0 (Kd.R (Kd.int .i64) 3 wc w.heap.size (fun k_ => some k_ ≠ ((.slice Ao12 t398.length co12) : Value).ownBlock ∧ some k_ ≠ ((.slice Ao14 t402.length co14) : Value).ownBlock ∧ some k_ ≠ ((.slice Ao20 t408.length co20) : Value).ownBlock ∧ some k_ ≠ ((.slice Ao97 t430.length co97) : Value).ownBlock) (.slice Ao29 t413.length co29) t413) ∧ Aside0 (Kd.R (Kd.int .i64) 3 wc w.heap.size (fun k_ => some k_ ≠ ((.slice Ao12 t398.length co12) : Value).ownBlock ∧ some k_ ≠ ((.slice Ao14 t402.length co14) : Value).ownBlock ∧ some k_ ≠ ((.slice Ao20 t408.length co20) : Value).ownBlock ∧ some k_ ≠ ((.slice Ao29 t413.length co29) : Value).ownBlock) (.slice Ao97 t430.length co97) t430) ∧ Aside0 (wc.heap[gb405]? = some (.cells #[.int .i64 t397, (.slice Ao12 t398.length co12)] 41 (0, 0))) ∧ Aside0 (wc.heap[gb406]? = some (.cells #[.int .i64 t401, (.slice Ao14 t402.length co14)] 41 (0, 0))) ∧ Aside0 (wc.heap[gb411]? = some (.cells #[.int .i64 t407, (.slice Ao20 t408.length co20)] 41 (0, 0))) ∧ Aside0 (wc.heap[gb416]? = some (.cells #[.int .i64 t412, (.slice Ao29 t413.length co29)] 41 (0, 0))) ∧ Aside0 (wc.heap[gb436]? = some (.cells #[.int .i64 t429, (.slice Ao97 t430.length co97)] 41 (0, 0))) ∧ Aside0 (Below w.heap.size w wc))
                          case first =>
                            as_aux_lemma =>
                            have H := HC110.out
                            clear HC110
                            replace H := Option.bind_eq_some_iff.mp H
                            obtain ⟨t444, A1180, H⟩ := H
                            replace H : (if t444 = true then ((impl_GapsHas.f k3 t407 t408 y441).bind fun t445 => (if t445 = true then ((impl_GapsHas.f k3 t412 t413 y441).bind fun t446 => (laws_FnGapsJoin.j3 k3 (!t446) t397 t398 t401 t402 t407 t408 t412 t413)) else (laws_FnGapsJoin.j3 k3 true t397 t398 t401 t402 t407 t408 t412 t413))) else ((spec_GapsHas.f k3 t401 t402 y441).bind fun t447 => (if t447 = true then ((impl_GapsHas.f k3 t407 t408 y441).bind fun t448 => (if t448 = true then ((impl_GapsHas.f k3 t412 t413 y441).bind fun t449 => (laws_FnGapsJoin.j3 k3 (!t449) t397 t398 t401 t402 t407 t408 t412 t413)) else (laws_FnGapsJoin.j3 k3 true t397 t398 t401 t402 t407 t408 t412 t413))) else (laws_FnGapsJoin.j3 k3 false t397 t398 t401 t402 t407 t408 t412 t413)))) = some true := H
                            have A118 := Aside0.mk A1180
                            clear A1180
                            by_cases c119 : t444 = true
                            · subst c119
                              have H1 : ((impl_GapsHas.f k3 t407 t408 y441).bind fun t445 => (if t445 = true then ((impl_GapsHas.f k3 t412 t413 y441).bind fun t446 => (laws_FnGapsJoin.j3 k3 (!t446) t397 t398 t401 t402 t407 t408 t412 t413)) else (laws_FnGapsJoin.j3 k3 true t397 t398 t401 t402 t407 t408 t412 t413))) = some true := by rw [if_pos rfl] at H; exact H
                              clear H
                              have H := H1
                              clear H1
                              replace H := Option.bind_eq_some_iff.mp H
                              obtain ⟨t445, A1200, H⟩ := H
                              replace H : (if t445 = true then ((impl_GapsHas.f k3 t412 t413 y441).bind fun t446 => (laws_FnGapsJoin.j3 k3 (!t446) t397 t398 t401 t402 t407 t408 t412 t413)) else (laws_FnGapsJoin.j3 k3 true t397 t398 t401 t402 t407 t408 t412 t413)) = some true := H
                              have A120 := Aside0.mk A1200
                              clear A1200
                              by_cases c121 : t445 = true
                              · subst c121
                                have H1 : ((impl_GapsHas.f k3 t412 t413 y441).bind fun t446 => (laws_FnGapsJoin.j3 k3 (!t446) t397 t398 t401 t402 t407 t408 t412 t413)) = some true := by rw [if_pos rfl] at H; exact H
                                clear H
                                have H := H1
                                clear H1
                                replace H := Option.bind_eq_some_iff.mp H
                                obtain ⟨t446, A1220, H⟩ := H
                                replace H : (laws_FnGapsJoin.j3 k3 (!t446) t397 t398 t401 t402 t407 t408 t412 t413) = some true := H
                                have A122 := Aside0.mk A1220
                                clear A1220
                                have H' := Aside0.mk H
                                clear H
                                have hnb123 := NB405_406.out
                                have hnc123 := NB406_405.out
                                have hnb124 := NB405_411.out
                                have hnc124 := NB411_405.out
                                have hnb125 := NB405_416.out
                                have hnc125 := NB416_405.out
                                have hnb126 := NB405_436.out
                                have hnc126 := NB436_405.out
                                obtain ⟨hcz127_0, hcz127_1, hfz127_0, hfz127_1⟩ := sqc2 BK405
                                go_wp2_with (first | ((with_reducible refine gate_callee (f := 29) rfl ?_); refine sqL (some 92) Try.func29 #[.agg #[.int .i64 t397, .slice Ao12 t398.length co12], .slice Ao111 y441.length co111] ?_; (with_reducible refine (spec_GapsHas.calls k3 t397 _ _ t398 _ _ y441 true _ ?side1 ?side2 ?side3 ?side4 A118.out).mono ?_); (case side1 => repeat (first | exact (Kd.R_reads' HO_406001.out).2.2 | (with_reducible refine Kd.C_alloc ?_ _) | (with_reducible refine Kd.C_drewN ?_ _) | (with_reducible refine Kd.C_drew ?_))); (case side2 => exact (Kd.R_reads' HO_406001.out).2.1); (case side3 => repeat (first | exact (Kd.R_reads' HO443.out).2.2 | (with_reducible refine Kd.C_alloc ?_ _) | (with_reducible refine Kd.C_drewN ?_ _) | (with_reducible refine Kd.C_drew ?_))); (case side4 => exact (Kd.R_reads' HO443.out).2.1); rintro e w128 ⟨rfl, hb⟩; refine ⟨_, rfl, ?_⟩; have n0_ := Aside0.mk (Kd.R_below (by (with_reducible repeat (first | apply Kd.R_alloc | apply Kd.R_drewN | apply Kd.R_drew)); exact HO443.out) hb); have n1_ := Aside0.mk (Kd.R_below (by (with_reducible repeat (first | apply Kd.R_alloc | apply Kd.R_drewN | apply Kd.R_drew)); exact HO_406001.out) hb); have n2_ := Aside0.mk (Kd.R_below (by (with_reducible repeat (first | apply Kd.R_alloc | apply Kd.R_drewN | apply Kd.R_drew)); exact HO_407001.out) hb); have n3_ := Aside0.mk (Kd.R_below (by (with_reducible repeat (first | apply Kd.R_alloc | apply Kd.R_drewN | apply Kd.R_drew)); exact HO_412001.out) hb); have n4_ := Aside0.mk (Kd.R_below (by (with_reducible repeat (first | apply Kd.R_alloc | apply Kd.R_drewN | apply Kd.R_drew)); exact HO_417001.out) hb); have n5_ := Aside0.mk (Kd.R_below (by (with_reducible repeat (first | apply Kd.R_alloc | apply Kd.R_drewN | apply Kd.R_drew)); exact HO_437001.out) hb); have n6_ := sqb BK405 hb; have n7_ := sqb BK406 hb; have n8_ := sqb BK411 hb; have n9_ := sqb BK416 hb; have n10_ := sqb BK436 hb; have n11_ := sqs HB hb; clear HO443; clear HO_406001; clear HO_407001; clear HO_412001; clear HO_417001; clear HO_437001; clear BK405; clear BK406; clear BK411; clear BK416; clear BK436; clear HB; have HO443 := n0_; have HO_406001 := n1_; have HO_407001 := n2_; have HO_412001 := n3_; have HO_417001 := n4_; have HO_437001 := n5_; have BK405 := n6_; have BK406 := n7_; have BK411 := n8_; have BK416 := n9_; have BK436 := n10_; have HB := n11_; clear n0_ n1_ n2_ n3_ n4_ n5_ n6_ n7_ n8_ n9_ n10_ n11_; (try clear hb); have hnb129 := NB411_406.out; have hnc129 := NB406_411.out; have hnb130 := NB411_416.out; have hnc130 := NB416_411.out; have hnb131 := NB411_436.out; have hnc131 := NB436_411.out; obtain ⟨hcz132_0, hcz132_1, hfz132_0, hfz132_1⟩ := sqc2 BK411) | (go_at_call 28; (with_reducible refine (impl_GapsHas.calls k3 t407 _ _ t408 _ _ y441 true _ ?side1 ?side2 ?side3 ?side4 A120.out).mono ?_); (case side1 => repeat (first | exact (Kd.R_reads' HO_412001.out).2.2 | (with_reducible refine Kd.C_alloc ?_ _) | (with_reducible refine Kd.C_drewN ?_ _) | (with_reducible refine Kd.C_drew ?_))); (case side2 => exact (Kd.R_reads' HO_412001.out).2.1); (case side3 => repeat (first | exact (Kd.R_reads' HO443.out).2.2 | (with_reducible refine Kd.C_alloc ?_ _) | (with_reducible refine Kd.C_drewN ?_ _) | (with_reducible refine Kd.C_drew ?_))); (case side4 => exact (Kd.R_reads' HO443.out).2.1); rintro e w133 ⟨rfl, hb⟩; have n0_ := Aside0.mk (Kd.R_below (by (with_reducible repeat (first | apply Kd.R_alloc | apply Kd.R_drewN | apply Kd.R_drew)); exact HO443.out) hb); have n1_ := Aside0.mk (Kd.R_below (by (with_reducible repeat (first | apply Kd.R_alloc | apply Kd.R_drewN | apply Kd.R_drew)); exact HO_406001.out) hb); have n2_ := Aside0.mk (Kd.R_below (by (with_reducible repeat (first | apply Kd.R_alloc | apply Kd.R_drewN | apply Kd.R_drew)); exact HO_407001.out) hb); have n3_ := Aside0.mk (Kd.R_below (by (with_reducible repeat (first | apply Kd.R_alloc | apply Kd.R_drewN | apply Kd.R_drew)); exact HO_412001.out) hb); have n4_ := Aside0.mk (Kd.R_below (by (with_reducible repeat (first | apply Kd.R_alloc | apply Kd.R_drewN | apply Kd.R_drew)); exact HO_417001.out) hb); have n5_ := Aside0.mk (Kd.R_below (by (with_reducible repeat (first | apply Kd.R_alloc | apply Kd.R_drewN | apply Kd.R_drew)); exact HO_437001.out) hb); have n6_ := sqb BK405 hb; have n7_ := sqb BK406 hb; have n8_ := sqb BK411 hb; have n9_ := sqb BK416 hb; have n10_ := sqb BK436 hb; have n11_ := sqs HB hb; clear HO443; clear HO_406001; clear HO_407001; clear HO_412001; clear HO_417001; clear HO_437001; clear BK405; clear BK406; clear BK411; clear BK416; clear BK436; clear HB; have HO443 := n0_; have HO_406001 := n1_; have HO_407001 := n2_; have HO_412001 := n3_; have HO_417001 := n4_; have HO_437001 := n5_; have BK405 := n6_; have BK406 := n7_; have BK411 := n8_; have BK416 := n9_; have BK436 := n10_; have HB := n11_; clear n0_ n1_ n2_ n3_ n4_ n5_ n6_ n7_ n8_ n9_ n10_ n11_; (try clear hb); have hnb134 := NB416_406.out; have hnc134 := NB406_416.out; have hnb135 := NB416_436.out; have hnc135 := NB436_416.out; obtain ⟨hcz136_0, hcz136_1, hfz136_0, hfz136_1⟩ := sqc2 BK416) | (go_at_call 28; (with_reducible refine (impl_GapsHas.calls k3 t412 _ _ t413 _ _ y441 t446 _ ?side1 ?side2 ?side3 ?side4 A122.out).mono ?_); (case side1 => repeat (first | exact (Kd.R_reads' HO_417001.out).2.2 | (with_reducible refine Kd.C_alloc ?_ _) | (with_reducible refine Kd.C_drewN ?_ _) | (with_reducible refine Kd.C_drew ?_))); (case side2 => exact (Kd.R_reads' HO_417001.out).2.1); (case side3 => repeat (first | exact (Kd.R_reads' HO443.out).2.2 | (with_reducible refine Kd.C_alloc ?_ _) | (with_reducible refine Kd.C_drewN ?_ _) | (with_reducible refine Kd.C_drew ?_))); (case side4 => exact (Kd.R_reads' HO443.out).2.1); rintro e w137 ⟨rfl, hb⟩; have n0_ := Aside0.mk (Kd.R_below (by (with_reducible repeat (first | apply Kd.R_alloc | apply Kd.R_drewN | apply Kd.R_drew)); exact HO443.out) hb); have n1_ := Aside0.mk (Kd.R_below (by (with_reducible repeat (first | apply Kd.R_alloc | apply Kd.R_drewN | apply Kd.R_drew)); exact HO_406001.out) hb); have n2_ := Aside0.mk (Kd.R_below (by (with_reducible repeat (first | apply Kd.R_alloc | apply Kd.R_drewN | apply Kd.R_drew)); exact HO_407001.out) hb); have n3_ := Aside0.mk (Kd.R_below (by (with_reducible repeat (first | apply Kd.R_alloc | apply Kd.R_drewN | apply Kd.R_drew)); exact HO_412001.out) hb); have n4_ := Aside0.mk (Kd.R_below (by (with_reducible repeat (first | apply Kd.R_alloc | apply Kd.R_drewN | apply Kd.R_drew)); exact HO_417001.out) hb); have n5_ := Aside0.mk (Kd.R_below (by (with_reducible repeat (first | apply Kd.R_alloc | apply Kd.R_drewN | apply Kd.R_drew)); exact HO_437001.out) hb); have n6_ := sqb BK405 hb; have n7_ := sqb BK406 hb; have n8_ := sqb BK411 hb; have n9_ := sqb BK416 hb; have n10_ := sqb BK436 hb; have n11_ := sqs HB hb; clear HO443; clear HO_406001; clear HO_407001; clear HO_412001; clear HO_417001; clear HO_437001; clear BK405; clear BK406; clear BK411; clear BK416; clear BK436; clear HB; have HO443 := n0_; have HO_406001 := n1_; have HO_407001 := n2_; have HO_412001 := n3_; have HO_417001 := n4_; have HO_437001 := n5_; have BK405 := n6_; have BK406 := n7_; have BK411 := n8_; have BK416 := n9_; have BK436 := n10_; have HB := n11_; clear n0_ n1_ n2_ n3_ n4_ n5_ n6_ n7_ n8_ n9_ n10_ n11_; (try clear hb)))
                                go_meet
                                case rel => exact ⟨_, (!t446), (by first | rfl | (simp; done) | (simp [*]; done)), H', ⟨by have := HJ5.out; have := HJ45.out; have := HK3.out; first | omega | exact Nat.le_refl _⟩, ⟨by (with_reducible repeat (first | apply Kd.R_alloc | apply Kd.R_drewN | apply Kd.R_drew)); exact Kd.R_mono HO_406001.out (fun _ hk => ⟨hk.2.1, ⟨hk.2.2.1, ⟨hk.2.2.2.1, hk.2.2.2.2⟩⟩⟩)⟩, ⟨by (with_reducible repeat (first | apply Kd.R_alloc | apply Kd.R_drewN | apply Kd.R_drew)); exact Kd.R_mono HO_407001.out (fun _ hk => ⟨hk.2.1, ⟨hk.2.2.1, ⟨hk.2.2.2.1, hk.2.2.2.2⟩⟩⟩)⟩, ⟨by (with_reducible repeat (first | apply Kd.R_alloc | apply Kd.R_drewN | apply Kd.R_drew)); exact Kd.R_mono HO_412001.out (fun _ hk => ⟨hk.2.1, ⟨hk.2.2.1, ⟨hk.2.2.2.1, hk.2.2.2.2⟩⟩⟩)⟩, ⟨by (with_reducible repeat (first | apply Kd.R_alloc | apply Kd.R_drewN | apply Kd.R_drew)); exact Kd.R_mono HO_417001.out (fun _ hk => ⟨hk.2.1, ⟨hk.2.2.1, ⟨hk.2.2.2.1, hk.2.2.2.2⟩⟩⟩)⟩, ⟨by (with_reducible repeat (first | apply Kd.R_alloc | apply Kd.R_drewN | apply Kd.R_drew)); exact Kd.R_mono HO_437001.out (fun _ hk => ⟨hk.2.1, ⟨hk.2.2.1, ⟨hk.2.2.2.1, hk.2.2.2.2⟩⟩⟩)⟩, sqk BK405, sqk BK406, sqk BK411, sqk BK416, sqk BK436, sqh HB⟩
                              · replace c121 := Bool.eq_false_iff.mpr c121
                                subst c121
                                have H1 : (laws_FnGapsJoin.j3 k3 true t397 t398 t401 t402 t407 t408 t412 t413) = some true := by rw [if_neg (show ¬ (false = true) by decide)] at H; exact H
                                clear H
                                have H := H1
                                clear H1
                                have H' := Aside0.mk H
                                clear H
                                have hnb138 := NB405_406.out
                                have hnc138 := NB406_405.out
                                have hnb139 := NB405_411.out
                                have hnc139 := NB411_405.out
                                have hnb140 := NB405_416.out
                                have hnc140 := NB416_405.out
                                have hnb141 := NB405_436.out
                                have hnc141 := NB436_405.out
                                obtain ⟨hcz142_0, hcz142_1, hfz142_0, hfz142_1⟩ := sqc2 BK405
                                go_wp2_with (first | ((with_reducible refine gate_callee (f := 29) rfl ?_); refine sqL (some 92) Try.func29 #[.agg #[.int .i64 t397, .slice Ao12 t398.length co12], .slice Ao111 y441.length co111] ?_; (with_reducible refine (spec_GapsHas.calls k3 t397 _ _ t398 _ _ y441 true _ ?side1 ?side2 ?side3 ?side4 A118.out).mono ?_); (case side1 => repeat (first | exact (Kd.R_reads' HO_406001.out).2.2 | (with_reducible refine Kd.C_alloc ?_ _) | (with_reducible refine Kd.C_drewN ?_ _) | (with_reducible refine Kd.C_drew ?_))); (case side2 => exact (Kd.R_reads' HO_406001.out).2.1); (case side3 => repeat (first | exact (Kd.R_reads' HO443.out).2.2 | (with_reducible refine Kd.C_alloc ?_ _) | (with_reducible refine Kd.C_drewN ?_ _) | (with_reducible refine Kd.C_drew ?_))); (case side4 => exact (Kd.R_reads' HO443.out).2.1); rintro e w143 ⟨rfl, hb⟩; refine ⟨_, rfl, ?_⟩; have n0_ := Aside0.mk (Kd.R_below (by (with_reducible repeat (first | apply Kd.R_alloc | apply Kd.R_drewN | apply Kd.R_drew)); exact HO443.out) hb); have n1_ := Aside0.mk (Kd.R_below (by (with_reducible repeat (first | apply Kd.R_alloc | apply Kd.R_drewN | apply Kd.R_drew)); exact HO_406001.out) hb); have n2_ := Aside0.mk (Kd.R_below (by (with_reducible repeat (first | apply Kd.R_alloc | apply Kd.R_drewN | apply Kd.R_drew)); exact HO_407001.out) hb); have n3_ := Aside0.mk (Kd.R_below (by (with_reducible repeat (first | apply Kd.R_alloc | apply Kd.R_drewN | apply Kd.R_drew)); exact HO_412001.out) hb); have n4_ := Aside0.mk (Kd.R_below (by (with_reducible repeat (first | apply Kd.R_alloc | apply Kd.R_drewN | apply Kd.R_drew)); exact HO_417001.out) hb); have n5_ := Aside0.mk (Kd.R_below (by (with_reducible repeat (first | apply Kd.R_alloc | apply Kd.R_drewN | apply Kd.R_drew)); exact HO_437001.out) hb); have n6_ := sqb BK405 hb; have n7_ := sqb BK406 hb; have n8_ := sqb BK411 hb; have n9_ := sqb BK416 hb; have n10_ := sqb BK436 hb; have n11_ := sqs HB hb; clear HO443; clear HO_406001; clear HO_407001; clear HO_412001; clear HO_417001; clear HO_437001; clear BK405; clear BK406; clear BK411; clear BK416; clear BK436; clear HB; have HO443 := n0_; have HO_406001 := n1_; have HO_407001 := n2_; have HO_412001 := n3_; have HO_417001 := n4_; have HO_437001 := n5_; have BK405 := n6_; have BK406 := n7_; have BK411 := n8_; have BK416 := n9_; have BK436 := n10_; have HB := n11_; clear n0_ n1_ n2_ n3_ n4_ n5_ n6_ n7_ n8_ n9_ n10_ n11_; (try clear hb); have hnb144 := NB411_406.out; have hnc144 := NB406_411.out; have hnb145 := NB411_416.out; have hnc145 := NB416_411.out; have hnb146 := NB411_436.out; have hnc146 := NB436_411.out; obtain ⟨hcz147_0, hcz147_1, hfz147_0, hfz147_1⟩ := sqc2 BK411) | (go_at_call 28; (with_reducible refine (impl_GapsHas.calls k3 t407 _ _ t408 _ _ y441 false _ ?side1 ?side2 ?side3 ?side4 A120.out).mono ?_); (case side1 => repeat (first | exact (Kd.R_reads' HO_412001.out).2.2 | (with_reducible refine Kd.C_alloc ?_ _) | (with_reducible refine Kd.C_drewN ?_ _) | (with_reducible refine Kd.C_drew ?_))); (case side2 => exact (Kd.R_reads' HO_412001.out).2.1); (case side3 => repeat (first | exact (Kd.R_reads' HO443.out).2.2 | (with_reducible refine Kd.C_alloc ?_ _) | (with_reducible refine Kd.C_drewN ?_ _) | (with_reducible refine Kd.C_drew ?_))); (case side4 => exact (Kd.R_reads' HO443.out).2.1); rintro e w148 ⟨rfl, hb⟩; have n0_ := Aside0.mk (Kd.R_below (by (with_reducible repeat (first | apply Kd.R_alloc | apply Kd.R_drewN | apply Kd.R_drew)); exact HO443.out) hb); have n1_ := Aside0.mk (Kd.R_below (by (with_reducible repeat (first | apply Kd.R_alloc | apply Kd.R_drewN | apply Kd.R_drew)); exact HO_406001.out) hb); have n2_ := Aside0.mk (Kd.R_below (by (with_reducible repeat (first | apply Kd.R_alloc | apply Kd.R_drewN | apply Kd.R_drew)); exact HO_407001.out) hb); have n3_ := Aside0.mk (Kd.R_below (by (with_reducible repeat (first | apply Kd.R_alloc | apply Kd.R_drewN | apply Kd.R_drew)); exact HO_412001.out) hb); have n4_ := Aside0.mk (Kd.R_below (by (with_reducible repeat (first | apply Kd.R_alloc | apply Kd.R_drewN | apply Kd.R_drew)); exact HO_417001.out) hb); have n5_ := Aside0.mk (Kd.R_below (by (with_reducible repeat (first | apply Kd.R_alloc | apply Kd.R_drewN | apply Kd.R_drew)); exact HO_437001.out) hb); have n6_ := sqb BK405 hb; have n7_ := sqb BK406 hb; have n8_ := sqb BK411 hb; have n9_ := sqb BK416 hb; have n10_ := sqb BK436 hb; have n11_ := sqs HB hb; clear HO443; clear HO_406001; clear HO_407001; clear HO_412001; clear HO_417001; clear HO_437001; clear BK405; clear BK406; clear BK411; clear BK416; clear BK436; clear HB; have HO443 := n0_; have HO_406001 := n1_; have HO_407001 := n2_; have HO_412001 := n3_; have HO_417001 := n4_; have HO_437001 := n5_; have BK405 := n6_; have BK406 := n7_; have BK411 := n8_; have BK416 := n9_; have BK436 := n10_; have HB := n11_; clear n0_ n1_ n2_ n3_ n4_ n5_ n6_ n7_ n8_ n9_ n10_ n11_; (try clear hb)))
                                go_meet
                                case rel => exact ⟨_, (true), (by first | rfl | (simp; done) | (simp [*]; done)), H', ⟨by have := HJ5.out; have := HJ45.out; have := HK3.out; first | omega | exact Nat.le_refl _⟩, ⟨by (with_reducible repeat (first | apply Kd.R_alloc | apply Kd.R_drewN | apply Kd.R_drew)); exact Kd.R_mono HO_406001.out (fun _ hk => ⟨hk.2.1, ⟨hk.2.2.1, ⟨hk.2.2.2.1, hk.2.2.2.2⟩⟩⟩)⟩, ⟨by (with_reducible repeat (first | apply Kd.R_alloc | apply Kd.R_drewN | apply Kd.R_drew)); exact Kd.R_mono HO_407001.out (fun _ hk => ⟨hk.2.1, ⟨hk.2.2.1, ⟨hk.2.2.2.1, hk.2.2.2.2⟩⟩⟩)⟩, ⟨by (with_reducible repeat (first | apply Kd.R_alloc | apply Kd.R_drewN | apply Kd.R_drew)); exact Kd.R_mono HO_412001.out (fun _ hk => ⟨hk.2.1, ⟨hk.2.2.1, ⟨hk.2.2.2.1, hk.2.2.2.2⟩⟩⟩)⟩, ⟨by (with_reducible repeat (first | apply Kd.R_alloc | apply Kd.R_drewN | apply Kd.R_drew)); exact Kd.R_mono HO_417001.out (fun _ hk => ⟨hk.2.1, ⟨hk.2.2.1, ⟨hk.2.2.2.1, hk.2.2.2.2⟩⟩⟩)⟩, ⟨by (with_reducible repeat (first | apply Kd.R_alloc | apply Kd.R_drewN | apply Kd.R_drew)); exact Kd.R_mono HO_437001.out (fun _ hk => ⟨hk.2.1, ⟨hk.2.2.1, ⟨hk.2.2.2.1, hk.2.2.2.2⟩⟩⟩)⟩, sqk BK405, sqk BK406, sqk BK411, sqk BK416, sqk BK436, sqh HB⟩
                            · replace c119 := Bool.eq_false_iff.mpr c119
                              subst c119
                              have H1 : ((spec_GapsHas.f k3 t401 t402 y441).bind fun t447 => (if t447 = true then ((impl_GapsHas.f k3 t407 t408 y441).bind fun t448 => (if t448 = true then ((impl_GapsHas.f k3 t412 t413 y441).bind fun t449 => (laws_FnGapsJoin.j3 k3 (!t449) t397 t398 t401 t402 t407 t408 t412 t413)) else (laws_FnGapsJoin.j3 k3 true t397 t398 t401 t402 t407 t408 t412 t413))) else (laws_FnGapsJoin.j3 k3 false t397 t398 t401 t402 t407 t408 t412 t413))) = some true := by rw [if_neg (show ¬ (false = true) by decide)] at H; exact H
                              clear H
                              have H := H1
                              clear H1
                              replace H := Option.bind_eq_some_iff.mp H
                              obtain ⟨t447, A1490, H⟩ := H
                              replace H : (if t447 = true then ((impl_GapsHas.f k3 t407 t408 y441).bind fun t448 => (if t448 = true then ((impl_GapsHas.f k3 t412 t413 y441).bind fun t449 => (laws_FnGapsJoin.j3 k3 (!t449) t397 t398 t401 t402 t407 t408 t412 t413)) else (laws_FnGapsJoin.j3 k3 true t397 t398 t401 t402 t407 t408 t412 t413))) else (laws_FnGapsJoin.j3 k3 false t397 t398 t401 t402 t407 t408 t412 t413)) = some true := H
                              have A149 := Aside0.mk A1490
                              clear A1490
                              by_cases c150 : t447 = true
                              · subst c150
                                have H1 : ((impl_GapsHas.f k3 t407 t408 y441).bind fun t448 => (if t448 = true then ((impl_GapsHas.f k3 t412 t413 y441).bind fun t449 => (laws_FnGapsJoin.j3 k3 (!t449) t397 t398 t401 t402 t407 t408 t412 t413)) else (laws_FnGapsJoin.j3 k3 true t397 t398 t401 t402 t407 t408 t412 t413))) = some true := by rw [if_pos rfl] at H; exact H
                                clear H
                                have H := H1
                                clear H1
                                replace H := Option.bind_eq_some_iff.mp H
                                obtain ⟨t448, A1510, H⟩ := H
                                replace H : (if t448 = true then ((impl_GapsHas.f k3 t412 t413 y441).bind fun t449 => (laws_FnGapsJoin.j3 k3 (!t449) t397 t398 t401 t402 t407 t408 t412 t413)) else (laws_FnGapsJoin.j3 k3 true t397 t398 t401 t402 t407 t408 t412 t413)) = some true := H
                                have A151 := Aside0.mk A1510
                                clear A1510
                                by_cases c152 : t448 = true
                                · subst c152
                                  have H1 : ((impl_GapsHas.f k3 t412 t413 y441).bind fun t449 => (laws_FnGapsJoin.j3 k3 (!t449) t397 t398 t401 t402 t407 t408 t412 t413)) = some true := by rw [if_pos rfl] at H; exact H
                                  clear H
                                  have H := H1
                                  clear H1
                                  replace H := Option.bind_eq_some_iff.mp H
                                  obtain ⟨t449, A1530, H⟩ := H
                                  replace H : (laws_FnGapsJoin.j3 k3 (!t449) t397 t398 t401 t402 t407 t408 t412 t413) = some true := H
                                  have A153 := Aside0.mk A1530
                                  clear A1530
                                  have H' := Aside0.mk H
                                  clear H
                                  have hnb154 := NB405_406.out
                                  have hnc154 := NB406_405.out
                                  have hnb155 := NB405_411.out
                                  have hnc155 := NB411_405.out
                                  have hnb156 := NB405_416.out
                                  have hnc156 := NB416_405.out
                                  have hnb157 := NB405_436.out
                                  have hnc157 := NB436_405.out
                                  obtain ⟨hcz158_0, hcz158_1, hfz158_0, hfz158_1⟩ := sqc2 BK405
                                  go_wp2_with (first | ((with_reducible refine gate_callee (f := 29) rfl ?_); refine sqL (some 92) Try.func29 #[.agg #[.int .i64 t397, .slice Ao12 t398.length co12], .slice Ao111 y441.length co111] ?_; (with_reducible refine (spec_GapsHas.calls k3 t397 _ _ t398 _ _ y441 false _ ?side1 ?side2 ?side3 ?side4 A118.out).mono ?_); (case side1 => repeat (first | exact (Kd.R_reads' HO_406001.out).2.2 | (with_reducible refine Kd.C_alloc ?_ _) | (with_reducible refine Kd.C_drewN ?_ _) | (with_reducible refine Kd.C_drew ?_))); (case side2 => exact (Kd.R_reads' HO_406001.out).2.1); (case side3 => repeat (first | exact (Kd.R_reads' HO443.out).2.2 | (with_reducible refine Kd.C_alloc ?_ _) | (with_reducible refine Kd.C_drewN ?_ _) | (with_reducible refine Kd.C_drew ?_))); (case side4 => exact (Kd.R_reads' HO443.out).2.1); rintro e w159 ⟨rfl, hb⟩; refine ⟨_, rfl, ?_⟩; have n0_ := Aside0.mk (Kd.R_below (by (with_reducible repeat (first | apply Kd.R_alloc | apply Kd.R_drewN | apply Kd.R_drew)); exact HO443.out) hb); have n1_ := Aside0.mk (Kd.R_below (by (with_reducible repeat (first | apply Kd.R_alloc | apply Kd.R_drewN | apply Kd.R_drew)); exact HO_406001.out) hb); have n2_ := Aside0.mk (Kd.R_below (by (with_reducible repeat (first | apply Kd.R_alloc | apply Kd.R_drewN | apply Kd.R_drew)); exact HO_407001.out) hb); have n3_ := Aside0.mk (Kd.R_below (by (with_reducible repeat (first | apply Kd.R_alloc | apply Kd.R_drewN | apply Kd.R_drew)); exact HO_412001.out) hb); have n4_ := Aside0.mk (Kd.R_below (by (with_reducible repeat (first | apply Kd.R_alloc | apply Kd.R_drewN | apply Kd.R_drew)); exact HO_417001.out) hb); have n5_ := Aside0.mk (Kd.R_below (by (with_reducible repeat (first | apply Kd.R_alloc | apply Kd.R_drewN | apply Kd.R_drew)); exact HO_437001.out) hb); have n6_ := sqb BK405 hb; have n7_ := sqb BK406 hb; have n8_ := sqb BK411 hb; have n9_ := sqb BK416 hb; have n10_ := sqb BK436 hb; have n11_ := sqs HB hb; clear HO443; clear HO_406001; clear HO_407001; clear HO_412001; clear HO_417001; clear HO_437001; clear BK405; clear BK406; clear BK411; clear BK416; clear BK436; clear HB; have HO443 := n0_; have HO_406001 := n1_; have HO_407001 := n2_; have HO_412001 := n3_; have HO_417001 := n4_; have HO_437001 := n5_; have BK405 := n6_; have BK406 := n7_; have BK411 := n8_; have BK416 := n9_; have BK436 := n10_; have HB := n11_; clear n0_ n1_ n2_ n3_ n4_ n5_ n6_ n7_ n8_ n9_ n10_ n11_; (try clear hb); have hnb160 := NB406_411.out; have hnc160 := NB411_406.out; have hnb161 := NB406_416.out; have hnc161 := NB416_406.out; have hnb162 := NB406_436.out; have hnc162 := NB436_406.out; obtain ⟨hcz163_0, hcz163_1, hfz163_0, hfz163_1⟩ := sqc2 BK406) | (go_at_call 29; (with_reducible refine (spec_GapsHas.calls k3 t401 _ _ t402 _ _ y441 true _ ?side1 ?side2 ?side3 ?side4 A149.out).mono ?_); (case side1 => repeat (first | exact (Kd.R_reads' HO_407001.out).2.2 | (with_reducible refine Kd.C_alloc ?_ _) | (with_reducible refine Kd.C_drewN ?_ _) | (with_reducible refine Kd.C_drew ?_))); (case side2 => exact (Kd.R_reads' HO_407001.out).2.1); (case side3 => repeat (first | exact (Kd.R_reads' HO443.out).2.2 | (with_reducible refine Kd.C_alloc ?_ _) | (with_reducible refine Kd.C_drewN ?_ _) | (with_reducible refine Kd.C_drew ?_))); (case side4 => exact (Kd.R_reads' HO443.out).2.1); rintro e w164 ⟨rfl, hb⟩; have n0_ := Aside0.mk (Kd.R_below (by (with_reducible repeat (first | apply Kd.R_alloc | apply Kd.R_drewN | apply Kd.R_drew)); exact HO443.out) hb); have n1_ := Aside0.mk (Kd.R_below (by (with_reducible repeat (first | apply Kd.R_alloc | apply Kd.R_drewN | apply Kd.R_drew)); exact HO_406001.out) hb); have n2_ := Aside0.mk (Kd.R_below (by (with_reducible repeat (first | apply Kd.R_alloc | apply Kd.R_drewN | apply Kd.R_drew)); exact HO_407001.out) hb); have n3_ := Aside0.mk (Kd.R_below (by (with_reducible repeat (first | apply Kd.R_alloc | apply Kd.R_drewN | apply Kd.R_drew)); exact HO_412001.out) hb); have n4_ := Aside0.mk (Kd.R_below (by (with_reducible repeat (first | apply Kd.R_alloc | apply Kd.R_drewN | apply Kd.R_drew)); exact HO_417001.out) hb); have n5_ := Aside0.mk (Kd.R_below (by (with_reducible repeat (first | apply Kd.R_alloc | apply Kd.R_drewN | apply Kd.R_drew)); exact HO_437001.out) hb); have n6_ := sqb BK405 hb; have n7_ := sqb BK406 hb; have n8_ := sqb BK411 hb; have n9_ := sqb BK416 hb; have n10_ := sqb BK436 hb; have n11_ := sqs HB hb; clear HO443; clear HO_406001; clear HO_407001; clear HO_412001; clear HO_417001; clear HO_437001; clear BK405; clear BK406; clear BK411; clear BK416; clear BK436; clear HB; have HO443 := n0_; have HO_406001 := n1_; have HO_407001 := n2_; have HO_412001 := n3_; have HO_417001 := n4_; have HO_437001 := n5_; have BK405 := n6_; have BK406 := n7_; have BK411 := n8_; have BK416 := n9_; have BK436 := n10_; have HB := n11_; clear n0_ n1_ n2_ n3_ n4_ n5_ n6_ n7_ n8_ n9_ n10_ n11_; (try clear hb); have hnb165 := NB411_416.out; have hnc165 := NB416_411.out; have hnb166 := NB411_436.out; have hnc166 := NB436_411.out; obtain ⟨hcz167_0, hcz167_1, hfz167_0, hfz167_1⟩ := sqc2 BK411) | (go_at_call 28; (with_reducible refine (impl_GapsHas.calls k3 t407 _ _ t408 _ _ y441 true _ ?side1 ?side2 ?side3 ?side4 A151.out).mono ?_); (case side1 => repeat (first | exact (Kd.R_reads' HO_412001.out).2.2 | (with_reducible refine Kd.C_alloc ?_ _) | (with_reducible refine Kd.C_drewN ?_ _) | (with_reducible refine Kd.C_drew ?_))); (case side2 => exact (Kd.R_reads' HO_412001.out).2.1); (case side3 => repeat (first | exact (Kd.R_reads' HO443.out).2.2 | (with_reducible refine Kd.C_alloc ?_ _) | (with_reducible refine Kd.C_drewN ?_ _) | (with_reducible refine Kd.C_drew ?_))); (case side4 => exact (Kd.R_reads' HO443.out).2.1); rintro e w168 ⟨rfl, hb⟩; have n0_ := Aside0.mk (Kd.R_below (by (with_reducible repeat (first | apply Kd.R_alloc | apply Kd.R_drewN | apply Kd.R_drew)); exact HO443.out) hb); have n1_ := Aside0.mk (Kd.R_below (by (with_reducible repeat (first | apply Kd.R_alloc | apply Kd.R_drewN | apply Kd.R_drew)); exact HO_406001.out) hb); have n2_ := Aside0.mk (Kd.R_below (by (with_reducible repeat (first | apply Kd.R_alloc | apply Kd.R_drewN | apply Kd.R_drew)); exact HO_407001.out) hb); have n3_ := Aside0.mk (Kd.R_below (by (with_reducible repeat (first | apply Kd.R_alloc | apply Kd.R_drewN | apply Kd.R_drew)); exact HO_412001.out) hb); have n4_ := Aside0.mk (Kd.R_below (by (with_reducible repeat (first | apply Kd.R_alloc | apply Kd.R_drewN | apply Kd.R_drew)); exact HO_417001.out) hb); have n5_ := Aside0.mk (Kd.R_below (by (with_reducible repeat (first | apply Kd.R_alloc | apply Kd.R_drewN | apply Kd.R_drew)); exact HO_437001.out) hb); have n6_ := sqb BK405 hb; have n7_ := sqb BK406 hb; have n8_ := sqb BK411 hb; have n9_ := sqb BK416 hb; have n10_ := sqb BK436 hb; have n11_ := sqs HB hb; clear HO443; clear HO_406001; clear HO_407001; clear HO_412001; clear HO_417001; clear HO_437001; clear BK405; clear BK406; clear BK411; clear BK416; clear BK436; clear HB; have HO443 := n0_; have HO_406001 := n1_; have HO_407001 := n2_; have HO_412001 := n3_; have HO_417001 := n4_; have HO_437001 := n5_; have BK405 := n6_; have BK406 := n7_; have BK411 := n8_; have BK416 := n9_; have BK436 := n10_; have HB := n11_; clear n0_ n1_ n2_ n3_ n4_ n5_ n6_ n7_ n8_ n9_ n10_ n11_; (try clear hb); have hnb169 := NB416_436.out; have hnc169 := NB436_416.out; obtain ⟨hcz170_0, hcz170_1, hfz170_0, hfz170_1⟩ := sqc2 BK416) | (go_at_call 28; (with_reducible refine (impl_GapsHas.calls k3 t412 _ _ t413 _ _ y441 t449 _ ?side1 ?side2 ?side3 ?side4 A153.out).mono ?_); (case side1 => repeat (first | exact (Kd.R_reads' HO_417001.out).2.2 | (with_reducible refine Kd.C_alloc ?_ _) | (with_reducible refine Kd.C_drewN ?_ _) | (with_reducible refine Kd.C_drew ?_))); (case side2 => exact (Kd.R_reads' HO_417001.out).2.1); (case side3 => repeat (first | exact (Kd.R_reads' HO443.out).2.2 | (with_reducible refine Kd.C_alloc ?_ _) | (with_reducible refine Kd.C_drewN ?_ _) | (with_reducible refine Kd.C_drew ?_))); (case side4 => exact (Kd.R_reads' HO443.out).2.1); rintro e w171 ⟨rfl, hb⟩; have n0_ := Aside0.mk (Kd.R_below (by (with_reducible repeat (first | apply Kd.R_alloc | apply Kd.R_drewN | apply Kd.R_drew)); exact HO443.out) hb); have n1_ := Aside0.mk (Kd.R_below (by (with_reducible repeat (first | apply Kd.R_alloc | apply Kd.R_drewN | apply Kd.R_drew)); exact HO_406001.out) hb); have n2_ := Aside0.mk (Kd.R_below (by (with_reducible repeat (first | apply Kd.R_alloc | apply Kd.R_drewN | apply Kd.R_drew)); exact HO_407001.out) hb); have n3_ := Aside0.mk (Kd.R_below (by (with_reducible repeat (first | apply Kd.R_alloc | apply Kd.R_drewN | apply Kd.R_drew)); exact HO_412001.out) hb); have n4_ := Aside0.mk (Kd.R_below (by (with_reducible repeat (first | apply Kd.R_alloc | apply Kd.R_drewN | apply Kd.R_drew)); exact HO_417001.out) hb); have n5_ := Aside0.mk (Kd.R_below (by (with_reducible repeat (first | apply Kd.R_alloc | apply Kd.R_drewN | apply Kd.R_drew)); exact HO_437001.out) hb); have n6_ := sqb BK405 hb; have n7_ := sqb BK406 hb; have n8_ := sqb BK411 hb; have n9_ := sqb BK416 hb; have n10_ := sqb BK436 hb; have n11_ := sqs HB hb; clear HO443; clear HO_406001; clear HO_407001; clear HO_412001; clear HO_417001; clear HO_437001; clear BK405; clear BK406; clear BK411; clear BK416; clear BK436; clear HB; have HO443 := n0_; have HO_406001 := n1_; have HO_407001 := n2_; have HO_412001 := n3_; have HO_417001 := n4_; have HO_437001 := n5_; have BK405 := n6_; have BK406 := n7_; have BK411 := n8_; have BK416 := n9_; have BK436 := n10_; have HB := n11_; clear n0_ n1_ n2_ n3_ n4_ n5_ n6_ n7_ n8_ n9_ n10_ n11_; (try clear hb)))
                                  go_meet
                                  case rel => exact ⟨_, (!t449), (by first | rfl | (simp; done) | (simp [*]; done)), H', ⟨by have := HJ5.out; have := HJ45.out; have := HK3.out; first | omega | exact Nat.le_refl _⟩, ⟨by (with_reducible repeat (first | apply Kd.R_alloc | apply Kd.R_drewN | apply Kd.R_drew)); exact Kd.R_mono HO_406001.out (fun _ hk => ⟨hk.2.1, ⟨hk.2.2.1, ⟨hk.2.2.2.1, hk.2.2.2.2⟩⟩⟩)⟩, ⟨by (with_reducible repeat (first | apply Kd.R_alloc | apply Kd.R_drewN | apply Kd.R_drew)); exact Kd.R_mono HO_407001.out (fun _ hk => ⟨hk.2.1, ⟨hk.2.2.1, ⟨hk.2.2.2.1, hk.2.2.2.2⟩⟩⟩)⟩, ⟨by (with_reducible repeat (first | apply Kd.R_alloc | apply Kd.R_drewN | apply Kd.R_drew)); exact Kd.R_mono HO_412001.out (fun _ hk => ⟨hk.2.1, ⟨hk.2.2.1, ⟨hk.2.2.2.1, hk.2.2.2.2⟩⟩⟩)⟩, ⟨by (with_reducible repeat (first | apply Kd.R_alloc | apply Kd.R_drewN | apply Kd.R_drew)); exact Kd.R_mono HO_417001.out (fun _ hk => ⟨hk.2.1, ⟨hk.2.2.1, ⟨hk.2.2.2.1, hk.2.2.2.2⟩⟩⟩)⟩, ⟨by (with_reducible repeat (first | apply Kd.R_alloc | apply Kd.R_drewN | apply Kd.R_drew)); exact Kd.R_mono HO_437001.out (fun _ hk => ⟨hk.2.1, ⟨hk.2.2.1, ⟨hk.2.2.2.1, hk.2.2.2.2⟩⟩⟩)⟩, sqk BK405, sqk BK406, sqk BK411, sqk BK416, sqk BK436, sqh HB⟩
                                · replace c152 := Bool.eq_false_iff.mpr c152
                                  subst c152
                                  have H1 : (laws_FnGapsJoin.j3 k3 true t397 t398 t401 t402 t407 t408 t412 t413) = some true := by rw [if_neg (show ¬ (false = true) by decide)] at H; exact H
                                  clear H
                                  have H := H1
                                  clear H1
                                  have H' := Aside0.mk H
                                  clear H
                                  have hnb172 := NB405_406.out
                                  have hnc172 := NB406_405.out
                                  have hnb173 := NB405_411.out
                                  have hnc173 := NB411_405.out
                                  have hnb174 := NB405_416.out
                                  have hnc174 := NB416_405.out
                                  have hnb175 := NB405_436.out
                                  have hnc175 := NB436_405.out
                                  obtain ⟨hcz176_0, hcz176_1, hfz176_0, hfz176_1⟩ := sqc2 BK405
                                  go_wp2_with (first | ((with_reducible refine gate_callee (f := 29) rfl ?_); refine sqL (some 92) Try.func29 #[.agg #[.int .i64 t397, .slice Ao12 t398.length co12], .slice Ao111 y441.length co111] ?_; (with_reducible refine (spec_GapsHas.calls k3 t397 _ _ t398 _ _ y441 false _ ?side1 ?side2 ?side3 ?side4 A118.out).mono ?_); (case side1 => repeat (first | exact (Kd.R_reads' HO_406001.out).2.2 | (with_reducible refine Kd.C_alloc ?_ _) | (with_reducible refine Kd.C_drewN ?_ _) | (with_reducible refine Kd.C_drew ?_))); (case side2 => exact (Kd.R_reads' HO_406001.out).2.1); (case side3 => repeat (first | exact (Kd.R_reads' HO443.out).2.2 | (with_reducible refine Kd.C_alloc ?_ _) | (with_reducible refine Kd.C_drewN ?_ _) | (with_reducible refine Kd.C_drew ?_))); (case side4 => exact (Kd.R_reads' HO443.out).2.1); rintro e w177 ⟨rfl, hb⟩; refine ⟨_, rfl, ?_⟩; have n0_ := Aside0.mk (Kd.R_below (by (with_reducible repeat (first | apply Kd.R_alloc | apply Kd.R_drewN | apply Kd.R_drew)); exact HO443.out) hb); have n1_ := Aside0.mk (Kd.R_below (by (with_reducible repeat (first | apply Kd.R_alloc | apply Kd.R_drewN | apply Kd.R_drew)); exact HO_406001.out) hb); have n2_ := Aside0.mk (Kd.R_below (by (with_reducible repeat (first | apply Kd.R_alloc | apply Kd.R_drewN | apply Kd.R_drew)); exact HO_407001.out) hb); have n3_ := Aside0.mk (Kd.R_below (by (with_reducible repeat (first | apply Kd.R_alloc | apply Kd.R_drewN | apply Kd.R_drew)); exact HO_412001.out) hb); have n4_ := Aside0.mk (Kd.R_below (by (with_reducible repeat (first | apply Kd.R_alloc | apply Kd.R_drewN | apply Kd.R_drew)); exact HO_417001.out) hb); have n5_ := Aside0.mk (Kd.R_below (by (with_reducible repeat (first | apply Kd.R_alloc | apply Kd.R_drewN | apply Kd.R_drew)); exact HO_437001.out) hb); have n6_ := sqb BK405 hb; have n7_ := sqb BK406 hb; have n8_ := sqb BK411 hb; have n9_ := sqb BK416 hb; have n10_ := sqb BK436 hb; have n11_ := sqs HB hb; clear HO443; clear HO_406001; clear HO_407001; clear HO_412001; clear HO_417001; clear HO_437001; clear BK405; clear BK406; clear BK411; clear BK416; clear BK436; clear HB; have HO443 := n0_; have HO_406001 := n1_; have HO_407001 := n2_; have HO_412001 := n3_; have HO_417001 := n4_; have HO_437001 := n5_; have BK405 := n6_; have BK406 := n7_; have BK411 := n8_; have BK416 := n9_; have BK436 := n10_; have HB := n11_; clear n0_ n1_ n2_ n3_ n4_ n5_ n6_ n7_ n8_ n9_ n10_ n11_; (try clear hb); have hnb178 := NB406_411.out; have hnc178 := NB411_406.out; have hnb179 := NB406_416.out; have hnc179 := NB416_406.out; have hnb180 := NB406_436.out; have hnc180 := NB436_406.out; obtain ⟨hcz181_0, hcz181_1, hfz181_0, hfz181_1⟩ := sqc2 BK406) | (go_at_call 29; (with_reducible refine (spec_GapsHas.calls k3 t401 _ _ t402 _ _ y441 true _ ?side1 ?side2 ?side3 ?side4 A149.out).mono ?_); (case side1 => repeat (first | exact (Kd.R_reads' HO_407001.out).2.2 | (with_reducible refine Kd.C_alloc ?_ _) | (with_reducible refine Kd.C_drewN ?_ _) | (with_reducible refine Kd.C_drew ?_))); (case side2 => exact (Kd.R_reads' HO_407001.out).2.1); (case side3 => repeat (first | exact (Kd.R_reads' HO443.out).2.2 | (with_reducible refine Kd.C_alloc ?_ _) | (with_reducible refine Kd.C_drewN ?_ _) | (with_reducible refine Kd.C_drew ?_))); (case side4 => exact (Kd.R_reads' HO443.out).2.1); rintro e w182 ⟨rfl, hb⟩; have n0_ := Aside0.mk (Kd.R_below (by (with_reducible repeat (first | apply Kd.R_alloc | apply Kd.R_drewN | apply Kd.R_drew)); exact HO443.out) hb); have n1_ := Aside0.mk (Kd.R_below (by (with_reducible repeat (first | apply Kd.R_alloc | apply Kd.R_drewN | apply Kd.R_drew)); exact HO_406001.out) hb); have n2_ := Aside0.mk (Kd.R_below (by (with_reducible repeat (first | apply Kd.R_alloc | apply Kd.R_drewN | apply Kd.R_drew)); exact HO_407001.out) hb); have n3_ := Aside0.mk (Kd.R_below (by (with_reducible repeat (first | apply Kd.R_alloc | apply Kd.R_drewN | apply Kd.R_drew)); exact HO_412001.out) hb); have n4_ := Aside0.mk (Kd.R_below (by (with_reducible repeat (first | apply Kd.R_alloc | apply Kd.R_drewN | apply Kd.R_drew)); exact HO_417001.out) hb); have n5_ := Aside0.mk (Kd.R_below (by (with_reducible repeat (first | apply Kd.R_alloc | apply Kd.R_drewN | apply Kd.R_drew)); exact HO_437001.out) hb); have n6_ := sqb BK405 hb; have n7_ := sqb BK406 hb; have n8_ := sqb BK411 hb; have n9_ := sqb BK416 hb; have n10_ := sqb BK436 hb; have n11_ := sqs HB hb; clear HO443; clear HO_406001; clear HO_407001; clear HO_412001; clear HO_417001; clear HO_437001; clear BK405; clear BK406; clear BK411; clear BK416; clear BK436; clear HB; have HO443 := n0_; have HO_406001 := n1_; have HO_407001 := n2_; have HO_412001 := n3_; have HO_417001 := n4_; have HO_437001 := n5_; have BK405 := n6_; have BK406 := n7_; have BK411 := n8_; have BK416 := n9_; have BK436 := n10_; have HB := n11_; clear n0_ n1_ n2_ n3_ n4_ n5_ n6_ n7_ n8_ n9_ n10_ n11_; (try clear hb); have hnb183 := NB411_416.out; have hnc183 := NB416_411.out; have hnb184 := NB411_436.out; have hnc184 := NB436_411.out; obtain ⟨hcz185_0, hcz185_1, hfz185_0, hfz185_1⟩ := sqc2 BK411) | (go_at_call 28; (with_reducible refine (impl_GapsHas.calls k3 t407 _ _ t408 _ _ y441 false _ ?side1 ?side2 ?side3 ?side4 A151.out).mono ?_); (case side1 => repeat (first | exact (Kd.R_reads' HO_412001.out).2.2 | (with_reducible refine Kd.C_alloc ?_ _) | (with_reducible refine Kd.C_drewN ?_ _) | (with_reducible refine Kd.C_drew ?_))); (case side2 => exact (Kd.R_reads' HO_412001.out).2.1); (case side3 => repeat (first | exact (Kd.R_reads' HO443.out).2.2 | (with_reducible refine Kd.C_alloc ?_ _) | (with_reducible refine Kd.C_drewN ?_ _) | (with_reducible refine Kd.C_drew ?_))); (case side4 => exact (Kd.R_reads' HO443.out).2.1); rintro e w186 ⟨rfl, hb⟩; have n0_ := Aside0.mk (Kd.R_below (by (with_reducible repeat (first | apply Kd.R_alloc | apply Kd.R_drewN | apply Kd.R_drew)); exact HO443.out) hb); have n1_ := Aside0.mk (Kd.R_below (by (with_reducible repeat (first | apply Kd.R_alloc | apply Kd.R_drewN | apply Kd.R_drew)); exact HO_406001.out) hb); have n2_ := Aside0.mk (Kd.R_below (by (with_reducible repeat (first | apply Kd.R_alloc | apply Kd.R_drewN | apply Kd.R_drew)); exact HO_407001.out) hb); have n3_ := Aside0.mk (Kd.R_below (by (with_reducible repeat (first | apply Kd.R_alloc | apply Kd.R_drewN | apply Kd.R_drew)); exact HO_412001.out) hb); have n4_ := Aside0.mk (Kd.R_below (by (with_reducible repeat (first | apply Kd.R_alloc | apply Kd.R_drewN | apply Kd.R_drew)); exact HO_417001.out) hb); have n5_ := Aside0.mk (Kd.R_below (by (with_reducible repeat (first | apply Kd.R_alloc | apply Kd.R_drewN | apply Kd.R_drew)); exact HO_437001.out) hb); have n6_ := sqb BK405 hb; have n7_ := sqb BK406 hb; have n8_ := sqb BK411 hb; have n9_ := sqb BK416 hb; have n10_ := sqb BK436 hb; have n11_ := sqs HB hb; clear HO443; clear HO_406001; clear HO_407001; clear HO_412001; clear HO_417001; clear HO_437001; clear BK405; clear BK406; clear BK411; clear BK416; clear BK436; clear HB; have HO443 := n0_; have HO_406001 := n1_; have HO_407001 := n2_; have HO_412001 := n3_; have HO_417001 := n4_; have HO_437001 := n5_; have BK405 := n6_; have BK406 := n7_; have BK411 := n8_; have BK416 := n9_; have BK436 := n10_; have HB := n11_; clear n0_ n1_ n2_ n3_ n4_ n5_ n6_ n7_ n8_ n9_ n10_ n11_; (try clear hb)))
                                  go_meet
                                  case rel => exact ⟨_, (true), (by first | rfl | (simp; done) | (simp [*]; done)), H', ⟨by have := HJ5.out; have := HJ45.out; have := HK3.out; first | omega | exact Nat.le_refl _⟩, ⟨by (with_reducible repeat (first | apply Kd.R_alloc | apply Kd.R_drewN | apply Kd.R_drew)); exact Kd.R_mono HO_406001.out (fun _ hk => ⟨hk.2.1, ⟨hk.2.2.1, ⟨hk.2.2.2.1, hk.2.2.2.2⟩⟩⟩)⟩, ⟨by (with_reducible repeat (first | apply Kd.R_alloc | apply Kd.R_drewN | apply Kd.R_drew)); exact Kd.R_mono HO_407001.out (fun _ hk => ⟨hk.2.1, ⟨hk.2.2.1, ⟨hk.2.2.2.1, hk.2.2.2.2⟩⟩⟩)⟩, ⟨by (with_reducible repeat (first | apply Kd.R_alloc | apply Kd.R_drewN | apply Kd.R_drew)); exact Kd.R_mono HO_412001.out (fun _ hk => ⟨hk.2.1, ⟨hk.2.2.1, ⟨hk.2.2.2.1, hk.2.2.2.2⟩⟩⟩)⟩, ⟨by (with_reducible repeat (first | apply Kd.R_alloc | apply Kd.R_drewN | apply Kd.R_drew)); exact Kd.R_mono HO_417001.out (fun _ hk => ⟨hk.2.1, ⟨hk.2.2.1, ⟨hk.2.2.2.1, hk.2.2.2.2⟩⟩⟩)⟩, ⟨by (with_reducible repeat (first | apply Kd.R_alloc | apply Kd.R_drewN | apply Kd.R_drew)); exact Kd.R_mono HO_437001.out (fun _ hk => ⟨hk.2.1, ⟨hk.2.2.1, ⟨hk.2.2.2.1, hk.2.2.2.2⟩⟩⟩)⟩, sqk BK405, sqk BK406, sqk BK411, sqk BK416, sqk BK436, sqh HB⟩
                              · replace c150 := Bool.eq_false_iff.mpr c150
                                subst c150
                                have H1 : (laws_FnGapsJoin.j3 k3 false t397 t398 t401 t402 t407 t408 t412 t413) = some true := by rw [if_neg (show ¬ (false = true) by decide)] at H; exact H
                                clear H
                                have H := H1
                                clear H1
                                have H' := Aside0.mk H
                                clear H
                                have hnb187 := NB405_406.out
                                have hnc187 := NB406_405.out
                                have hnb188 := NB405_411.out
                                have hnc188 := NB411_405.out
                                have hnb189 := NB405_416.out
                                have hnc189 := NB416_405.out
                                have hnb190 := NB405_436.out
                                have hnc190 := NB436_405.out
                                obtain ⟨hcz191_0, hcz191_1, hfz191_0, hfz191_1⟩ := sqc2 BK405
                                go_wp2_with (first | ((with_reducible refine gate_callee (f := 29) rfl ?_); refine sqL (some 92) Try.func29 #[.agg #[.int .i64 t397, .slice Ao12 t398.length co12], .slice Ao111 y441.length co111] ?_; (with_reducible refine (spec_GapsHas.calls k3 t397 _ _ t398 _ _ y441 false _ ?side1 ?side2 ?side3 ?side4 A118.out).mono ?_); (case side1 => repeat (first | exact (Kd.R_reads' HO_406001.out).2.2 | (with_reducible refine Kd.C_alloc ?_ _) | (with_reducible refine Kd.C_drewN ?_ _) | (with_reducible refine Kd.C_drew ?_))); (case side2 => exact (Kd.R_reads' HO_406001.out).2.1); (case side3 => repeat (first | exact (Kd.R_reads' HO443.out).2.2 | (with_reducible refine Kd.C_alloc ?_ _) | (with_reducible refine Kd.C_drewN ?_ _) | (with_reducible refine Kd.C_drew ?_))); (case side4 => exact (Kd.R_reads' HO443.out).2.1); rintro e w192 ⟨rfl, hb⟩; refine ⟨_, rfl, ?_⟩; have n0_ := Aside0.mk (Kd.R_below (by (with_reducible repeat (first | apply Kd.R_alloc | apply Kd.R_drewN | apply Kd.R_drew)); exact HO443.out) hb); have n1_ := Aside0.mk (Kd.R_below (by (with_reducible repeat (first | apply Kd.R_alloc | apply Kd.R_drewN | apply Kd.R_drew)); exact HO_406001.out) hb); have n2_ := Aside0.mk (Kd.R_below (by (with_reducible repeat (first | apply Kd.R_alloc | apply Kd.R_drewN | apply Kd.R_drew)); exact HO_407001.out) hb); have n3_ := Aside0.mk (Kd.R_below (by (with_reducible repeat (first | apply Kd.R_alloc | apply Kd.R_drewN | apply Kd.R_drew)); exact HO_412001.out) hb); have n4_ := Aside0.mk (Kd.R_below (by (with_reducible repeat (first | apply Kd.R_alloc | apply Kd.R_drewN | apply Kd.R_drew)); exact HO_417001.out) hb); have n5_ := Aside0.mk (Kd.R_below (by (with_reducible repeat (first | apply Kd.R_alloc | apply Kd.R_drewN | apply Kd.R_drew)); exact HO_437001.out) hb); have n6_ := sqb BK405 hb; have n7_ := sqb BK406 hb; have n8_ := sqb BK411 hb; have n9_ := sqb BK416 hb; have n10_ := sqb BK436 hb; have n11_ := sqs HB hb; clear HO443; clear HO_406001; clear HO_407001; clear HO_412001; clear HO_417001; clear HO_437001; clear BK405; clear BK406; clear BK411; clear BK416; clear BK436; clear HB; have HO443 := n0_; have HO_406001 := n1_; have HO_407001 := n2_; have HO_412001 := n3_; have HO_417001 := n4_; have HO_437001 := n5_; have BK405 := n6_; have BK406 := n7_; have BK411 := n8_; have BK416 := n9_; have BK436 := n10_; have HB := n11_; clear n0_ n1_ n2_ n3_ n4_ n5_ n6_ n7_ n8_ n9_ n10_ n11_; (try clear hb); have hnb193 := NB406_411.out; have hnc193 := NB411_406.out; have hnb194 := NB406_416.out; have hnc194 := NB416_406.out; have hnb195 := NB406_436.out; have hnc195 := NB436_406.out; obtain ⟨hcz196_0, hcz196_1, hfz196_0, hfz196_1⟩ := sqc2 BK406) | (go_at_call 29; (with_reducible refine (spec_GapsHas.calls k3 t401 _ _ t402 _ _ y441 false _ ?side1 ?side2 ?side3 ?side4 A149.out).mono ?_); (case side1 => repeat (first | exact (Kd.R_reads' HO_407001.out).2.2 | (with_reducible refine Kd.C_alloc ?_ _) | (with_reducible refine Kd.C_drewN ?_ _) | (with_reducible refine Kd.C_drew ?_))); (case side2 => exact (Kd.R_reads' HO_407001.out).2.1); (case side3 => repeat (first | exact (Kd.R_reads' HO443.out).2.2 | (with_reducible refine Kd.C_alloc ?_ _) | (with_reducible refine Kd.C_drewN ?_ _) | (with_reducible refine Kd.C_drew ?_))); (case side4 => exact (Kd.R_reads' HO443.out).2.1); rintro e w197 ⟨rfl, hb⟩; have n0_ := Aside0.mk (Kd.R_below (by (with_reducible repeat (first | apply Kd.R_alloc | apply Kd.R_drewN | apply Kd.R_drew)); exact HO443.out) hb); have n1_ := Aside0.mk (Kd.R_below (by (with_reducible repeat (first | apply Kd.R_alloc | apply Kd.R_drewN | apply Kd.R_drew)); exact HO_406001.out) hb); have n2_ := Aside0.mk (Kd.R_below (by (with_reducible repeat (first | apply Kd.R_alloc | apply Kd.R_drewN | apply Kd.R_drew)); exact HO_407001.out) hb); have n3_ := Aside0.mk (Kd.R_below (by (with_reducible repeat (first | apply Kd.R_alloc | apply Kd.R_drewN | apply Kd.R_drew)); exact HO_412001.out) hb); have n4_ := Aside0.mk (Kd.R_below (by (with_reducible repeat (first | apply Kd.R_alloc | apply Kd.R_drewN | apply Kd.R_drew)); exact HO_417001.out) hb); have n5_ := Aside0.mk (Kd.R_below (by (with_reducible repeat (first | apply Kd.R_alloc | apply Kd.R_drewN | apply Kd.R_drew)); exact HO_437001.out) hb); have n6_ := sqb BK405 hb; have n7_ := sqb BK406 hb; have n8_ := sqb BK411 hb; have n9_ := sqb BK416 hb; have n10_ := sqb BK436 hb; have n11_ := sqs HB hb; clear HO443; clear HO_406001; clear HO_407001; clear HO_412001; clear HO_417001; clear HO_437001; clear BK405; clear BK406; clear BK411; clear BK416; clear BK436; clear HB; have HO443 := n0_; have HO_406001 := n1_; have HO_407001 := n2_; have HO_412001 := n3_; have HO_417001 := n4_; have HO_437001 := n5_; have BK405 := n6_; have BK406 := n7_; have BK411 := n8_; have BK416 := n9_; have BK436 := n10_; have HB := n11_; clear n0_ n1_ n2_ n3_ n4_ n5_ n6_ n7_ n8_ n9_ n10_ n11_; (try clear hb)))
                                go_meet
                                case rel => exact ⟨_, (false), (by first | rfl | (simp; done) | (simp [*]; done)), H', ⟨by have := HJ5.out; have := HJ45.out; have := HK3.out; first | omega | exact Nat.le_refl _⟩, ⟨by (with_reducible repeat (first | apply Kd.R_alloc | apply Kd.R_drewN | apply Kd.R_drew)); exact Kd.R_mono HO_406001.out (fun _ hk => ⟨hk.2.1, ⟨hk.2.2.1, ⟨hk.2.2.2.1, hk.2.2.2.2⟩⟩⟩)⟩, ⟨by (with_reducible repeat (first | apply Kd.R_alloc | apply Kd.R_drewN | apply Kd.R_drew)); exact Kd.R_mono HO_407001.out (fun _ hk => ⟨hk.2.1, ⟨hk.2.2.1, ⟨hk.2.2.2.1, hk.2.2.2.2⟩⟩⟩)⟩, ⟨by (with_reducible repeat (first | apply Kd.R_alloc | apply Kd.R_drewN | apply Kd.R_drew)); exact Kd.R_mono HO_412001.out (fun _ hk => ⟨hk.2.1, ⟨hk.2.2.1, ⟨hk.2.2.2.1, hk.2.2.2.2⟩⟩⟩)⟩, ⟨by (with_reducible repeat (first | apply Kd.R_alloc | apply Kd.R_drewN | apply Kd.R_drew)); exact Kd.R_mono HO_417001.out (fun _ hk => ⟨hk.2.1, ⟨hk.2.2.1, ⟨hk.2.2.2.1, hk.2.2.2.2⟩⟩⟩)⟩, ⟨by (with_reducible repeat (first | apply Kd.R_alloc | apply Kd.R_drewN | apply Kd.R_drew)); exact Kd.R_mono HO_437001.out (fun _ hk => ⟨hk.2.1, ⟨hk.2.2.1, ⟨hk.2.2.2.1, hk.2.2.2.2⟩⟩⟩)⟩, sqk BK405, sqk BK406, sqk BK411, sqk BK416, sqk BK436, sqh HB⟩
                          case rest =>
                            as_aux_lemma =>
                            clear HC110
                            try clear c1
                            try clear c2
                            try clear p2
                            try clear c3
                            try clear c4
                            try clear c5
                            try clear c6
                            try clear c7
                            try clear c8
                            try clear c9
                            try clear c10
                            try clear c17
                            try clear c18
                            try clear c24
                            try clear c25
                            try clear c26
                            try clear c27
                            try clear c32
                            try clear c36
                            try clear c37
                            try clear c38
                            try clear c39
                            try clear c40
                            try clear c41
                            try clear c45
                            try clear c48
                            try clear c50
                            try clear c51
                            try clear c52
                            try clear c53
                            try clear c56
                            try clear c57
                            try clear c62
                            try clear c63
                            try clear c64
                            try clear c67
                            try clear c68
                            try clear c71
                            try clear c72
                            try clear c73
                            try clear c76
                            try clear c77
                            try clear c77b0
                            try clear c77b1
                            try clear c77b2
                            try clear c78
                            try clear c79
                            try clear c80
                            try clear c82
                            try clear c83
                            try clear c85
                            try clear c86
                            try clear c87
                            try clear c92
                            try clear c93
                            try clear c94
                            try clear c95
                            try clear c98
                            try clear c98b0
                            try clear c100
                            try clear c108
                            try clear c108b0
                            try clear c108b1
                            try clear c109
                            try clear c109b0
                            try clear c109b1
                            try clear q117
                            try clear hcz106_0
                            try clear hcz106_1
                            try clear hcz116_0
                            try clear hcz116_1
                            try clear hcz11_0
                            try clear hcz11_1
                            try clear hcz13_0
                            try clear hcz13_1
                            try clear hcz19_0
                            try clear hcz19_1
                            try clear hcz21_0
                            try clear hcz21_1
                            try clear hcz22_0
                            try clear hcz22_1
                            try clear hcz28_0
                            try clear hcz28_1
                            try clear hcz54_0
                            try clear hcz54_1
                            try clear hcz58_0
                            try clear hcz58_1
                            try clear hcz60_0
                            try clear hcz60_1
                            try clear hcz61_0
                            try clear hcz61_1
                            try clear hcz65_0
                            try clear hcz65_1
                            try clear hcz69_0
                            try clear hcz69_1
                            try clear hcz74_0
                            try clear hcz74_1
                            try clear hcz81_0
                            try clear hcz81_1
                            try clear hcz84_0
                            try clear hcz84_1
                            try clear hcz88_0
                            try clear hcz88_1
                            try clear hcz96_0
                            try clear hcz96_1
                            try clear hfz106_0
                            try clear hfz106_1
                            try clear hfz116_0
                            try clear hfz116_1
                            try clear hfz11_0
                            try clear hfz11_1
                            try clear hfz13_0
                            try clear hfz13_1
                            try clear hfz19_0
                            try clear hfz19_1
                            try clear hfz21_0
                            try clear hfz21_1
                            try clear hfz22_0
                            try clear hfz22_1
                            try clear hfz28_0
                            try clear hfz28_1
                            try clear hfz54_0
                            try clear hfz54_1
                            try clear hfz58_0
                            try clear hfz58_1
                            try clear hfz60_0
                            try clear hfz60_1
                            try clear hfz61_0
                            try clear hfz61_1
                            try clear hfz65_0
                            try clear hfz65_1
                            try clear hfz69_0
                            try clear hfz69_1
                            try clear hfz74_0
                            try clear hfz74_1
                            try clear hfz81_0
                            try clear hfz81_1
                            try clear hfz84_0
                            try clear hfz84_1
                            try clear hfz88_0
                            try clear hfz88_1
                            try clear hfz96_0
                            try clear hfz96_1
                            try clear p2
                            try clear q117
                            obtain ⟨kq, x109_109, rfl, HA, HJ109, HO_406001, HO_407001, HO_412001, HO_417001, HO_437001, BK405, BK406, BK411, BK416, BK436, HB⟩ := hcut
                            cases kq with
                            | zero => exact absurd HA.out (by simp [laws_FnGapsJoin.j3])
                            | succ kj109 =>
                              have H := HA.out
                              clear HA
                              simp only [laws_FnGapsJoin.j3] at H
                              by_cases c198 : x109_109 = true
                              · subst c198
                                have H1 : (some false) = some true := by rw [if_pos rfl] at H; exact H
                                clear H
                                have H := H1
                                clear H1
                                exact absurd (Option.some.inj H) (by decide)
                              · replace c198 := Bool.eq_false_iff.mpr c198
                                subst c198
                                have H1 : ((impl_GapsIn.f kj109 t397 t398 t407 t408).bind fun t450 => (if t450 = true then ((impl_GapsIn.f kj109 t401 t402 t407 t408).bind fun t451 => (if t451 = true then ((impl_GapsIn.f kj109 t407 t408 t412 t413).bind fun t452 => (some t452)) else (some false))) else (some false))) = some true := by rw [if_neg (show ¬ (false = true) by decide)] at H; exact H
                                clear H
                                have H := H1
                                clear H1
                                replace H := Option.bind_eq_some_iff.mp H
                                obtain ⟨t450, A1990, H⟩ := H
                                replace H : (if t450 = true then ((impl_GapsIn.f kj109 t401 t402 t407 t408).bind fun t451 => (if t451 = true then ((impl_GapsIn.f kj109 t407 t408 t412 t413).bind fun t452 => (some t452)) else (some false))) else (some false)) = some true := H
                                have A199 := Aside0.mk A1990
                                clear A1990
                                by_cases c200 : t450 = true
                                · subst c200
                                  have H1 : ((impl_GapsIn.f kj109 t401 t402 t407 t408).bind fun t451 => (if t451 = true then ((impl_GapsIn.f kj109 t407 t408 t412 t413).bind fun t452 => (some t452)) else (some false))) = some true := by rw [if_pos rfl] at H; exact H
                                  clear H
                                  have H := H1
                                  clear H1
                                  replace H := Option.bind_eq_some_iff.mp H
                                  obtain ⟨t451, A2010, H⟩ := H
                                  replace H : (if t451 = true then ((impl_GapsIn.f kj109 t407 t408 t412 t413).bind fun t452 => (some t452)) else (some false)) = some true := H
                                  have A201 := Aside0.mk A2010
                                  clear A2010
                                  by_cases c202 : t451 = true
                                  · subst c202
                                    have H1 : ((impl_GapsIn.f kj109 t407 t408 t412 t413).bind fun t452 => (some t452)) = some true := by rw [if_pos rfl] at H; exact H
                                    clear H
                                    have H := H1
                                    clear H1
                                    replace H := Option.bind_eq_some_iff.mp H
                                    obtain ⟨t452, A2030, H⟩ := H
                                    replace H : (some t452) = some true := H
                                    have A203 := Aside0.mk A2030
                                    clear A2030
                                    (first | (obtain rfl := Option.some.inj H) | (have ht_ : (_ == _) = true := Option.some.inj H; clear H) | clear H)
                                    have hnb204 := NB405_406.out
                                    have hnc204 := NB406_405.out
                                    have hnb205 := NB405_411.out
                                    have hnc205 := NB411_405.out
                                    have hnb206 := NB405_416.out
                                    have hnc206 := NB416_405.out
                                    have hnb207 := NB405_436.out
                                    have hnc207 := NB436_405.out
                                    obtain ⟨hcz208_0, hcz208_1, hfz208_0, hfz208_1⟩ := sqc2 BK405
                                    have hnb209 := NB411_406.out
                                    have hnc209 := NB406_411.out
                                    have hnb210 := NB411_416.out
                                    have hnc210 := NB416_411.out
                                    have hnb211 := NB411_436.out
                                    have hnc211 := NB436_411.out
                                    obtain ⟨hcz212_0, hcz212_1, hfz212_0, hfz212_1⟩ := sqc2 BK411
                                    go_wp2_with (first | ((with_reducible refine gate_callee (f := 30) rfl ?_); refine sqL (some 112) Try.func30 #[.agg #[.int .i64 t397, .slice Ao12 t398.length co12], .agg #[.int .i64 t407, .slice Ao20 t408.length co20]] ?_; (with_reducible refine (impl_GapsIn.calls kj109 t397 _ _ t398 t407 _ _ t408 true _ ?side1 ?side2 ?side3 ?side4 A199.out).mono ?_); (case side1 => repeat (first | exact (Kd.R_reads' HO_406001.out).2.2 | (with_reducible refine Kd.C_alloc ?_ _) | (with_reducible refine Kd.C_drewN ?_ _) | (with_reducible refine Kd.C_drew ?_))); (case side2 => exact (Kd.R_reads' HO_406001.out).2.1); (case side3 => repeat (first | exact (Kd.R_reads' HO_412001.out).2.2 | (with_reducible refine Kd.C_alloc ?_ _) | (with_reducible refine Kd.C_drewN ?_ _) | (with_reducible refine Kd.C_drew ?_))); (case side4 => exact (Kd.R_reads' HO_412001.out).2.1); rintro e w213 ⟨rfl, hb⟩; refine ⟨_, rfl, ?_⟩; have n0_ := Aside0.mk (Kd.R_below (by (with_reducible repeat (first | apply Kd.R_alloc | apply Kd.R_drewN | apply Kd.R_drew)); exact HO_406001.out) hb); have n1_ := Aside0.mk (Kd.R_below (by (with_reducible repeat (first | apply Kd.R_alloc | apply Kd.R_drewN | apply Kd.R_drew)); exact HO_407001.out) hb); have n2_ := Aside0.mk (Kd.R_below (by (with_reducible repeat (first | apply Kd.R_alloc | apply Kd.R_drewN | apply Kd.R_drew)); exact HO_412001.out) hb); have n3_ := Aside0.mk (Kd.R_below (by (with_reducible repeat (first | apply Kd.R_alloc | apply Kd.R_drewN | apply Kd.R_drew)); exact HO_417001.out) hb); have n4_ := Aside0.mk (Kd.R_below (by (with_reducible repeat (first | apply Kd.R_alloc | apply Kd.R_drewN | apply Kd.R_drew)); exact HO_437001.out) hb); have n5_ := sqb BK405 hb; have n6_ := sqb BK406 hb; have n7_ := sqb BK411 hb; have n8_ := sqb BK416 hb; have n9_ := sqb BK436 hb; have n10_ := sqs HB hb; clear HO_406001; clear HO_407001; clear HO_412001; clear HO_417001; clear HO_437001; clear BK405; clear BK406; clear BK411; clear BK416; clear BK436; clear HB; have HO_406001 := n0_; have HO_407001 := n1_; have HO_412001 := n2_; have HO_417001 := n3_; have HO_437001 := n4_; have BK405 := n5_; have BK406 := n6_; have BK411 := n7_; have BK416 := n8_; have BK436 := n9_; have HB := n10_; clear n0_ n1_ n2_ n3_ n4_ n5_ n6_ n7_ n8_ n9_ n10_; (try clear hb); have hnb214 := NB406_416.out; have hnc214 := NB416_406.out; have hnb215 := NB406_436.out; have hnc215 := NB436_406.out; obtain ⟨hcz216_0, hcz216_1, hfz216_0, hfz216_1⟩ := sqc2 BK406; obtain ⟨hcz217_0, hcz217_1, hfz217_0, hfz217_1⟩ := sqc2 BK411) | (go_at_call 30; (with_reducible refine (impl_GapsIn.calls kj109 t401 _ _ t402 t407 _ _ t408 true _ ?side1 ?side2 ?side3 ?side4 A201.out).mono ?_); (case side1 => repeat (first | exact (Kd.R_reads' HO_407001.out).2.2 | (with_reducible refine Kd.C_alloc ?_ _) | (with_reducible refine Kd.C_drewN ?_ _) | (with_reducible refine Kd.C_drew ?_))); (case side2 => exact (Kd.R_reads' HO_407001.out).2.1); (case side3 => repeat (first | exact (Kd.R_reads' HO_412001.out).2.2 | (with_reducible refine Kd.C_alloc ?_ _) | (with_reducible refine Kd.C_drewN ?_ _) | (with_reducible refine Kd.C_drew ?_))); (case side4 => exact (Kd.R_reads' HO_412001.out).2.1); rintro e w218 ⟨rfl, hb⟩; have n0_ := Aside0.mk (Kd.R_below (by (with_reducible repeat (first | apply Kd.R_alloc | apply Kd.R_drewN | apply Kd.R_drew)); exact HO_406001.out) hb); have n1_ := Aside0.mk (Kd.R_below (by (with_reducible repeat (first | apply Kd.R_alloc | apply Kd.R_drewN | apply Kd.R_drew)); exact HO_407001.out) hb); have n2_ := Aside0.mk (Kd.R_below (by (with_reducible repeat (first | apply Kd.R_alloc | apply Kd.R_drewN | apply Kd.R_drew)); exact HO_412001.out) hb); have n3_ := Aside0.mk (Kd.R_below (by (with_reducible repeat (first | apply Kd.R_alloc | apply Kd.R_drewN | apply Kd.R_drew)); exact HO_417001.out) hb); have n4_ := Aside0.mk (Kd.R_below (by (with_reducible repeat (first | apply Kd.R_alloc | apply Kd.R_drewN | apply Kd.R_drew)); exact HO_437001.out) hb); have n5_ := sqb BK405 hb; have n6_ := sqb BK406 hb; have n7_ := sqb BK411 hb; have n8_ := sqb BK416 hb; have n9_ := sqb BK436 hb; have n10_ := sqs HB hb; clear HO_406001; clear HO_407001; clear HO_412001; clear HO_417001; clear HO_437001; clear BK405; clear BK406; clear BK411; clear BK416; clear BK436; clear HB; have HO_406001 := n0_; have HO_407001 := n1_; have HO_412001 := n2_; have HO_417001 := n3_; have HO_437001 := n4_; have BK405 := n5_; have BK406 := n6_; have BK411 := n7_; have BK416 := n8_; have BK436 := n9_; have HB := n10_; clear n0_ n1_ n2_ n3_ n4_ n5_ n6_ n7_ n8_ n9_ n10_; (try clear hb); obtain ⟨hcz219_0, hcz219_1, hfz219_0, hfz219_1⟩ := sqc2 BK411; have hnb220 := NB416_436.out; have hnc220 := NB436_416.out; obtain ⟨hcz221_0, hcz221_1, hfz221_0, hfz221_1⟩ := sqc2 BK416) | (go_at_call 30; (with_reducible refine (impl_GapsIn.calls kj109 t407 _ _ t408 t412 _ _ t413 true _ ?side1 ?side2 ?side3 ?side4 A203.out).mono ?_); (case side1 => repeat (first | exact (Kd.R_reads' HO_412001.out).2.2 | (with_reducible refine Kd.C_alloc ?_ _) | (with_reducible refine Kd.C_drewN ?_ _) | (with_reducible refine Kd.C_drew ?_))); (case side2 => exact (Kd.R_reads' HO_412001.out).2.1); (case side3 => repeat (first | exact (Kd.R_reads' HO_417001.out).2.2 | (with_reducible refine Kd.C_alloc ?_ _) | (with_reducible refine Kd.C_drewN ?_ _) | (with_reducible refine Kd.C_drew ?_))); (case side4 => exact (Kd.R_reads' HO_417001.out).2.1); rintro e w222 ⟨rfl, hb⟩; have n0_ := Aside0.mk (Kd.R_below (by (with_reducible repeat (first | apply Kd.R_alloc | apply Kd.R_drewN | apply Kd.R_drew)); exact HO_406001.out) hb); have n1_ := Aside0.mk (Kd.R_below (by (with_reducible repeat (first | apply Kd.R_alloc | apply Kd.R_drewN | apply Kd.R_drew)); exact HO_407001.out) hb); have n2_ := Aside0.mk (Kd.R_below (by (with_reducible repeat (first | apply Kd.R_alloc | apply Kd.R_drewN | apply Kd.R_drew)); exact HO_412001.out) hb); have n3_ := Aside0.mk (Kd.R_below (by (with_reducible repeat (first | apply Kd.R_alloc | apply Kd.R_drewN | apply Kd.R_drew)); exact HO_417001.out) hb); have n4_ := Aside0.mk (Kd.R_below (by (with_reducible repeat (first | apply Kd.R_alloc | apply Kd.R_drewN | apply Kd.R_drew)); exact HO_437001.out) hb); have n5_ := sqb BK405 hb; have n6_ := sqb BK406 hb; have n7_ := sqb BK411 hb; have n8_ := sqb BK416 hb; have n9_ := sqb BK436 hb; have n10_ := sqs HB hb; clear HO_406001; clear HO_407001; clear HO_412001; clear HO_417001; clear HO_437001; clear BK405; clear BK406; clear BK411; clear BK416; clear BK436; clear HB; have HO_406001 := n0_; have HO_407001 := n1_; have HO_412001 := n2_; have HO_417001 := n3_; have HO_437001 := n4_; have BK405 := n5_; have BK406 := n6_; have BK411 := n7_; have BK416 := n8_; have BK436 := n9_; have HB := n10_; clear n0_ n1_ n2_ n3_ n4_ n5_ n6_ n7_ n8_ n9_ n10_; (try clear hb)))
                                    go_ret
                                    exact sqe HB
                                  · replace c202 := Bool.eq_false_iff.mpr c202
                                    subst c202
                                    have H1 : (some false) = some true := by rw [if_neg (show ¬ (false = true) by decide)] at H; exact H
                                    clear H
                                    have H := H1
                                    clear H1
                                    exact absurd (Option.some.inj H) (by decide)
                                · replace c200 := Bool.eq_false_iff.mpr c200
                                  subst c200
                                  have H1 : (some false) = some true := by rw [if_neg (show ¬ (false = true) by decide)] at H; exact H
                                  clear H
                                  have H := H1
                                  clear H1
                                  exact absurd (Option.some.inj H) (by decide)
                        · rw [if_neg c109] at H
                          exact absurd H (by simp)
                      · rw [if_neg c108] at H
                        exact absurd H (by simp)

/-- THE ONE PURE STATEMENT of laws_FnGapsJoin: yours. -/
theorem laws_FnGapsJoin.walk (P : laws_FnGapsJoin.Pure) (a0 : Option Addr) (len0 cap0 : Nat) (z0 : List Int) (w : World) (w0 : (a0 = none ∧ len0 = 0 ∧ cap0 = 0 ∧ z0 = []) ∨ ∃ x, a0 = some x ∧ len0 ≤ cap0 ∧ cap0 ≤ maxLen ∧ z0.length = cap0 ∧ (∀ i, i < z0.length → w.cell? (x.add i) = some (.int .u8 (z0.getD i 0))) ∧ ∀ n ∈ z0, (Lit.int .u8 n).wf = true) (y0 : len0 * 1 ≤ 140737488351232) :
    Calls Try.prog 6 #[.slice a0 len0 cap0] w fun e w' => e = .returned (.bool true) ∧ Below w.heap.size w w' := by
  obtain ⟨l0, rfl, hr0, hm0, hw0, hc0⟩ := ReadsInt.ofRowC w0
  obtain ⟨k, h⟩ := P l0 hm0 y0 hw0
  refine (laws_FnGapsJoin.calls k _ _ l0 true w (Kd.C_of_reads (d := (0 : Int)) (h1 := fun _ => rfl) hr0) hc0 h).mono ?_
  rintro e w' ⟨rfl, hd⟩
  exact ⟨rfl, hd⟩

end Go.Proofs.Ytkekcenlleebeaa.PFnGapsJoin
