/- Functions of the program as plain Lean functions, and that calls of them come to what these tell. Conditions: those in each law. -/
import Derived.Test.YtkekcenlleebeaaSq
import Derived.Test.YtkekcenlleebeaaDFnGapsBack
import Derived.Test.YtkekcenlleebeaaQFnGapsBackx0
import Derived.Test.YtkekcenlleebeaaQFnGapsBackx2
import Derived.Test.YtkekcenlleebeaaQFnGapsBackx4
import Derived.Test.YtkekcenlleebeaaQFnGapsBackx5
import Derived.Test.YtkekcenlleebeaaQFnGapsBackx8
import Derived.Test.YtkekcenlleebeaaQFnGapsBackx9
import Derived.Test.YtkekcenlleebeaaQFnGapsBackx11
namespace Go.Proofs.Ytkekcenlleebeaa.PFnGapsBack
open Go.RowKit Go.Proofs.Ytkekcenlleebeaa.Sq Go.Proofs.YtkekcenlleebeaaW.PrintWords Go.Proofs.YtkekcenlleebeaaW.PrintLast Go.Proofs.YtkekcenlleebeaaW.PrintMore
attribute [local go_sem] max2_int min2_int max_two min_two max_three min_three max_four min_four   -- for this text's walks alone
set_option linter.unusedVariables false
set_option linter.unusedSimpArgs false

/-! ### laws_FnGapsBack: function 5 -/
theorem laws_FnGapsBack.mono_l : ∀ k, (∀ y0 y1 y2 y3, LeO (laws_FnGapsBack.j0 k y0 y1 y2 y3) (laws_FnGapsBack.j0 (k + 1) y0 y1 y2 y3)) ∧ (∀ y0 y1 y2 y3 y4, LeO (laws_FnGapsBack.l0 k y0 y1 y2 y3 y4) (laws_FnGapsBack.l0 (k + 1) y0 y1 y2 y3 y4))
  | 0 => ⟨fun _ _ _ _ r h => by simp [laws_FnGapsBack.j0] at h, fun _ _ _ _ _ r h => by simp [laws_FnGapsBack.l0] at h⟩
  | k + 1 => by
    obtain ⟨ih0, ih1⟩ := laws_FnGapsBack.mono_l k
    refine ⟨?_, ?_⟩
    · intro y0 y1 y2 y3
      unfold laws_FnGapsBack.j0
      repeat' first
      | (with_reducible exact ih0 _ _ _ _)
      | (with_reducible exact ih1 _ _ _ _ _)
      | (with_reducible exact impl_GapsClose.mono _ _ _)
      | (with_reducible exact impl_GapsMove.mono _ _ _ _ _ _)
      | (with_reducible exact laws_sameInts.mono _ _ _)
      | (with_reducible exact spec_DrawGapsClose.mono _ _)
      | (with_reducible exact spec_GapsClose.mono _ _ _)
      | (with_reducible exact spec_GapsMove.mono _ _ _ _ _ _)
      | (with_reducible exact LeO.refl _)
      | (with_reducible exact LeO.none _)
      | (with_reducible refine LeO.ite ?_ ?_)
      | (with_reducible refine LeO.bind ?_ (fun _ => ?_))
      | exact ih0 _ _ _ _
      | exact ih1 _ _ _ _ _
      | exact impl_GapsClose.mono _ _ _
      | exact impl_GapsMove.mono _ _ _ _ _ _
      | exact laws_sameInts.mono _ _ _
      | exact spec_DrawGapsClose.mono _ _
      | exact spec_GapsClose.mono _ _ _
      | exact spec_GapsMove.mono _ _ _ _ _ _
      | exact LeO.none _
      | refine LeO.ite ?_ ?_
      | refine LeO.bind ?_ (fun _ => ?_)
    · intro y0 y1 y2 y3 y4
      unfold laws_FnGapsBack.l0
      repeat' first
      | (with_reducible exact ih0 _ _ _ _)
      | (with_reducible exact ih1 _ _ _ _ _)
      | (with_reducible exact impl_GapsClose.mono _ _ _)
      | (with_reducible exact impl_GapsMove.mono _ _ _ _ _ _)
      | (with_reducible exact laws_sameInts.mono _ _ _)
      | (with_reducible exact spec_DrawGapsClose.mono _ _)
      | (with_reducible exact spec_GapsClose.mono _ _ _)
      | (with_reducible exact spec_GapsMove.mono _ _ _ _ _ _)
      | (with_reducible exact LeO.refl _)
      | (with_reducible exact LeO.none _)
      | (with_reducible refine LeO.ite ?_ ?_)
      | (with_reducible refine LeO.bind ?_ (fun _ => ?_))
      | exact ih0 _ _ _ _
      | exact ih1 _ _ _ _ _
      | exact impl_GapsClose.mono _ _ _
      | exact impl_GapsMove.mono _ _ _ _ _ _
      | exact laws_sameInts.mono _ _ _
      | exact spec_DrawGapsClose.mono _ _
      | exact spec_GapsClose.mono _ _ _
      | exact spec_GapsMove.mono _ _ _ _ _ _
      | exact LeO.none _
      | refine LeO.ite ?_ ?_
      | refine LeO.bind ?_ (fun _ => ?_)
theorem laws_FnGapsBack.mono : ∀ a0 k, LeO (laws_FnGapsBack.f k a0) (laws_FnGapsBack.f (k + 1) a0) := by
  intro a0 k
  obtain ⟨ih0, ih1⟩ := laws_FnGapsBack.mono_l k
  unfold laws_FnGapsBack.f
  repeat' first
      | (with_reducible exact ih0 _ _ _ _)
      | (with_reducible exact ih1 _ _ _ _ _)
      | (with_reducible exact impl_GapsClose.mono _ _ _)
      | (with_reducible exact impl_GapsMove.mono _ _ _ _ _ _)
      | (with_reducible exact laws_sameInts.mono _ _ _)
      | (with_reducible exact spec_DrawGapsClose.mono _ _)
      | (with_reducible exact spec_GapsClose.mono _ _ _)
      | (with_reducible exact spec_GapsMove.mono _ _ _ _ _ _)
      | (with_reducible exact LeO.refl _)
      | (with_reducible exact LeO.none _)
      | (with_reducible refine LeO.ite ?_ ?_)
      | (with_reducible refine LeO.bind ?_ (fun _ => ?_))
      | exact ih0 _ _ _ _
      | exact ih1 _ _ _ _ _
      | exact impl_GapsClose.mono _ _ _
      | exact impl_GapsMove.mono _ _ _ _ _ _
      | exact laws_sameInts.mono _ _ _
      | exact spec_DrawGapsClose.mono _ _
      | exact spec_GapsClose.mono _ _ _
      | exact spec_GapsMove.mono _ _ _ _ _ _
      | exact LeO.none _
      | refine LeO.ite ?_ ?_
      | refine LeO.bind ?_ (fun _ => ?_)
def laws_FnGapsBack.T10 : Bool × List (List Nat × List Nat) := (true, [([], []), ([0], [0]), ([1], [1]), ([], []), ([3], [3]), ([2, 4], [2, 4]), ([5], [5]), ([6, 1, 0, 1, 2, 3, 4, 5, 6], [6])])
def laws_FnGapsBack.B10 : List Nat := [0, 1, 3, 0, 8, 31, 63, 127]
theorem laws_FnGapsBack.tab10 : rtab .any (opsOf Try.f5 10) = laws_FnGapsBack.T10 := by kernel_rfl
theorem laws_FnGapsBack.bits10 : waitsOk laws_FnGapsBack.T10.2 laws_FnGapsBack.B10 = true := by kernel_rfl
def laws_FnGapsBack.T19 : Bool × List (List Nat × List Nat) := (true, [([], []), ([0], [0]), ([], []), ([2], [2]), ([1, 3], [1, 3]), ([4, 4], [4]), ([5], [5]), ([6, 5], [5, 6]), ([5], [5]), ([5], [5]), ([5], [5]), ([5], [5]), ([8, 9, 10, 11, 5, 5], [5, 8, 9, 10, 11]), ([12, 5], [5, 12]), ([7, 13, 12, 5], [5, 7, 13]), ([5, 14], [5, 14]), ([15, 14, 0, 1, 2, 3, 4, 5, 6, 7, 8, 9, 10, 11, 12, 13, 14, 15], [15])])
def laws_FnGapsBack.B19 : List Nat := [0, 1, 0, 4, 15, 31, 63, 127, 63, 63, 63, 63, 3903, 7999, 16383, 32767, 65535]
theorem laws_FnGapsBack.tab19 : rtab .any (opsOf Try.f5 19) = laws_FnGapsBack.T19 := by kernel_rfl
theorem laws_FnGapsBack.bits19 : waitsOk laws_FnGapsBack.T19.2 laws_FnGapsBack.B19 = true := by kernel_rfl
set_option maxHeartbeats 8000000 in
set_option maxRecDepth 100000 in
theorem laws_FnGapsBack.calls (k : Nat) (A0 : Option Addr) (c0 : Nat) (l0 : List Int) (r : Bool) (w : World) (hr0 : Kd.C (Kd.int .u8) w A0 l0.length l0) (hc0 : l0.length ≤ c0) (h : laws_FnGapsBack.f k l0 = some r) (hr_ : r = true := by rfl) :
    Calls Try.prog 5 #[.slice A0 l0.length c0] w fun e w' => e = .returned (.bool r) ∧ Below w.heap.size w w' := by
  subst hr_
  have hfd_ : ∀ (w : World) (n : Int) (A : Option Addr) (m c : Nat), (Instr.field 41 (.agg #[.int .i64 n, .slice A m c]) 1).run Try.prog w = .ok (.slice A m c) w := fun _ _ _ _ _ => by kernel_rfl
  have hu41 := Try.underlying41
  have HR0 := Aside0.mk hr0
  have HC0 := Aside0.mk hc0
  clear hr0 hc0
  have HB := Aside0.mk (Below.refl w.heap.size w)
  have H : (if (l0.length : Int) > 1048576 then (some true) else ((spec_DrawGapsClose.f k l0).bind fun bt357 => ((impl_GapsClose.f k bt357.1 bt357.2).bind fun bt362 => ((spec_GapsClose.f k bt357.1 bt357.2).bind fun bt368 => (if (bt362.2.2 != bt368.2.2) = true then (some false) else (if bt362.2.2 = true then (laws_FnGapsBack.j0 k l0 (decide (bt362.1 < 1)) bt362.1 bt362.2.1) else (laws_FnGapsBack.j0 k l0 true bt362.1 bt362.2.1))))))) = some true := h
  clear h
  by_cases c2 : (l0.length : Int) > 1048576
  · rw [if_pos c2] at H
    have c2b0 : decide (1048576 < (l0.length : Int)) = true := decide_eq_true c2
    have c2b1 : decide (1048576 < l0.length) = true := decide_eq_true (by omega)
    clear c2
    clear H
    go_enter Try.func5, Try.ntmps5
    go_wp2
    go_ret
    exact sqe HB
  · rw [if_neg c2] at H
    have c2b0 : decide (1048576 < (l0.length : Int)) = false := decide_eq_false c2
    have c2b1 : decide (1048576 < l0.length) = false := decide_eq_false (by omega)
    clear c2
    replace H := Option.bind_eq_some_iff.mp H
    obtain ⟨⟨t357, t358⟩, A30, H⟩ := H
    replace H : ((impl_GapsClose.f k t357 t358).bind fun bt362 => ((spec_GapsClose.f k t357 t358).bind fun bt368 => (if (bt362.2.2 != bt368.2.2) = true then (some false) else (if bt362.2.2 = true then (laws_FnGapsBack.j0 k l0 (decide (bt362.1 < 1)) bt362.1 bt362.2.1) else (laws_FnGapsBack.j0 k l0 true bt362.1 bt362.2.1))))) = some true := H
    have A3 := Aside0.mk A30
    clear A30
    replace H := Option.bind_eq_some_iff.mp H
    obtain ⟨⟨t362, t363, t366⟩, A40, H⟩ := H
    replace H : ((spec_GapsClose.f k t357 t358).bind fun bt368 => (if (t366 != bt368.2.2) = true then (some false) else (if t366 = true then (laws_FnGapsBack.j0 k l0 (decide (t362 < 1)) t362 t363) else (laws_FnGapsBack.j0 k l0 true t362 t363)))) = some true := H
    have A4 := Aside0.mk A40
    clear A40
    replace H := Option.bind_eq_some_iff.mp H
    obtain ⟨⟨t368, t369, t372⟩, A50, H⟩ := H
    replace H : (if (t366 != t372) = true then (some false) else (if t366 = true then (laws_FnGapsBack.j0 k l0 (decide (t362 < 1)) t362 t363) else (laws_FnGapsBack.j0 k l0 true t362 t363))) = some true := H
    have A5 := Aside0.mk A50
    clear A50
    by_cases c6 : (t366 != t372) = true
    · rw [if_pos c6] at H
      have c6b0 : (t366 != t372) = true := c6
      (try (have c6b1 : decide (t366 = t372) = false := by simpa using c6))
      (try (have c6b2 : (t366 == t372) = false := by simpa using c6))
      (try (have c6b3 : ¬ (t366 = t372) := by simpa using c6))
      clear c6
      exact absurd (Option.some.inj H) (by decide)
    · rw [if_neg c6] at H
      have c6b0 : (t366 != t372) = false := by simpa using c6
      (try (have c6b1 : decide (t366 = t372) = true := by simpa using c6))
      (try (have c6b2 : (t366 == t372) = true := by simpa using c6))
      clear c6
      have HC23 := Aside0.mk H
      clear H
      go_enter Try.func5, Try.ntmps5
      go_upto_region 8 with (first | ((with_reducible refine gate_callee (f := 32) rfl ?_); refine sqL (some 17) Try.func32 #[.slice A0 l0.length c0] ?_; (with_reducible refine (spec_DrawGapsClose.calls k _ _ l0 t357 t358 _ ?side1 ?side2 A3.out).mono ?_); (case side1 => repeat (first | exact HR0.out | (with_reducible refine Kd.C_alloc ?_ _) | (with_reducible refine Kd.C_drewN ?_ _) | (with_reducible refine Kd.C_drew ?_))); (case side2 => exact HC0.out); rintro e w24 ⟨v359, rfl, ho0, hb⟩; refine ⟨_, rfl, ?_⟩; have HO360 := Aside0.mk (Kd.R_lower ho0 (below_size (by repeat (first | (with_reducible first | exact HB.out | apply below_alloc | apply pw_below_drewN | apply below_drew1) | exact HB.out)))); replace HB := sqs HB hb; (try clear hb); (try clear hb2); (try clear hk); (try clear hi); (try clear ho0)) | ((with_reducible refine gate_dst (N := 3) rfl ?_); refine sqx 3 #[.int .i64 0, .slice none 0 0] 41 ?_; intro gb361 hg w25 hbox hb; have n0_ := Aside0.mk (Kd.R_below (by (with_reducible repeat (first | apply Kd.R_alloc | apply Kd.R_drewN | apply Kd.R_drew)); exact HO360.out) hb); have n1_ := sqs HB hb; have n2_ := Aside0.mk (hbox); have n3_ := sqg HB hg; have n4_ := sqg HB hg; clear HO360; clear HB; have HO360 := n0_; have HB := n1_; have BK361 := n2_; have GW361 := n3_; have GE361 := n4_; clear n0_ n1_ n2_ n3_ n4_; clear hb hbox hg; obtain ⟨hcz26_0, hcz26_1, hfz26_0, hfz26_1⟩ := sqc2 BK361; obtain ⟨Ao27, co27, eo27⟩ := Kd.R_slice HO360.out; subst eo27) | ((with_reducible refine gate_callee (f := 25) rfl ?_); refine sqL (some 20) Try.func25 #[.agg #[.int .i64 t357, .slice Ao27 t358.length co27]] ?_; (with_reducible refine (impl_GapsClose.calls k t357 _ _ t358 t362 t363 t366 _ ?side1 ?side2 A4.out).mono ?_); (case side1 => refine (Kd.R_reads' (e := 3) (base := w.heap.size) (ok := fun k_ => True) (n := t358.length) (c := co27) ?_).2.2; exact (by (with_reducible repeat (first | apply Kd.R_alloc | apply Kd.R_drewN | apply Kd.R_drew)); exact (Kd.R_mono (Kd.R_far (p := ⟨gb361, 1, none⟩) (Kd.R_far (p := ⟨gb361, 0, none⟩) (Kd.R_types HO360.out BK361.out (by decide)) (fun _ hk => hk.2) (.int .i64 t357)) (fun _ hk => hk.2) (.slice Ao27 t358.length co27)) (fun _ h_ => h_.1)))); (case side2 => exact (Kd.R_reads' HO360.out).2.1); rintro e w28 ⟨v364, rfl, ho0, hb⟩; refine ⟨_, rfl, ?_⟩; have n0_ := Aside0.mk (Kd.R_elder' (by (with_reducible repeat (first | apply Kd.R_alloc | apply Kd.R_drewN | apply Kd.R_drew)); exact (Kd.R_mono (Kd.R_far (p := ⟨gb361, 1, none⟩) (Kd.R_far (p := ⟨gb361, 0, none⟩) (Kd.R_types HO360.out BK361.out (by decide)) (fun _ hk => hk.2) (.int .i64 t357)) (fun _ hk => hk.2) (.slice Ao27 t358.length co27)) (fun _ h_ => h_.1))) (Kd.R_base ho0) hb); have n1_ := Aside0.mk (Kd.R_lower (Kd.R_new' ho0 (Kd.R_lt (by (with_reducible repeat (first | apply Kd.R_alloc | apply Kd.R_drewN | apply Kd.R_drew)); exact (Kd.R_mono (Kd.R_far (p := ⟨gb361, 1, none⟩) (Kd.R_far (p := ⟨gb361, 0, none⟩) (Kd.R_types HO360.out BK361.out (by decide)) (fun _ hk => hk.2) (.int .i64 t357)) (fun _ hk => hk.2) (.slice Ao27 t358.length co27)) (fun _ h_ => h_.1))))) (below_size (by repeat (first | (with_reducible first | exact HB.out | apply below_alloc | apply pw_below_drewN | apply below_drew1 | refine below_set ?_ GE361.out) | exact HB.out)))); have n2_ := Aside0.mk (blk_below (g := gb361) (o := .cells #[.int .i64 t357, .slice Ao27 t358.length co27] 41 (0, 0)) (by refine sqt ?_; refine blk_put (cs := #[.int .i64 t357, .slice none 0 0]) ?_ 1 _ rfl; refine sqt ?_; refine blk_put (cs := #[.int .i64 0, .slice none 0 0]) ?_ 0 _ rfl; refine sqt ?_; exact BK361.out) hb); have n3_ := sqs HB hb; clear HO360; clear BK361; clear HB; have HO360 := n0_; have HO365 := n1_; have BK361 := n2_; have HB := n3_; clear n0_ n1_ n2_ n3_; (try clear hb); (try clear hb2); (try clear hk); (try clear hi); (try clear ho0)) | ((with_reducible refine gate_dst (N := 4) rfl ?_); refine sqx 4 #[.int .i64 0, .slice none 0 0] 41 ?_; intro gb367 hg w29 hbox hb; have n0_ := Aside0.mk (Kd.R_below (by (with_reducible repeat (first | apply Kd.R_alloc | apply Kd.R_drewN | apply Kd.R_drew)); exact HO360.out) hb); have n1_ := Aside0.mk (Kd.R_below (by (with_reducible repeat (first | apply Kd.R_alloc | apply Kd.R_drewN | apply Kd.R_drew)); exact HO365.out) hb); have n2_ := sqb BK361 hb; have n3_ := sqs HB hb; have n4_ := Aside0.mk (hbox); have n5_ := sqg HB hg; have n6_ := sqg HB hg; have n7_ := sqn BK361 hg; have n8_ := sqm BK361 hg; clear HO360; clear HO365; clear BK361; clear HB; have HO360 := n0_; have HO365 := n1_; have BK361 := n2_; have HB := n3_; have BK367 := n4_; have GW367 := n5_; have GE367 := n6_; have NB361_367 := n7_; have NB367_361 := n8_; clear n0_ n1_ n2_ n3_ n4_ n5_ n6_ n7_ n8_; clear hb hbox hg; have hnb30 := NB367_361.out; have hnc30 := NB361_367.out; obtain ⟨hcz31_0, hcz31_1, hfz31_0, hfz31_1⟩ := sqc2 BK367; obtain ⟨Ao32, co32, eo32⟩ := Kd.R_slice HO365.out; subst eo32; obtain ⟨hcz33_0, hcz33_1, hfz33_0, hfz33_1⟩ := sqc2 BK361) | ((with_reducible refine gate_callee (f := 26) rfl ?_); refine sqL (some 25) Try.func26 #[.agg #[.int .i64 t357, .slice Ao27 t358.length co27]] ?_; (with_reducible refine (spec_GapsClose.calls k t357 _ _ t358 t368 t369 t372 _ ?side1 ?side2 A5.out).mono ?_); (case side1 => refine (Kd.R_reads' (e := 3) (base := w.heap.size) (ok := fun k_ => (True ∧ some k_ ≠ (.slice Ao32 t363.length co32 : Value).ownBlock)) (n := t358.length) (c := co27) ?_).2.2; exact (by (with_reducible repeat (first | apply Kd.R_alloc | apply Kd.R_drewN | apply Kd.R_drew)); exact (Kd.R_mono (Kd.R_far (p := ⟨gb367, 1, none⟩) (Kd.R_far (p := ⟨gb367, 0, none⟩) (Kd.R_types HO360.out BK367.out (by decide)) (fun _ hk => hk.2) (.int .i64 t362)) (fun _ hk => hk.2) (.slice Ao32 t363.length co32)) (fun _ h_ => h_.1)))); (case side2 => exact (Kd.R_reads' HO360.out).2.1); rintro e w34 ⟨v370, rfl, ho0, hb⟩; refine ⟨_, rfl, ?_⟩; have n0_ := Aside0.mk (Kd.R_elder' (by (with_reducible repeat (first | apply Kd.R_alloc | apply Kd.R_drewN | apply Kd.R_drew)); exact (Kd.R_mono (Kd.R_far (p := ⟨gb367, 1, none⟩) (Kd.R_far (p := ⟨gb367, 0, none⟩) (Kd.R_types HO360.out BK367.out (by decide)) (fun _ hk => hk.2) (.int .i64 t362)) (fun _ hk => hk.2) (.slice Ao32 t363.length co32)) (fun _ h_ => h_.1))) (Kd.R_base ho0) hb); have n1_ := Aside0.mk (Kd.R_elder' (by (with_reducible repeat (first | apply Kd.R_alloc | apply Kd.R_drewN | apply Kd.R_drew)); exact (Kd.R_mono (Kd.R_far (p := ⟨gb367, 1, none⟩) (Kd.R_far (p := ⟨gb367, 0, none⟩) (Kd.R_types HO365.out BK367.out (by decide)) (fun _ hk => hk.2) (.int .i64 t362)) (fun _ hk => hk.2) (.slice Ao32 t363.length co32)) (fun _ h_ => h_.1))) (Kd.R_base ho0) hb); have n2_ := Aside0.mk (Kd.R_lower (Kd.R_new' (Kd.R_new' ho0 (Kd.R_lt (by (with_reducible repeat (first | apply Kd.R_alloc | apply Kd.R_drewN | apply Kd.R_drew)); exact (Kd.R_mono (Kd.R_far (p := ⟨gb367, 1, none⟩) (Kd.R_far (p := ⟨gb367, 0, none⟩) (Kd.R_types HO360.out BK367.out (by decide)) (fun _ hk => hk.2) (.int .i64 t362)) (fun _ hk => hk.2) (.slice Ao32 t363.length co32)) (fun _ h_ => h_.1))))) (Kd.R_lt (by (with_reducible repeat (first | apply Kd.R_alloc | apply Kd.R_drewN | apply Kd.R_drew)); exact (Kd.R_mono (Kd.R_far (p := ⟨gb367, 1, none⟩) (Kd.R_far (p := ⟨gb367, 0, none⟩) (Kd.R_types HO365.out BK367.out (by decide)) (fun _ hk => hk.2) (.int .i64 t362)) (fun _ hk => hk.2) (.slice Ao32 t363.length co32)) (fun _ h_ => h_.1))))) (below_size (by repeat (first | (with_reducible first | exact HB.out | apply below_alloc | apply pw_below_drewN | apply below_drew1 | refine below_set ?_ GE361.out | refine below_set ?_ GE367.out) | exact HB.out)))); have n3_ := Aside0.mk (blk_below (g := gb361) (o := .cells #[.int .i64 t357, .slice Ao27 t358.length co27] 41 (0, 0)) (by refine sqt ?_; refine blk_far ?_ NB361_367.out _; refine sqt ?_; refine blk_far ?_ NB361_367.out _; refine sqt ?_; exact BK361.out) hb); have n4_ := Aside0.mk (blk_below (g := gb367) (o := .cells #[.int .i64 t362, .slice Ao32 t363.length co32] 41 (0, 0)) (by refine sqt ?_; refine blk_put (cs := #[.int .i64 t362, .slice none 0 0]) ?_ 1 _ rfl; refine sqt ?_; refine blk_put (cs := #[.int .i64 0, .slice none 0 0]) ?_ 0 _ rfl; refine sqt ?_; exact BK367.out) hb); have n5_ := sqs HB hb; clear HO360; clear HO365; clear BK361; clear BK367; clear HB; have HO360 := n0_; have HO365 := n1_; have HO371 := n2_; have BK361 := n3_; have BK367 := n4_; have HB := n5_; clear n0_ n1_ n2_ n3_ n4_ n5_; (try clear hb); (try clear hb2); (try clear hk); (try clear hi); (try clear ho0)) | ((with_reducible refine gate_dst (N := 6) rfl ?_); refine sqx 6 #[.int .i64 0, .slice none 0 0] 41 ?_; intro gb373 hg w35 hbox hb; have n0_ := Aside0.mk (Kd.R_below (by (with_reducible repeat (first | apply Kd.R_alloc | apply Kd.R_drewN | apply Kd.R_drew)); exact HO360.out) hb); have n1_ := Aside0.mk (Kd.R_below (by (with_reducible repeat (first | apply Kd.R_alloc | apply Kd.R_drewN | apply Kd.R_drew)); exact HO365.out) hb); have n2_ := Aside0.mk (Kd.R_below (by (with_reducible repeat (first | apply Kd.R_alloc | apply Kd.R_drewN | apply Kd.R_drew)); exact HO371.out) hb); have n3_ := sqb BK361 hb; have n4_ := sqb BK367 hb; have n5_ := sqs HB hb; have n6_ := Aside0.mk (hbox); have n7_ := sqg HB hg; have n8_ := sqg HB hg; have n9_ := sqn BK361 hg; have n10_ := sqm BK361 hg; have n11_ := sqn BK367 hg; have n12_ := sqm BK367 hg; clear HO360; clear HO365; clear HO371; clear BK361; clear BK367; clear HB; have HO360 := n0_; have HO365 := n1_; have HO371 := n2_; have BK361 := n3_; have BK367 := n4_; have HB := n5_; have BK373 := n6_; have GW373 := n7_; have GE373 := n8_; have NB361_373 := n9_; have NB373_361 := n10_; have NB367_373 := n11_; have NB373_367 := n12_; clear n0_ n1_ n2_ n3_ n4_ n5_ n6_ n7_ n8_ n9_ n10_ n11_ n12_; clear hb hbox hg; have hnb36 := NB373_361.out; have hnc36 := NB361_373.out; have hnb37 := NB373_367.out; have hnc37 := NB367_373.out; obtain ⟨hcz38_0, hcz38_1, hfz38_0, hfz38_1⟩ := sqc2 BK373; obtain ⟨Ao39, co39, eo39⟩ := Kd.R_slice HO371.out; subst eo39))
      (try simp only [Act.put, List.setIfInBounds_toArray, List.set_cons_zero, List.set_cons_succ])
      go_cut [37] (fun v37 wc => ∃ (kq : Nat) (x37_22 : Bool), v37 = .bool x37_22 ∧ Aside0 (laws_FnGapsBack.j0 kq l0 x37_22 t362 t363 = some true) ∧ Aside0 (kq ≤ k) ∧ Aside0 (Kd.R (Kd.int .i64) 3 wc w.heap.size (fun k_ => some k_ ≠ ((.slice Ao32 t363.length co32) : Value).ownBlock ∧ some k_ ≠ ((.slice Ao39 t369.length co39) : Value).ownBlock) (.slice Ao27 t358.length co27) t358) ∧ Aside0 (Kd.R (Kd.int .i64) 3 wc w.heap.size (fun k_ => some k_ ≠ ((.slice Ao27 t358.length co27) : Value).ownBlock ∧ some k_ ≠ ((.slice Ao39 t369.length co39) : Value).ownBlock) (.slice Ao32 t363.length co32) t363) ∧ Aside0 (Kd.R (Kd.int .i64) 3 wc w.heap.size (fun k_ => some k_ ≠ ((.slice Ao27 t358.length co27) : Value).ownBlock ∧ some k_ ≠ ((.slice Ao32 t363.length co32) : Value).ownBlock) (.slice Ao39 t369.length co39) t369) ∧ Aside0 (wc.heap[gb361]? = some (.cells #[.int .i64 t357, (.slice Ao27 t358.length co27)] 41 (0, 0))) ∧ Aside0 (wc.heap[gb367]? = some (.cells #[.int .i64 t362, (.slice Ao32 t363.length co32)] 41 (0, 0))) ∧ Aside0 (wc.heap[gb373]? = some (.cells #[.int .i64 t368, (.slice Ao39 t369.length co39)] 41 (0, 0))) ∧ Aside0 (Below w.heap.size w wc))
      case first =>
        as_aux_lemma =>
        have H := HC23.out
        clear HC23
        by_cases c40 : t366 = true
        · subst c40
          have H1 : (laws_FnGapsBack.j0 k l0 (decide (t362 < 1)) t362 t363) = some true := by rw [if_pos rfl] at H; exact H
          clear H
          have H := H1
          clear H1
          have H' := Aside0.mk H
          clear H
          have hnb41 := NB367_361.out
          have hnc41 := NB361_367.out
          have hnb42 := NB367_373.out
          have hnc42 := NB373_367.out
          obtain ⟨hcz43_0, hcz43_1, hfz43_0, hfz43_1⟩ := sqc2 BK367
          go_wp2
          go_meet
          case rel => exact ⟨_, (decide (t362 < 1)), (by first | rfl | (simp; done) | (simp [*]; done)), H', ⟨by first | omega | exact Nat.le_refl _⟩, ⟨by (with_reducible repeat (first | apply Kd.R_alloc | apply Kd.R_drewN | apply Kd.R_drew)); exact Kd.R_mono (Kd.R_far (p := ⟨gb373, 1, none⟩) (Kd.R_far (p := ⟨gb373, 0, none⟩) (Kd.R_types HO360.out BK373.out (by decide)) (fun _ hk => hk.2) (.int .i64 t368)) (fun _ hk => hk.2) (.slice Ao39 t369.length co39)) (fun _ hk => ⟨hk.1.1.2, hk.1.2⟩)⟩, ⟨by (with_reducible repeat (first | apply Kd.R_alloc | apply Kd.R_drewN | apply Kd.R_drew)); exact Kd.R_mono (Kd.R_far (p := ⟨gb373, 1, none⟩) (Kd.R_far (p := ⟨gb373, 0, none⟩) (Kd.R_types HO365.out BK373.out (by decide)) (fun _ hk => hk.2) (.int .i64 t368)) (fun _ hk => hk.2) (.slice Ao39 t369.length co39)) (fun _ hk => ⟨hk.1.1.2, hk.1.2⟩)⟩, ⟨by (with_reducible repeat (first | apply Kd.R_alloc | apply Kd.R_drewN | apply Kd.R_drew)); exact Kd.R_mono (Kd.R_far (p := ⟨gb373, 1, none⟩) (Kd.R_far (p := ⟨gb373, 0, none⟩) (Kd.R_types HO371.out BK373.out (by decide)) (fun _ hk => hk.2) (.int .i64 t368)) (fun _ hk => hk.2) (.slice Ao39 t369.length co39)) (fun _ hk => ⟨hk.1.1.2, hk.1.2⟩)⟩, ⟨by refine sqt ?_; refine blk_far ?_ NB361_373.out _; refine sqt ?_; refine blk_far ?_ NB361_373.out _; refine sqt ?_; exact BK361.out⟩, ⟨by refine sqt ?_; refine blk_far ?_ NB367_373.out _; refine sqt ?_; refine blk_far ?_ NB367_373.out _; refine sqt ?_; exact BK367.out⟩, ⟨by refine sqt ?_; refine blk_put (cs := #[.int .i64 t368, .slice none 0 0]) ?_ 1 _ rfl; refine sqt ?_; refine blk_put (cs := #[.int .i64 0, .slice none 0 0]) ?_ 0 _ rfl; refine sqt ?_; exact BK373.out⟩, sqh HB⟩
        · replace c40 := Bool.eq_false_iff.mpr c40
          subst c40
          have H1 : (laws_FnGapsBack.j0 k l0 true t362 t363) = some true := by rw [if_neg (show ¬ (false = true) by decide)] at H; exact H
          clear H
          have H := H1
          clear H1
          have H' := Aside0.mk H
          clear H
          go_wp2
          go_meet
          case rel => exact ⟨_, (true), (by first | rfl | (simp; done) | (simp [*]; done)), H', ⟨by first | omega | exact Nat.le_refl _⟩, ⟨by (with_reducible repeat (first | apply Kd.R_alloc | apply Kd.R_drewN | apply Kd.R_drew)); exact Kd.R_mono (Kd.R_far (p := ⟨gb373, 1, none⟩) (Kd.R_far (p := ⟨gb373, 0, none⟩) (Kd.R_types HO360.out BK373.out (by decide)) (fun _ hk => hk.2) (.int .i64 t368)) (fun _ hk => hk.2) (.slice Ao39 t369.length co39)) (fun _ hk => ⟨hk.1.1.2, hk.1.2⟩)⟩, ⟨by (with_reducible repeat (first | apply Kd.R_alloc | apply Kd.R_drewN | apply Kd.R_drew)); exact Kd.R_mono (Kd.R_far (p := ⟨gb373, 1, none⟩) (Kd.R_far (p := ⟨gb373, 0, none⟩) (Kd.R_types HO365.out BK373.out (by decide)) (fun _ hk => hk.2) (.int .i64 t368)) (fun _ hk => hk.2) (.slice Ao39 t369.length co39)) (fun _ hk => ⟨hk.1.1.2, hk.1.2⟩)⟩, ⟨by (with_reducible repeat (first | apply Kd.R_alloc | apply Kd.R_drewN | apply Kd.R_drew)); exact Kd.R_mono (Kd.R_far (p := ⟨gb373, 1, none⟩) (Kd.R_far (p := ⟨gb373, 0, none⟩) (Kd.R_types HO371.out BK373.out (by decide)) (fun _ hk => hk.2) (.int .i64 t368)) (fun _ hk => hk.2) (.slice Ao39 t369.length co39)) (fun _ hk => ⟨hk.1.1.2, hk.1.2⟩)⟩, ⟨by refine sqt ?_; refine blk_far ?_ NB361_373.out _; refine sqt ?_; refine blk_far ?_ NB361_373.out _; refine sqt ?_; exact BK361.out⟩, ⟨by refine sqt ?_; refine blk_far ?_ NB367_373.out _; refine sqt ?_; refine blk_far ?_ NB367_373.out _; refine sqt ?_; exact BK367.out⟩, ⟨by refine sqt ?_; refine blk_put (cs := #[.int .i64 t368, .slice none 0 0]) ?_ 1 _ rfl; refine sqt ?_; refine blk_put (cs := #[.int .i64 0, .slice none 0 0]) ?_ 0 _ rfl; refine sqt ?_; exact BK373.out⟩, sqh HB⟩
      case rest =>
        as_aux_lemma =>
        clear HC23
        try clear c2
        try clear c2b0
        try clear c2b1
        try clear c6
        try clear c6b0
        try clear c6b1
        try clear c6b2
        try clear hcz14_0
        try clear hcz14_1
        try clear hcz16_0
        try clear hcz16_1
        try clear hcz21_0
        try clear hcz21_1
        try clear hcz26_0
        try clear hcz26_1
        try clear hcz31_0
        try clear hcz31_1
        try clear hcz33_0
        try clear hcz33_1
        try clear hcz38_0
        try clear hcz38_1
        try clear hcz9_0
        try clear hcz9_1
        try clear hfz14_0
        try clear hfz14_1
        try clear hfz16_0
        try clear hfz16_1
        try clear hfz21_0
        try clear hfz21_1
        try clear hfz26_0
        try clear hfz26_1
        try clear hfz31_0
        try clear hfz31_1
        try clear hfz33_0
        try clear hfz33_1
        try clear hfz38_0
        try clear hfz38_1
        try clear hfz9_0
        try clear hfz9_1
        obtain ⟨kq, x37_22, rfl, HA, HJ22, HO_362001, HO_368001, HO_374001, BK361, BK367, BK373, HB⟩ := hcut
        cases kq with
        | zero => exact absurd HA.out (by simp [laws_FnGapsBack.j0])
        | succ kj22 =>
          have H := HA.out
          clear HA
          simp only [laws_FnGapsBack.j0] at H
          by_cases c44 : x37_22 = true
          · subst c44
            have H1 : (some true) = some true := rfl
            clear H
            have H := H1
            clear H1
            clear H
            go_wp2
            go_ret
            exact sqe HB
          · replace c44 := Bool.eq_false_iff.mpr c44
            subst c44
            have H1 : ((laws_at.f l0 4).bind fun t374 => (if t362 = 0 then (none) else ((laws_at.f l0 5).bind fun t375 => (laws_FnGapsBack.l0 kj22 (wrap64 (1 + (Int.tmod (wrap64 (t374)) t362))) (wrap64 ((Int.tmod (wrap64 (t375)) 2001) - 1000)) 0 t362 t363)))) = some true := by rw [if_neg (show ¬ (false = true) by decide)] at H; exact H
            clear H
            have H := H1
            clear H1
            replace H := Option.bind_eq_some_iff.mp H
            obtain ⟨t374, A450, H⟩ := H
            replace H : (if t362 = 0 then (none) else ((laws_at.f l0 5).bind fun t375 => (laws_FnGapsBack.l0 kj22 (wrap64 (1 + (Int.tmod (wrap64 (t374)) t362))) (wrap64 ((Int.tmod (wrap64 (t375)) 2001) - 1000)) 0 t362 t363))) = some true := H
            have A45 := Aside0.mk A450
            clear A450
            by_cases c46 : t362 = 0
            · rw [if_pos c46] at H
              exact absurd H (by simp)
            · rw [if_neg c46] at H
              have c46b0 : (t362 == 0) = false := beq_eq_false_iff_ne.mpr c46
              have c46b1 : (t362 != 0) = true := bne_iff_ne.mpr c46
              replace H := Option.bind_eq_some_iff.mp H
              obtain ⟨t375, A470, H⟩ := H
              replace H : (laws_FnGapsBack.l0 kj22 (wrap64 (1 + (Int.tmod (wrap64 (t374)) t362))) (wrap64 ((Int.tmod (wrap64 (t375)) 2001) - 1000)) 0 t362 t363) = some true := H
              have A47 := Aside0.mk A470
              clear A470
              have H' := Aside0.mk H
              clear H
              try go_wp2
              replace HO_362001 := Aside0.mk (Kd.R_drew HO_362001.out)
              replace HO_368001 := Aside0.mk (Kd.R_drew HO_368001.out)
              replace HO_374001 := Aside0.mk (Kd.R_drew HO_374001.out)
              replace BK361 := Aside0.mk (blk_drew BK361.out)
              replace BK367 := Aside0.mk (blk_drew BK367.out)
              replace BK373 := Aside0.mk (blk_drew BK373.out)
              replace HB := Aside0.mk (below_drew1 HB.out)
              refine start_ (n := 8) (S := fun w' => w'.cell? ⟨gb367, 0, none⟩ = some (.int .i64 t362) ∧ w'.cell? ⟨gb367, 1, none⟩ = some (.slice Ao32 t363.length co32)) (ds := []) #[false, false, false, false, false, false, false, false] (by kernel_rfl) rfl rfl ⟨(blk_cell BK367.out 0).trans rfl, (blk_cell BK367.out 1).trans rfl⟩ (fun hHeld => ?_); refine with_tabW laws_FnGapsBack.tab10 laws_FnGapsBack.bits10 (fun HT_ HW_ => ?_)
              generalize wc.drew = w48 at HO_362001 HO_368001 HO_374001 BK361 BK367 BK373 HB hHeld ⊢
              refine sqp HT_ 0 38 ?_
              refine sqp HT_ 3 41 ?_
              refine sqw HT_ HW_ 4 42 hHeld ?_
              refine sqo HT_ 1 39 (fun K hK => ?_)
              refine sqG Try.func33 #[.slice A0 l0.length c0, .int .i64 4] ?_
              with_reducible refine (laws_at.calls _ _ l0 4 t374 _ ?side1 ?side2 A45.out).mono ?_
              (case side1 => repeat (first | exact (Kd.C_below HR0.out HB.out) | (with_reducible refine Kd.C_alloc ?_ _) | (with_reducible refine Kd.C_drewN ?_ _) | (with_reducible refine Kd.C_drew ?_)))
              (case side2 => exact HC0.out)
              rintro e w' ⟨rfl, ⟨nd, rfl⟩⟩
              refine ⟨_, rfl, ?_⟩
              refine hK.out _ _ sqz (fun hHeld => ?_)
              clear hK K
              refine sqnm ?_
              refine sqp HT_ 2 40 ?_
              refine sqp HT_ 5 43 ?_
              refine sqp HT_ 6 44 ?_
              refine sqp HT_ 7 8 ?_
              refine done_ (done_of HT_.out (by kernel_rfl)) ?_
              try go_wp2_with (first | ((with_reducible refine gate_callee (f := 33) rfl ?_); refine sqL (some 46) Try.func33 #[.slice A0 l0.length c0, .int .i64 5] ?_; (with_reducible refine (laws_at.calls _ _ l0 5 t375 _ ?side1 ?side2 A47.out).mono ?_); (case side1 => repeat (first | exact (Kd.C_below HR0.out (by repeat (first | (with_reducible first | exact HB.out | apply below_alloc | apply pw_below_drewN | apply below_drew1 | refine below_set ?_ GE361.out | refine below_set ?_ GE367.out | refine below_set ?_ GE373.out) | exact HB.out))) | (with_reducible refine Kd.C_alloc ?_ _) | (with_reducible refine Kd.C_drewN ?_ _) | (with_reducible refine Kd.C_drew ?_))); (case side2 => exact HC0.out); rintro e w' ⟨rfl, ⟨nd, rfl⟩⟩; refine ⟨_, rfl, ?_⟩))
              go_loopg [10] kj22 (fun kq v10 w' => ∃ (x10_2 : Int), v10 = .int .i64 x10_2 ∧ Aside0 (laws_FnGapsBack.l0 kq (wrap64 (1 + (Int.tmod (wrap64 (t374)) t362))) (wrap64 ((Int.tmod (wrap64 (t375)) 2001) - 1000)) x10_2 t362 t363 = some true) ∧ Aside0 (kq ≤ kj22) ∧ Aside0 (Kd.R (Kd.int .i64) 3 w' w.heap.size (fun k_ => some k_ ≠ ((.slice Ao32 t363.length co32) : Value).ownBlock ∧ some k_ ≠ ((.slice Ao39 t369.length co39) : Value).ownBlock) (.slice Ao27 t358.length co27) t358) ∧ Aside0 (Kd.R (Kd.int .i64) 3 w' w.heap.size (fun k_ => some k_ ≠ ((.slice Ao27 t358.length co27) : Value).ownBlock ∧ some k_ ≠ ((.slice Ao39 t369.length co39) : Value).ownBlock) (.slice Ao32 t363.length co32) t363) ∧ Aside0 (Kd.R (Kd.int .i64) 3 w' w.heap.size (fun k_ => some k_ ≠ ((.slice Ao27 t358.length co27) : Value).ownBlock ∧ some k_ ≠ ((.slice Ao32 t363.length co32) : Value).ownBlock) (.slice Ao39 t369.length co39) t369) ∧ Aside0 (w'.heap[gb361]? = some (.cells #[.int .i64 t357, (.slice Ao27 t358.length co27)] 41 (0, 0))) ∧ Aside0 (w'.heap[gb367]? = some (.cells #[.int .i64 t362, (.slice Ao32 t363.length co32)] 41 (0, 0))) ∧ Aside0 (w'.heap[gb373]? = some (.cells #[.int .i64 t368, (.slice Ao39 t369.length co39)] 41 (0, 0))) ∧ Aside0 (Below w.heap.size w w'))
              case atStart => exact ⟨(0), (by first | rfl | (simp; done) | (simp [*]; done)), H', ⟨Nat.le_refl _⟩, ⟨by (with_reducible repeat (first | apply Kd.R_alloc | apply Kd.R_drewN | apply Kd.R_drew)); exact HO_362001.out⟩, ⟨by (with_reducible repeat (first | apply Kd.R_alloc | apply Kd.R_drewN | apply Kd.R_drew)); exact HO_368001.out⟩, ⟨by (with_reducible repeat (first | apply Kd.R_alloc | apply Kd.R_drewN | apply Kd.R_drew)); exact HO_374001.out⟩, sqk BK361, sqk BK367, sqk BK373, sqh HB⟩
              case round =>
                clear H'
                try clear c1
                try clear c2
                try clear c2b0
                try clear c2b1
                try clear p2
                try clear c3
                try clear c4
                try clear c5
                try clear c6
                try clear c6b0
                try clear c6b1
                try clear c6b2
                try clear p6
                try clear c13
                try clear c19
                try clear c20
                try clear c25
                try clear c26
                try clear c30
                try clear c32
                try clear c33
                try clear c36
                try clear c37
                try clear c40
                try clear c41
                try clear c42
                try clear c44
                try clear c46
                try clear c46b0
                try clear c46b1
                try clear hcz14_0
                try clear hcz14_1
                try clear hcz16_0
                try clear hcz16_1
                try clear hcz21_0
                try clear hcz21_1
                try clear hcz26_0
                try clear hcz26_1
                try clear hcz31_0
                try clear hcz31_1
                try clear hcz33_0
                try clear hcz33_1
                try clear hcz38_0
                try clear hcz38_1
                try clear hcz43_0
                try clear hcz43_1
                try clear hcz9_0
                try clear hcz9_1
                try clear hfz14_0
                try clear hfz14_1
                try clear hfz16_0
                try clear hfz16_1
                try clear hfz21_0
                try clear hfz21_1
                try clear hfz26_0
                try clear hfz26_1
                try clear hfz31_0
                try clear hfz31_1
                try clear hfz33_0
                try clear hfz33_1
                try clear hfz38_0
                try clear hfz38_1
                try clear hfz43_0
                try clear hfz43_1
                try clear hfz9_0
                try clear hfz9_1
                try clear p2
                obtain ⟨x10_2, rfl, HA, HK2, HO_362001, HO_368001, HO_374001, BK361, BK367, BK373, HB⟩ := hrel
                cases gk with
                | zero => exact absurd HA.out (by simp [laws_FnGapsBack.l0])
                | succ k2 =>
                  have H := HA.out
                  clear HA
                  simp only [laws_FnGapsBack.l0] at H
                  by_cases c49 : x10_2 < (t363.length : Int)
                  · rw [if_pos c49] at H
                    have c49b0 : decide (x10_2 < (t363.length : Int)) = true := decide_eq_true c49
                    clear c49
                    by_cases c50 : 0 ≤ x10_2
                    · rw [if_pos c50] at H
                      have c50b0 : decide (0 ≤ x10_2) = true := decide_eq_true c50
                      clear c50
                      by_cases c51 : (rd t363 x10_2) = 1099511627776
                      · rw [if_pos c51] at H
                        have c51b0 : ((rd t363 x10_2) == 1099511627776) = true := beq_iff_eq.mpr c51
                        have c51b1 : ((rd t363 x10_2) != 1099511627776) = false := bne_eq_false_iff_eq.mpr c51
                        clear c51
                        have H' := Aside0.mk H
                        clear H
                        have hnb52 := NB367_361.out
                        have hnc52 := NB361_367.out
                        have hnb53 := NB367_373.out
                        have hnc53 := NB373_367.out
                        obtain ⟨hcz54_0, hcz54_1, hfz54_0, hfz54_1⟩ := sqc2 BK367
                        have p376 : 0 ≤ (x10_2 : Int) := of_decide_eq_true (by first | (with_reducible assumption) | assumption)
                        have q376 : x10_2 < (t363.length : Int) := of_decide_eq_true (by first | (with_reducible assumption) | assumption)
                        obtain ⟨ad376, e376, hx376_0⟩ := Kd.at_int (Kd.R_reads' HO_368001.out).2.2 x10_2 p376 q376
                        cases e376
                        replace p376 := eq_true p376
                        replace q376 := eq_true q376
                        go_wp2
                        go_roundg k2
                        case measure => have := HJ22.out; have := HK2.out; omega
                        case rel => exact ⟨(wrap64 (x10_2 + 1)), (by first | rfl | (simp; done) | (simp [*]; done)), H', ⟨by have := HJ22.out; have := HK2.out; omega⟩, ⟨by (with_reducible repeat (first | apply Kd.R_alloc | apply Kd.R_drewN | apply Kd.R_drew)); exact HO_362001.out⟩, ⟨by (with_reducible repeat (first | apply Kd.R_alloc | apply Kd.R_drewN | apply Kd.R_drew)); exact HO_368001.out⟩, ⟨by (with_reducible repeat (first | apply Kd.R_alloc | apply Kd.R_drewN | apply Kd.R_drew)); exact HO_374001.out⟩, sqk BK361, sqk BK367, sqk BK373, sqh HB⟩
                      · rw [if_neg c51] at H
                        have c51b0 : ((rd t363 x10_2) == 1099511627776) = false := beq_eq_false_iff_ne.mpr c51
                        have c51b1 : ((rd t363 x10_2) != 1099511627776) = true := bne_iff_ne.mpr c51
                        by_cases c55 : (rd t363 x10_2) > 4294967296
                        · rw [if_pos c55] at H
                          have c55b0 : decide (4294967296 < (rd t363 x10_2)) = true := decide_eq_true c55
                          clear c55
                          (first | (obtain rfl := Option.some.inj H) | clear H)
                          have hnb56 := NB367_361.out
                          have hnc56 := NB361_367.out
                          have hnb57 := NB367_373.out
                          have hnc57 := NB373_367.out
                          obtain ⟨hcz58_0, hcz58_1, hfz58_0, hfz58_1⟩ := sqc2 BK367
                          have p376 : 0 ≤ (x10_2 : Int) := of_decide_eq_true (by first | (with_reducible assumption) | assumption)
                          have q376 : x10_2 < (t363.length : Int) := of_decide_eq_true (by first | (with_reducible assumption) | assumption)
                          obtain ⟨ad376, e376, hx376_0⟩ := Kd.at_int (Kd.R_reads' HO_368001.out).2.2 x10_2 p376 q376
                          cases e376
                          replace p376 := eq_true p376
                          replace q376 := eq_true q376
                          have p377 : 0 ≤ (x10_2 : Int) := of_decide_eq_true (by first | (with_reducible assumption) | assumption)
                          have q377 : x10_2 < (t363.length : Int) := of_decide_eq_true (by first | (with_reducible assumption) | assumption)
                          obtain ⟨ad377, e377, hx377_0⟩ := Kd.at_int (Kd.R_reads' HO_368001.out).2.2 x10_2 p377 q377
                          obtain rfl : ad376 = ad377 := (by injection e377)
                          replace p377 := eq_true p377
                          replace q377 := eq_true q377
                          go_wp2
                          go_ret
                          exact sqe HB
                        · rw [if_neg c55] at H
                          have c55b0 : decide (4294967296 < (rd t363 x10_2)) = false := decide_eq_false c55
                          clear c55
                          have H' := Aside0.mk H
                          clear H
                          have hnb59 := NB367_361.out
                          have hnc59 := NB361_367.out
                          have hnb60 := NB367_373.out
                          have hnc60 := NB373_367.out
                          obtain ⟨hcz61_0, hcz61_1, hfz61_0, hfz61_1⟩ := sqc2 BK367
                          have p376 : 0 ≤ (x10_2 : Int) := of_decide_eq_true (by first | (with_reducible assumption) | assumption)
                          have q376 : x10_2 < (t363.length : Int) := of_decide_eq_true (by first | (with_reducible assumption) | assumption)
                          obtain ⟨ad376, e376, hx376_0⟩ := Kd.at_int (Kd.R_reads' HO_368001.out).2.2 x10_2 p376 q376
                          cases e376
                          replace p376 := eq_true p376
                          replace q376 := eq_true q376
                          have p377 : 0 ≤ (x10_2 : Int) := of_decide_eq_true (by first | (with_reducible assumption) | assumption)
                          have q377 : x10_2 < (t363.length : Int) := of_decide_eq_true (by first | (with_reducible assumption) | assumption)
                          obtain ⟨ad377, e377, hx377_0⟩ := Kd.at_int (Kd.R_reads' HO_368001.out).2.2 x10_2 p377 q377
                          obtain rfl : ad376 = ad377 := (by injection e377)
                          replace p377 := eq_true p377
                          replace q377 := eq_true q377
                          go_wp2
                          go_roundg k2
                          case measure => have := HJ22.out; have := HK2.out; omega
                          case rel => exact ⟨(wrap64 (x10_2 + 1)), (by first | rfl | (simp; done) | (simp [*]; done)), H', ⟨by have := HJ22.out; have := HK2.out; omega⟩, ⟨by (with_reducible repeat (first | apply Kd.R_alloc | apply Kd.R_drewN | apply Kd.R_drew)); exact HO_362001.out⟩, ⟨by (with_reducible repeat (first | apply Kd.R_alloc | apply Kd.R_drewN | apply Kd.R_drew)); exact HO_368001.out⟩, ⟨by (with_reducible repeat (first | apply Kd.R_alloc | apply Kd.R_drewN | apply Kd.R_drew)); exact HO_374001.out⟩, sqk BK361, sqk BK367, sqk BK373, sqh HB⟩
                    · rw [if_neg c50] at H
                      exact absurd H (by simp)
                  · rw [if_neg c49] at H
                    have c49b0 : decide (x10_2 < (t363.length : Int)) = false := decide_eq_false c49
                    clear c49
                    replace H := Option.bind_eq_some_iff.mp H
                    obtain ⟨⟨t378, t379⟩, A620, H⟩ := H
                    replace H : ((impl_GapsMove.f k2 t378 t379 (wrap64 (1 + (Int.tmod (wrap64 (t374)) t362))) (wrap64 (1 + (Int.tmod (wrap64 (t374)) t362))) (wrap64 (-(wrap64 ((Int.tmod (wrap64 (t375)) 2001) - 1000))))).bind fun bt383 => ((laws_sameInts.f k2 bt383.2 t363).bind fun t388 => (if t388 = true then ((spec_GapsMove.f k2 t362 t363 (wrap64 (1 + (Int.tmod (wrap64 (t374)) t362))) (wrap64 (1 + (Int.tmod (wrap64 (t374)) t362))) (wrap64 ((Int.tmod (wrap64 (t375)) 2001) - 1000))).bind fun bt389 => ((laws_sameInts.f k2 t379 bt389.2).bind fun t393 => (some t393))) else (some false)))) = some true := H
                    have A62 := Aside0.mk A620
                    clear A620
                    replace H := Option.bind_eq_some_iff.mp H
                    obtain ⟨⟨t383, t384⟩, A630, H⟩ := H
                    replace H : ((laws_sameInts.f k2 t384 t363).bind fun t388 => (if t388 = true then ((spec_GapsMove.f k2 t362 t363 (wrap64 (1 + (Int.tmod (wrap64 (t374)) t362))) (wrap64 (1 + (Int.tmod (wrap64 (t374)) t362))) (wrap64 ((Int.tmod (wrap64 (t375)) 2001) - 1000))).bind fun bt389 => ((laws_sameInts.f k2 t379 bt389.2).bind fun t393 => (some t393))) else (some false))) = some true := H
                    have A63 := Aside0.mk A630
                    clear A630
                    replace H := Option.bind_eq_some_iff.mp H
                    obtain ⟨t388, A640, H⟩ := H
                    replace H : (if t388 = true then ((spec_GapsMove.f k2 t362 t363 (wrap64 (1 + (Int.tmod (wrap64 (t374)) t362))) (wrap64 (1 + (Int.tmod (wrap64 (t374)) t362))) (wrap64 ((Int.tmod (wrap64 (t375)) 2001) - 1000))).bind fun bt389 => ((laws_sameInts.f k2 t379 bt389.2).bind fun t393 => (some t393))) else (some false)) = some true := H
                    have A64 := Aside0.mk A640
                    clear A640
                    by_cases c65 : t388 = true
                    · subst c65
                      have H1 : ((spec_GapsMove.f k2 t362 t363 (wrap64 (1 + (Int.tmod (wrap64 (t374)) t362))) (wrap64 (1 + (Int.tmod (wrap64 (t374)) t362))) (wrap64 ((Int.tmod (wrap64 (t375)) 2001) - 1000))).bind fun bt389 => ((laws_sameInts.f k2 t379 bt389.2).bind fun t393 => (some t393))) = some true := by rw [if_pos rfl] at H; exact H
                      clear H
                      have H := H1
                      clear H1
                      replace H := Option.bind_eq_some_iff.mp H
                      obtain ⟨⟨t389, t390⟩, A660, H⟩ := H
                      replace H : ((laws_sameInts.f k2 t379 t390).bind fun t393 => (some t393)) = some true := H
                      have A66 := Aside0.mk A660
                      clear A660
                      replace H := Option.bind_eq_some_iff.mp H
                      obtain ⟨t393, A670, H⟩ := H
                      replace H : (some t393) = some true := H
                      have A67 := Aside0.mk A670
                      clear A670
                      (first | (obtain rfl := Option.some.inj H) | clear H)
                      have hnb68 := NB367_361.out
                      have hnc68 := NB361_367.out
                      have hnb69 := NB367_373.out
                      have hnc69 := NB373_367.out
                      obtain ⟨hcz70_0, hcz70_1, hfz70_0, hfz70_1⟩ := sqc2 BK367
                      try go_wp2_with (first | ((with_reducible refine gate_callee (f := 34) rfl ?_); refine sqL (some 75) Try.func34 #[.agg #[.int .i64 t362, .slice Ao32 t363.length co32], .int .i64 (wrap64 (1 + (Int.tmod (wrap64 (t374)) t362))), .int .i64 (wrap64 (1 + (Int.tmod (wrap64 (t374)) t362))), .int .i64 (wrap64 ((Int.tmod (wrap64 (t375)) 2001) - 1000))] ?_; (with_reducible refine (impl_GapsMove.calls k2 t362 _ _ t363 (wrap64 (1 + (Int.tmod (wrap64 (t374)) t362))) (wrap64 (1 + (Int.tmod (wrap64 (t374)) t362))) (wrap64 ((Int.tmod (wrap64 (t375)) 2001) - 1000)) t378 t379 _ ?side1 ?side2 A62.out).mono ?_); (case side1 => repeat (first | exact (Kd.R_reads' HO_368001.out).2.2 | (with_reducible refine Kd.C_alloc ?_ _) | (with_reducible refine Kd.C_drewN ?_ _) | (with_reducible refine Kd.C_drew ?_))); (case side2 => exact (Kd.R_reads' HO_368001.out).2.1); rintro e w71 ⟨v380, rfl, ho0, hb⟩; refine ⟨_, rfl, ?_⟩; have n0_ := Aside0.mk (Kd.R_elder' (by (with_reducible repeat (first | apply Kd.R_alloc | apply Kd.R_drewN | apply Kd.R_drew)); exact HO_362001.out) (Kd.R_base ho0) hb); have n1_ := Aside0.mk (Kd.R_elder' (by (with_reducible repeat (first | apply Kd.R_alloc | apply Kd.R_drewN | apply Kd.R_drew)); exact HO_368001.out) (Kd.R_base ho0) hb); have n2_ := Aside0.mk (Kd.R_elder' (by (with_reducible repeat (first | apply Kd.R_alloc | apply Kd.R_drewN | apply Kd.R_drew)); exact HO_374001.out) (Kd.R_base ho0) hb); have n3_ := Aside0.mk (Kd.R_lower (Kd.R_new' (Kd.R_new' (Kd.R_new' ho0 (Kd.R_lt (by (with_reducible repeat (first | apply Kd.R_alloc | apply Kd.R_drewN | apply Kd.R_drew)); exact HO_362001.out))) (Kd.R_lt (by (with_reducible repeat (first | apply Kd.R_alloc | apply Kd.R_drewN | apply Kd.R_drew)); exact HO_368001.out))) (Kd.R_lt (by (with_reducible repeat (first | apply Kd.R_alloc | apply Kd.R_drewN | apply Kd.R_drew)); exact HO_374001.out))) (below_size (by repeat (first | (with_reducible first | exact HB.out | apply below_alloc | apply pw_below_drewN | apply below_drew1 | refine below_set ?_ GE361.out | refine below_set ?_ GE367.out | refine below_set ?_ GE373.out) | exact HB.out)))); have n4_ := sqb BK361 hb; have n5_ := sqb BK367 hb; have n6_ := sqb BK373 hb; have n7_ := sqs HB hb; clear HO_362001; clear HO_368001; clear HO_374001; clear BK361; clear BK367; clear BK373; clear HB; have HO_362001 := n0_; have HO_368001 := n1_; have HO_374001 := n2_; have HO381 := n3_; have BK361 := n4_; have BK367 := n5_; have BK373 := n6_; have HB := n7_; clear n0_ n1_ n2_ n3_ n4_ n5_ n6_ n7_; (try clear hb); (try clear hb2); (try clear hk); (try clear hi); (try clear ho0)) | ((with_reducible refine gate_dst (N := 11) rfl ?_); refine sqx 11 #[.int .i64 0, .slice none 0 0] 41 ?_; intro gb382 hg w72 hbox hb; have n0_ := Aside0.mk (Kd.R_below (by (with_reducible repeat (first | apply Kd.R_alloc | apply Kd.R_drewN | apply Kd.R_drew)); exact HO_362001.out) hb); have n1_ := Aside0.mk (Kd.R_below (by (with_reducible repeat (first | apply Kd.R_alloc | apply Kd.R_drewN | apply Kd.R_drew)); exact HO_368001.out) hb); have n2_ := Aside0.mk (Kd.R_below (by (with_reducible repeat (first | apply Kd.R_alloc | apply Kd.R_drewN | apply Kd.R_drew)); exact HO_374001.out) hb); have n3_ := Aside0.mk (Kd.R_below (by (with_reducible repeat (first | apply Kd.R_alloc | apply Kd.R_drewN | apply Kd.R_drew)); exact HO381.out) hb); have n4_ := sqb BK361 hb; have n5_ := sqb BK367 hb; have n6_ := sqb BK373 hb; have n7_ := sqs HB hb; have n8_ := Aside0.mk (hbox); have n9_ := sqg HB hg; have n10_ := sqg HB hg; have n11_ := sqn BK361 hg; have n12_ := sqm BK361 hg; have n13_ := sqn BK367 hg; have n14_ := sqm BK367 hg; have n15_ := sqn BK373 hg; have n16_ := sqm BK373 hg; clear HO_362001; clear HO_368001; clear HO_374001; clear HO381; clear BK361; clear BK367; clear BK373; clear HB; have HO_362001 := n0_; have HO_368001 := n1_; have HO_374001 := n2_; have HO381 := n3_; have BK361 := n4_; have BK367 := n5_; have BK373 := n6_; have HB := n7_; have BK382 := n8_; have GW382 := n9_; have GE382 := n10_; have NB361_382 := n11_; have NB382_361 := n12_; have NB367_382 := n13_; have NB382_367 := n14_; have NB373_382 := n15_; have NB382_373 := n16_; clear n0_ n1_ n2_ n3_ n4_ n5_ n6_ n7_ n8_ n9_ n10_ n11_ n12_ n13_ n14_ n15_ n16_; clear hb hbox hg; have hnb73 := NB382_361.out; have hnc73 := NB361_382.out; have hnb74 := NB382_367.out; have hnc74 := NB367_382.out; have hnb75 := NB382_373.out; have hnc75 := NB373_382.out; obtain ⟨hcz76_0, hcz76_1, hfz76_0, hfz76_1⟩ := sqc2 BK382; obtain ⟨Ao77, co77, eo77⟩ := Kd.R_slice HO381.out; subst eo77) | ((with_reducible refine gate_callee (f := 34) rfl ?_); refine sqL (some 81) Try.func34 #[.agg #[.int .i64 t378, .slice Ao77 t379.length co77], .int .i64 (wrap64 (1 + (Int.tmod (wrap64 (t374)) t362))), .int .i64 (wrap64 (1 + (Int.tmod (wrap64 (t374)) t362))), .int .i64 (wrap64 (-(wrap64 ((Int.tmod (wrap64 (t375)) 2001) - 1000))))] ?_; (with_reducible refine (impl_GapsMove.calls k2 t378 _ _ t379 (wrap64 (1 + (Int.tmod (wrap64 (t374)) t362))) (wrap64 (1 + (Int.tmod (wrap64 (t374)) t362))) (wrap64 (-(wrap64 ((Int.tmod (wrap64 (t375)) 2001) - 1000)))) t383 t384 _ ?side1 ?side2 A63.out).mono ?_); (case side1 => refine (Kd.R_reads' (e := 3) (base := w.heap.size) (ok := fun k_ => (((True ∧ some k_ ≠ (.slice Ao27 t358.length co27 : Value).ownBlock) ∧ some k_ ≠ (.slice Ao32 t363.length co32 : Value).ownBlock) ∧ some k_ ≠ (.slice Ao39 t369.length co39 : Value).ownBlock)) (n := t379.length) (c := co77) ?_).2.2; exact (by (with_reducible repeat (first | apply Kd.R_alloc | apply Kd.R_drewN | apply Kd.R_drew)); exact (Kd.R_mono (Kd.R_far (p := ⟨gb382, 1, none⟩) (Kd.R_far (p := ⟨gb382, 0, none⟩) (Kd.R_types HO381.out BK382.out (by decide)) (fun _ hk => hk.2) (.int .i64 t378)) (fun _ hk => hk.2) (.slice Ao77 t379.length co77)) (fun _ h_ => h_.1)))); (case side2 => exact (Kd.R_reads' HO381.out).2.1); rintro e w78 ⟨v385, rfl, ho0, hb⟩; refine ⟨_, rfl, ?_⟩; have n0_ := Aside0.mk (Kd.R_elder' (by (with_reducible repeat (first | apply Kd.R_alloc | apply Kd.R_drewN | apply Kd.R_drew)); exact (Kd.R_mono (Kd.R_far (p := ⟨gb382, 1, none⟩) (Kd.R_far (p := ⟨gb382, 0, none⟩) (Kd.R_types HO_362001.out BK382.out (by decide)) (fun _ hk => hk.2) (.int .i64 t378)) (fun _ hk => hk.2) (.slice Ao77 t379.length co77)) (fun _ h_ => h_.1))) (Kd.R_base ho0) hb); have n1_ := Aside0.mk (Kd.R_elder' (by (with_reducible repeat (first | apply Kd.R_alloc | apply Kd.R_drewN | apply Kd.R_drew)); exact (Kd.R_mono (Kd.R_far (p := ⟨gb382, 1, none⟩) (Kd.R_far (p := ⟨gb382, 0, none⟩) (Kd.R_types HO_368001.out BK382.out (by decide)) (fun _ hk => hk.2) (.int .i64 t378)) (fun _ hk => hk.2) (.slice Ao77 t379.length co77)) (fun _ h_ => h_.1))) (Kd.R_base ho0) hb); have n2_ := Aside0.mk (Kd.R_elder' (by (with_reducible repeat (first | apply Kd.R_alloc | apply Kd.R_drewN | apply Kd.R_drew)); exact (Kd.R_mono (Kd.R_far (p := ⟨gb382, 1, none⟩) (Kd.R_far (p := ⟨gb382, 0, none⟩) (Kd.R_types HO_374001.out BK382.out (by decide)) (fun _ hk => hk.2) (.int .i64 t378)) (fun _ hk => hk.2) (.slice Ao77 t379.length co77)) (fun _ h_ => h_.1))) (Kd.R_base ho0) hb); have n3_ := Aside0.mk (Kd.R_elder' (by (with_reducible repeat (first | apply Kd.R_alloc | apply Kd.R_drewN | apply Kd.R_drew)); exact (Kd.R_mono (Kd.R_far (p := ⟨gb382, 1, none⟩) (Kd.R_far (p := ⟨gb382, 0, none⟩) (Kd.R_types HO381.out BK382.out (by decide)) (fun _ hk => hk.2) (.int .i64 t378)) (fun _ hk => hk.2) (.slice Ao77 t379.length co77)) (fun _ h_ => h_.1))) (Kd.R_base ho0) hb); have n4_ := Aside0.mk (Kd.R_lower (Kd.R_new' (Kd.R_new' (Kd.R_new' (Kd.R_new' ho0 (Kd.R_lt (by (with_reducible repeat (first | apply Kd.R_alloc | apply Kd.R_drewN | apply Kd.R_drew)); exact (Kd.R_mono (Kd.R_far (p := ⟨gb382, 1, none⟩) (Kd.R_far (p := ⟨gb382, 0, none⟩) (Kd.R_types HO_362001.out BK382.out (by decide)) (fun _ hk => hk.2) (.int .i64 t378)) (fun _ hk => hk.2) (.slice Ao77 t379.length co77)) (fun _ h_ => h_.1))))) (Kd.R_lt (by (with_reducible repeat (first | apply Kd.R_alloc | apply Kd.R_drewN | apply Kd.R_drew)); exact (Kd.R_mono (Kd.R_far (p := ⟨gb382, 1, none⟩) (Kd.R_far (p := ⟨gb382, 0, none⟩) (Kd.R_types HO_368001.out BK382.out (by decide)) (fun _ hk => hk.2) (.int .i64 t378)) (fun _ hk => hk.2) (.slice Ao77 t379.length co77)) (fun _ h_ => h_.1))))) (Kd.R_lt (by (with_reducible repeat (first | apply Kd.R_alloc | apply Kd.R_drewN | apply Kd.R_drew)); exact (Kd.R_mono (Kd.R_far (p := ⟨gb382, 1, none⟩) (Kd.R_far (p := ⟨gb382, 0, none⟩) (Kd.R_types HO_374001.out BK382.out (by decide)) (fun _ hk => hk.2) (.int .i64 t378)) (fun _ hk => hk.2) (.slice Ao77 t379.length co77)) (fun _ h_ => h_.1))))) (Kd.R_lt (by (with_reducible repeat (first | apply Kd.R_alloc | apply Kd.R_drewN | apply Kd.R_drew)); exact (Kd.R_mono (Kd.R_far (p := ⟨gb382, 1, none⟩) (Kd.R_far (p := ⟨gb382, 0, none⟩) (Kd.R_types HO381.out BK382.out (by decide)) (fun _ hk => hk.2) (.int .i64 t378)) (fun _ hk => hk.2) (.slice Ao77 t379.length co77)) (fun _ h_ => h_.1))))) (below_size (by repeat (first | (with_reducible first | exact HB.out | apply below_alloc | apply pw_below_drewN | apply below_drew1 | refine below_set ?_ GE361.out | refine below_set ?_ GE367.out | refine below_set ?_ GE373.out | refine below_set ?_ GE382.out) | exact HB.out)))); have n5_ := Aside0.mk (blk_below (g := gb361) (o := .cells #[.int .i64 t357, .slice Ao27 t358.length co27] 41 (0, 0)) (by refine sqt ?_; refine blk_far ?_ NB361_382.out _; refine sqt ?_; refine blk_far ?_ NB361_382.out _; refine sqt ?_; exact BK361.out) hb); have n6_ := Aside0.mk (blk_below (g := gb367) (o := .cells #[.int .i64 t362, .slice Ao32 t363.length co32] 41 (0, 0)) (by refine sqt ?_; refine blk_far ?_ NB367_382.out _; refine sqt ?_; refine blk_far ?_ NB367_382.out _; refine sqt ?_; exact BK367.out) hb); have n7_ := Aside0.mk (blk_below (g := gb373) (o := .cells #[.int .i64 t368, .slice Ao39 t369.length co39] 41 (0, 0)) (by refine sqt ?_; refine blk_far ?_ NB373_382.out _; refine sqt ?_; refine blk_far ?_ NB373_382.out _; refine sqt ?_; exact BK373.out) hb); have n8_ := Aside0.mk (blk_below (g := gb382) (o := .cells #[.int .i64 t378, .slice Ao77 t379.length co77] 41 (0, 0)) (by refine sqt ?_; refine blk_put (cs := #[.int .i64 t378, .slice none 0 0]) ?_ 1 _ rfl; refine sqt ?_; refine blk_put (cs := #[.int .i64 0, .slice none 0 0]) ?_ 0 _ rfl; refine sqt ?_; exact BK382.out) hb); have n9_ := sqs HB hb; clear HO_362001; clear HO_368001; clear HO_374001; clear HO381; clear BK361; clear BK367; clear BK373; clear BK382; clear HB; have HO_362001 := n0_; have HO_368001 := n1_; have HO_374001 := n2_; have HO381 := n3_; have HO386 := n4_; have BK361 := n5_; have BK367 := n6_; have BK373 := n7_; have BK382 := n8_; have HB := n9_; clear n0_ n1_ n2_ n3_ n4_ n5_ n6_ n7_ n8_ n9_; (try clear hb); (try clear hb2); (try clear hk); (try clear hi); (try clear ho0)) | ((with_reducible refine gate_dst (N := 12) rfl ?_); refine sqx 12 #[.int .i64 0, .slice none 0 0] 41 ?_; intro gb387 hg w79 hbox hb; have n0_ := Aside0.mk (Kd.R_below (by (with_reducible repeat (first | apply Kd.R_alloc | apply Kd.R_drewN | apply Kd.R_drew)); exact HO_362001.out) hb); have n1_ := Aside0.mk (Kd.R_below (by (with_reducible repeat (first | apply Kd.R_alloc | apply Kd.R_drewN | apply Kd.R_drew)); exact HO_368001.out) hb); have n2_ := Aside0.mk (Kd.R_below (by (with_reducible repeat (first | apply Kd.R_alloc | apply Kd.R_drewN | apply Kd.R_drew)); exact HO_374001.out) hb); have n3_ := Aside0.mk (Kd.R_below (by (with_reducible repeat (first | apply Kd.R_alloc | apply Kd.R_drewN | apply Kd.R_drew)); exact HO381.out) hb); have n4_ := Aside0.mk (Kd.R_below (by (with_reducible repeat (first | apply Kd.R_alloc | apply Kd.R_drewN | apply Kd.R_drew)); exact HO386.out) hb); have n5_ := sqb BK361 hb; have n6_ := sqb BK367 hb; have n7_ := sqb BK373 hb; have n8_ := sqb BK382 hb; have n9_ := sqs HB hb; have n10_ := Aside0.mk (hbox); have n11_ := sqg HB hg; have n12_ := sqg HB hg; have n13_ := sqn BK361 hg; have n14_ := sqm BK361 hg; have n15_ := sqn BK367 hg; have n16_ := sqm BK367 hg; have n17_ := sqn BK373 hg; have n18_ := sqm BK373 hg; have n19_ := sqn BK382 hg; have n20_ := sqm BK382 hg; clear HO_362001; clear HO_368001; clear HO_374001; clear HO381; clear HO386; clear BK361; clear BK367; clear BK373; clear BK382; clear HB; have HO_362001 := n0_; have HO_368001 := n1_; have HO_374001 := n2_; have HO381 := n3_; have HO386 := n4_; have BK361 := n5_; have BK367 := n6_; have BK373 := n7_; have BK382 := n8_; have HB := n9_; have BK387 := n10_; have GW387 := n11_; have GE387 := n12_; have NB361_387 := n13_; have NB387_361 := n14_; have NB367_387 := n15_; have NB387_367 := n16_; have NB373_387 := n17_; have NB387_373 := n18_; have NB382_387 := n19_; have NB387_382 := n20_; clear n0_ n1_ n2_ n3_ n4_ n5_ n6_ n7_ n8_ n9_ n10_ n11_ n12_ n13_ n14_ n15_ n16_ n17_ n18_ n19_ n20_; clear hb hbox hg; have hnb80 := NB387_361.out; have hnc80 := NB361_387.out; have hnb81 := NB387_367.out; have hnc81 := NB367_387.out; have hnb82 := NB387_373.out; have hnc82 := NB373_387.out; have hnb83 := NB387_382.out; have hnc83 := NB382_387.out; obtain ⟨hcz84_0, hcz84_1, hfz84_0, hfz84_1⟩ := sqc2 BK387; obtain ⟨Ao85, co85, eo85⟩ := Kd.R_slice HO386.out; subst eo85))
                      have n0_ : Aside0 (Kd.R (Kd.int .i64) 3 ((w79.setCell ⟨gb387, 0, none⟩ (.int .i64 t383)).setCell ⟨gb387, 1, none⟩ (.slice Ao85 t384.length co85)) w.heap.size (fun k_ => some k_ ≠ (.slice Ao32 t363.length co32 : Value).ownBlock ∧ some k_ ≠ (.slice Ao39 t369.length co39 : Value).ownBlock ∧ some k_ ≠ (.slice Ao77 t379.length co77 : Value).ownBlock ∧ some k_ ≠ (.slice Ao85 t384.length co85 : Value).ownBlock) (.slice Ao27 t358.length co27) t358) := ⟨by (with_reducible repeat (first | apply Kd.R_alloc | apply Kd.R_drewN | apply Kd.R_drew)); exact Kd.R_mono (Kd.R_far (p := ⟨gb387, 1, none⟩) (Kd.R_far (p := ⟨gb387, 0, none⟩) (Kd.R_types HO_362001.out BK387.out (by decide)) (fun _ hk => hk.2) (.int .i64 t383)) (fun _ hk => hk.2) (.slice Ao85 t384.length co85)) (fun _ hk => ⟨hk.1.1.1.1, ⟨hk.1.1.1.2, ⟨hk.1.1.2, hk.1.2⟩⟩⟩)⟩
                      have n1_ : Aside0 (Kd.R (Kd.int .i64) 3 ((w79.setCell ⟨gb387, 0, none⟩ (.int .i64 t383)).setCell ⟨gb387, 1, none⟩ (.slice Ao85 t384.length co85)) w.heap.size (fun k_ => some k_ ≠ (.slice Ao27 t358.length co27 : Value).ownBlock ∧ some k_ ≠ (.slice Ao39 t369.length co39 : Value).ownBlock ∧ some k_ ≠ (.slice Ao77 t379.length co77 : Value).ownBlock ∧ some k_ ≠ (.slice Ao85 t384.length co85 : Value).ownBlock) (.slice Ao32 t363.length co32) t363) := ⟨by (with_reducible repeat (first | apply Kd.R_alloc | apply Kd.R_drewN | apply Kd.R_drew)); exact Kd.R_mono (Kd.R_far (p := ⟨gb387, 1, none⟩) (Kd.R_far (p := ⟨gb387, 0, none⟩) (Kd.R_types HO_368001.out BK387.out (by decide)) (fun _ hk => hk.2) (.int .i64 t383)) (fun _ hk => hk.2) (.slice Ao85 t384.length co85)) (fun _ hk => ⟨hk.1.1.1.1, ⟨hk.1.1.1.2, ⟨hk.1.1.2, hk.1.2⟩⟩⟩)⟩
                      have n2_ : Aside0 (Kd.R (Kd.int .i64) 3 ((w79.setCell ⟨gb387, 0, none⟩ (.int .i64 t383)).setCell ⟨gb387, 1, none⟩ (.slice Ao85 t384.length co85)) w.heap.size (fun k_ => some k_ ≠ (.slice Ao27 t358.length co27 : Value).ownBlock ∧ some k_ ≠ (.slice Ao32 t363.length co32 : Value).ownBlock ∧ some k_ ≠ (.slice Ao77 t379.length co77 : Value).ownBlock ∧ some k_ ≠ (.slice Ao85 t384.length co85 : Value).ownBlock) (.slice Ao39 t369.length co39) t369) := ⟨by (with_reducible repeat (first | apply Kd.R_alloc | apply Kd.R_drewN | apply Kd.R_drew)); exact Kd.R_mono (Kd.R_far (p := ⟨gb387, 1, none⟩) (Kd.R_far (p := ⟨gb387, 0, none⟩) (Kd.R_types HO_374001.out BK387.out (by decide)) (fun _ hk => hk.2) (.int .i64 t383)) (fun _ hk => hk.2) (.slice Ao85 t384.length co85)) (fun _ hk => ⟨hk.1.1.1.1, ⟨hk.1.1.1.2, ⟨hk.1.1.2, hk.1.2⟩⟩⟩)⟩
                      have n3_ : Aside0 (Kd.R (Kd.int .i64) 3 ((w79.setCell ⟨gb387, 0, none⟩ (.int .i64 t383)).setCell ⟨gb387, 1, none⟩ (.slice Ao85 t384.length co85)) w.heap.size (fun k_ => some k_ ≠ (.slice Ao27 t358.length co27 : Value).ownBlock ∧ some k_ ≠ (.slice Ao32 t363.length co32 : Value).ownBlock ∧ some k_ ≠ (.slice Ao39 t369.length co39 : Value).ownBlock ∧ some k_ ≠ (.slice Ao85 t384.length co85 : Value).ownBlock) (.slice Ao77 t379.length co77) t379) := ⟨by (with_reducible repeat (first | apply Kd.R_alloc | apply Kd.R_drewN | apply Kd.R_drew)); exact Kd.R_mono (Kd.R_far (p := ⟨gb387, 1, none⟩) (Kd.R_far (p := ⟨gb387, 0, none⟩) (Kd.R_types HO381.out BK387.out (by decide)) (fun _ hk => hk.2) (.int .i64 t383)) (fun _ hk => hk.2) (.slice Ao85 t384.length co85)) (fun _ hk => ⟨hk.1.1.1.1.2, ⟨hk.1.1.1.2, ⟨hk.1.1.2, hk.1.2⟩⟩⟩)⟩
                      have n4_ : Aside0 (Kd.R (Kd.int .i64) 3 ((w79.setCell ⟨gb387, 0, none⟩ (.int .i64 t383)).setCell ⟨gb387, 1, none⟩ (.slice Ao85 t384.length co85)) w.heap.size (fun k_ => some k_ ≠ (.slice Ao27 t358.length co27 : Value).ownBlock ∧ some k_ ≠ (.slice Ao32 t363.length co32 : Value).ownBlock ∧ some k_ ≠ (.slice Ao39 t369.length co39 : Value).ownBlock ∧ some k_ ≠ (.slice Ao77 t379.length co77 : Value).ownBlock) (.slice Ao85 t384.length co85) t384) := ⟨by (with_reducible repeat (first | apply Kd.R_alloc | apply Kd.R_drewN | apply Kd.R_drew)); exact Kd.R_mono (Kd.R_far (p := ⟨gb387, 1, none⟩) (Kd.R_far (p := ⟨gb387, 0, none⟩) (Kd.R_types HO386.out BK387.out (by decide)) (fun _ hk => hk.2) (.int .i64 t383)) (fun _ hk => hk.2) (.slice Ao85 t384.length co85)) (fun _ hk => ⟨hk.1.1.1.1.2, ⟨hk.1.1.1.2, ⟨hk.1.1.2, hk.1.2⟩⟩⟩)⟩
                      have n5_ : Aside0 (((w79.setCell ⟨gb387, 0, none⟩ (.int .i64 t383)).setCell ⟨gb387, 1, none⟩ (.slice Ao85 t384.length co85)).heap[gb361]? = some (.cells #[.int .i64 t357, .slice Ao27 t358.length co27] 41 (0, 0))) := ⟨by refine sqt ?_; refine blk_far ?_ NB361_387.out _; refine sqt ?_; refine blk_far ?_ NB361_387.out _; refine sqt ?_; exact BK361.out⟩
                      have n6_ : Aside0 (((w79.setCell ⟨gb387, 0, none⟩ (.int .i64 t383)).setCell ⟨gb387, 1, none⟩ (.slice Ao85 t384.length co85)).heap[gb367]? = some (.cells #[.int .i64 t362, .slice Ao32 t363.length co32] 41 (0, 0))) := ⟨by refine sqt ?_; refine blk_far ?_ NB367_387.out _; refine sqt ?_; refine blk_far ?_ NB367_387.out _; refine sqt ?_; exact BK367.out⟩
                      have n7_ : Aside0 (((w79.setCell ⟨gb387, 0, none⟩ (.int .i64 t383)).setCell ⟨gb387, 1, none⟩ (.slice Ao85 t384.length co85)).heap[gb373]? = some (.cells #[.int .i64 t368, .slice Ao39 t369.length co39] 41 (0, 0))) := ⟨by refine sqt ?_; refine blk_far ?_ NB373_387.out _; refine sqt ?_; refine blk_far ?_ NB373_387.out _; refine sqt ?_; exact BK373.out⟩
                      have n8_ : Aside0 (((w79.setCell ⟨gb387, 0, none⟩ (.int .i64 t383)).setCell ⟨gb387, 1, none⟩ (.slice Ao85 t384.length co85)).heap[gb382]? = some (.cells #[.int .i64 t378, .slice Ao77 t379.length co77] 41 (0, 0))) := ⟨by refine sqt ?_; refine blk_far ?_ NB382_387.out _; refine sqt ?_; refine blk_far ?_ NB382_387.out _; refine sqt ?_; exact BK382.out⟩
                      have n9_ : Aside0 (((w79.setCell ⟨gb387, 0, none⟩ (.int .i64 t383)).setCell ⟨gb387, 1, none⟩ (.slice Ao85 t384.length co85)).heap[gb387]? = some (.cells #[.int .i64 t383, .slice Ao85 t384.length co85] 41 (0, 0))) := ⟨by refine sqt ?_; refine blk_put (cs := #[.int .i64 t383, .slice none 0 0]) ?_ 1 _ rfl; refine sqt ?_; refine blk_put (cs := #[.int .i64 0, .slice none 0 0]) ?_ 0 _ rfl; refine sqt ?_; exact BK387.out⟩
                      have n10_ : Aside0 (Below w.heap.size w ((w79.setCell ⟨gb387, 0, none⟩ (.int .i64 t383)).setCell ⟨gb387, 1, none⟩ (.slice Ao85 t384.length co85))) := sqh HB
                      (try clear HO_362001)
                      (try clear HO_368001)
                      (try clear HO_374001)
                      (try clear HO381)
                      (try clear HO386)
                      (try clear BK361)
                      (try clear BK367)
                      (try clear BK373)
                      (try clear BK382)
                      (try clear BK387)
                      (try clear HB)
                      generalize ((w79.setCell ⟨gb387, 0, none⟩ (.int .i64 t383)).setCell ⟨gb387, 1, none⟩ (.slice Ao85 t384.length co85)) = w86 at n0_ n1_ n2_ n3_ n4_ n5_ n6_ n7_ n8_ n9_ n10_ ⊢
                      have HO_362001 := n0_
                      have HO_368001 := n1_
                      have HO_374001 := n2_
                      have HO381 := n3_
                      have HO386 := n4_
                      have BK361 := n5_
                      have BK367 := n6_
                      have BK373 := n7_
                      have BK382 := n8_
                      have BK387 := n9_
                      have HB := n10_
                      clear n0_ n1_ n2_ n3_ n4_ n5_ n6_ n7_ n8_ n9_ n10_
                      replace HO_362001 := Aside0.mk (Kd.R_drew HO_362001.out)
                      replace HO_368001 := Aside0.mk (Kd.R_drew HO_368001.out)
                      replace HO_374001 := Aside0.mk (Kd.R_drew HO_374001.out)
                      replace HO381 := Aside0.mk (Kd.R_drew HO381.out)
                      replace HO386 := Aside0.mk (Kd.R_drew HO386.out)
                      replace BK361 := Aside0.mk (blk_drew BK361.out)
                      replace BK367 := Aside0.mk (blk_drew BK367.out)
                      replace BK373 := Aside0.mk (blk_drew BK373.out)
                      replace BK382 := Aside0.mk (blk_drew BK382.out)
                      replace BK387 := Aside0.mk (blk_drew BK387.out)
                      replace HB := Aside0.mk (below_drew1 HB.out)
                      refine start_ (n := 17) (S := fun w' => w'.cell? ⟨gb387, 0, none⟩ = some (.int .i64 t383) ∧ w'.cell? ⟨gb387, 1, none⟩ = some (.slice Ao85 t384.length co85) ∧ w'.cell? ⟨gb367, 0, none⟩ = some (.int .i64 t362) ∧ w'.cell? ⟨gb367, 1, none⟩ = some (.slice Ao32 t363.length co32) ∧ w'.cell? ⟨gb382, 0, none⟩ = some (.int .i64 t378) ∧ w'.cell? ⟨gb382, 1, none⟩ = some (.slice Ao77 t379.length co77)) (ds := []) #[false, false, false, false, false, false, false, false, false, false, false, false, false, false, false, false, false] (by kernel_rfl) rfl rfl ⟨(blk_cell BK387.out 0).trans rfl, (blk_cell BK387.out 1).trans rfl, (blk_cell BK367.out 0).trans rfl, (blk_cell BK367.out 1).trans rfl, (blk_cell BK382.out 0).trans rfl, (blk_cell BK382.out 1).trans rfl⟩ (fun hHeld => ?_); refine with_tabW laws_FnGapsBack.tab19 laws_FnGapsBack.bits19 (fun HT_ HW_ => ?_)
                      generalize w86.drew = w87 at HO_362001 HO_368001 HO_374001 HO381 HO386 BK361 BK367 BK373 BK382 BK387 HB hHeld ⊢
                      refine sqp HT_ 0 82 ?_
                      refine sqp HT_ 2 84 ?_
                      refine sqw HT_ HW_ 1 83 hHeld ?_
                      refine sqw HT_ HW_ 3 85 hHeld ?_
                      refine sqo HT_ 4 86 (fun K hK => ?_)
                      refine sqG Try.func27 #[.slice Ao85 t384.length co85, .slice Ao32 t363.length co32] ?_
                      with_reducible refine (laws_sameInts.calls k2 _ _ t384 _ _ t363 true _ ?side1 ?side2 ?side3 ?side4 A64.out).mono ?_
                      (case side1 => repeat (first | exact (Kd.R_reads' HO386.out).2.2 | (with_reducible refine Kd.C_alloc ?_ _) | (with_reducible refine Kd.C_drewN ?_ _) | (with_reducible refine Kd.C_drew ?_)))
                      (case side2 => exact (Kd.R_reads' HO386.out).2.1)
                      (case side3 => repeat (first | exact (Kd.R_reads' HO_368001.out).2.2 | (with_reducible refine Kd.C_alloc ?_ _) | (with_reducible refine Kd.C_drewN ?_ _) | (with_reducible refine Kd.C_drew ?_)))
                      (case side4 => exact (Kd.R_reads' HO_368001.out).2.1)
                      rintro e w' ⟨rfl, ⟨nd, rfl⟩⟩
                      refine ⟨_, rfl, ?_⟩
                      refine hK.out _ _ sqz (fun hHeld => ?_)
                      clear hK K
                      refine sqnm ?_
                      refine sqp HT_ 5 87 ?_
                      refine sqp HT_ 6 88 ?_
                      refine sqp HT_ 9 91 ?_
                      refine sqp HT_ 10 92 ?_
                      refine sqp HT_ 11 93 ?_
                      refine sqw HT_ HW_ 7 89 hHeld ?_
                      refine sqw HT_ HW_ 8 90 hHeld ?_
                      refine sqo HT_ 12 94 (fun K hK => ?_)
                      refine sqG Try.func35 #[.agg #[.int .i64 t362, .slice Ao32 t363.length co32], .int .i64 (wrap64 (1 + (Int.tmod (wrap64 (t374)) t362))), .int .i64 (wrap64 (1 + (Int.tmod (wrap64 (t374)) t362))), .int .i64 (wrap64 ((Int.tmod (wrap64 (t375)) 2001) - 1000))] ?_
                      with_reducible refine (spec_GapsMove.calls k2 t362 _ _ t363 (wrap64 (1 + (Int.tmod (wrap64 (t374)) t362))) (wrap64 (1 + (Int.tmod (wrap64 (t374)) t362))) (wrap64 ((Int.tmod (wrap64 (t375)) 2001) - 1000)) t389 t390 _ ?side1 ?side2 A66.out).mono ?_
                      (case side1 => repeat (first | exact (Kd.R_reads' HO_368001.out).2.2 | (with_reducible refine Kd.C_alloc ?_ _) | (with_reducible refine Kd.C_drewN ?_ _) | (with_reducible refine Kd.C_drew ?_)))
                      (case side2 => exact (Kd.R_reads' HO_368001.out).2.1)
                      rintro e w88 ⟨v391, rfl, ho0, hb⟩
                      refine ⟨_, rfl, ?_⟩
                      have n0_ := Aside0.mk (Kd.R_elder' (by (with_reducible repeat (first | apply Kd.R_alloc | apply Kd.R_drewN | apply Kd.R_drew)); exact HO_362001.out) (Kd.R_base ho0) hb)
                      have n1_ := Aside0.mk (Kd.R_elder' (by (with_reducible repeat (first | apply Kd.R_alloc | apply Kd.R_drewN | apply Kd.R_drew)); exact HO_368001.out) (Kd.R_base ho0) hb)
                      have n2_ := Aside0.mk (Kd.R_elder' (by (with_reducible repeat (first | apply Kd.R_alloc | apply Kd.R_drewN | apply Kd.R_drew)); exact HO_374001.out) (Kd.R_base ho0) hb)
                      have n3_ := Aside0.mk (Kd.R_elder' (by (with_reducible repeat (first | apply Kd.R_alloc | apply Kd.R_drewN | apply Kd.R_drew)); exact HO381.out) (Kd.R_base ho0) hb)
                      have n4_ := Aside0.mk (Kd.R_elder' (by (with_reducible repeat (first | apply Kd.R_alloc | apply Kd.R_drewN | apply Kd.R_drew)); exact HO386.out) (Kd.R_base ho0) hb)
                      have n5_ := Aside0.mk (Kd.R_lower (Kd.R_new' (Kd.R_new' (Kd.R_new' (Kd.R_new' (Kd.R_new' ho0 (Kd.R_lt (by (with_reducible repeat (first | apply Kd.R_alloc | apply Kd.R_drewN | apply Kd.R_drew)); exact HO_362001.out))) (Kd.R_lt (by (with_reducible repeat (first | apply Kd.R_alloc | apply Kd.R_drewN | apply Kd.R_drew)); exact HO_368001.out))) (Kd.R_lt (by (with_reducible repeat (first | apply Kd.R_alloc | apply Kd.R_drewN | apply Kd.R_drew)); exact HO_374001.out))) (Kd.R_lt (by (with_reducible repeat (first | apply Kd.R_alloc | apply Kd.R_drewN | apply Kd.R_drew)); exact HO381.out))) (Kd.R_lt (by (with_reducible repeat (first | apply Kd.R_alloc | apply Kd.R_drewN | apply Kd.R_drew)); exact HO386.out))) (below_size (by repeat (first | (with_reducible first | exact HB.out | apply below_alloc | apply pw_below_drewN | apply below_drew1 | refine below_set ?_ GE361.out | refine below_set ?_ GE367.out | refine below_set ?_ GE373.out | refine below_set ?_ GE382.out | refine below_set ?_ GE387.out) | exact HB.out))))
                      have n6_ := sqb BK361 hb
                      have n7_ := sqb BK367 hb
                      have n8_ := sqb BK373 hb
                      have n9_ := sqb BK382 hb
                      have n10_ := sqb BK387 hb
                      have n11_ := sqs HB hb
                      clear HO_362001
                      clear HO_368001
                      clear HO_374001
                      clear HO381
                      clear HO386
                      clear BK361
                      clear BK367
                      clear BK373
                      clear BK382
                      clear BK387
                      clear HB
                      have HO_362001 := n0_
                      have HO_368001 := n1_
                      have HO_374001 := n2_
                      have HO381 := n3_
                      have HO386 := n4_
                      have HO392 := n5_
                      have BK361 := n6_
                      have BK367 := n7_
                      have BK373 := n8_
                      have BK382 := n9_
                      have BK387 := n10_
                      have HB := n11_
                      clear n0_ n1_ n2_ n3_ n4_ n5_ n6_ n7_ n8_ n9_ n10_ n11_
                      (try clear hb)
                      (try clear hb2)
                      (try clear hk)
                      (try clear hi)
                      (try clear ho0)
                      obtain ⟨Ao89, co89, eo89⟩ := Kd.R_slice HO392.out
                      (first | subst eo89 | (injection eo89 with f1_ f2_ f3_; have f4_ := f1_.symm; have f5_ := f3_.symm; clear f1_ f2_ f3_; subst f4_; subst f5_))
                      refine hK.out _ _ sqz (fun hHeld => ?_)
                      clear hK K
                      refine sqnm ?_
                      refine sqp HT_ 13 95 ?_
                      refine sqo HT_ 14 96 (fun K hK => ?_)
                      refine sqG Try.func27 #[.slice Ao77 t379.length co77, .slice Ao89 t390.length co89] ?_
                      with_reducible refine (laws_sameInts.calls k2 _ _ t379 _ _ t390 true _ ?side1 ?side2 ?side3 ?side4 A67.out).mono ?_
                      (case side1 => repeat (first | exact (Kd.R_reads' HO381.out).2.2 | (with_reducible refine Kd.C_alloc ?_ _) | (with_reducible refine Kd.C_drewN ?_ _) | (with_reducible refine Kd.C_drew ?_)))
                      (case side2 => exact (Kd.R_reads' HO381.out).2.1)
                      (case side3 => repeat (first | exact (Kd.R_reads' HO392.out).2.2 | (with_reducible refine Kd.C_alloc ?_ _) | (with_reducible refine Kd.C_drewN ?_ _) | (with_reducible refine Kd.C_drew ?_)))
                      (case side4 => exact (Kd.R_reads' HO392.out).2.1)
                      rintro e w' ⟨rfl, ⟨nd, rfl⟩⟩
                      refine ⟨_, rfl, ?_⟩
                      refine hK.out _ _ sqz (fun hHeld => ?_)
                      clear hK K
                      refine sqnm ?_
                      refine sqp HT_ 15 97 ?_
                      refine sqp HT_ 16 2 ?_
                      refine done_ (done_of HT_.out (by kernel_rfl)) ?_
                      try go_wp2
                      go_ret
                      exact sqe HB
                    · replace c65 := Bool.eq_false_iff.mpr c65
                      subst c65
                      have H1 : (some false) = some true := by rw [if_neg (show ¬ (false = true) by decide)] at H; exact H
                      clear H
                      have H := H1
                      clear H1
                      exact absurd (Option.some.inj H) (by decide)
/-- THE ONE PURE STATEMENT of laws_FnGapsBack: yours. -/
theorem laws_FnGapsBack.walk (P : laws_FnGapsBack.Pure) (a0 : Option Addr) (len0 cap0 : Nat) (z0 : List Int) (w : World) (w0 : (a0 = none ∧ len0 = 0 ∧ cap0 = 0 ∧ z0 = []) ∨ ∃ x, a0 = some x ∧ len0 ≤ cap0 ∧ cap0 ≤ maxLen ∧ z0.length = cap0 ∧ (∀ i, i < z0.length → w.cell? (x.add i) = some (.int .u8 (z0.getD i 0))) ∧ ∀ n ∈ z0, (Lit.int .u8 n).wf = true) (y0 : len0 * 1 ≤ 140737488351232) :
    Calls Try.prog 5 #[.slice a0 len0 cap0] w fun e w' => e = .returned (.bool true) ∧ Below w.heap.size w w' := by
  obtain ⟨l0, rfl, hr0, hm0, hw0, hc0⟩ := ReadsInt.ofRowC w0
  obtain ⟨k, h⟩ := P l0 hm0 y0 hw0
  refine (laws_FnGapsBack.calls k _ _ l0 true w (Kd.C_of_reads (d := (0 : Int)) (h1 := fun _ => rfl) hr0) hc0 h).mono ?_
  rintro e w' ⟨rfl, hd⟩
  exact ⟨rfl, hd⟩

end Go.Proofs.Ytkekcenlleebeaa.PFnGapsBack
