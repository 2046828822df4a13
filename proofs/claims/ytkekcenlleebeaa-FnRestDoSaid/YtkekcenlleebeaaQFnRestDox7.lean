/- Functions of the program as plain Lean functions, and that calls of them come to what these tell. Conditions: those in each law. -/
import Derived.Test.YtkekcenlleebeaaSq
import Derived.Test.YtkekcenlleebeaaDFnRestDo
import Derived.Test.YtkekcenlleebeaaQFnRestDox0
import Derived.Test.YtkekcenlleebeaaQFnRestDox6
namespace Go.Proofs.Ytkekcenlleebeaa.PFnRestDo
open Go.RowKit Go.Proofs.Ytkekcenlleebeaa.Sq Go.Proofs.YtkekcenlleebeaaW.PrintWords Go.Proofs.YtkekcenlleebeaaW.PrintLast Go.Proofs.YtkekcenlleebeaaW.PrintMore
attribute [local go_sem] max2_int min2_int max_two min_two max_three min_three max_four min_four   -- for this text's walks alone
set_option linter.unusedVariables false
set_option linter.unusedSimpArgs false

/-! ### impl_restOf: function 151 -/
theorem impl_restOf.mono : ∀ a0 a1 k, LeO (impl_restOf.f k a0 a1) (impl_restOf.f (k + 1) a0 a1) := by
  intro a0 a1 k
  unfold impl_restOf.f
  repeat' first
      | (with_reducible exact impl_restGcd.mono _ _)
      | (with_reducible exact LeO.refl _)
      | (with_reducible exact LeO.none _)
      | (with_reducible refine LeO.ite ?_ ?_)
      | (with_reducible refine LeO.bind ?_ (fun _ => ?_))
      | exact impl_restGcd.mono _ _
      | exact LeO.none _
      | refine LeO.ite ?_ ?_
      | refine LeO.bind ?_ (fun _ => ?_)
set_option maxHeartbeats 8000000 in
set_option maxRecDepth 100000 in
theorem impl_restOf.calls (k : Nat) (a0 : Int) (a1 : Int) (r1 : Int) (r2 : Int) (w : World) (h : impl_restOf.f k a0 a1 = some (r1, r2)) :
    Calls Try.prog 151 #[.int .i64 a0, .int .i64 a1] w fun e w' => e = .returned (.agg #[.int .i64 r1, .int .i64 r2]) ∧ Below w.heap.size w w' := by
  have hu26 := Try.underlying26
  have HB := Aside0.mk (Below.refl w.heap.size w)
  have H : (if a1 > 65536 then ((impl_restGcd.f k (([a1, 65536] : List Int))).bind fun t239 => (if t239 = 0 then (some (0, a0)) else ((impl_restMod.f a0 t239).bind fun t240 => (some (t239, t240))))) else (if a1 = 0 then (some (0, a0)) else ((impl_restMod.f a0 a1).bind fun t241 => (some (a1, t241))))) = some (r1, r2) := h
  clear h
  by_cases c3 : a1 > 65536
  · rw [if_pos c3] at H
    have c3b0 : decide (65536 < a1) = true := decide_eq_true c3
    clear c3
    obtain ⟨y236, hy236⟩ : ∃ y_ : List Int, y_ = (([a1, 65536] : List Int)) := ⟨_, rfl⟩
    replace H : ((impl_restGcd.f k y236).bind fun t239 => (if t239 = 0 then (some (0, a0)) else ((impl_restMod.f a0 t239).bind fun t240 => (some (t239, t240))))) = some (r1, r2) := by first | (rw [hy236]; with_reducible exact H) | (have H2_ := (Option.bind_some _ _).symm.trans H; rw [hy236]; with_reducible exact H2_) | (have H2_ := (Option.bind_some _ _).symm.trans H; with_reducible exact H2_) | with_reducible exact H | (rw [hy236]; exact H) | exact H
    have Ny236 := Aside0.mk hy236
    clear hy236
    replace H := Option.bind_eq_some_iff.mp H
    obtain ⟨t239, A40, H⟩ := H
    replace H : (if t239 = 0 then (some (0, a0)) else ((impl_restMod.f a0 t239).bind fun t240 => (some (t239, t240)))) = some (r1, r2) := H
    have A4 := Aside0.mk A40
    clear A40
    by_cases c5 : t239 = 0
    · rw [if_pos c5] at H
      have c5b0 : (t239 == 0) = true := beq_iff_eq.mpr c5
      have c5b1 : (t239 != 0) = false := bne_eq_false_iff_eq.mpr c5
      clear c5
      simp only [Option.some.injEq, Prod.mk.injEq] at H
      obtain ⟨rfl, rfl⟩ := H
      go_enter Try.func151, Try.ntmps151
      go_wp2_with (first | ((with_reducible refine gate_dst (N := 4) rfl ?_); refine sqx 4 #[.int .i64 0, .int .i64 0] 26 ?_; intro gb235 hg w6 hbox hb; have BK235 := Aside0.mk (hbox); have GW235 := sqg HB hg; have GE235 := sqg HB hg; replace HB := sqs HB hb; clear hb hbox hg) | ((with_reducible refine gate_dst (N := 8) rfl ?_); refine Kd.R_lit (Kd.int .i64) _ 3 ?hg (N := 8) ?hd (xs := ([a1, 65536] : List Int)) (inner := [.int .i64 a1, .int .i64 65536]) (ok := fun _ => True) (okp := fun _ => True) ?hr ?hp (fun _ hk => hk) trivial (Below.refl _ _) (Nat.le_refl _) (by simp) ?_; (case hd => rfl); (case hg => rfl); (case hr => first | (go_simp; done) | (go_simp; rfl)); (case hp => exact (Reps.one (show Kd.M (Kd.int .i64) _ _ _ a1 [.int .i64 a1] from rfl) (Reps.one (show Kd.M (Kd.int .i64) _ _ _ 65536 [.int .i64 65536] from rfl) (Reps.none _ _)))); intro v237 w7 ho8 hb hg_ hnew_; clear hg_ hnew_; (first | rw [← Ny236.out] at ho8 | (simp only [Int.reduceToNat] at ho8; rw [← Ny236.out] at ho8)); have HO238 := Aside0.mk (Kd.R_lower ho8 (below_size (by repeat (first | (with_reducible first | exact HB.out | apply below_alloc | apply pw_below_drewN | apply below_drew1 | refine below_set ?_ GE235.out) | exact HB.out)))); replace BK235 := sqb BK235 hb; replace HB := sqs HB hb; clear hb ho8; obtain ⟨Ao9, co9, eo9⟩ := Kd.R_slice HO238.out; subst eo9) | ((with_reducible refine gate_callee (f := 152) rfl ?_); refine sqL (some 9) Try.func152 #[.slice Ao9 y236.length co9] ?_; (with_reducible refine (impl_restGcd.calls k _ _ y236 t239 _ ?side1 ?side2 A4.out).mono ?_); (case side1 => repeat (first | exact (Kd.R_reads' HO238.out).2.2 | (with_reducible refine Kd.C_alloc ?_ _) | (with_reducible refine Kd.C_drewN ?_ _) | (with_reducible refine Kd.C_drew ?_))); (case side2 => exact (Kd.R_reads' HO238.out).2.1); rintro e w' ⟨rfl, ⟨nd, rfl⟩⟩; refine ⟨_, rfl, ?_⟩; (try (rw [drewN_self w7]; generalize hq_ : World.drewN w7 _ = w7; have n0_ : Aside0 (Kd.R (Kd.int .i64) 3 w7 w.heap.size (fun _ => True) (.slice Ao9 y236.length co9) y236) := ⟨by rw [← hq_]; exact (by (with_reducible repeat (first | apply Kd.R_alloc | apply Kd.R_drewN | apply Kd.R_drew)); exact HO238.out)⟩; have n1_ : Aside0 (w7.heap[gb235]? = some (.cells #[.int .i64 0, .int .i64 0] 26 (0, 0))) := ⟨by rw [← hq_]; exact (by refine sqt ?_; exact BK235.out)⟩; have n2_ : Aside0 (Below w.heap.size w w7) := ⟨by rw [← hq_]; exact (by repeat (first | (with_reducible first | exact HB.out | apply below_alloc | apply pw_below_drewN | apply below_drew1 | refine below_set ?_ GE235.out) | exact HB.out))⟩; clear HO238 BK235 HB hq_; have HO238 := n0_; have BK235 := n1_; have HB := n2_; clear n0_ n1_ n2_)); obtain ⟨hcz10_0, hcz10_1, hfz10_0, hfz10_1⟩ := sqc2 BK235))
      refine bodyPost_ret (results_cell_row rfl _ _ gb235 26 #[.int .i64 0, .int .i64 a0] (0, 0) _ rfl (by refine sqt ?_; refine blk_put (cs := #[.int .i64 0, .int .i64 0]) ?_ 1 _ rfl; refine sqt ?_; refine blk_put (cs := #[.int .i64 0, .int .i64 0]) ?_ 0 _ rfl; refine sqt ?_; exact BK235.out) Try.underlying26 rfl (by kernel_rfl)) rfl ?_
      exact sqe HB
    · rw [if_neg c5] at H
      have c5b0 : (t239 == 0) = false := beq_eq_false_iff_ne.mpr c5
      have c5b1 : (t239 != 0) = true := bne_iff_ne.mpr c5
      replace H := Option.bind_eq_some_iff.mp H
      obtain ⟨t240, A110, H⟩ := H
      replace H : (some (t239, t240)) = some (r1, r2) := H
      have A11 := Aside0.mk A110
      clear A110
      simp only [Option.some.injEq, Prod.mk.injEq] at H
      obtain ⟨rfl, rfl⟩ := H
      go_enter Try.func151, Try.ntmps151
      go_wp2_with (first | ((with_reducible refine gate_dst (N := 4) rfl ?_); refine sqx 4 #[.int .i64 0, .int .i64 0] 26 ?_; intro gb235 hg w12 hbox hb; have BK235 := Aside0.mk (hbox); have GW235 := sqg HB hg; have GE235 := sqg HB hg; replace HB := sqs HB hb; clear hb hbox hg) | ((with_reducible refine gate_dst (N := 8) rfl ?_); refine Kd.R_lit (Kd.int .i64) _ 3 ?hg (N := 8) ?hd (xs := ([a1, 65536] : List Int)) (inner := [.int .i64 a1, .int .i64 65536]) (ok := fun _ => True) (okp := fun _ => True) ?hr ?hp (fun _ hk => hk) trivial (Below.refl _ _) (Nat.le_refl _) (by simp) ?_; (case hd => rfl); (case hg => rfl); (case hr => first | (go_simp; done) | (go_simp; rfl)); (case hp => exact (Reps.one (show Kd.M (Kd.int .i64) _ _ _ a1 [.int .i64 a1] from rfl) (Reps.one (show Kd.M (Kd.int .i64) _ _ _ 65536 [.int .i64 65536] from rfl) (Reps.none _ _)))); intro v237 w13 ho14 hb hg_ hnew_; clear hg_ hnew_; (first | rw [← Ny236.out] at ho14 | (simp only [Int.reduceToNat] at ho14; rw [← Ny236.out] at ho14)); have HO238 := Aside0.mk (Kd.R_lower ho14 (below_size (by repeat (first | (with_reducible first | exact HB.out | apply below_alloc | apply pw_below_drewN | apply below_drew1 | refine below_set ?_ GE235.out) | exact HB.out)))); replace BK235 := sqb BK235 hb; replace HB := sqs HB hb; clear hb ho14; obtain ⟨Ao15, co15, eo15⟩ := Kd.R_slice HO238.out; subst eo15) | ((with_reducible refine gate_callee (f := 152) rfl ?_); refine sqL (some 9) Try.func152 #[.slice Ao15 y236.length co15] ?_; (with_reducible refine (impl_restGcd.calls k _ _ y236 t239 _ ?side1 ?side2 A4.out).mono ?_); (case side1 => repeat (first | exact (Kd.R_reads' HO238.out).2.2 | (with_reducible refine Kd.C_alloc ?_ _) | (with_reducible refine Kd.C_drewN ?_ _) | (with_reducible refine Kd.C_drew ?_))); (case side2 => exact (Kd.R_reads' HO238.out).2.1); rintro e w' ⟨rfl, ⟨nd, rfl⟩⟩; refine ⟨_, rfl, ?_⟩; (try (rw [drewN_self w13]; generalize hq_ : World.drewN w13 _ = w13; have n0_ : Aside0 (Kd.R (Kd.int .i64) 3 w13 w.heap.size (fun _ => True) (.slice Ao15 y236.length co15) y236) := ⟨by rw [← hq_]; exact (by (with_reducible repeat (first | apply Kd.R_alloc | apply Kd.R_drewN | apply Kd.R_drew)); exact HO238.out)⟩; have n1_ : Aside0 (w13.heap[gb235]? = some (.cells #[.int .i64 0, .int .i64 0] 26 (0, 0))) := ⟨by rw [← hq_]; exact (by refine sqt ?_; exact BK235.out)⟩; have n2_ : Aside0 (Below w.heap.size w w13) := ⟨by rw [← hq_]; exact (by repeat (first | (with_reducible first | exact HB.out | apply below_alloc | apply pw_below_drewN | apply below_drew1 | refine below_set ?_ GE235.out) | exact HB.out))⟩; clear HO238 BK235 HB hq_; have HO238 := n0_; have BK235 := n1_; have HB := n2_; clear n0_ n1_ n2_))) | ((with_reducible refine gate_callee (f := 98) rfl ?_); refine sqL (some 17) Try.func98 #[.int .i64 a0, .int .i64 t239] ?_; (with_reducible refine (impl_restMod.calls a0 t239 t240 _ A11.out).mono ?_); rintro e w' ⟨rfl, ⟨nd, rfl⟩⟩; refine ⟨_, rfl, ?_⟩; (try (rw [drewN_self w13]; generalize hq_ : World.drewN w13 _ = w13; have n0_ : Aside0 (Kd.R (Kd.int .i64) 3 w13 w.heap.size (fun _ => True) (.slice Ao15 y236.length co15) y236) := ⟨by rw [← hq_]; exact (by (with_reducible repeat (first | apply Kd.R_alloc | apply Kd.R_drewN | apply Kd.R_drew)); exact HO238.out)⟩; have n1_ : Aside0 (w13.heap[gb235]? = some (.cells #[.int .i64 0, .int .i64 0] 26 (0, 0))) := ⟨by rw [← hq_]; exact (by refine sqt ?_; exact BK235.out)⟩; have n2_ : Aside0 (Below w.heap.size w w13) := ⟨by rw [← hq_]; exact (by repeat (first | (with_reducible first | exact HB.out | apply below_alloc | apply pw_below_drewN | apply below_drew1 | refine below_set ?_ GE235.out) | exact HB.out))⟩; clear HO238 BK235 HB hq_; have HO238 := n0_; have BK235 := n1_; have HB := n2_; clear n0_ n1_ n2_)); obtain ⟨hcz16_0, hcz16_1, hfz16_0, hfz16_1⟩ := sqc2 BK235))
      refine bodyPost_ret (results_cell_row rfl _ _ gb235 26 #[.int .i64 t239, .int .i64 t240] (0, 0) _ rfl (by refine sqt ?_; refine blk_put (cs := #[.int .i64 t239, .int .i64 0]) ?_ 1 _ rfl; refine sqt ?_; refine blk_put (cs := #[.int .i64 0, .int .i64 0]) ?_ 0 _ rfl; refine sqt ?_; exact BK235.out) Try.underlying26 rfl (by kernel_rfl)) rfl ?_
      exact sqe HB
  · rw [if_neg c3] at H
    have c3b0 : decide (65536 < a1) = false := decide_eq_false c3
    clear c3
    by_cases c17 : a1 = 0
    · rw [if_pos c17] at H
      have c17b0 : (a1 == 0) = true := beq_iff_eq.mpr c17
      have c17b1 : (a1 != 0) = false := bne_eq_false_iff_eq.mpr c17
      clear c17
      simp only [Option.some.injEq, Prod.mk.injEq] at H
      obtain ⟨rfl, rfl⟩ := H
      go_enter Try.func151, Try.ntmps151
      go_wp2_with (first | ((with_reducible refine gate_dst (N := 4) rfl ?_); refine sqx 4 #[.int .i64 0, .int .i64 0] 26 ?_; intro gb235 hg w18 hbox hb; have BK235 := Aside0.mk (hbox); have GW235 := sqg HB hg; have GE235 := sqg HB hg; replace HB := sqs HB hb; clear hb hbox hg; obtain ⟨hcz19_0, hcz19_1, hfz19_0, hfz19_1⟩ := sqc2 BK235))
      refine bodyPost_ret (results_cell_row rfl _ _ gb235 26 #[.int .i64 0, .int .i64 a0] (0, 0) _ rfl (by refine sqt ?_; refine blk_put (cs := #[.int .i64 0, .int .i64 0]) ?_ 1 _ rfl; refine sqt ?_; refine blk_put (cs := #[.int .i64 0, .int .i64 0]) ?_ 0 _ rfl; refine sqt ?_; exact BK235.out) Try.underlying26 rfl (by kernel_rfl)) rfl ?_
      exact sqe HB
    · rw [if_neg c17] at H
      have c17b0 : (a1 == 0) = false := beq_eq_false_iff_ne.mpr c17
      have c17b1 : (a1 != 0) = true := bne_iff_ne.mpr c17
      replace H := Option.bind_eq_some_iff.mp H
      obtain ⟨t241, A200, H⟩ := H
      replace H : (some (a1, t241)) = some (r1, r2) := H
      have A20 := Aside0.mk A200
      clear A200
      simp only [Option.some.injEq, Prod.mk.injEq] at H
      obtain ⟨rfl, rfl⟩ := H
      go_enter Try.func151, Try.ntmps151
      go_wp2_with (first | ((with_reducible refine gate_dst (N := 4) rfl ?_); refine sqx 4 #[.int .i64 0, .int .i64 0] 26 ?_; intro gb235 hg w21 hbox hb; have BK235 := Aside0.mk (hbox); have GW235 := sqg HB hg; have GE235 := sqg HB hg; replace HB := sqs HB hb; clear hb hbox hg) | ((with_reducible refine gate_callee (f := 98) rfl ?_); refine sqL (some 17) Try.func98 #[.int .i64 a0, .int .i64 a1] ?_; (with_reducible refine (impl_restMod.calls a0 a1 t241 _ A20.out).mono ?_); rintro e w' ⟨rfl, ⟨nd, rfl⟩⟩; refine ⟨_, rfl, ?_⟩; (try (rw [drewN_self w21]; generalize hq_ : World.drewN w21 _ = w21; replace BK235 := sqq BK235 hq_; replace HB := sqr HB hq_; clear hq_; obtain ⟨hqz1_0, hqz1_1, hqf1_0, hqf1_1⟩ := sqc2 BK235)); obtain ⟨hcz22_0, hcz22_1, hfz22_0, hfz22_1⟩ := sqc2 BK235))
      refine bodyPost_ret (results_cell_row rfl _ _ gb235 26 #[.int .i64 a1, .int .i64 t241] (0, 0) _ rfl (by refine sqt ?_; refine blk_put (cs := #[.int .i64 a1, .int .i64 0]) ?_ 1 _ rfl; refine sqt ?_; refine blk_put (cs := #[.int .i64 0, .int .i64 0]) ?_ 0 _ rfl; refine sqt ?_; exact BK235.out) Try.underlying26 rfl (by kernel_rfl)) rfl ?_
      exact sqe HB

end Go.Proofs.Ytkekcenlleebeaa.PFnRestDo
