/- Functions of the program as plain Lean functions, and that calls of them come to what these tell. Conditions: those in each law. -/
import Derived.Test.YtmdcgkkkfncieaaSq
import Derived.Test.YtmdcgkkkfncieaaDFnRangeLattice
import Derived.Test.YtmdcgkkkfncieaaQFnRangeLatticex0
import Derived.Test.YtmdcgkkkfncieaaQFnRangeLatticex7
import Derived.Test.YtmdcgkkkfncieaaQFnRangeLatticex8
namespace Go.Proofs.Ytmdcgkkkfncieaa.PFnRangeLattice
open Go.RowKit Go.Proofs.Ytmdcgkkkfncieaa.Sq Go.Proofs.YtmdcgkkkfncieaaW.PrintWords Go.Proofs.YtmdcgkkkfncieaaW.PrintLast Go.Proofs.YtmdcgkkkfncieaaW.PrintMore
attribute [local go_sem] max2_int min2_int max_two min_two max_three min_three max_four min_four   -- for this text's walks alone
set_option linter.unusedVariables false
set_option linter.unusedSimpArgs false

/-! ### impl_RangeJoin: function 46 -/
theorem impl_RangeJoin.mono_l : ∀ k, (∀ y0 y1 y2 y3 y4, LeO (impl_RangeJoin.j0 k y0 y1 y2 y3 y4) (impl_RangeJoin.j0 (k + 1) y0 y1 y2 y3 y4))
  | 0 => fun _ _ _ _ _ r h => by simp [impl_RangeJoin.j0] at h
  | k + 1 => by
    have ih0 := impl_RangeJoin.mono_l k
    · intro y0 y1 y2 y3 y4
      unfold impl_RangeJoin.j0
      repeat' first
      | (with_reducible exact ih0 _ _ _ _ _)
      | (with_reducible exact LeO.refl _)
      | (with_reducible exact LeO.none _)
      | (with_reducible refine LeO.ite ?_ ?_)
      | (with_reducible refine LeO.bind ?_ (fun _ => ?_))
      | exact ih0 _ _ _ _ _
      | exact LeO.none _
      | refine LeO.ite ?_ ?_
      | refine LeO.bind ?_ (fun _ => ?_)
theorem impl_RangeJoin.mono : ∀ a0 a1 a2 a3 k, LeO (impl_RangeJoin.f k a0 a1 a2 a3) (impl_RangeJoin.f (k + 1) a0 a1 a2 a3) := by
  intro a0 a1 a2 a3 k
  have ih0 := impl_RangeJoin.mono_l k
  unfold impl_RangeJoin.f
  repeat' first
      | (with_reducible exact ih0 _ _ _ _ _)
      | (with_reducible exact LeO.refl _)
      | (with_reducible exact LeO.none _)
      | (with_reducible refine LeO.ite ?_ ?_)
      | (with_reducible refine LeO.bind ?_ (fun _ => ?_))
      | exact ih0 _ _ _ _ _
      | exact LeO.none _
      | refine LeO.ite ?_ ?_
      | refine LeO.bind ?_ (fun _ => ?_)
set_option maxHeartbeats 8000000 in
set_option maxRecDepth 100000 in
theorem impl_RangeJoin.calls (k : Nat) (a0_0 : Int) (a0_1 : Int) (a1_0 : Int) (a1_1 : Int) (r1 : Int) (r2 : Int) (w : World) (h : impl_RangeJoin.f k a0_0 a0_1 a1_0 a1_1 = some (r1, r2)) :
    Calls Try.prog 46 #[.agg #[.int .i64 a0_0, .int .i64 a0_1], .agg #[.int .i64 a1_0, .int .i64 a1_1]] w fun e w' => e = .returned (.agg #[.int .i64 r1, .int .i64 r2]) ∧ Below w.heap.size w w' := by
  have hu27 := Try.underlying27
  have HB := Aside0.mk (Below.refl w.heap.size w)
  have H : ((impl_RangeOk.f a0_0 a0_1).bind fun t237 => (if t237 = true then ((impl_RangeOk.f a1_0 a1_1).bind fun t238 => (impl_RangeJoin.j0 k (!t238) a0_0 a0_1 a1_0 a1_1)) else (impl_RangeJoin.j0 k true a0_0 a0_1 a1_0 a1_1))) = some (r1, r2) := h
  clear h
  have HC3 := Aside0.mk H
  clear H
  go_enter Try.func46, Try.ntmps46
  go_upto_region 1 with (first | ((with_reducible refine gate_dst (N := 2) rfl ?_); refine sqx 2 #[.int .i64 a0_0, .int .i64 a0_1] 27 ?_; intro gb234 hg w4 hbox hb; have BK234 := Aside0.mk (hbox); have GW234 := sqg HB hg; have GE234 := sqg HB hg; replace HB := sqs HB hb; clear hb hbox hg) | ((with_reducible refine gate_dst (N := 3) rfl ?_); refine sqx 3 #[.int .i64 a1_0, .int .i64 a1_1] 27 ?_; intro gb235 hg w5 hbox hb; have BK235 := Aside0.mk (hbox); have GW235 := sqg HB hg; have GE235 := sqg HB hg; have NB234_235 := sqn BK234 hg; have NB235_234 := sqm BK234 hg; replace BK234 := sqb BK234 hb; replace HB := sqs HB hb; clear hb hbox hg) | ((with_reducible refine gate_dst (N := 4) rfl ?_); refine sqx 4 #[.int .i64 0, .int .i64 0] 27 ?_; intro gb236 hg w6 hbox hb; have BK236 := Aside0.mk (hbox); have GW236 := sqg HB hg; have GE236 := sqg HB hg; have NB234_236 := sqn BK234 hg; have NB236_234 := sqm BK234 hg; have NB235_236 := sqn BK235 hg; have NB236_235 := sqm BK235 hg; replace BK234 := sqb BK234 hb; replace BK235 := sqb BK235 hb; replace HB := sqs HB hb; clear hb hbox hg))
  (try simp only [Act.put, List.setIfInBounds_toArray, List.set_cons_zero, List.set_cons_succ])
  go_cut [5] (fun v5 wc => ∃ (kq : Nat) (x5_2 : Bool), v5 = .bool x5_2 ∧ Aside0 (impl_RangeJoin.j0 kq x5_2 a0_0 a0_1 a1_0 a1_1 = some (r1, r2)) ∧ Aside0 (kq ≤ k) ∧ Aside0 (wc.heap[gb234]? = some (.cells #[.int .i64 a0_0, .int .i64 a0_1] 27 (0, 0))) ∧ Aside0 (wc.heap[gb235]? = some (.cells #[.int .i64 a1_0, .int .i64 a1_1] 27 (0, 0))) ∧ Aside0 (wc.heap[gb236]? = some (.cells #[.int .i64 0, .int .i64 0] 27 (0, 0))) ∧ Aside0 (Below w.heap.size w wc))
  case first =>
    have H := HC3.out
    clear HC3
    replace H := Option.bind_eq_some_iff.mp H
    obtain ⟨t237, A70, H⟩ := H
    replace H : (if t237 = true then ((impl_RangeOk.f a1_0 a1_1).bind fun t238 => (impl_RangeJoin.j0 k (!t238) a0_0 a0_1 a1_0 a1_1)) else (impl_RangeJoin.j0 k true a0_0 a0_1 a1_0 a1_1)) = some (r1, r2) := H
    have A7 := Aside0.mk A70
    clear A70
    by_cases c8 : t237 = true
    · subst c8
      have H1 : ((impl_RangeOk.f a1_0 a1_1).bind fun t238 => (impl_RangeJoin.j0 k (!t238) a0_0 a0_1 a1_0 a1_1)) = some (r1, r2) := by rw [if_pos rfl] at H; exact H
      clear H
      have H := H1
      clear H1
      replace H := Option.bind_eq_some_iff.mp H
      obtain ⟨t238, A90, H⟩ := H
      replace H : (impl_RangeJoin.j0 k (!t238) a0_0 a0_1 a1_0 a1_1) = some (r1, r2) := H
      have A9 := Aside0.mk A90
      clear A90
      have H' := Aside0.mk H
      clear H
      have hnb10 := NB234_235.out
      have hnc10 := NB235_234.out
      have hnb11 := NB234_236.out
      have hnc11 := NB236_234.out
      obtain ⟨hcz12_0, hcz12_1, hfz12_0, hfz12_1⟩ := sqc2 BK234
      go_wp2_with (first | ((with_reducible refine gate_callee (f := 98) rfl ?_); refine sqL (some 7) Try.func98 #[.agg #[.int .i64 a0_0, .int .i64 a0_1]] ?_; (with_reducible refine (impl_RangeOk.calls a0_0 a0_1 true _ A7.out).mono ?_); rintro e w13 ⟨rfl, hb⟩; refine ⟨_, rfl, ?_⟩; replace BK234 := sqb BK234 hb; replace BK235 := sqb BK235 hb; replace BK236 := sqb BK236 hb; replace HB := sqs HB hb; (try clear hb); have hnb14 := NB235_236.out; have hnc14 := NB236_235.out; obtain ⟨hcz15_0, hcz15_1, hfz15_0, hfz15_1⟩ := sqc2 BK235) | (go_at_call 98; (with_reducible refine (impl_RangeOk.calls a1_0 a1_1 t238 _ A9.out).mono ?_); rintro e w16 ⟨rfl, hb⟩; replace BK234 := sqb BK234 hb; replace BK235 := sqb BK235 hb; replace BK236 := sqb BK236 hb; replace HB := sqs HB hb; (try clear hb)))
      go_meet
      case rel => exact ⟨_, (!t238), (by first | rfl | (simp; done) | (simp [*]; done)), H', ⟨by first | omega | exact Nat.le_refl _⟩, sqk BK234, sqk BK235, sqk BK236, sqh HB⟩
    · replace c8 := Bool.eq_false_iff.mpr c8
      subst c8
      have H1 : (impl_RangeJoin.j0 k true a0_0 a0_1 a1_0 a1_1) = some (r1, r2) := by rw [if_neg (show ¬ (false = true) by decide)] at H; exact H
      clear H
      have H := H1
      clear H1
      have H' := Aside0.mk H
      clear H
      have hnb17 := NB234_235.out
      have hnc17 := NB235_234.out
      have hnb18 := NB234_236.out
      have hnc18 := NB236_234.out
      obtain ⟨hcz19_0, hcz19_1, hfz19_0, hfz19_1⟩ := sqc2 BK234
      go_wp2_with (first | ((with_reducible refine gate_callee (f := 98) rfl ?_); refine sqL (some 7) Try.func98 #[.agg #[.int .i64 a0_0, .int .i64 a0_1]] ?_; (with_reducible refine (impl_RangeOk.calls a0_0 a0_1 false _ A7.out).mono ?_); rintro e w20 ⟨rfl, hb⟩; refine ⟨_, rfl, ?_⟩; replace BK234 := sqb BK234 hb; replace BK235 := sqb BK235 hb; replace BK236 := sqb BK236 hb; replace HB := sqs HB hb; (try clear hb)))
      go_meet
      case rel => exact ⟨_, (true), (by first | rfl | (simp; done) | (simp [*]; done)), H', ⟨by first | omega | exact Nat.le_refl _⟩, sqk BK234, sqk BK235, sqk BK236, sqh HB⟩
  case rest =>
    clear HC3
    obtain ⟨kq, x5_2, rfl, HA, HJ2, BK234, BK235, BK236, HB⟩ := hcut
    cases kq with
    | zero => exact absurd HA.out (by simp [impl_RangeJoin.j0])
    | succ kj2 =>
      have H := HA.out
      clear HA
      simp only [impl_RangeJoin.j0] at H
      by_cases c21 : x5_2 = true
      · subst c21
        have H1 : ((impl_rangeNone.f).bind fun bt239 => (some (bt239.1, bt239.2))) = some (r1, r2) := by rw [if_pos rfl] at H; exact H
        clear H
        have H := H1
        clear H1
        replace H := Option.bind_eq_some_iff.mp H
        obtain ⟨⟨t239, t240⟩, A220, H⟩ := H
        replace H : (some (t239, t240)) = some (r1, r2) := H
        have A22 := Aside0.mk A220
        clear A220
        simp only [Option.some.injEq, Prod.mk.injEq] at H
        obtain ⟨rfl, rfl⟩ := H
        go_wp2_with (first | ((with_reducible refine gate_callee (f := 73) rfl ?_); refine sqL (some 14) Try.func73 #[] ?_; (with_reducible refine (impl_rangeNone.calls  t239 t240 _ A22.out).mono ?_); rintro e w23 ⟨rfl, hb⟩; refine ⟨_, rfl, ?_⟩; replace BK234 := sqb BK234 hb; replace BK235 := sqb BK235 hb; replace BK236 := sqb BK236 hb; replace HB := sqs HB hb; (try clear hb); have hnb24 := NB236_234.out; have hnc24 := NB234_236.out; have hnb25 := NB236_235.out; have hnc25 := NB235_236.out; obtain ⟨hcz26_0, hcz26_1, hfz26_0, hfz26_1⟩ := sqc2 BK236))
        refine bodyPost_ret (results_cell_row rfl _ _ gb236 27 #[.int .i64 t239, .int .i64 t240] (0, 0) _ rfl (by refine sqt ?_; refine blk_put (cs := #[.int .i64 t239, .int .i64 0]) ?_ 1 _ rfl; refine sqt ?_; refine blk_put (cs := #[.int .i64 0, .int .i64 0]) ?_ 0 _ rfl; refine sqt ?_; exact BK236.out) Try.underlying27 rfl (by kernel_rfl)) rfl ?_
        exact sqe HB
      · replace c21 := Bool.eq_false_iff.mpr c21
        subst c21
        have H1 : ((impl_Range_empty.f a0_0 a0_1).bind fun t241 => (if t241 = true then (some (a1_0, a1_1)) else ((impl_Range_empty.f a1_0 a1_1).bind fun t242 => (if t242 = true then (some (a0_0, a0_1)) else (some (mn a0_0 a1_0, mx a0_1 a1_1)))))) = some (r1, r2) := by rw [if_neg (show ¬ (false = true) by decide)] at H; exact H
        clear H
        have H := H1
        clear H1
        replace H := Option.bind_eq_some_iff.mp H
        obtain ⟨t241, A270, H⟩ := H
        replace H : (if t241 = true then (some (a1_0, a1_1)) else ((impl_Range_empty.f a1_0 a1_1).bind fun t242 => (if t242 = true then (some (a0_0, a0_1)) else (some (mn a0_0 a1_0, mx a0_1 a1_1))))) = some (r1, r2) := H
        have A27 := Aside0.mk A270
        clear A270
        by_cases c28 : t241 = true
        · subst c28
          have H1 : (some (a1_0, a1_1)) = some (r1, r2) := by rw [if_pos rfl] at H; exact H
          clear H
          have H := H1
          clear H1
          simp only [Option.some.injEq, Prod.mk.injEq] at H
          obtain ⟨rfl, rfl⟩ := H
          have hnb29 := NB234_235.out
          have hnc29 := NB235_234.out
          have hnb30 := NB234_236.out
          have hnc30 := NB236_234.out
          obtain ⟨hcz31_0, hcz31_1, hfz31_0, hfz31_1⟩ := sqc2 BK234
          go_wp2_with (first | ((with_reducible refine gate_callee (f := 99) rfl ?_); refine sqL (some 17) Try.func99 #[.agg #[.int .i64 a0_0, .int .i64 a0_1]] ?_; (with_reducible refine (impl_Range_empty.calls a0_0 a0_1 true _ A27.out).mono ?_); rintro e w32 ⟨rfl, hb⟩; refine ⟨_, rfl, ?_⟩; replace BK234 := sqb BK234 hb; replace BK235 := sqb BK235 hb; replace BK236 := sqb BK236 hb; replace HB := sqs HB hb; (try clear hb); have hnb33 := NB235_236.out; have hnc33 := NB236_235.out; obtain ⟨hcz34_0, hcz34_1, hfz34_0, hfz34_1⟩ := sqc2 BK235; obtain ⟨hcz35_0, hcz35_1, hfz35_0, hfz35_1⟩ := sqc2 BK236))
          refine bodyPost_ret (results_cell_row rfl _ _ gb236 27 #[.int .i64 a1_0, .int .i64 a1_1] (0, 0) _ rfl (by refine sqt ?_; refine blk_put (cs := #[.int .i64 a1_0, .int .i64 0]) ?_ 1 _ rfl; refine sqt ?_; refine blk_put (cs := #[.int .i64 0, .int .i64 0]) ?_ 0 _ rfl; refine sqt ?_; exact BK236.out) Try.underlying27 rfl (by kernel_rfl)) rfl ?_
          exact sqe HB
        · replace c28 := Bool.eq_false_iff.mpr c28
          subst c28
          have H1 : ((impl_Range_empty.f a1_0 a1_1).bind fun t242 => (if t242 = true then (some (a0_0, a0_1)) else (some (mn a0_0 a1_0, mx a0_1 a1_1)))) = some (r1, r2) := by rw [if_neg (show ¬ (false = true) by decide)] at H; exact H
          clear H
          have H := H1
          clear H1
          replace H := Option.bind_eq_some_iff.mp H
          obtain ⟨t242, A360, H⟩ := H
          replace H : (if t242 = true then (some (a0_0, a0_1)) else (some (mn a0_0 a1_0, mx a0_1 a1_1))) = some (r1, r2) := H
          have A36 := Aside0.mk A360
          clear A360
          by_cases c37 : t242 = true
          · subst c37
            have H1 : (some (a0_0, a0_1)) = some (r1, r2) := by rw [if_pos rfl] at H; exact H
            clear H
            have H := H1
            clear H1
            simp only [Option.some.injEq, Prod.mk.injEq] at H
            obtain ⟨rfl, rfl⟩ := H
            have hnb38 := NB234_235.out
            have hnc38 := NB235_234.out
            have hnb39 := NB234_236.out
            have hnc39 := NB236_234.out
            obtain ⟨hcz40_0, hcz40_1, hfz40_0, hfz40_1⟩ := sqc2 BK234
            go_wp2_with (first | ((with_reducible refine gate_callee (f := 99) rfl ?_); refine sqL (some 17) Try.func99 #[.agg #[.int .i64 a0_0, .int .i64 a0_1]] ?_; (with_reducible refine (impl_Range_empty.calls a0_0 a0_1 false _ A27.out).mono ?_); rintro e w41 ⟨rfl, hb⟩; refine ⟨_, rfl, ?_⟩; replace BK234 := sqb BK234 hb; replace BK235 := sqb BK235 hb; replace BK236 := sqb BK236 hb; replace HB := sqs HB hb; (try clear hb); have hnb42 := NB235_236.out; have hnc42 := NB236_235.out; obtain ⟨hcz43_0, hcz43_1, hfz43_0, hfz43_1⟩ := sqc2 BK235) | ((with_reducible refine gate_callee (f := 99) rfl ?_); refine sqL (some 21) Try.func99 #[.agg #[.int .i64 a1_0, .int .i64 a1_1]] ?_; (with_reducible refine (impl_Range_empty.calls a1_0 a1_1 true _ A36.out).mono ?_); rintro e w44 ⟨rfl, hb⟩; refine ⟨_, rfl, ?_⟩; replace BK234 := sqb BK234 hb; replace BK235 := sqb BK235 hb; replace BK236 := sqb BK236 hb; replace HB := sqs HB hb; (try clear hb); obtain ⟨hcz45_0, hcz45_1, hfz45_0, hfz45_1⟩ := sqc2 BK234; obtain ⟨hcz46_0, hcz46_1, hfz46_0, hfz46_1⟩ := sqc2 BK236))
            refine bodyPost_ret (results_cell_row rfl _ _ gb236 27 #[.int .i64 a0_0, .int .i64 a0_1] (0, 0) _ rfl (by refine sqt ?_; refine blk_put (cs := #[.int .i64 a0_0, .int .i64 0]) ?_ 1 _ rfl; refine sqt ?_; refine blk_put (cs := #[.int .i64 0, .int .i64 0]) ?_ 0 _ rfl; refine sqt ?_; exact BK236.out) Try.underlying27 rfl (by kernel_rfl)) rfl ?_
            exact sqe HB
          · replace c37 := Bool.eq_false_iff.mpr c37
            subst c37
            have H1 : (some (mn a0_0 a1_0, mx a0_1 a1_1)) = some (r1, r2) := by rw [if_neg (show ¬ (false = true) by decide)] at H; exact H
            clear H
            have H := H1
            clear H1
            obtain ⟨ji47, hji47⟩ : ∃ j_ : Int, (mn a0_0 a1_0) = j_ := ⟨_, rfl⟩
            replace H : (some (ji47, mx a0_1 a1_1)) = some (r1, r2) := by first | (rw [hji47] at H; exact H) | (simp only [hji47] at H ⊢; exact H)
            (try rw [hji47] at A27)
            (try rw [hji47] at A36)
            have hji47_ : (if a1_0 < a0_0 then a1_0 else a0_0) = ji47 := hji47
            obtain ⟨ji48, hji48⟩ : ∃ j_ : Int, (mx a0_1 a1_1) = j_ := ⟨_, rfl⟩
            replace H : (some (ji47, ji48)) = some (r1, r2) := by first | (rw [hji48] at H; exact H) | (simp only [hji48] at H ⊢; exact H)
            (try rw [hji48] at A27)
            (try rw [hji48] at A36)
            have hji48_ : (if a0_1 < a1_1 then a1_1 else a0_1) = ji48 := hji48
            simp only [Option.some.injEq, Prod.mk.injEq] at H
            obtain ⟨rfl, rfl⟩ := H
            have hnb49 := NB234_235.out
            have hnc49 := NB235_234.out
            have hnb50 := NB234_236.out
            have hnc50 := NB236_234.out
            obtain ⟨hcz51_0, hcz51_1, hfz51_0, hfz51_1⟩ := sqc2 BK234
            go_wp2_with (first | ((with_reducible refine gate_callee (f := 99) rfl ?_); refine sqL (some 17) Try.func99 #[.agg #[.int .i64 a0_0, .int .i64 a0_1]] ?_; (with_reducible refine (impl_Range_empty.calls a0_0 a0_1 false _ A27.out).mono ?_); rintro e w52 ⟨rfl, hb⟩; refine ⟨_, rfl, ?_⟩; replace BK234 := sqb BK234 hb; replace BK235 := sqb BK235 hb; replace BK236 := sqb BK236 hb; replace HB := sqs HB hb; (try clear hb); have hnb53 := NB235_236.out; have hnc53 := NB236_235.out; obtain ⟨hcz54_0, hcz54_1, hfz54_0, hfz54_1⟩ := sqc2 BK235) | ((with_reducible refine gate_callee (f := 99) rfl ?_); refine sqL (some 21) Try.func99 #[.agg #[.int .i64 a1_0, .int .i64 a1_1]] ?_; (with_reducible refine (impl_Range_empty.calls a1_0 a1_1 false _ A36.out).mono ?_); rintro e w55 ⟨rfl, hb⟩; refine ⟨_, rfl, ?_⟩; replace BK234 := sqb BK234 hb; replace BK235 := sqb BK235 hb; replace BK236 := sqb BK236 hb; replace HB := sqs HB hb; (try clear hb); obtain ⟨hcz56_0, hcz56_1, hfz56_0, hfz56_1⟩ := sqc2 BK234; obtain ⟨hcz57_0, hcz57_1, hfz57_0, hfz57_1⟩ := sqc2 BK235; obtain ⟨hcz58_0, hcz58_1, hfz58_0, hfz58_1⟩ := sqc2 BK236))
            refine bodyPost_ret (results_cell_row rfl _ _ gb236 27 #[.int .i64 ji47, .int .i64 ji48] (0, 0) _ rfl (by refine sqt ?_; refine blk_put (cs := #[.int .i64 ji47, .int .i64 0]) ?_ 1 _ rfl; refine sqt ?_; refine blk_put (cs := #[.int .i64 0, .int .i64 0]) ?_ 0 _ rfl; refine sqt ?_; exact BK236.out) Try.underlying27 rfl (by kernel_rfl)) rfl ?_
            exact ⟨by first | rfl | (simp [errW_none, errW_some] <;> rfl) | (simp only [← hji47, ← hji48]; first | rfl | (simp [errW_none, errW_some] <;> rfl)) | (simp [*, errW_none, errW_some] <;> rfl), by repeat (first | (with_reducible first | exact HB.out | apply below_alloc | apply pw_below_drewN | apply below_drew1 | refine below_set ?_ GE234.out | refine below_set ?_ GE235.out | refine below_set ?_ GE236.out) | exact HB.out)⟩

end Go.Proofs.Ytmdcgkkkfncieaa.PFnRangeLattice
