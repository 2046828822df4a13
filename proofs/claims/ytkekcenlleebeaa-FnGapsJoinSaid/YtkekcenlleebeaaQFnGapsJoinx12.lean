/- Functions of the program as plain Lean functions, and that calls of them come to what these tell. Conditions: those in each law. -/
import Derived.Test.YtkekcenlleebeaaSq
import Derived.Test.YtkekcenlleebeaaDFnGapsJoin
import Derived.Test.YtkekcenlleebeaaQFnGapsJoinx0
import Derived.Test.YtkekcenlleebeaaQFnGapsJoinx5
import Derived.Test.YtkekcenlleebeaaQFnGapsJoinx7
import Derived.Test.YtkekcenlleebeaaQFnGapsJoinx11
namespace Go.Proofs.Ytkekcenlleebeaa.PFnGapsJoin
open Go.RowKit Go.Proofs.Ytkekcenlleebeaa.Sq Go.Proofs.YtkekcenlleebeaaW.PrintWords Go.Proofs.YtkekcenlleebeaaW.PrintLast Go.Proofs.YtkekcenlleebeaaW.PrintMore
attribute [local go_sem] max2_int min2_int max_two min_two max_three min_three max_four min_four   -- for this text's walks alone
set_option linter.unusedVariables false
set_option linter.unusedSimpArgs false

/-! ### impl_GapsWiden: function 38 -/
theorem impl_GapsWiden.mono_l : ∀ k, (∀ y0 y1 y2 y3 y4, LeO (impl_GapsWiden.j0 k y0 y1 y2 y3 y4) (impl_GapsWiden.j0 (k + 1) y0 y1 y2 y3 y4)) ∧ (∀ y0 y1 y2 y3 y4, LeO (impl_GapsWiden.l0 k y0 y1 y2 y3 y4) (impl_GapsWiden.l0 (k + 1) y0 y1 y2 y3 y4))
  | 0 => ⟨fun _ _ _ _ _ r h => by simp [impl_GapsWiden.j0] at h, fun _ _ _ _ _ r h => by simp [impl_GapsWiden.l0] at h⟩
  | k + 1 => by
    obtain ⟨ih0, ih1⟩ := impl_GapsWiden.mono_l k
    refine ⟨?_, ?_⟩
    · intro y0 y1 y2 y3 y4
      unfold impl_GapsWiden.j0
      repeat' first
      | (with_reducible exact ih0 _ _ _ _ _)
      | (with_reducible exact ih1 _ _ _ _ _)
      | (with_reducible exact impl_GapsOk.mono _ _ _)
      | (with_reducible exact LeO.refl _)
      | (with_reducible exact LeO.none _)
      | (with_reducible refine LeO.ite ?_ ?_)
      | (with_reducible refine LeO.bind ?_ (fun _ => ?_))
      | exact ih0 _ _ _ _ _
      | exact ih1 _ _ _ _ _
      | exact impl_GapsOk.mono _ _ _
      | exact LeO.none _
      | refine LeO.ite ?_ ?_
      | refine LeO.bind ?_ (fun _ => ?_)
    · intro y0 y1 y2 y3 y4
      unfold impl_GapsWiden.l0
      repeat' first
      | (with_reducible exact ih0 _ _ _ _ _)
      | (with_reducible exact ih1 _ _ _ _ _)
      | (with_reducible exact impl_GapsOk.mono _ _ _)
      | (with_reducible exact LeO.refl _)
      | (with_reducible exact LeO.none _)
      | (with_reducible refine LeO.ite ?_ ?_)
      | (with_reducible refine LeO.bind ?_ (fun _ => ?_))
      | exact ih0 _ _ _ _ _
      | exact ih1 _ _ _ _ _
      | exact impl_GapsOk.mono _ _ _
      | exact LeO.none _
      | refine LeO.ite ?_ ?_
      | refine LeO.bind ?_ (fun _ => ?_)
theorem impl_GapsWiden.mono : ∀ a0 a1 a2 a3 k, LeO (impl_GapsWiden.f k a0 a1 a2 a3) (impl_GapsWiden.f (k + 1) a0 a1 a2 a3) := by
  intro a0 a1 a2 a3 k
  obtain ⟨ih0, ih1⟩ := impl_GapsWiden.mono_l k
  unfold impl_GapsWiden.f
  repeat' first
      | (with_reducible exact ih0 _ _ _ _ _)
      | (with_reducible exact ih1 _ _ _ _ _)
      | (with_reducible exact impl_GapsOk.mono _ _ _)
      | (with_reducible exact LeO.refl _)
      | (with_reducible exact LeO.none _)
      | (with_reducible refine LeO.ite ?_ ?_)
      | (with_reducible refine LeO.bind ?_ (fun _ => ?_))
      | exact ih0 _ _ _ _ _
      | exact ih1 _ _ _ _ _
      | exact impl_GapsOk.mono _ _ _
      | exact LeO.none _
      | refine LeO.ite ?_ ?_
      | refine LeO.bind ?_ (fun _ => ?_)
set_option maxHeartbeats 8000000 in
set_option maxRecDepth 100000 in
theorem impl_GapsWiden.calls (k : Nat) (a0_0 : Int) (A0_1 : Option Addr) (c0_1 : Nat) (l0_1 : List Int) (a1_0 : Int) (A1_1 : Option Addr) (c1_1 : Nat) (l1_1 : List Int) (r1 : Int) (r2 : List Int) (w : World) (hr0_1 : Kd.C (Kd.int .i64) w A0_1 l0_1.length l0_1) (hc0_1 : l0_1.length ≤ c0_1) (hr1_1 : Kd.C (Kd.int .i64) w A1_1 l1_1.length l1_1) (hc1_1 : l1_1.length ≤ c1_1) (h : impl_GapsWiden.f k a0_0 l0_1 a1_0 l1_1 = some (r1, r2)) :
    Calls Try.prog 38 #[.agg #[.int .i64 a0_0, .slice A0_1 l0_1.length c0_1], .agg #[.int .i64 a1_0, .slice A1_1 l1_1.length c1_1]] w fun e w' => ∃ v1_ : Value, e = .returned (.agg #[.int .i64 r1, v1_]) ∧ Kd.R (Kd.int .i64) 3 w' w.heap.size (fun _ => True) v1_ r2 ∧ Below w.heap.size w w' := by
  have hu41 := Try.underlying41
  have HR0_1 := Aside0.mk hr0_1
  have HC0_1 := Aside0.mk hc0_1
  clear hr0_1 hc0_1
  have HR1_1 := Aside0.mk hr1_1
  have HC1_1 := Aside0.mk hc1_1
  clear hr1_1 hc1_1
  have HB := Aside0.mk (Below.refl w.heap.size w)
  have H : ((impl_GapsOk.f k a0_0 l0_1).bind fun t359 => (if t359 = true then ((impl_GapsOk.f k a1_0 l1_1).bind fun t360 => (if t360 = true then (impl_GapsWiden.j0 k (a0_0 != a1_0) a0_0 l0_1 a1_0 l1_1) else (impl_GapsWiden.j0 k true a0_0 l0_1 a1_0 l1_1))) else (impl_GapsWiden.j0 k true a0_0 l0_1 a1_0 l1_1))) = some (r1, r2) := h
  clear h
  have HC3 := Aside0.mk H
  clear H
  go_enter Try.func38, Try.ntmps38
  go_upto_region 1 with (first | ((with_reducible refine gate_dst (N := 2) rfl ?_); refine sqx 2 #[.int .i64 a0_0, .slice A0_1 l0_1.length c0_1] 41 ?_; intro gb356 hg w4 hbox hb; have BK356 := Aside0.mk (hbox); have GW356 := sqg HB hg; have GE356 := sqg HB hg; replace HB := sqs HB hb; clear hb hbox hg) | ((with_reducible refine gate_dst (N := 3) rfl ?_); refine sqx 3 #[.int .i64 a1_0, .slice A1_1 l1_1.length c1_1] 41 ?_; intro gb357 hg w5 hbox hb; have BK357 := Aside0.mk (hbox); have GW357 := sqg HB hg; have GE357 := sqg HB hg; have NB356_357 := sqn BK356 hg; have NB357_356 := sqm BK356 hg; replace BK356 := sqb BK356 hb; replace HB := sqs HB hb; clear hb hbox hg) | ((with_reducible refine gate_dst (N := 4) rfl ?_); refine sqx 4 #[.int .i64 0, .slice none 0 0] 41 ?_; intro gb358 hg w6 hbox hb; have BK358 := Aside0.mk (hbox); have GW358 := sqg HB hg; have GE358 := sqg HB hg; have NB356_358 := sqn BK356 hg; have NB358_356 := sqm BK356 hg; have NB357_358 := sqn BK357 hg; have NB358_357 := sqm BK357 hg; replace BK356 := sqb BK356 hb; replace BK357 := sqb BK357 hb; replace HB := sqs HB hb; clear hb hbox hg))
  (try simp only [Act.put, List.setIfInBounds_toArray, List.set_cons_zero, List.set_cons_succ])
  go_cut [22] (fun v22 wc => ∃ (kq : Nat) (x22_2 : Bool), v22 = .bool x22_2 ∧ Aside0 (impl_GapsWiden.j0 kq x22_2 a0_0 l0_1 a1_0 l1_1 = some (r1, r2)) ∧ Aside0 (kq ≤ k) ∧ Aside0 (wc.heap[gb356]? = some (.cells #[.int .i64 a0_0, (.slice A0_1 l0_1.length c0_1)] 41 (0, 0))) ∧ Aside0 (wc.heap[gb357]? = some (.cells #[.int .i64 a1_0, (.slice A1_1 l1_1.length c1_1)] 41 (0, 0))) ∧ Aside0 (wc.heap[gb358]? = some (.cells #[.int .i64 0, (.slice none 0 0)] 41 (0, 0))) ∧ Aside0 (Below w.heap.size w wc))
  case first =>
    have H := HC3.out
    clear HC3
    replace H := Option.bind_eq_some_iff.mp H
    obtain ⟨t359, A70, H⟩ := H
    replace H : (if t359 = true then ((impl_GapsOk.f k a1_0 l1_1).bind fun t360 => (if t360 = true then (impl_GapsWiden.j0 k (a0_0 != a1_0) a0_0 l0_1 a1_0 l1_1) else (impl_GapsWiden.j0 k true a0_0 l0_1 a1_0 l1_1))) else (impl_GapsWiden.j0 k true a0_0 l0_1 a1_0 l1_1)) = some (r1, r2) := H
    have A7 := Aside0.mk A70
    clear A70
    by_cases c8 : t359 = true
    · subst c8
      have H1 : ((impl_GapsOk.f k a1_0 l1_1).bind fun t360 => (if t360 = true then (impl_GapsWiden.j0 k (a0_0 != a1_0) a0_0 l0_1 a1_0 l1_1) else (impl_GapsWiden.j0 k true a0_0 l0_1 a1_0 l1_1))) = some (r1, r2) := by rw [if_pos rfl] at H; exact H
      clear H
      have H := H1
      clear H1
      replace H := Option.bind_eq_some_iff.mp H
      obtain ⟨t360, A90, H⟩ := H
      replace H : (if t360 = true then (impl_GapsWiden.j0 k (a0_0 != a1_0) a0_0 l0_1 a1_0 l1_1) else (impl_GapsWiden.j0 k true a0_0 l0_1 a1_0 l1_1)) = some (r1, r2) := H
      have A9 := Aside0.mk A90
      clear A90
      by_cases c10 : t360 = true
      · subst c10
        have H1 : (impl_GapsWiden.j0 k (a0_0 != a1_0) a0_0 l0_1 a1_0 l1_1) = some (r1, r2) := by rw [if_pos rfl] at H; exact H
        clear H
        have H := H1
        clear H1
        have H' := Aside0.mk H
        clear H
        have hnb11 := NB356_357.out
        have hnc11 := NB357_356.out
        have hnb12 := NB356_358.out
        have hnc12 := NB358_356.out
        obtain ⟨hcz13_0, hcz13_1, hfz13_0, hfz13_1⟩ := sqc2 BK356
        go_wp2_with (first | ((with_reducible refine gate_callee (f := 31) rfl ?_); refine sqL (some 9) Try.func31 #[.agg #[.int .i64 a0_0, .slice A0_1 l0_1.length c0_1]] ?_; (with_reducible refine (impl_GapsOk.calls k a0_0 _ _ l0_1 true _ ?side1 ?side2 A7.out).mono ?_); (case side1 => repeat (first | exact (Kd.C_below HR0_1.out HB.out) | (with_reducible refine Kd.C_alloc ?_ _) | (with_reducible refine Kd.C_drewN ?_ _) | (with_reducible refine Kd.C_drew ?_))); (case side2 => exact HC0_1.out); rintro e w14 ⟨rfl, hb⟩; refine ⟨_, rfl, ?_⟩; replace BK356 := sqb BK356 hb; replace BK357 := sqb BK357 hb; replace BK358 := sqb BK358 hb; replace HB := sqs HB hb; (try clear hb); have hnb15 := NB357_358.out; have hnc15 := NB358_357.out; obtain ⟨hcz16_0, hcz16_1, hfz16_0, hfz16_1⟩ := sqc2 BK357) | (go_at_call 31; (with_reducible refine (impl_GapsOk.calls k a1_0 _ _ l1_1 true _ ?side1 ?side2 A9.out).mono ?_); (case side1 => repeat (first | exact (Kd.C_below HR1_1.out HB.out) | (with_reducible refine Kd.C_alloc ?_ _) | (with_reducible refine Kd.C_drewN ?_ _) | (with_reducible refine Kd.C_drew ?_))); (case side2 => exact HC1_1.out); rintro e w17 ⟨rfl, hb⟩; replace BK356 := sqb BK356 hb; replace BK357 := sqb BK357 hb; replace BK358 := sqb BK358 hb; replace HB := sqs HB hb; (try clear hb); obtain ⟨hcz18_0, hcz18_1, hfz18_0, hfz18_1⟩ := sqc2 BK356; obtain ⟨hcz19_0, hcz19_1, hfz19_0, hfz19_1⟩ := sqc2 BK357))
        go_meet
        case rel => exact ⟨_, ((a0_0 != a1_0)), (by first | rfl | (simp; done) | (simp [*]; done)), H', ⟨by first | omega | exact Nat.le_refl _⟩, sqk BK356, sqk BK357, sqk BK358, sqh HB⟩
      · replace c10 := Bool.eq_false_iff.mpr c10
        subst c10
        have H1 : (impl_GapsWiden.j0 k true a0_0 l0_1 a1_0 l1_1) = some (r1, r2) := by rw [if_neg (show ¬ (false = true) by decide)] at H; exact H
        clear H
        have H := H1
        clear H1
        have H' := Aside0.mk H
        clear H
        have hnb20 := NB356_357.out
        have hnc20 := NB357_356.out
        have hnb21 := NB356_358.out
        have hnc21 := NB358_356.out
        obtain ⟨hcz22_0, hcz22_1, hfz22_0, hfz22_1⟩ := sqc2 BK356
        go_wp2_with (first | ((with_reducible refine gate_callee (f := 31) rfl ?_); refine sqL (some 9) Try.func31 #[.agg #[.int .i64 a0_0, .slice A0_1 l0_1.length c0_1]] ?_; (with_reducible refine (impl_GapsOk.calls k a0_0 _ _ l0_1 true _ ?side1 ?side2 A7.out).mono ?_); (case side1 => repeat (first | exact (Kd.C_below HR0_1.out HB.out) | (with_reducible refine Kd.C_alloc ?_ _) | (with_reducible refine Kd.C_drewN ?_ _) | (with_reducible refine Kd.C_drew ?_))); (case side2 => exact HC0_1.out); rintro e w23 ⟨rfl, hb⟩; refine ⟨_, rfl, ?_⟩; replace BK356 := sqb BK356 hb; replace BK357 := sqb BK357 hb; replace BK358 := sqb BK358 hb; replace HB := sqs HB hb; (try clear hb); have hnb24 := NB357_358.out; have hnc24 := NB358_357.out; obtain ⟨hcz25_0, hcz25_1, hfz25_0, hfz25_1⟩ := sqc2 BK357) | (go_at_call 31; (with_reducible refine (impl_GapsOk.calls k a1_0 _ _ l1_1 false _ ?side1 ?side2 A9.out).mono ?_); (case side1 => repeat (first | exact (Kd.C_below HR1_1.out HB.out) | (with_reducible refine Kd.C_alloc ?_ _) | (with_reducible refine Kd.C_drewN ?_ _) | (with_reducible refine Kd.C_drew ?_))); (case side2 => exact HC1_1.out); rintro e w26 ⟨rfl, hb⟩; replace BK356 := sqb BK356 hb; replace BK357 := sqb BK357 hb; replace BK358 := sqb BK358 hb; replace HB := sqs HB hb; (try clear hb)))
        go_meet
        case rel => exact ⟨_, (true), (by first | rfl | (simp; done) | (simp [*]; done)), H', ⟨by first | omega | exact Nat.le_refl _⟩, sqk BK356, sqk BK357, sqk BK358, sqh HB⟩
    · replace c8 := Bool.eq_false_iff.mpr c8
      subst c8
      have H1 : (impl_GapsWiden.j0 k true a0_0 l0_1 a1_0 l1_1) = some (r1, r2) := by rw [if_neg (show ¬ (false = true) by decide)] at H; exact H
      clear H
      have H := H1
      clear H1
      have H' := Aside0.mk H
      clear H
      have hnb27 := NB356_357.out
      have hnc27 := NB357_356.out
      have hnb28 := NB356_358.out
      have hnc28 := NB358_356.out
      obtain ⟨hcz29_0, hcz29_1, hfz29_0, hfz29_1⟩ := sqc2 BK356
      go_wp2_with (first | ((with_reducible refine gate_callee (f := 31) rfl ?_); refine sqL (some 9) Try.func31 #[.agg #[.int .i64 a0_0, .slice A0_1 l0_1.length c0_1]] ?_; (with_reducible refine (impl_GapsOk.calls k a0_0 _ _ l0_1 false _ ?side1 ?side2 A7.out).mono ?_); (case side1 => repeat (first | exact (Kd.C_below HR0_1.out HB.out) | (with_reducible refine Kd.C_alloc ?_ _) | (with_reducible refine Kd.C_drewN ?_ _) | (with_reducible refine Kd.C_drew ?_))); (case side2 => exact HC0_1.out); rintro e w30 ⟨rfl, hb⟩; refine ⟨_, rfl, ?_⟩; replace BK356 := sqb BK356 hb; replace BK357 := sqb BK357 hb; replace BK358 := sqb BK358 hb; replace HB := sqs HB hb; (try clear hb)))
      go_meet
      case rel => exact ⟨_, (true), (by first | rfl | (simp; done) | (simp [*]; done)), H', ⟨by first | omega | exact Nat.le_refl _⟩, sqk BK356, sqk BK357, sqk BK358, sqh HB⟩
  case rest =>
    clear HC3
    obtain ⟨kq, x22_2, rfl, HA, HJ2, BK356, BK357, BK358, HB⟩ := hcut
    cases kq with
    | zero => exact absurd HA.out (by simp [impl_GapsWiden.j0])
    | succ kj2 =>
      have H := HA.out
      clear HA
      simp only [impl_GapsWiden.j0] at H
      by_cases c31 : x22_2 = true
      · subst c31
        have H1 : (some (0, ([] : List Int))) = some (r1, r2) := by rw [if_pos rfl] at H; exact H
        clear H
        have H := H1
        clear H1
        simp only [Option.some.injEq, Prod.mk.injEq] at H
        obtain ⟨rfl, rfl⟩ := H
        have hnb32 := NB358_356.out
        have hnc32 := NB356_358.out
        have hnb33 := NB358_357.out
        have hnc33 := NB357_358.out
        obtain ⟨hcz34_0, hcz34_1, hfz34_0, hfz34_1⟩ := sqc2 BK358
        go_wp2
        refine bodyPost_ret (results_cell_row rfl _ _ gb358 41 #[.int .i64 0, .slice none 0 0] (0, 0) _ rfl (by refine sqt ?_; refine blk_put (cs := #[.int .i64 0, .slice none 0 0]) ?_ 1 _ rfl; refine sqt ?_; refine blk_put (cs := #[.int .i64 0, .slice none 0 0]) ?_ 0 _ rfl; refine sqt ?_; exact BK358.out) Try.underlying41 rfl (by kernel_rfl)) rfl ?_
        exact ⟨_, by first | rfl | (simp [errW_none, errW_some] <;> rfl) | (simp [*, errW_none, errW_some] <;> rfl), by first | exact Kd.R_nil _ _ _ _ _ | exact Kd.N_nil _ _ _ _ _ | exact Kd.V_nil _ _ _ _ _ | exact Kd.Q_nil _ _ _ _ _ | exact Kd.S_nil _ _ _ _ _, by repeat (first | (with_reducible first | exact HB.out | apply below_alloc | apply pw_below_drewN | apply below_drew1 | refine below_set ?_ GE356.out | refine below_set ?_ GE357.out | refine below_set ?_ GE358.out) | exact HB.out)⟩
      · replace c31 := Bool.eq_false_iff.mpr c31
        subst c31
        have H1 : ((impl_Gaps_clone.f a0_0 l0_1).bind fun bt361 => (impl_GapsWiden.l0 kj2 l1_1 (l1_1.length : Int) 0 bt361.1 bt361.2)) = some (r1, r2) := by rw [if_neg (show ¬ (false = true) by decide)] at H; exact H
        clear H
        have H := H1
        clear H1
        replace H := Option.bind_eq_some_iff.mp H
        obtain ⟨⟨t361, t362⟩, A350, H⟩ := H
        replace H : (impl_GapsWiden.l0 kj2 l1_1 (l1_1.length : Int) 0 t361 t362) = some (r1, r2) := H
        have A35 := Aside0.mk A350
        clear A350
        have H' := Aside0.mk H
        clear H
        have hnb36 := NB356_357.out
        have hnc36 := NB357_356.out
        have hnb37 := NB356_358.out
        have hnc37 := NB358_356.out
        obtain ⟨hcz38_0, hcz38_1, hfz38_0, hfz38_1⟩ := sqc2 BK356
        go_wp2_with (first | ((with_reducible refine gate_callee (f := 111) rfl ?_); refine sqL (some 25) Try.func111 #[.agg #[.int .i64 a0_0, .slice A0_1 l0_1.length c0_1]] ?_; (with_reducible refine (impl_Gaps_clone.calls a0_0 _ _ l0_1 t361 t362 _ ?side1 ?side2 A35.out).mono ?_); (case side1 => repeat (first | exact (Kd.C_below HR0_1.out HB.out) | (with_reducible refine Kd.C_alloc ?_ _) | (with_reducible refine Kd.C_drewN ?_ _) | (with_reducible refine Kd.C_drew ?_))); (case side2 => exact HC0_1.out); rintro e w39 ⟨v363, rfl, ho0, hb⟩; refine ⟨_, rfl, ?_⟩; have HO364 := Aside0.mk (Kd.R_lower ho0 (below_size (by repeat (first | (with_reducible first | exact HB.out | apply below_alloc | apply pw_below_drewN | apply below_drew1 | refine below_set ?_ GE356.out | refine below_set ?_ GE357.out | refine below_set ?_ GE358.out) | exact HB.out)))); replace BK356 := sqb BK356 hb; replace BK357 := sqb BK357 hb; replace BK358 := sqb BK358 hb; replace HB := sqs HB hb; (try clear hb); (try clear hb2); (try clear hk); (try clear hi); (try clear ho0)) | ((with_reducible refine gate_dst (N := 5) rfl ?_); refine sqx 5 #[.int .i64 0, .slice none 0 0] 41 ?_; intro gb365 hg w40 hbox hb; have n0_ := Aside0.mk (Kd.R_below (by (with_reducible repeat (first | apply Kd.R_alloc | apply Kd.R_drewN | apply Kd.R_drew)); exact HO364.out) hb); have n1_ := sqb BK356 hb; have n2_ := sqb BK357 hb; have n3_ := sqb BK358 hb; have n4_ := sqs HB hb; have n5_ := Aside0.mk (hbox); have n6_ := sqg HB hg; have n7_ := sqg HB hg; have n8_ := sqn BK356 hg; have n9_ := sqm BK356 hg; have n10_ := sqn BK357 hg; have n11_ := sqm BK357 hg; have n12_ := sqn BK358 hg; have n13_ := sqm BK358 hg; clear HO364; clear BK356; clear BK357; clear BK358; clear HB; have HO364 := n0_; have BK356 := n1_; have BK357 := n2_; have BK358 := n3_; have HB := n4_; have BK365 := n5_; have GW365 := n6_; have GE365 := n7_; have NB356_365 := n8_; have NB365_356 := n9_; have NB357_365 := n10_; have NB365_357 := n11_; have NB358_365 := n12_; have NB365_358 := n13_; clear n0_ n1_ n2_ n3_ n4_ n5_ n6_ n7_ n8_ n9_ n10_ n11_ n12_ n13_; clear hb hbox hg; have hnb41 := NB365_356.out; have hnc41 := NB356_365.out; have hnb42 := NB365_357.out; have hnc42 := NB357_365.out; have hnb43 := NB365_358.out; have hnc43 := NB358_365.out; obtain ⟨hcz44_0, hcz44_1, hfz44_0, hfz44_1⟩ := sqc2 BK365; obtain ⟨Ao45, co45, eo45⟩ := Kd.R_slice HO364.out; subst eo45; have hnb46 := NB357_358.out; have hnc46 := NB358_357.out; obtain ⟨hcz47_0, hcz47_1, hfz47_0, hfz47_1⟩ := sqc2 BK357))
        go_loopg [29] kj2 (fun kq v29 w' => ∃ (x29_2 : Int) (x366001_2 : List Int) (u366001 : Value), v29 = .int .i64 x29_2 ∧ Aside0 (impl_GapsWiden.l0 kq l1_1 (l1_1.length : Int) x29_2 t361 x366001_2 = some (r1, r2)) ∧ Aside0 (kq ≤ kj2) ∧ Aside0 (Kd.R (Kd.int .i64) 3 w' w.heap.size (fun _ => True) u366001 x366001_2) ∧ Aside0 (w'.heap[gb356]? = some (.cells #[.int .i64 a0_0, (.slice A0_1 l0_1.length c0_1)] 41 (0, 0))) ∧ Aside0 (w'.heap[gb357]? = some (.cells #[.int .i64 a1_0, (.slice A1_1 l1_1.length c1_1)] 41 (0, 0))) ∧ Aside0 (w'.heap[gb358]? = some (.cells #[.int .i64 0, (.slice none 0 0)] 41 (0, 0))) ∧ Aside0 (w'.heap[gb365]? = some (.cells #[.int .i64 t361, u366001] 41 (0, 0))) ∧ Aside0 (Below w.heap.size w w'))
        case atStart => exact ⟨(0), (t362), (.slice Ao45 t362.length co45), (by first | rfl | (simp; done) | (simp [*]; done)), H', ⟨Nat.le_refl _⟩, ⟨by (with_reducible repeat (first | apply Kd.R_alloc | apply Kd.R_drewN | apply Kd.R_drew)); exact Kd.R_mono (Kd.R_far (p := ⟨gb365, 1, none⟩) (Kd.R_far (p := ⟨gb365, 0, none⟩) (Kd.R_types HO364.out BK365.out (by decide)) (fun _ hk => hk.2) (.int .i64 t361)) (fun _ hk => hk.2) (.slice Ao45 t362.length co45)) (fun _ hk => trivial)⟩, ⟨by refine sqt ?_; refine blk_far ?_ NB356_365.out _; refine sqt ?_; refine blk_far ?_ NB356_365.out _; refine sqt ?_; exact BK356.out⟩, ⟨by refine sqt ?_; refine blk_far ?_ NB357_365.out _; refine sqt ?_; refine blk_far ?_ NB357_365.out _; refine sqt ?_; exact BK357.out⟩, ⟨by refine sqt ?_; refine blk_far ?_ NB358_365.out _; refine sqt ?_; refine blk_far ?_ NB358_365.out _; refine sqt ?_; exact BK358.out⟩, ⟨by refine sqt ?_; refine blk_put (cs := #[.int .i64 t361, .slice none 0 0]) ?_ 1 _ rfl; refine sqt ?_; refine blk_put (cs := #[.int .i64 0, .slice none 0 0]) ?_ 0 _ rfl; refine sqt ?_; exact BK365.out⟩, sqh HB⟩
        case round =>
          clear H'
          try clear c1
          try clear c2
          try clear p2
          try clear c3
          try clear c4
          try clear c8
          try clear c10
          try clear c11
          try clear c12
          try clear c15
          try clear c20
          try clear c21
          try clear c24
          try clear c27
          try clear c28
          try clear c31
          try clear c32
          try clear c33
          try clear c36
          try clear c37
          try clear c38
          try clear c41
          try clear c42
          try clear c43
          try clear c46
          try clear hcz13_0
          try clear hcz13_1
          try clear hcz16_0
          try clear hcz16_1
          try clear hcz18_0
          try clear hcz18_1
          try clear hcz19_0
          try clear hcz19_1
          try clear hcz22_0
          try clear hcz22_1
          try clear hcz25_0
          try clear hcz25_1
          try clear hcz29_0
          try clear hcz29_1
          try clear hcz34_0
          try clear hcz34_1
          try clear hcz38_0
          try clear hcz38_1
          try clear hcz44_0
          try clear hcz44_1
          try clear hcz47_0
          try clear hcz47_1
          try clear hfz13_0
          try clear hfz13_1
          try clear hfz16_0
          try clear hfz16_1
          try clear hfz18_0
          try clear hfz18_1
          try clear hfz19_0
          try clear hfz19_1
          try clear hfz22_0
          try clear hfz22_1
          try clear hfz25_0
          try clear hfz25_1
          try clear hfz29_0
          try clear hfz29_1
          try clear hfz34_0
          try clear hfz34_1
          try clear hfz38_0
          try clear hfz38_1
          try clear hfz44_0
          try clear hfz44_1
          try clear hfz47_0
          try clear hfz47_1
          try clear p2
          obtain ⟨x29_2, x366001_2, u366001, rfl, HA, HK2, HO_366001, BK356, BK357, BK358, BK365, HB⟩ := hrel
          cases gk with
          | zero => exact absurd HA.out (by simp [impl_GapsWiden.l0])
          | succ k2 =>
            have H := HA.out
            clear HA
            simp only [impl_GapsWiden.l0] at H
            by_cases c48 : x29_2 < (l1_1.length : Int)
            · rw [if_pos c48] at H
              have c48b0 : decide (x29_2 < (l1_1.length : Int)) = true := decide_eq_true c48
              clear c48
              by_cases c49 : 0 ≤ x29_2
              · rw [if_pos c49] at H
                have c49b0 : decide (0 ≤ x29_2) = true := decide_eq_true c49
                clear c49
                by_cases c50 : x29_2 < (l1_1.length : Int)
                · rw [if_pos c50] at H
                  have c50b0 : decide (x29_2 < (l1_1.length : Int)) = true := decide_eq_true c50
                  clear c50
                  by_cases c51 : x29_2 < (x366001_2.length : Int)
                  · rw [if_pos c51] at H
                    have c51b0 : decide (x29_2 < (x366001_2.length : Int)) = true := decide_eq_true c51
                    clear c51
                    by_cases c52 : (rd l1_1 x29_2) > (rd x366001_2 x29_2)
                    · rw [if_pos c52] at H
                      have c52b0 : decide ((rd x366001_2 x29_2) < (rd l1_1 x29_2)) = true := decide_eq_true c52
                      clear c52
                      obtain ⟨y368, hy368⟩ : ∃ y_ : List Int, y_ = (x366001_2.set (x29_2 : Int).toNat 1099511627776) := ⟨_, rfl⟩
                      replace H : (impl_GapsWiden.l0 k2 l1_1 (l1_1.length : Int) (wrap64 (x29_2 + 1)) t361 y368) = some (r1, r2) := by first | (rw [hy368]; with_reducible exact H) | (have H2_ := (Option.bind_some _ _).symm.trans H; rw [hy368]; with_reducible exact H2_) | (have H2_ := (Option.bind_some _ _).symm.trans H; with_reducible exact H2_) | with_reducible exact H | (rw [hy368]; exact H) | exact H
                      have Ny368 := Aside0.mk hy368
                      clear hy368
                      have H' := Aside0.mk H
                      clear H
                      have p366 : 0 ≤ (x29_2 : Int) := of_decide_eq_true (by first | (with_reducible assumption) | assumption)
                      have q366 : x29_2 < (l1_1.length : Int) := of_decide_eq_true (by first | (with_reducible assumption) | assumption)
                      obtain ⟨ad366, e366, hx366_0⟩ := Kd.at_int HR1_1.out x29_2 p366 q366
                      cases e366
                      replace hx366_0 := (HB.out.cell (World.block_lt_of_cell? w _ hx366_0)).trans hx366_0
                      replace p366 := eq_true p366
                      replace q366 := eq_true q366
                      have hnb54 := NB365_356.out
                      have hnc54 := NB356_365.out
                      have hnb55 := NB365_357.out
                      have hnc55 := NB357_365.out
                      have hnb56 := NB365_358.out
                      have hnc56 := NB358_365.out
                      obtain ⟨hcz57_0, hcz57_1, hfz57_0, hfz57_1⟩ := sqc2 BK365
                      obtain ⟨Ao58, co58, eo58⟩ := Kd.R_slice HO_366001.out
                      subst eo58
                      have p367 : 0 ≤ (x29_2 : Int) := of_decide_eq_true (by first | (with_reducible assumption) | assumption)
                      have q367 : x29_2 < (x366001_2.length : Int) := of_decide_eq_true (by first | (with_reducible assumption) | assumption)
                      obtain ⟨ad367, e367, hx367_0⟩ := Kd.at_int (Kd.R_reads' HO_366001.out).2.2 x29_2 p367 q367
                      cases e367
                      replace p367 := eq_true p367
                      replace q367 := eq_true q367
                      have p53 : 0 ≤ (x29_2 : Int) := of_decide_eq_true (by first | (with_reducible assumption) | assumption)
                      have q53 : (x29_2 : Int) < ((x366001_2.length : Int) : Int) := of_decide_eq_true (by first | (with_reducible assumption) | assumption)
                      obtain ⟨go53, co53, eo53, gb53, gl53, cl53, HG53⟩ := Kd.R_form HO_366001.out (by omega)
                      (first | cases eo53 | (injection eo53 with ea_ en_ ec_; (first | subst ea_ | (injection ea_ with ea_; subst ea_)); subst ec_; clear en_))
                      have GB53 := Aside0.mk gb53
                      have GG53 := Aside0.mk HG53
                      clear gb53 gl53 HG53
                      (first | simp only [add_plain] at hx367_0 | skip)
                      obtain ⟨hx53_0, hf53_0⟩ := Kd.R_celln 0 HO_366001.out (x29_2 : Int) p53 q53
                      replace p53 := eq_true p53
                      replace q53 := eq_true q53
                      have HP59 := Kd.R_putg HO_366001.out (x29_2 : Int) 1099511627776
                      go_wp2_with (first | ((with_reducible refine gate_store (t := 3) (p := 44) rfl ?_); refine store_event (t := 3) (p := 44) (v := ?vo_w60) (w1 := (wr.setCell ⟨go53, (x29_2 : Int).toNat, none⟩ (.int .i64 1099511627776))) ?hg ?ho ?hn ?hr ?_; (case ho => rfl); (case hg => rfl); (case hn => rfl); (case hr => first | (go_simp; done) | (go_simp; rfl)); intro w60 hw; have hg : wr.grownBy w60 (some go53) := (by rw [hw]; exact HP59.2); have hp_ : Kd.R (Kd.int .i64) 3 w60 w.heap.size (fun _ => True) (.slice (some ⟨go53, 0, none⟩) x366001_2.length co58) y368 := (by rw [hw, Ny368.out]; exact HP59.1); clear HP59; have n0_ := Aside0.mk (hp_); have n1_ := Aside0.mk (blk_grown (g := gb356) (o := .cells #[.int .i64 a0_0, .slice A0_1 l0_1.length c0_1] 41 (0, 0)) (by refine sqt ?_; exact BK356.out) hg (Kd.R_ne HO_366001.out BK356.out (by decide))); have n2_ := Aside0.mk (blk_grown (g := gb357) (o := .cells #[.int .i64 a1_0, .slice (some ad366) l1_1.length c1_1] 41 (0, 0)) (by refine sqt ?_; exact BK357.out) hg (Kd.R_ne HO_366001.out BK357.out (by decide))); have n3_ := Aside0.mk (blk_grown (g := gb358) (o := .cells #[.int .i64 0, .slice none 0 0] 41 (0, 0)) (by refine sqt ?_; exact BK358.out) hg (Kd.R_ne HO_366001.out BK358.out (by decide))); have n4_ := Aside0.mk (blk_grown (g := gb365) (o := .cells #[.int .i64 t361, .slice (some ⟨go53, 0, none⟩) x366001_2.length co58] 41 (0, 0)) (by refine sqt ?_; exact BK365.out) hg (Kd.R_ne HO_366001.out BK365.out (by decide))); have n5_ := Aside0.mk ((by rw [hw]; exact below_set (HB.out) GB53.out : Below w.heap.size w w60)); clear HO_366001; clear BK356; clear BK357; clear BK358; clear BK365; clear HB; have HO_366001 := n0_; have BK356 := n1_; have BK357 := n2_; have BK358 := n3_; have BK365 := n4_; have HB := n5_; clear n0_ n1_ n2_ n3_ n4_ n5_; clear hg hw hp_))
                      go_roundg k2
                      case measure => have := HJ2.out; have := HK2.out; omega
                      case rel => exact ⟨(wrap64 (x29_2 + 1)), (y368), (.slice (some ⟨go53, 0, none⟩) x366001_2.length co58), (by first | rfl | (simp; done) | (simp [*]; done)), H', ⟨by have := HJ2.out; have := HK2.out; omega⟩, ⟨by (with_reducible repeat (first | apply Kd.R_alloc | apply Kd.R_drewN | apply Kd.R_drew)); exact HO_366001.out⟩, sqk BK356, sqk BK357, sqk BK358, sqk BK365, sqh HB⟩
                    · rw [if_neg c52] at H
                      have c52b0 : decide ((rd x366001_2 x29_2) < (rd l1_1 x29_2)) = false := decide_eq_false c52
                      clear c52
                      have H' := Aside0.mk H
                      clear H
                      have p366 : 0 ≤ (x29_2 : Int) := of_decide_eq_true (by first | (with_reducible assumption) | assumption)
                      have q366 : x29_2 < (l1_1.length : Int) := of_decide_eq_true (by first | (with_reducible assumption) | assumption)
                      obtain ⟨ad366, e366, hx366_0⟩ := Kd.at_int HR1_1.out x29_2 p366 q366
                      cases e366
                      replace hx366_0 := (HB.out.cell (World.block_lt_of_cell? w _ hx366_0)).trans hx366_0
                      replace p366 := eq_true p366
                      replace q366 := eq_true q366
                      have hnb61 := NB365_356.out
                      have hnc61 := NB356_365.out
                      have hnb62 := NB365_357.out
                      have hnc62 := NB357_365.out
                      have hnb63 := NB365_358.out
                      have hnc63 := NB358_365.out
                      obtain ⟨hcz64_0, hcz64_1, hfz64_0, hfz64_1⟩ := sqc2 BK365
                      obtain ⟨Ao65, co65, eo65⟩ := Kd.R_slice HO_366001.out
                      subst eo65
                      have p367 : 0 ≤ (x29_2 : Int) := of_decide_eq_true (by first | (with_reducible assumption) | assumption)
                      have q367 : x29_2 < (x366001_2.length : Int) := of_decide_eq_true (by first | (with_reducible assumption) | assumption)
                      obtain ⟨ad367, e367, hx367_0⟩ := Kd.at_int (Kd.R_reads' HO_366001.out).2.2 x29_2 p367 q367
                      cases e367
                      replace p367 := eq_true p367
                      replace q367 := eq_true q367
                      go_wp2
                      go_roundg k2
                      case measure => have := HJ2.out; have := HK2.out; omega
                      case rel => exact ⟨(wrap64 (x29_2 + 1)), (x366001_2), (.slice (some ad367) x366001_2.length co65), (by first | rfl | (simp; done) | (simp [*]; done)), H', ⟨by have := HJ2.out; have := HK2.out; omega⟩, ⟨by (with_reducible repeat (first | apply Kd.R_alloc | apply Kd.R_drewN | apply Kd.R_drew)); exact HO_366001.out⟩, sqk BK356, sqk BK357, sqk BK358, sqk BK365, sqh HB⟩
                  · rw [if_neg c51] at H
                    exact absurd H (by simp)
                · rw [if_neg c50] at H
                  exact absurd H (by simp)
              · rw [if_neg c49] at H
                exact absurd H (by simp)
            · rw [if_neg c48] at H
              have c48b0 : decide (x29_2 < (l1_1.length : Int)) = false := decide_eq_false c48
              clear c48
              simp only [Option.some.injEq, Prod.mk.injEq] at H
              obtain ⟨rfl, rfl⟩ := H
              have hnb66 := NB365_356.out
              have hnc66 := NB356_365.out
              have hnb67 := NB365_357.out
              have hnc67 := NB357_365.out
              have hnb68 := NB365_358.out
              have hnc68 := NB358_365.out
              obtain ⟨hcz69_0, hcz69_1, hfz69_0, hfz69_1⟩ := sqc2 BK365
              have hnb70 := NB358_356.out
              have hnc70 := NB356_358.out
              have hnb71 := NB358_357.out
              have hnc71 := NB357_358.out
              obtain ⟨hcz72_0, hcz72_1, hfz72_0, hfz72_1⟩ := sqc2 BK358
              obtain ⟨Ao73, co73, eo73⟩ := Kd.R_slice HO_366001.out
              subst eo73
              go_wp2
              refine bodyPost_ret (results_cell_row rfl _ _ gb358 41 #[.int .i64 t361, .slice Ao73 x366001_2.length co73] (0, 0) _ rfl (by refine sqt ?_; refine blk_put (cs := #[.int .i64 t361, .slice none 0 0]) ?_ 1 _ rfl; refine sqt ?_; refine blk_put (cs := #[.int .i64 0, .slice none 0 0]) ?_ 0 _ rfl; refine sqt ?_; exact BK358.out) Try.underlying41 rfl (by kernel_rfl)) rfl ?_
              exact ⟨_, by first | rfl | (simp [errW_none, errW_some] <;> rfl) | (simp [*, errW_none, errW_some] <;> rfl), by (with_reducible repeat (first | apply Kd.R_alloc | apply Kd.R_drewN | apply Kd.R_drew)); exact Kd.R_mono (Kd.R_far (p := ⟨gb358, 1, none⟩) (Kd.R_far (p := ⟨gb358, 0, none⟩) (Kd.R_types HO_366001.out BK358.out (by decide)) (fun _ hk => hk.2) (.int .i64 t361)) (fun _ hk => hk.2) (.slice Ao73 x366001_2.length co73)) (fun _ hk => trivial), by repeat (first | (with_reducible first | exact HB.out | apply below_alloc | apply pw_below_drewN | apply below_drew1 | refine below_set ?_ GE356.out | refine below_set ?_ GE357.out | refine below_set ?_ GE358.out | refine below_set ?_ GE365.out) | exact HB.out)⟩

/-! ### spec_l8Max: function 122 -/
set_option maxHeartbeats 8000000 in
set_option maxRecDepth 100000 in
theorem spec_l8Max.calls (a0 : Int) (a1 : Int) (r : Int) (w : World) (h : spec_l8Max.f a0 a1 = some r) :
    Calls Try.prog 122 #[.int .i64 a0, .int .i64 a1] w fun e w' => e = .returned (.int .i64 r) ∧ Drawn0 w w' := by
  have H : (if a0 > a1 then (some a0) else (some a1)) = some r := h
  clear h
  by_cases c3 : a0 > a1
  · rw [if_pos c3] at H
    have c3b0 : decide (a1 < a0) = true := decide_eq_true c3
    clear c3
    obtain rfl := Option.some.inj H
    go_enter Try.func122, Try.ntmps122
    go_wp2
    go_ret
    exact ⟨by first | rfl | (simp; done) | (simp [*]; done), by repeat (first | exact Drawn0.refl _ | apply Drawn0.step)⟩
  · rw [if_neg c3] at H
    have c3b0 : decide (a1 < a0) = false := decide_eq_false c3
    clear c3
    obtain rfl := Option.some.inj H
    go_enter Try.func122, Try.ntmps122
    go_wp2
    go_ret
    exact ⟨by first | rfl | (simp; done) | (simp [*]; done), by repeat (first | exact Drawn0.refl _ | apply Drawn0.step)⟩

/-! ### spec_l11Two: function 124 -/
theorem spec_l11Two.mono : ∀ a0 a1 a2 a3 k, LeO (spec_l11Two.f k a0 a1 a2 a3) (spec_l11Two.f (k + 1) a0 a1 a2 a3) := by
  intro a0 a1 a2 a3 k
  unfold spec_l11Two.f
  repeat' first
      | (with_reducible exact spec_GapsOk.mono _ _ _)
      | (with_reducible exact LeO.refl _)
      | (with_reducible exact LeO.none _)
      | (with_reducible refine LeO.ite ?_ ?_)
      | (with_reducible refine LeO.bind ?_ (fun _ => ?_))
      | exact spec_GapsOk.mono _ _ _
      | exact LeO.none _
      | refine LeO.ite ?_ ?_
      | refine LeO.bind ?_ (fun _ => ?_)
set_option maxHeartbeats 8000000 in
set_option maxRecDepth 100000 in
theorem spec_l11Two.calls (k : Nat) (a0_0 : Int) (A0_1 : Option Addr) (c0_1 : Nat) (l0_1 : List Int) (a1_0 : Int) (A1_1 : Option Addr) (c1_1 : Nat) (l1_1 : List Int) (r : Bool) (w : World) (hr0_1 : Kd.C (Kd.int .i64) w A0_1 l0_1.length l0_1) (hc0_1 : l0_1.length ≤ c0_1) (hr1_1 : Kd.C (Kd.int .i64) w A1_1 l1_1.length l1_1) (hc1_1 : l1_1.length ≤ c1_1) (h : spec_l11Two.f k a0_0 l0_1 a1_0 l1_1 = some r) :
    Calls Try.prog 124 #[.agg #[.int .i64 a0_0, .slice A0_1 l0_1.length c0_1], .agg #[.int .i64 a1_0, .slice A1_1 l1_1.length c1_1]] w fun e w' => e = .returned (.bool r) ∧ Below w.heap.size w w' := by
  have hu41 := Try.underlying41
  have HR0_1 := Aside0.mk hr0_1
  have HC0_1 := Aside0.mk hc0_1
  clear hr0_1 hc0_1
  have HR1_1 := Aside0.mk hr1_1
  have HC1_1 := Aside0.mk hc1_1
  clear hr1_1 hc1_1
  have HB := Aside0.mk (Below.refl w.heap.size w)
  have H : ((spec_GapsOk.f k a0_0 l0_1).bind fun t371 => (if t371 = true then ((spec_GapsOk.f k a1_0 l1_1).bind fun t372 => (if t372 = true then (some (a0_0 == a1_0)) else (some false))) else (some false))) = some r := h
  clear h
  replace H := Option.bind_eq_some_iff.mp H
  obtain ⟨t371, A30, H⟩ := H
  replace H : (if t371 = true then ((spec_GapsOk.f k a1_0 l1_1).bind fun t372 => (if t372 = true then (some (a0_0 == a1_0)) else (some false))) else (some false)) = some r := H
  have A3 := Aside0.mk A30
  clear A30
  by_cases c4 : t371 = true
  · subst c4
    have H1 : ((spec_GapsOk.f k a1_0 l1_1).bind fun t372 => (if t372 = true then (some (a0_0 == a1_0)) else (some false))) = some r := by rw [if_pos rfl] at H; exact H
    clear H
    have H := H1
    clear H1
    replace H := Option.bind_eq_some_iff.mp H
    obtain ⟨t372, A50, H⟩ := H
    replace H : (if t372 = true then (some (a0_0 == a1_0)) else (some false)) = some r := H
    have A5 := Aside0.mk A50
    clear A50
    by_cases c6 : t372 = true
    · subst c6
      have H1 : (some (a0_0 == a1_0)) = some r := by rw [if_pos rfl] at H; exact H
      clear H
      have H := H1
      clear H1
      obtain rfl := Option.some.inj H
      go_enter Try.func124, Try.ntmps124
      go_wp2_with (first | ((with_reducible refine gate_dst (N := 2) rfl ?_); refine sqx 2 #[.int .i64 a0_0, .slice A0_1 l0_1.length c0_1] 41 ?_; intro gb369 hg w7 hbox hb; have BK369 := Aside0.mk (hbox); have GW369 := sqg HB hg; have GE369 := sqg HB hg; replace HB := sqs HB hb; clear hb hbox hg) | ((with_reducible refine gate_dst (N := 3) rfl ?_); refine sqx 3 #[.int .i64 a1_0, .slice A1_1 l1_1.length c1_1] 41 ?_; intro gb370 hg w8 hbox hb; have BK370 := Aside0.mk (hbox); have GW370 := sqg HB hg; have GE370 := sqg HB hg; have NB369_370 := sqn BK369 hg; have NB370_369 := sqm BK369 hg; replace BK369 := sqb BK369 hb; replace HB := sqs HB hb; clear hb hbox hg; have hnb9 := NB369_370.out; have hnc9 := NB370_369.out; obtain ⟨hcz10_0, hcz10_1, hfz10_0, hfz10_1⟩ := sqc2 BK369) | ((with_reducible refine gate_callee (f := 41) rfl ?_); refine sqL (some 6) Try.func41 #[.agg #[.int .i64 a0_0, .slice A0_1 l0_1.length c0_1]] ?_; (with_reducible refine (spec_GapsOk.calls k a0_0 _ _ l0_1 true _ ?side1 ?side2 A3.out).mono ?_); (case side1 => repeat (first | exact (Kd.C_below HR0_1.out HB.out) | (with_reducible refine Kd.C_alloc ?_ _) | (with_reducible refine Kd.C_drewN ?_ _) | (with_reducible refine Kd.C_drew ?_))); (case side2 => exact HC0_1.out); rintro e w11 ⟨rfl, hb⟩; refine ⟨_, rfl, ?_⟩; replace BK369 := sqb BK369 hb; replace BK370 := sqb BK370 hb; replace HB := sqs HB hb; (try clear hb); obtain ⟨hcz12_0, hcz12_1, hfz12_0, hfz12_1⟩ := sqc2 BK370) | (go_at_call 41; (with_reducible refine (spec_GapsOk.calls k a1_0 _ _ l1_1 true _ ?side1 ?side2 A5.out).mono ?_); (case side1 => repeat (first | exact (Kd.C_below HR1_1.out HB.out) | (with_reducible refine Kd.C_alloc ?_ _) | (with_reducible refine Kd.C_drewN ?_ _) | (with_reducible refine Kd.C_drew ?_))); (case side2 => exact HC1_1.out); rintro e w13 ⟨rfl, hb⟩; replace BK369 := sqb BK369 hb; replace BK370 := sqb BK370 hb; replace HB := sqs HB hb; (try clear hb); obtain ⟨hcz14_0, hcz14_1, hfz14_0, hfz14_1⟩ := sqc2 BK369; obtain ⟨hcz15_0, hcz15_1, hfz15_0, hfz15_1⟩ := sqc2 BK370))
      go_ret
      exact sqe HB
    · replace c6 := Bool.eq_false_iff.mpr c6
      subst c6
      have H1 : (some false) = some r := by rw [if_neg (show ¬ (false = true) by decide)] at H; exact H
      clear H
      have H := H1
      clear H1
      obtain rfl := Option.some.inj H
      go_enter Try.func124, Try.ntmps124
      go_wp2_with (first | ((with_reducible refine gate_dst (N := 2) rfl ?_); refine sqx 2 #[.int .i64 a0_0, .slice A0_1 l0_1.length c0_1] 41 ?_; intro gb369 hg w16 hbox hb; have BK369 := Aside0.mk (hbox); have GW369 := sqg HB hg; have GE369 := sqg HB hg; replace HB := sqs HB hb; clear hb hbox hg) | ((with_reducible refine gate_dst (N := 3) rfl ?_); refine sqx 3 #[.int .i64 a1_0, .slice A1_1 l1_1.length c1_1] 41 ?_; intro gb370 hg w17 hbox hb; have BK370 := Aside0.mk (hbox); have GW370 := sqg HB hg; have GE370 := sqg HB hg; have NB369_370 := sqn BK369 hg; have NB370_369 := sqm BK369 hg; replace BK369 := sqb BK369 hb; replace HB := sqs HB hb; clear hb hbox hg; have hnb18 := NB369_370.out; have hnc18 := NB370_369.out; obtain ⟨hcz19_0, hcz19_1, hfz19_0, hfz19_1⟩ := sqc2 BK369) | ((with_reducible refine gate_callee (f := 41) rfl ?_); refine sqL (some 6) Try.func41 #[.agg #[.int .i64 a0_0, .slice A0_1 l0_1.length c0_1]] ?_; (with_reducible refine (spec_GapsOk.calls k a0_0 _ _ l0_1 true _ ?side1 ?side2 A3.out).mono ?_); (case side1 => repeat (first | exact (Kd.C_below HR0_1.out HB.out) | (with_reducible refine Kd.C_alloc ?_ _) | (with_reducible refine Kd.C_drewN ?_ _) | (with_reducible refine Kd.C_drew ?_))); (case side2 => exact HC0_1.out); rintro e w20 ⟨rfl, hb⟩; refine ⟨_, rfl, ?_⟩; replace BK369 := sqb BK369 hb; replace BK370 := sqb BK370 hb; replace HB := sqs HB hb; (try clear hb); obtain ⟨hcz21_0, hcz21_1, hfz21_0, hfz21_1⟩ := sqc2 BK370) | (go_at_call 41; (with_reducible refine (spec_GapsOk.calls k a1_0 _ _ l1_1 false _ ?side1 ?side2 A5.out).mono ?_); (case side1 => repeat (first | exact (Kd.C_below HR1_1.out HB.out) | (with_reducible refine Kd.C_alloc ?_ _) | (with_reducible refine Kd.C_drewN ?_ _) | (with_reducible refine Kd.C_drew ?_))); (case side2 => exact HC1_1.out); rintro e w22 ⟨rfl, hb⟩; replace BK369 := sqb BK369 hb; replace BK370 := sqb BK370 hb; replace HB := sqs HB hb; (try clear hb)))
      go_ret
      exact sqe HB
  · replace c4 := Bool.eq_false_iff.mpr c4
    subst c4
    have H1 : (some false) = some r := by rw [if_neg (show ¬ (false = true) by decide)] at H; exact H
    clear H
    have H := H1
    clear H1
    obtain rfl := Option.some.inj H
    go_enter Try.func124, Try.ntmps124
    go_wp2_with (first | ((with_reducible refine gate_dst (N := 2) rfl ?_); refine sqx 2 #[.int .i64 a0_0, .slice A0_1 l0_1.length c0_1] 41 ?_; intro gb369 hg w23 hbox hb; have BK369 := Aside0.mk (hbox); have GW369 := sqg HB hg; have GE369 := sqg HB hg; replace HB := sqs HB hb; clear hb hbox hg) | ((with_reducible refine gate_dst (N := 3) rfl ?_); refine sqx 3 #[.int .i64 a1_0, .slice A1_1 l1_1.length c1_1] 41 ?_; intro gb370 hg w24 hbox hb; have BK370 := Aside0.mk (hbox); have GW370 := sqg HB hg; have GE370 := sqg HB hg; have NB369_370 := sqn BK369 hg; have NB370_369 := sqm BK369 hg; replace BK369 := sqb BK369 hb; replace HB := sqs HB hb; clear hb hbox hg; have hnb25 := NB369_370.out; have hnc25 := NB370_369.out; obtain ⟨hcz26_0, hcz26_1, hfz26_0, hfz26_1⟩ := sqc2 BK369) | ((with_reducible refine gate_callee (f := 41) rfl ?_); refine sqL (some 6) Try.func41 #[.agg #[.int .i64 a0_0, .slice A0_1 l0_1.length c0_1]] ?_; (with_reducible refine (spec_GapsOk.calls k a0_0 _ _ l0_1 false _ ?side1 ?side2 A3.out).mono ?_); (case side1 => repeat (first | exact (Kd.C_below HR0_1.out HB.out) | (with_reducible refine Kd.C_alloc ?_ _) | (with_reducible refine Kd.C_drewN ?_ _) | (with_reducible refine Kd.C_drew ?_))); (case side2 => exact HC0_1.out); rintro e w27 ⟨rfl, hb⟩; refine ⟨_, rfl, ?_⟩; replace BK369 := sqb BK369 hb; replace BK370 := sqb BK370 hb; replace HB := sqs HB hb; (try clear hb)))
    go_ret
    exact sqe HB

end Go.Proofs.Ytkekcenlleebeaa.PFnGapsJoin
