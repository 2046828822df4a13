/- Functions of the program as plain Lean functions, and that calls of them come to what these tell. Conditions: those in each law. -/
import Derived.Test.YtmdcgkkkfncieaaSq
import Derived.Test.YtmdcgkkkfncieaaDFnRangeLattice
import Derived.Test.YtmdcgkkkfncieaaQFnRangeLatticex0
import Derived.Test.YtmdcgkkkfncieaaQFnRangeLatticex2
import Derived.Test.YtmdcgkkkfncieaaQFnRangeLatticex3
import Derived.Test.YtmdcgkkkfncieaaQFnRangeLatticex8
namespace Go.Proofs.Ytmdcgkkkfncieaa.PFnRangeLattice
open Go.RowKit Go.Proofs.Ytmdcgkkkfncieaa.Sq Go.Proofs.YtmdcgkkkfncieaaW.PrintWords Go.Proofs.YtmdcgkkkfncieaaW.PrintLast Go.Proofs.YtmdcgkkkfncieaaW.PrintMore
attribute [local go_sem] max2_int min2_int max_two min_two max_three min_three max_four min_four   -- for this text's walks alone
set_option linter.unusedVariables false
set_option linter.unusedSimpArgs false

/-! ### laws_at: function 38 -/
set_option maxHeartbeats 8000000 in
set_option maxRecDepth 100000 in
theorem laws_at.calls (A0 : Option Addr) (c0 : Nat) (l0 : List Int) (a1 : Int) (r : Int) (w : World) (hr0 : Kd.C (Kd.int .u8) w A0 l0.length l0) (hc0 : l0.length ≤ c0) (h : laws_at.f l0 a1 = some r) :
    Calls Try.prog 38 #[.slice A0 l0.length c0, .int .i64 a1] w fun e w' => e = .returned (.int .u8 r) ∧ Drawn0 w w' := by
  have HR0 := Aside0.mk hr0
  have HC0 := Aside0.mk hc0
  clear hr0 hc0
  have H : (if (l0.length : Int) = 0 then (some ((wrap64 (a1 * 37)) % 256)) else (if a1 < (l0.length : Int) then (if 0 ≤ a1 then (some (rd l0 a1)) else (none)) else (if 0 ≤ (Int.tmod a1 (l0.length : Int)) then (if (Int.tmod a1 (l0.length : Int)) < (l0.length : Int) then (if 0 ≤ (Int.tmod (wrap64 ((wrap64 (a1 * 5)) + 1)) (l0.length : Int)) then (if (Int.tmod (wrap64 ((wrap64 (a1 * 5)) + 1)) (l0.length : Int)) < (l0.length : Int) then (some (((((((rd l0 (Int.tmod a1 (l0.length : Int))) * 31) % 256) + (rd l0 (Int.tmod (wrap64 ((wrap64 (a1 * 5)) + 1)) (l0.length : Int)))) % 256) + ((a1) % 256)) % 256)) else (none)) else (none)) else (none)) else (none)))) = some r := h
  clear h
  by_cases c3 : (l0.length : Int) = 0
  · rw [if_pos c3] at H
    have c3b0 : ((l0.length : Int) == 0) = true := beq_iff_eq.mpr c3
    have c3b1 : ((l0.length : Int) != 0) = false := bne_eq_false_iff_eq.mpr c3
    clear c3
    obtain rfl := Option.some.inj H
    go_enter Try.func38, Try.ntmps38
    go_wp2
    repeat (go_quiet (fail); try go_wp2)
    go_ret
    exact ⟨by first | rfl | (simp; done) | (simp [*]; done), by repeat (first | exact Drawn0.refl _ | apply Drawn0.step)⟩
  · rw [if_neg c3] at H
    have c3b0 : ((l0.length : Int) == 0) = false := beq_eq_false_iff_ne.mpr c3
    have c3b1 : ((l0.length : Int) != 0) = true := bne_iff_ne.mpr c3
    have c3b2 : ¬ (l0 = []) := fun h_ => c3 (by rw [h_]; rfl)
    by_cases c4 : a1 < (l0.length : Int)
    · rw [if_pos c4] at H
      have c4b0 : decide (a1 < (l0.length : Int)) = true := decide_eq_true c4
      clear c4
      by_cases c5 : 0 ≤ a1
      · rw [if_pos c5] at H
        have c5b0 : decide (0 ≤ a1) = true := decide_eq_true c5
        clear c5
        obtain rfl := Option.some.inj H
        have p326 : 0 ≤ (a1 : Int) := of_decide_eq_true (by first | (with_reducible assumption) | assumption)
        have q326 : a1 < (l0.length : Int) := of_decide_eq_true (by first | (with_reducible assumption) | assumption)
        obtain ⟨ad326, e326, hx326_0⟩ := Kd.at_int HR0.out a1 p326 q326
        cases e326
        replace p326 := eq_true p326
        replace q326 := eq_true q326
        go_enter Try.func38, Try.ntmps38
        go_wp2
        repeat (go_quiet (fail); try go_wp2)
        go_ret
        exact ⟨by first | rfl | (simp; done) | (simp [*]; done), by repeat (first | exact Drawn0.refl _ | apply Drawn0.step)⟩
      · rw [if_neg c5] at H
        exact absurd H (by simp)
    · rw [if_neg c4] at H
      have c4b0 : decide (a1 < (l0.length : Int)) = false := decide_eq_false c4
      clear c4
      obtain ⟨ji6, hji6⟩ : ∃ j_ : Int, (Int.tmod a1 (l0.length : Int)) = j_ := ⟨_, rfl⟩
      replace H : (if 0 ≤ (ji6) then (if (ji6) < (l0.length : Int) then (if 0 ≤ (Int.tmod (wrap64 ((wrap64 (a1 * 5)) + 1)) (l0.length : Int)) then (if (Int.tmod (wrap64 ((wrap64 (a1 * 5)) + 1)) (l0.length : Int)) < (l0.length : Int) then (some (((((((rd l0 (ji6)) * 31) % 256) + (rd l0 (Int.tmod (wrap64 ((wrap64 (a1 * 5)) + 1)) (l0.length : Int)))) % 256) + ((a1) % 256)) % 256)) else (none)) else (none)) else (none)) else (none)) = some r := by first | (rw [hji6] at H; exact H) | (simp only [hji6] at H ⊢; exact H)
      by_cases c7 : 0 ≤ (ji6)
      · rw [if_pos c7] at H
        have c7b0 : decide (0 ≤ (ji6)) = true := decide_eq_true c7
        clear c7
        by_cases c8 : (ji6) < (l0.length : Int)
        · rw [if_pos c8] at H
          have c8b0 : decide ((ji6) < (l0.length : Int)) = true := decide_eq_true c8
          clear c8
          obtain ⟨ji9, hji9⟩ : ∃ j_ : Int, (Int.tmod (wrap64 ((wrap64 (a1 * 5)) + 1)) (l0.length : Int)) = j_ := ⟨_, rfl⟩
          replace H : (if 0 ≤ (ji9) then (if (ji9) < (l0.length : Int) then (some (((((((rd l0 (ji6)) * 31) % 256) + (rd l0 (ji9))) % 256) + ((a1) % 256)) % 256)) else (none)) else (none)) = some r := by first | (rw [hji9] at H; exact H) | (simp only [hji9] at H ⊢; exact H)
          by_cases c10 : 0 ≤ (ji9)
          · rw [if_pos c10] at H
            have c10b0 : decide (0 ≤ (ji9)) = true := decide_eq_true c10
            clear c10
            by_cases c11 : (ji9) < (l0.length : Int)
            · rw [if_pos c11] at H
              have c11b0 : decide ((ji9) < (l0.length : Int)) = true := decide_eq_true c11
              clear c11
              obtain rfl := Option.some.inj H
              have p327 : 0 ≤ ((ji6) : Int) := of_decide_eq_true (by first | (with_reducible assumption) | assumption)
              have q327 : (ji6) < (l0.length : Int) := of_decide_eq_true (by first | (with_reducible assumption) | assumption)
              obtain ⟨ad327, e327, hx327_0⟩ := Kd.at_int HR0.out (ji6) p327 q327
              cases e327
              replace p327 := eq_true p327
              replace q327 := eq_true q327
              have p328 : 0 ≤ ((ji9) : Int) := of_decide_eq_true (by first | (with_reducible assumption) | assumption)
              have q328 : (ji9) < (l0.length : Int) := of_decide_eq_true (by first | (with_reducible assumption) | assumption)
              obtain ⟨ad328, e328, hx328_0⟩ := Kd.at_int HR0.out (ji9) p328 q328
              obtain rfl : ad327 = ad328 := (by injection e328)
              replace p328 := eq_true p328
              replace q328 := eq_true q328
              go_enter Try.func38, Try.ntmps38
              go_wp2
              repeat (go_quiet (fail); try go_wp2)
              go_ret
              exact ⟨by first | rfl | (simp; done) | (simp only [← hji6, ← hji9] <;> (first | rfl | simp)) | (simp [*]; done), by repeat (first | exact Drawn0.refl _ | apply Drawn0.step)⟩
            · rw [if_neg c11] at H
              exact absurd H (by simp)
          · rw [if_neg c10] at H
            exact absurd H (by simp)
        · rw [if_neg c8] at H
          exact absurd H (by simp)
      · rw [if_neg c7] at H
        exact absurd H (by simp)

/-! ### laws_wide: function 43 -/
set_option maxHeartbeats 8000000 in
set_option maxRecDepth 100000 in
theorem laws_wide.calls (A0 : Option Addr) (c0 : Nat) (l0 : List Int) (a1 : Int) (r : Int) (w : World) (hr0 : Kd.C (Kd.int .u8) w A0 l0.length l0) (hc0 : l0.length ≤ c0) (h : laws_wide.f l0 a1 = some r) :
    Calls Try.prog 43 #[.slice A0 l0.length c0, .int .i64 a1] w fun e w' => e = .returned (.int .i64 r) ∧ Drawn0 w w' := by
  have HR0 := Aside0.mk hr0
  have HC0 := Aside0.mk hc0
  clear hr0 hc0
  have H : ((laws_at.f l0 a1).bind fun t329 => ((laws_at.f l0 (wrap64 (a1 + 1))).bind fun t330 => ((laws_at.f l0 (wrap64 (a1 + 2))).bind fun t331 => ((laws_at.f l0 (wrap64 (a1 + 3))).bind fun t332 => (some (Go.bits .or .i64 (Go.bits .or .i64 (Go.bits .or .i64 (wrap64 ((wrap64 (t329)) * 16777216)) (wrap64 ((wrap64 (t330)) * 65536))) (wrap64 ((wrap64 (t331)) * 256))) (wrap64 (t332)))))))) = some r := h
  clear h
  replace H := Option.bind_eq_some_iff.mp H
  obtain ⟨t329, A30, H⟩ := H
  replace H : ((laws_at.f l0 (wrap64 (a1 + 1))).bind fun t330 => ((laws_at.f l0 (wrap64 (a1 + 2))).bind fun t331 => ((laws_at.f l0 (wrap64 (a1 + 3))).bind fun t332 => (some (Go.bits .or .i64 (Go.bits .or .i64 (Go.bits .or .i64 (wrap64 ((wrap64 (t329)) * 16777216)) (wrap64 ((wrap64 (t330)) * 65536))) (wrap64 ((wrap64 (t331)) * 256))) (wrap64 (t332))))))) = some r := H
  have A3 := Aside0.mk A30
  clear A30
  replace H := Option.bind_eq_some_iff.mp H
  obtain ⟨t330, A40, H⟩ := H
  replace H : ((laws_at.f l0 (wrap64 (a1 + 2))).bind fun t331 => ((laws_at.f l0 (wrap64 (a1 + 3))).bind fun t332 => (some (Go.bits .or .i64 (Go.bits .or .i64 (Go.bits .or .i64 (wrap64 ((wrap64 (t329)) * 16777216)) (wrap64 ((wrap64 (t330)) * 65536))) (wrap64 ((wrap64 (t331)) * 256))) (wrap64 (t332)))))) = some r := H
  have A4 := Aside0.mk A40
  clear A40
  replace H := Option.bind_eq_some_iff.mp H
  obtain ⟨t331, A50, H⟩ := H
  replace H : ((laws_at.f l0 (wrap64 (a1 + 3))).bind fun t332 => (some (Go.bits .or .i64 (Go.bits .or .i64 (Go.bits .or .i64 (wrap64 ((wrap64 (t329)) * 16777216)) (wrap64 ((wrap64 (t330)) * 65536))) (wrap64 ((wrap64 (t331)) * 256))) (wrap64 (t332))))) = some r := H
  have A5 := Aside0.mk A50
  clear A50
  replace H := Option.bind_eq_some_iff.mp H
  obtain ⟨t332, A60, H⟩ := H
  replace H : (some (Go.bits .or .i64 (Go.bits .or .i64 (Go.bits .or .i64 (wrap64 ((wrap64 (t329)) * 16777216)) (wrap64 ((wrap64 (t330)) * 65536))) (wrap64 ((wrap64 (t331)) * 256))) (wrap64 (t332)))) = some r := H
  have A6 := Aside0.mk A60
  clear A60
  obtain rfl := Option.some.inj H
  go_enter Try.func43, Try.ntmps43
  go_wp2_with (first | ((with_reducible refine gate_callee (f := 38) rfl ?_); refine sqL (some 7) Try.func38 #[.slice A0 l0.length c0, .int .i64 a1] ?_; (with_reducible refine (laws_at.calls _ _ l0 a1 t329 _ ?side1 ?side2 A3.out).mono ?_); (case side1 => repeat (first | exact HR0.out | (with_reducible refine Kd.C_alloc ?_ _) | (with_reducible refine Kd.C_drewN ?_ _) | (with_reducible refine Kd.C_drew ?_))); (case side2 => exact HC0.out); rintro e w' ⟨rfl, ⟨nd, rfl⟩⟩; refine ⟨_, rfl, ?_⟩) | ((with_reducible refine gate_callee (f := 38) rfl ?_); refine sqL (some 13) Try.func38 #[.slice A0 l0.length c0, .int .i64 (wrap64 (a1 + 1))] ?_; (with_reducible refine (laws_at.calls _ _ l0 (wrap64 (a1 + 1)) t330 _ ?side1 ?side2 A4.out).mono ?_); (case side1 => repeat (first | exact HR0.out | (with_reducible refine Kd.C_alloc ?_ _) | (with_reducible refine Kd.C_drewN ?_ _) | (with_reducible refine Kd.C_drew ?_))); (case side2 => exact HC0.out); rintro e w' ⟨rfl, ⟨nd, rfl⟩⟩; refine ⟨_, rfl, ?_⟩) | ((with_reducible refine gate_callee (f := 38) rfl ?_); refine sqL (some 20) Try.func38 #[.slice A0 l0.length c0, .int .i64 (wrap64 (a1 + 2))] ?_; (with_reducible refine (laws_at.calls _ _ l0 (wrap64 (a1 + 2)) t331 _ ?side1 ?side2 A5.out).mono ?_); (case side1 => repeat (first | exact HR0.out | (with_reducible refine Kd.C_alloc ?_ _) | (with_reducible refine Kd.C_drewN ?_ _) | (with_reducible refine Kd.C_drew ?_))); (case side2 => exact HC0.out); rintro e w' ⟨rfl, ⟨nd, rfl⟩⟩; refine ⟨_, rfl, ?_⟩) | ((with_reducible refine gate_callee (f := 38) rfl ?_); refine sqL (some 27) Try.func38 #[.slice A0 l0.length c0, .int .i64 (wrap64 (a1 + 3))] ?_; (with_reducible refine (laws_at.calls _ _ l0 (wrap64 (a1 + 3)) t332 _ ?side1 ?side2 A6.out).mono ?_); (case side1 => repeat (first | exact HR0.out | (with_reducible refine Kd.C_alloc ?_ _) | (with_reducible refine Kd.C_drewN ?_ _) | (with_reducible refine Kd.C_drew ?_))); (case side2 => exact HC0.out); rintro e w' ⟨rfl, ⟨nd, rfl⟩⟩; refine ⟨_, rfl, ?_⟩))
  go_ret
  exact ⟨by first | rfl | (simp; done) | (simp [*]; done), by repeat (first | exact Drawn0.refl _ | apply Drawn0.step)⟩

/-! ### laws_within: function 50 -/
theorem laws_within.mono_l : ∀ k, (∀ y0 y1 y2 y3 y4, LeO (laws_within.j0 k y0 y1 y2 y3 y4) (laws_within.j0 (k + 1) y0 y1 y2 y3 y4))
  | 0 => fun _ _ _ _ _ r h => by simp [laws_within.j0] at h
  | k + 1 => by
    have ih0 := laws_within.mono_l k
    · intro y0 y1 y2 y3 y4
      unfold laws_within.j0
      repeat' first
      | (with_reducible exact ih0 _ _ _ _ _)
      | (with_reducible exact LeO.refl _)
      | (with_reducible exact LeO.none _)
      | (with_reducible refine LeO.ite ?_ ?_)
      | (with_reducible refine LeO.bind ?_ (fun _ => ?_))
      | exact ih0 _ _ _ _ _
      | exact LeO.none _
      | refine LeO.ite ?_ ?_
      | refine LeO.bind ?_ (fun _ => ?_)
theorem laws_within.mono : ∀ a0 a1 a2 a3 k, LeO (laws_within.f k a0 a1 a2 a3) (laws_within.f (k + 1) a0 a1 a2 a3) := by
  intro a0 a1 a2 a3 k
  have ih0 := laws_within.mono_l k
  unfold laws_within.f
  repeat' first
      | (with_reducible exact ih0 _ _ _ _ _)
      | (with_reducible exact LeO.refl _)
      | (with_reducible exact LeO.none _)
      | (with_reducible refine LeO.ite ?_ ?_)
      | (with_reducible refine LeO.bind ?_ (fun _ => ?_))
      | exact ih0 _ _ _ _ _
      | exact LeO.none _
      | refine LeO.ite ?_ ?_
      | refine LeO.bind ?_ (fun _ => ?_)
set_option maxHeartbeats 8000000 in
set_option maxRecDepth 100000 in
theorem laws_within.calls (k : Nat) (a0_0 : Int) (a0_1 : Int) (A1 : Option Addr) (c1 : Nat) (l1 : List Int) (a2 : Int) (r : Int) (w : World) (hr1 : Kd.C (Kd.int .u8) w A1 l1.length l1) (hc1 : l1.length ≤ c1) (h : laws_within.f k a0_0 a0_1 l1 a2 = some r) :
    Calls Try.prog 50 #[.agg #[.int .i64 a0_0, .int .i64 a0_1], .slice A1 l1.length c1, .int .i64 a2] w fun e w' => e = .returned (.int .i64 r) ∧ Below w.heap.size w w' := by
  have hu27 := Try.underlying27
  have HR1 := Aside0.mk hr1
  have HC1 := Aside0.mk hc1
  clear hr1 hc1
  have HB := Aside0.mk (Below.refl w.heap.size w)
  have H : (if a0_0 > a0_1 then (laws_within.j0 k l1 a2 true a0_0 a0_1) else ((spec_RangeOk.f a0_0 a0_1).bind fun t334 => (laws_within.j0 k l1 a2 (!t334) a0_0 a0_1))) = some r := h
  clear h
  have HC4 := Aside0.mk H
  clear H
  go_enter Try.func50, Try.ntmps50
  go_upto_region 1 with (first | ((with_reducible refine gate_dst (N := 3) rfl ?_); refine sqx 3 #[.int .i64 a0_0, .int .i64 a0_1] 27 ?_; intro gb333 hg w5 hbox hb; have BK333 := Aside0.mk (hbox); have GW333 := sqg HB hg; have GE333 := sqg HB hg; replace HB := sqs HB hb; clear hb hbox hg))
  repeat (go_quiet (first | ((with_reducible refine gate_dst (N := 3) rfl ?_); refine sqx 3 #[.int .i64 a0_0, .int .i64 a0_1] 27 ?_; intro gb333 hg w5 hbox hb; have BK333 := Aside0.mk (hbox); have GW333 := sqg HB hg; have GE333 := sqg HB hg; replace HB := sqs HB hb; clear hb hbox hg)); go_upto_region 1 with (first | ((with_reducible refine gate_dst (N := 3) rfl ?_); refine sqx 3 #[.int .i64 a0_0, .int .i64 a0_1] 27 ?_; intro gb333 hg w5 hbox hb; have BK333 := Aside0.mk (hbox); have GW333 := sqg HB hg; have GE333 := sqg HB hg; replace HB := sqs HB hb; clear hb hbox hg)))
  (try simp only [Act.put, List.setIfInBounds_toArray, List.set_cons_zero, List.set_cons_succ])
  go_cut [18] (fun v18 wc => ∃ (kq : Nat) (x18_3 : Bool), v18 = .bool x18_3 ∧ Aside0 (laws_within.j0 kq l1 a2 x18_3 a0_0 a0_1 = some r) ∧ Aside0 (kq ≤ k) ∧ Aside0 (wc.heap[gb333]? = some (.cells #[.int .i64 a0_0, .int .i64 a0_1] 27 (0, 0))) ∧ Aside0 (Below w.heap.size w wc))
  case first =>
    have H := HC4.out
    clear HC4
    by_cases c6 : a0_0 > a0_1
    · rw [if_pos c6] at H
      have c6b0 : decide (a0_1 < a0_0) = true := decide_eq_true c6
      clear c6
      (first | rw [c6b0] | (simp only [i64_w, i32_w]; rw [c6b0]) | skip)
      have H' := Aside0.mk H
      clear H
      obtain ⟨hcz7_0, hcz7_1, hfz7_0, hfz7_1⟩ := sqc2 BK333
      go_wp2
      repeat (go_quiet (fail); try go_wp2)
      go_meet
      case rel => exact ⟨_, (true), (by first | rfl | (simp; done) | (simp [*]; done)), H', ⟨by first | omega | exact Nat.le_refl _⟩, sqk BK333, sqh HB⟩
    · rw [if_neg c6] at H
      have c6b0 : decide (a0_1 < a0_0) = false := decide_eq_false c6
      clear c6
      (first | rw [c6b0] | (simp only [i64_w, i32_w]; rw [c6b0]) | skip)
      replace H := Option.bind_eq_some_iff.mp H
      obtain ⟨t334, A80, H⟩ := H
      replace H : (laws_within.j0 k l1 a2 (!t334) a0_0 a0_1) = some r := H
      have A8 := Aside0.mk A80
      clear A80
      have H' := Aside0.mk H
      clear H
      obtain ⟨hcz9_0, hcz9_1, hfz9_0, hfz9_1⟩ := sqc2 BK333
      go_wp2_with (first | (go_at_call 40; (with_reducible refine (spec_RangeOk.calls a0_0 a0_1 t334 _ A8.out).mono ?_); rintro e w10 ⟨rfl, hb⟩; replace BK333 := sqb BK333 hb; replace HB := sqs HB hb; (try clear hb)))
      repeat (go_quiet (first | (go_at_call 40; (with_reducible refine (spec_RangeOk.calls a0_0 a0_1 t334 _ A8.out).mono ?_); rintro e w10 ⟨rfl, hb⟩; replace BK333 := sqb BK333 hb; replace HB := sqs HB hb; (try clear hb))); try go_wp2_with (first | (go_at_call 40; (with_reducible refine (spec_RangeOk.calls a0_0 a0_1 t334 _ A8.out).mono ?_); rintro e w10 ⟨rfl, hb⟩; replace BK333 := sqb BK333 hb; replace HB := sqs HB hb; (try clear hb))))
      go_meet
      case rel => exact ⟨_, (!t334), (by first | rfl | (simp; done) | (simp [*]; done)), H', ⟨by first | omega | exact Nat.le_refl _⟩, sqk BK333, sqh HB⟩
  case rest =>
    clear HC4
    try clear c1
    obtain ⟨kq, x18_3, rfl, HA, HJ3, BK333, HB⟩ := hcut
    cases kq with
    | zero => exact absurd HA.out (by simp [laws_within.j0])
    | succ kj3 =>
      have H := HA.out
      clear HA
      simp only [laws_within.j0] at H
      by_cases c11 : x18_3 = true
      · subst c11
        have H1 : ((laws_at.f l1 a2).bind fun t335 => (some (wrap64 ((wrap64 (t335)) - 128)))) = some r := by rw [if_pos rfl] at H; exact H
        clear H
        have H := H1
        clear H1
        replace H := Option.bind_eq_some_iff.mp H
        obtain ⟨t335, A120, H⟩ := H
        replace H : (some (wrap64 ((wrap64 (t335)) - 128))) = some r := H
        have A12 := Aside0.mk A120
        clear A120
        obtain rfl := Option.some.inj H
        go_wp2_with (first | (go_at_call 38; (with_reducible refine (laws_at.calls _ _ l1 a2 t335 _ ?side1 ?side2 A12.out).mono ?_); (case side1 => repeat (first | exact (Kd.C_below HR1.out HB.out) | (with_reducible refine Kd.C_alloc ?_ _) | (with_reducible refine Kd.C_drewN ?_ _) | (with_reducible refine Kd.C_drew ?_))); (case side2 => exact HC1.out); rintro e w' ⟨rfl, ⟨nd, rfl⟩⟩; (try first | exact ⟨rfl, _, World.drewN_drewN _ _ _⟩ | exact ⟨rfl, _, Eq.trans (World.drewN_drewN _ _ _) (congrArg (World.drewN _) (Nat.add_assoc _ _ _))⟩)))
        repeat (go_quiet (first | (go_at_call 38; (with_reducible refine (laws_at.calls _ _ l1 a2 t335 _ ?side1 ?side2 A12.out).mono ?_); (case side1 => repeat (first | exact (Kd.C_below HR1.out HB.out) | (with_reducible refine Kd.C_alloc ?_ _) | (with_reducible refine Kd.C_drewN ?_ _) | (with_reducible refine Kd.C_drew ?_))); (case side2 => exact HC1.out); rintro e w' ⟨rfl, ⟨nd, rfl⟩⟩; (try first | exact ⟨rfl, _, World.drewN_drewN _ _ _⟩ | exact ⟨rfl, _, Eq.trans (World.drewN_drewN _ _ _) (congrArg (World.drewN _) (Nat.add_assoc _ _ _))⟩))); try go_wp2_with (first | (go_at_call 38; (with_reducible refine (laws_at.calls _ _ l1 a2 t335 _ ?side1 ?side2 A12.out).mono ?_); (case side1 => repeat (first | exact (Kd.C_below HR1.out HB.out) | (with_reducible refine Kd.C_alloc ?_ _) | (with_reducible refine Kd.C_drewN ?_ _) | (with_reducible refine Kd.C_drew ?_))); (case side2 => exact HC1.out); rintro e w' ⟨rfl, ⟨nd, rfl⟩⟩; (try first | exact ⟨rfl, _, World.drewN_drewN _ _ _⟩ | exact ⟨rfl, _, Eq.trans (World.drewN_drewN _ _ _) (congrArg (World.drewN _) (Nat.add_assoc _ _ _))⟩))))
        go_ret
        exact sqe HB
      · replace c11 := Bool.eq_false_iff.mpr c11
        subst c11
        have H1 : ((laws_at.f l1 (wrap64 (a2 + 5))).bind fun t336 => (if (Int.tmod (wrap64 (t336)) 4) = 0 then ((laws_at.f l1 a2).bind fun t337 => (if (wrap64 ((wrap64 (a0_1 - a0_0)) + 1)) = 0 then (none) else (some (wrap64 (a0_0 + (Int.tmod (Int.tmod (wrap64 (t337)) 3) (wrap64 ((wrap64 (a0_1 - a0_0)) + 1)))))))) else (if (Int.tmod (wrap64 (t336)) 4) = 1 then ((laws_at.f l1 a2).bind fun t338 => (if (wrap64 ((wrap64 (a0_1 - a0_0)) + 1)) = 0 then (none) else (some (wrap64 (a0_1 - (Int.tmod (Int.tmod (wrap64 (t338)) 3) (wrap64 ((wrap64 (a0_1 - a0_0)) + 1)))))))) else ((laws_wide.f l1 a2).bind fun t339 => (if (wrap64 ((wrap64 (a0_1 - a0_0)) + 1)) = 0 then (none) else (some (wrap64 (a0_0 + (Int.tmod t339 (wrap64 ((wrap64 (a0_1 - a0_0)) + 1))))))))))) = some r := by rw [if_neg (show ¬ (false = true) by decide)] at H; exact H
        clear H
        have H := H1
        clear H1
        replace H := Option.bind_eq_some_iff.mp H
        obtain ⟨t336, A130, H⟩ := H
        replace H : (if (Int.tmod (wrap64 (t336)) 4) = 0 then ((laws_at.f l1 a2).bind fun t337 => (if (wrap64 ((wrap64 (a0_1 - a0_0)) + 1)) = 0 then (none) else (some (wrap64 (a0_0 + (Int.tmod (Int.tmod (wrap64 (t337)) 3) (wrap64 ((wrap64 (a0_1 - a0_0)) + 1)))))))) else (if (Int.tmod (wrap64 (t336)) 4) = 1 then ((laws_at.f l1 a2).bind fun t338 => (if (wrap64 ((wrap64 (a0_1 - a0_0)) + 1)) = 0 then (none) else (some (wrap64 (a0_1 - (Int.tmod (Int.tmod (wrap64 (t338)) 3) (wrap64 ((wrap64 (a0_1 - a0_0)) + 1)))))))) else ((laws_wide.f l1 a2).bind fun t339 => (if (wrap64 ((wrap64 (a0_1 - a0_0)) + 1)) = 0 then (none) else (some (wrap64 (a0_0 + (Int.tmod t339 (wrap64 ((wrap64 (a0_1 - a0_0)) + 1)))))))))) = some r := H
        have A13 := Aside0.mk A130
        clear A130
        by_cases c14 : (Int.tmod (wrap64 (t336)) 4) = 0
        · rw [if_pos c14] at H
          have c14b0 : ((Int.tmod (wrap64 (t336)) 4) == 0) = true := beq_iff_eq.mpr c14
          have c14b1 : ((Int.tmod (wrap64 (t336)) 4) != 0) = false := bne_eq_false_iff_eq.mpr c14
          clear c14
          replace H := Option.bind_eq_some_iff.mp H
          obtain ⟨t337, A150, H⟩ := H
          replace H : (if (wrap64 ((wrap64 (a0_1 - a0_0)) + 1)) = 0 then (none) else (some (wrap64 (a0_0 + (Int.tmod (Int.tmod (wrap64 (t337)) 3) (wrap64 ((wrap64 (a0_1 - a0_0)) + 1))))))) = some r := H
          have A15 := Aside0.mk A150
          clear A150
          by_cases c16 : (wrap64 ((wrap64 (a0_1 - a0_0)) + 1)) = 0
          · rw [if_pos c16] at H
            exact absurd H (by simp)
          · rw [if_neg c16] at H
            have c16b0 : ((wrap64 ((wrap64 (a0_1 - a0_0)) + 1)) == 0) = false := beq_eq_false_iff_ne.mpr c16
            have c16b1 : ((wrap64 ((wrap64 (a0_1 - a0_0)) + 1)) != 0) = true := bne_iff_ne.mpr c16
            obtain rfl := Option.some.inj H
            obtain ⟨hcz17_0, hcz17_1, hfz17_0, hfz17_1⟩ := sqc2 BK333
            go_wp2_with (first | (go_at_call 38; (with_reducible refine (laws_at.calls _ _ l1 (wrap64 (a2 + 5)) t336 _ ?side1 ?side2 A13.out).mono ?_); (case side1 => repeat (first | exact (Kd.C_below HR1.out HB.out) | (with_reducible refine Kd.C_alloc ?_ _) | (with_reducible refine Kd.C_drewN ?_ _) | (with_reducible refine Kd.C_drew ?_))); (case side2 => exact HC1.out); rintro e w' ⟨rfl, ⟨nd, rfl⟩⟩; (try first | exact ⟨rfl, _, World.drewN_drewN _ _ _⟩ | exact ⟨rfl, _, Eq.trans (World.drewN_drewN _ _ _) (congrArg (World.drewN _) (Nat.add_assoc _ _ _))⟩)) | (go_at_call 38; (with_reducible refine (laws_at.calls _ _ l1 a2 t337 _ ?side1 ?side2 A15.out).mono ?_); (case side1 => repeat (first | exact (Kd.C_below HR1.out (by repeat (first | (with_reducible first | exact HB.out | apply below_alloc | apply pw_below_drewN | apply below_drew1 | refine below_set ?_ GE333.out) | exact HB.out))) | (with_reducible refine Kd.C_alloc ?_ _) | (with_reducible refine Kd.C_drewN ?_ _) | (with_reducible refine Kd.C_drew ?_))); (case side2 => exact HC1.out); rintro e w' ⟨rfl, ⟨nd, rfl⟩⟩; (try first | exact ⟨rfl, _, World.drewN_drewN _ _ _⟩ | exact ⟨rfl, _, Eq.trans (World.drewN_drewN _ _ _) (congrArg (World.drewN _) (Nat.add_assoc _ _ _))⟩)))
            repeat (go_quiet (first | (go_at_call 38; (with_reducible refine (laws_at.calls _ _ l1 (wrap64 (a2 + 5)) t336 _ ?side1 ?side2 A13.out).mono ?_); (case side1 => repeat (first | exact (Kd.C_below HR1.out HB.out) | (with_reducible refine Kd.C_alloc ?_ _) | (with_reducible refine Kd.C_drewN ?_ _) | (with_reducible refine Kd.C_drew ?_))); (case side2 => exact HC1.out); rintro e w' ⟨rfl, ⟨nd, rfl⟩⟩; (try first | exact ⟨rfl, _, World.drewN_drewN _ _ _⟩ | exact ⟨rfl, _, Eq.trans (World.drewN_drewN _ _ _) (congrArg (World.drewN _) (Nat.add_assoc _ _ _))⟩)) | (go_at_call 38; (with_reducible refine (laws_at.calls _ _ l1 a2 t337 _ ?side1 ?side2 A15.out).mono ?_); (case side1 => repeat (first | exact (Kd.C_below HR1.out (by repeat (first | (with_reducible first | exact HB.out | apply below_alloc | apply pw_below_drewN | apply below_drew1 | refine below_set ?_ GE333.out) | exact HB.out))) | (with_reducible refine Kd.C_alloc ?_ _) | (with_reducible refine Kd.C_drewN ?_ _) | (with_reducible refine Kd.C_drew ?_))); (case side2 => exact HC1.out); rintro e w' ⟨rfl, ⟨nd, rfl⟩⟩; (try first | exact ⟨rfl, _, World.drewN_drewN _ _ _⟩ | exact ⟨rfl, _, Eq.trans (World.drewN_drewN _ _ _) (congrArg (World.drewN _) (Nat.add_assoc _ _ _))⟩))); try go_wp2_with (first | (go_at_call 38; (with_reducible refine (laws_at.calls _ _ l1 (wrap64 (a2 + 5)) t336 _ ?side1 ?side2 A13.out).mono ?_); (case side1 => repeat (first | exact (Kd.C_below HR1.out HB.out) | (with_reducible refine Kd.C_alloc ?_ _) | (with_reducible refine Kd.C_drewN ?_ _) | (with_reducible refine Kd.C_drew ?_))); (case side2 => exact HC1.out); rintro e w' ⟨rfl, ⟨nd, rfl⟩⟩; (try first | exact ⟨rfl, _, World.drewN_drewN _ _ _⟩ | exact ⟨rfl, _, Eq.trans (World.drewN_drewN _ _ _) (congrArg (World.drewN _) (Nat.add_assoc _ _ _))⟩)) | (go_at_call 38; (with_reducible refine (laws_at.calls _ _ l1 a2 t337 _ ?side1 ?side2 A15.out).mono ?_); (case side1 => repeat (first | exact (Kd.C_below HR1.out (by repeat (first | (with_reducible first | exact HB.out | apply below_alloc | apply pw_below_drewN | apply below_drew1 | refine below_set ?_ GE333.out) | exact HB.out))) | (with_reducible refine Kd.C_alloc ?_ _) | (with_reducible refine Kd.C_drewN ?_ _) | (with_reducible refine Kd.C_drew ?_))); (case side2 => exact HC1.out); rintro e w' ⟨rfl, ⟨nd, rfl⟩⟩; (try first | exact ⟨rfl, _, World.drewN_drewN _ _ _⟩ | exact ⟨rfl, _, Eq.trans (World.drewN_drewN _ _ _) (congrArg (World.drewN _) (Nat.add_assoc _ _ _))⟩))))
            go_ret
            exact sqe HB
        · rw [if_neg c14] at H
          have c14b0 : ((Int.tmod (wrap64 (t336)) 4) == 0) = false := beq_eq_false_iff_ne.mpr c14
          have c14b1 : ((Int.tmod (wrap64 (t336)) 4) != 0) = true := bne_iff_ne.mpr c14
          by_cases c18 : (Int.tmod (wrap64 (t336)) 4) = 1
          · rw [if_pos c18] at H
            have c18b0 : ((Int.tmod (wrap64 (t336)) 4) == 1) = true := beq_iff_eq.mpr c18
            have c18b1 : ((Int.tmod (wrap64 (t336)) 4) != 1) = false := bne_eq_false_iff_eq.mpr c18
            clear c18
            replace H := Option.bind_eq_some_iff.mp H
            obtain ⟨t338, A190, H⟩ := H
            replace H : (if (wrap64 ((wrap64 (a0_1 - a0_0)) + 1)) = 0 then (none) else (some (wrap64 (a0_1 - (Int.tmod (Int.tmod (wrap64 (t338)) 3) (wrap64 ((wrap64 (a0_1 - a0_0)) + 1))))))) = some r := H
            have A19 := Aside0.mk A190
            clear A190
            by_cases c20 : (wrap64 ((wrap64 (a0_1 - a0_0)) + 1)) = 0
            · rw [if_pos c20] at H
              exact absurd H (by simp)
            · rw [if_neg c20] at H
              have c20b0 : ((wrap64 ((wrap64 (a0_1 - a0_0)) + 1)) == 0) = false := beq_eq_false_iff_ne.mpr c20
              have c20b1 : ((wrap64 ((wrap64 (a0_1 - a0_0)) + 1)) != 0) = true := bne_iff_ne.mpr c20
              obtain rfl := Option.some.inj H
              obtain ⟨hcz21_0, hcz21_1, hfz21_0, hfz21_1⟩ := sqc2 BK333
              go_wp2_with (first | (go_at_call 38; (with_reducible refine (laws_at.calls _ _ l1 (wrap64 (a2 + 5)) t336 _ ?side1 ?side2 A13.out).mono ?_); (case side1 => repeat (first | exact (Kd.C_below HR1.out HB.out) | (with_reducible refine Kd.C_alloc ?_ _) | (with_reducible refine Kd.C_drewN ?_ _) | (with_reducible refine Kd.C_drew ?_))); (case side2 => exact HC1.out); rintro e w' ⟨rfl, ⟨nd, rfl⟩⟩; (try first | exact ⟨rfl, _, World.drewN_drewN _ _ _⟩ | exact ⟨rfl, _, Eq.trans (World.drewN_drewN _ _ _) (congrArg (World.drewN _) (Nat.add_assoc _ _ _))⟩)) | (go_at_call 38; (with_reducible refine (laws_at.calls _ _ l1 a2 t338 _ ?side1 ?side2 A19.out).mono ?_); (case side1 => repeat (first | exact (Kd.C_below HR1.out (by repeat (first | (with_reducible first | exact HB.out | apply below_alloc | apply pw_below_drewN | apply below_drew1 | refine below_set ?_ GE333.out) | exact HB.out))) | (with_reducible refine Kd.C_alloc ?_ _) | (with_reducible refine Kd.C_drewN ?_ _) | (with_reducible refine Kd.C_drew ?_))); (case side2 => exact HC1.out); rintro e w' ⟨rfl, ⟨nd, rfl⟩⟩; (try first | exact ⟨rfl, _, World.drewN_drewN _ _ _⟩ | exact ⟨rfl, _, Eq.trans (World.drewN_drewN _ _ _) (congrArg (World.drewN _) (Nat.add_assoc _ _ _))⟩)))
              repeat (go_quiet (first | (go_at_call 38; (with_reducible refine (laws_at.calls _ _ l1 (wrap64 (a2 + 5)) t336 _ ?side1 ?side2 A13.out).mono ?_); (case side1 => repeat (first | exact (Kd.C_below HR1.out HB.out) | (with_reducible refine Kd.C_alloc ?_ _) | (with_reducible refine Kd.C_drewN ?_ _) | (with_reducible refine Kd.C_drew ?_))); (case side2 => exact HC1.out); rintro e w' ⟨rfl, ⟨nd, rfl⟩⟩; (try first | exact ⟨rfl, _, World.drewN_drewN _ _ _⟩ | exact ⟨rfl, _, Eq.trans (World.drewN_drewN _ _ _) (congrArg (World.drewN _) (Nat.add_assoc _ _ _))⟩)) | (go_at_call 38; (with_reducible refine (laws_at.calls _ _ l1 a2 t338 _ ?side1 ?side2 A19.out).mono ?_); (case side1 => repeat (first | exact (Kd.C_below HR1.out (by repeat (first | (with_reducible first | exact HB.out | apply below_alloc | apply pw_below_drewN | apply below_drew1 | refine below_set ?_ GE333.out) | exact HB.out))) | (with_reducible refine Kd.C_alloc ?_ _) | (with_reducible refine Kd.C_drewN ?_ _) | (with_reducible refine Kd.C_drew ?_))); (case side2 => exact HC1.out); rintro e w' ⟨rfl, ⟨nd, rfl⟩⟩; (try first | exact ⟨rfl, _, World.drewN_drewN _ _ _⟩ | exact ⟨rfl, _, Eq.trans (World.drewN_drewN _ _ _) (congrArg (World.drewN _) (Nat.add_assoc _ _ _))⟩))); try go_wp2_with (first | (go_at_call 38; (with_reducible refine (laws_at.calls _ _ l1 (wrap64 (a2 + 5)) t336 _ ?side1 ?side2 A13.out).mono ?_); (case side1 => repeat (first | exact (Kd.C_below HR1.out HB.out) | (with_reducible refine Kd.C_alloc ?_ _) | (with_reducible refine Kd.C_drewN ?_ _) | (with_reducible refine Kd.C_drew ?_))); (case side2 => exact HC1.out); rintro e w' ⟨rfl, ⟨nd, rfl⟩⟩; (try first | exact ⟨rfl, _, World.drewN_drewN _ _ _⟩ | exact ⟨rfl, _, Eq.trans (World.drewN_drewN _ _ _) (congrArg (World.drewN _) (Nat.add_assoc _ _ _))⟩)) | (go_at_call 38; (with_reducible refine (laws_at.calls _ _ l1 a2 t338 _ ?side1 ?side2 A19.out).mono ?_); (case side1 => repeat (first | exact (Kd.C_below HR1.out (by repeat (first | (with_reducible first | exact HB.out | apply below_alloc | apply pw_below_drewN | apply below_drew1 | refine below_set ?_ GE333.out) | exact HB.out))) | (with_reducible refine Kd.C_alloc ?_ _) | (with_reducible refine Kd.C_drewN ?_ _) | (with_reducible refine Kd.C_drew ?_))); (case side2 => exact HC1.out); rintro e w' ⟨rfl, ⟨nd, rfl⟩⟩; (try first | exact ⟨rfl, _, World.drewN_drewN _ _ _⟩ | exact ⟨rfl, _, Eq.trans (World.drewN_drewN _ _ _) (congrArg (World.drewN _) (Nat.add_assoc _ _ _))⟩))))
              go_ret
              exact sqe HB
          · rw [if_neg c18] at H
            have c18b0 : ((Int.tmod (wrap64 (t336)) 4) == 1) = false := beq_eq_false_iff_ne.mpr c18
            have c18b1 : ((Int.tmod (wrap64 (t336)) 4) != 1) = true := bne_iff_ne.mpr c18
            replace H := Option.bind_eq_some_iff.mp H
            obtain ⟨t339, A220, H⟩ := H
            replace H : (if (wrap64 ((wrap64 (a0_1 - a0_0)) + 1)) = 0 then (none) else (some (wrap64 (a0_0 + (Int.tmod t339 (wrap64 ((wrap64 (a0_1 - a0_0)) + 1))))))) = some r := H
            have A22 := Aside0.mk A220
            clear A220
            by_cases c23 : (wrap64 ((wrap64 (a0_1 - a0_0)) + 1)) = 0
            · rw [if_pos c23] at H
              exact absurd H (by simp)
            · rw [if_neg c23] at H
              have c23b0 : ((wrap64 ((wrap64 (a0_1 - a0_0)) + 1)) == 0) = false := beq_eq_false_iff_ne.mpr c23
              have c23b1 : ((wrap64 ((wrap64 (a0_1 - a0_0)) + 1)) != 0) = true := bne_iff_ne.mpr c23
              obtain rfl := Option.some.inj H
              obtain ⟨hcz24_0, hcz24_1, hfz24_0, hfz24_1⟩ := sqc2 BK333
              go_wp2_with (first | (go_at_call 38; (with_reducible refine (laws_at.calls _ _ l1 (wrap64 (a2 + 5)) t336 _ ?side1 ?side2 A13.out).mono ?_); (case side1 => repeat (first | exact (Kd.C_below HR1.out HB.out) | (with_reducible refine Kd.C_alloc ?_ _) | (with_reducible refine Kd.C_drewN ?_ _) | (with_reducible refine Kd.C_drew ?_))); (case side2 => exact HC1.out); rintro e w' ⟨rfl, ⟨nd, rfl⟩⟩; (try first | exact ⟨rfl, _, World.drewN_drewN _ _ _⟩ | exact ⟨rfl, _, Eq.trans (World.drewN_drewN _ _ _) (congrArg (World.drewN _) (Nat.add_assoc _ _ _))⟩)) | (go_at_call 43; (with_reducible refine (laws_wide.calls _ _ l1 a2 t339 _ ?side1 ?side2 A22.out).mono ?_); (case side1 => repeat (first | exact (Kd.C_below HR1.out (by repeat (first | (with_reducible first | exact HB.out | apply below_alloc | apply pw_below_drewN | apply below_drew1 | refine below_set ?_ GE333.out) | exact HB.out))) | (with_reducible refine Kd.C_alloc ?_ _) | (with_reducible refine Kd.C_drewN ?_ _) | (with_reducible refine Kd.C_drew ?_))); (case side2 => exact HC1.out); rintro e w' ⟨rfl, ⟨nd, rfl⟩⟩; (try first | exact ⟨rfl, _, World.drewN_drewN _ _ _⟩ | exact ⟨rfl, _, Eq.trans (World.drewN_drewN _ _ _) (congrArg (World.drewN _) (Nat.add_assoc _ _ _))⟩)))
              repeat (go_quiet (first | (go_at_call 38; (with_reducible refine (laws_at.calls _ _ l1 (wrap64 (a2 + 5)) t336 _ ?side1 ?side2 A13.out).mono ?_); (case side1 => repeat (first | exact (Kd.C_below HR1.out HB.out) | (with_reducible refine Kd.C_alloc ?_ _) | (with_reducible refine Kd.C_drewN ?_ _) | (with_reducible refine Kd.C_drew ?_))); (case side2 => exact HC1.out); rintro e w' ⟨rfl, ⟨nd, rfl⟩⟩; (try first | exact ⟨rfl, _, World.drewN_drewN _ _ _⟩ | exact ⟨rfl, _, Eq.trans (World.drewN_drewN _ _ _) (congrArg (World.drewN _) (Nat.add_assoc _ _ _))⟩)) | (go_at_call 43; (with_reducible refine (laws_wide.calls _ _ l1 a2 t339 _ ?side1 ?side2 A22.out).mono ?_); (case side1 => repeat (first | exact (Kd.C_below HR1.out (by repeat (first | (with_reducible first | exact HB.out | apply below_alloc | apply pw_below_drewN | apply below_drew1 | refine below_set ?_ GE333.out) | exact HB.out))) | (with_reducible refine Kd.C_alloc ?_ _) | (with_reducible refine Kd.C_drewN ?_ _) | (with_reducible refine Kd.C_drew ?_))); (case side2 => exact HC1.out); rintro e w' ⟨rfl, ⟨nd, rfl⟩⟩; (try first | exact ⟨rfl, _, World.drewN_drewN _ _ _⟩ | exact ⟨rfl, _, Eq.trans (World.drewN_drewN _ _ _) (congrArg (World.drewN _) (Nat.add_assoc _ _ _))⟩))); try go_wp2_with (first | (go_at_call 38; (with_reducible refine (laws_at.calls _ _ l1 (wrap64 (a2 + 5)) t336 _ ?side1 ?side2 A13.out).mono ?_); (case side1 => repeat (first | exact (Kd.C_below HR1.out HB.out) | (with_reducible refine Kd.C_alloc ?_ _) | (with_reducible refine Kd.C_drewN ?_ _) | (with_reducible refine Kd.C_drew ?_))); (case side2 => exact HC1.out); rintro e w' ⟨rfl, ⟨nd, rfl⟩⟩; (try first | exact ⟨rfl, _, World.drewN_drewN _ _ _⟩ | exact ⟨rfl, _, Eq.trans (World.drewN_drewN _ _ _) (congrArg (World.drewN _) (Nat.add_assoc _ _ _))⟩)) | (go_at_call 43; (with_reducible refine (laws_wide.calls _ _ l1 a2 t339 _ ?side1 ?side2 A22.out).mono ?_); (case side1 => repeat (first | exact (Kd.C_below HR1.out (by repeat (first | (with_reducible first | exact HB.out | apply below_alloc | apply pw_below_drewN | apply below_drew1 | refine below_set ?_ GE333.out) | exact HB.out))) | (with_reducible refine Kd.C_alloc ?_ _) | (with_reducible refine Kd.C_drewN ?_ _) | (with_reducible refine Kd.C_drew ?_))); (case side2 => exact HC1.out); rintro e w' ⟨rfl, ⟨nd, rfl⟩⟩; (try first | exact ⟨rfl, _, World.drewN_drewN _ _ _⟩ | exact ⟨rfl, _, Eq.trans (World.drewN_drewN _ _ _) (congrArg (World.drewN _) (Nat.add_assoc _ _ _))⟩))))
              go_ret
              exact sqe HB

/-! ### impl_RangeHas: function 51 -/
set_option maxHeartbeats 8000000 in
set_option maxRecDepth 100000 in
theorem impl_RangeHas.calls (a0_0 : Int) (a0_1 : Int) (a1 : Int) (r : Bool) (w : World) (h : impl_RangeHas.f a0_0 a0_1 a1 = some r) :
    Calls Try.prog 51 #[.agg #[.int .i64 a0_0, .int .i64 a0_1], .int .i64 a1] w fun e w' => e = .returned (.bool r) ∧ Below w.heap.size w w' := by
  have hu27 := Try.underlying27
  have HB := Aside0.mk (Below.refl w.heap.size w)
  have H : ((impl_RangeOk.f a0_0 a0_1).bind fun t341 => (if t341 = true then (if a0_0 ≤ a1 then (some (decide (a1 ≤ a0_1))) else (some false)) else (some false))) = some r := h
  clear h
  replace H := Option.bind_eq_some_iff.mp H
  obtain ⟨t341, A30, H⟩ := H
  replace H : (if t341 = true then (if a0_0 ≤ a1 then (some (decide (a1 ≤ a0_1))) else (some false)) else (some false)) = some r := H
  have A3 := Aside0.mk A30
  clear A30
  by_cases c4 : t341 = true
  · subst c4
    have H1 : (if a0_0 ≤ a1 then (some (decide (a1 ≤ a0_1))) else (some false)) = some r := by rw [if_pos rfl] at H; exact H
    clear H
    have H := H1
    clear H1
    by_cases c5 : a0_0 ≤ a1
    · rw [if_pos c5] at H
      have c5b0 : decide (a0_0 ≤ a1) = true := decide_eq_true c5
      clear c5
      obtain rfl := Option.some.inj H
      go_enter Try.func51, Try.ntmps51
      go_wp2_with (first | ((with_reducible refine gate_dst (N := 2) rfl ?_); refine sqx 2 #[.int .i64 a0_0, .int .i64 a0_1] 27 ?_; intro gb340 hg w6 hbox hb; have BK340 := Aside0.mk (hbox); have GW340 := sqg HB hg; have GE340 := sqg HB hg; replace HB := sqs HB hb; clear hb hbox hg; obtain ⟨hcz7_0, hcz7_1, hfz7_0, hfz7_1⟩ := sqc2 BK340) | ((with_reducible refine gate_callee (f := 98) rfl ?_); refine sqL (some 6) Try.func98 #[.agg #[.int .i64 a0_0, .int .i64 a0_1]] ?_; (with_reducible refine (impl_RangeOk.calls a0_0 a0_1 true _ A3.out).mono ?_); rintro e w8 ⟨rfl, hb⟩; refine ⟨_, rfl, ?_⟩; replace BK340 := sqb BK340 hb; replace HB := sqs HB hb; (try clear hb); obtain ⟨hcz9_0, hcz9_1, hfz9_0, hfz9_1⟩ := sqc2 BK340))
      go_ret
      exact sqe HB
    · rw [if_neg c5] at H
      have c5b0 : decide (a0_0 ≤ a1) = false := decide_eq_false c5
      clear c5
      obtain rfl := Option.some.inj H
      go_enter Try.func51, Try.ntmps51
      go_wp2_with (first | ((with_reducible refine gate_dst (N := 2) rfl ?_); refine sqx 2 #[.int .i64 a0_0, .int .i64 a0_1] 27 ?_; intro gb340 hg w10 hbox hb; have BK340 := Aside0.mk (hbox); have GW340 := sqg HB hg; have GE340 := sqg HB hg; replace HB := sqs HB hb; clear hb hbox hg; obtain ⟨hcz11_0, hcz11_1, hfz11_0, hfz11_1⟩ := sqc2 BK340) | ((with_reducible refine gate_callee (f := 98) rfl ?_); refine sqL (some 6) Try.func98 #[.agg #[.int .i64 a0_0, .int .i64 a0_1]] ?_; (with_reducible refine (impl_RangeOk.calls a0_0 a0_1 true _ A3.out).mono ?_); rintro e w12 ⟨rfl, hb⟩; refine ⟨_, rfl, ?_⟩; replace BK340 := sqb BK340 hb; replace HB := sqs HB hb; (try clear hb); obtain ⟨hcz13_0, hcz13_1, hfz13_0, hfz13_1⟩ := sqc2 BK340))
      go_ret
      exact sqe HB
  · replace c4 := Bool.eq_false_iff.mpr c4
    subst c4
    have H1 : (some false) = some r := by rw [if_neg (show ¬ (false = true) by decide)] at H; exact H
    clear H
    have H := H1
    clear H1
    obtain rfl := Option.some.inj H
    go_enter Try.func51, Try.ntmps51
    go_wp2_with (first | ((with_reducible refine gate_dst (N := 2) rfl ?_); refine sqx 2 #[.int .i64 a0_0, .int .i64 a0_1] 27 ?_; intro gb340 hg w14 hbox hb; have BK340 := Aside0.mk (hbox); have GW340 := sqg HB hg; have GE340 := sqg HB hg; replace HB := sqs HB hb; clear hb hbox hg; obtain ⟨hcz15_0, hcz15_1, hfz15_0, hfz15_1⟩ := sqc2 BK340) | ((with_reducible refine gate_callee (f := 98) rfl ?_); refine sqL (some 6) Try.func98 #[.agg #[.int .i64 a0_0, .int .i64 a0_1]] ?_; (with_reducible refine (impl_RangeOk.calls a0_0 a0_1 false _ A3.out).mono ?_); rintro e w16 ⟨rfl, hb⟩; refine ⟨_, rfl, ?_⟩; replace BK340 := sqb BK340 hb; replace HB := sqs HB hb; (try clear hb)))
    go_ret
    exact sqe HB

/-! ### spec_RangeHas: function 52 -/
set_option maxHeartbeats 8000000 in
set_option maxRecDepth 100000 in
theorem spec_RangeHas.calls (a0_0 : Int) (a0_1 : Int) (a1 : Int) (r : Bool) (w : World) (h : spec_RangeHas.f a0_0 a0_1 a1 = some r) :
    Calls Try.prog 52 #[.agg #[.int .i64 a0_0, .int .i64 a0_1], .int .i64 a1] w fun e w' => e = .returned (.bool r) ∧ Below w.heap.size w w' := by
  have hu27 := Try.underlying27
  have HB := Aside0.mk (Below.refl w.heap.size w)
  have H : ((spec_RangeOk.f a0_0 a0_1).bind fun t343 => (if t343 = true then ((spec_l1In.f a1 a0_0 a0_1).bind fun t344 => (some t344)) else (some false))) = some r := h
  clear h
  replace H := Option.bind_eq_some_iff.mp H
  obtain ⟨t343, A30, H⟩ := H
  replace H : (if t343 = true then ((spec_l1In.f a1 a0_0 a0_1).bind fun t344 => (some t344)) else (some false)) = some r := H
  have A3 := Aside0.mk A30
  clear A30
  by_cases c4 : t343 = true
  · subst c4
    have H1 : ((spec_l1In.f a1 a0_0 a0_1).bind fun t344 => (some t344)) = some r := by rw [if_pos rfl] at H; exact H
    clear H
    have H := H1
    clear H1
    replace H := Option.bind_eq_some_iff.mp H
    obtain ⟨t344, A50, H⟩ := H
    replace H : (some t344) = some r := H
    have A5 := Aside0.mk A50
    clear A50
    obtain rfl := Option.some.inj H
    go_enter Try.func52, Try.ntmps52
    go_wp2_with (first | ((with_reducible refine gate_dst (N := 2) rfl ?_); refine sqx 2 #[.int .i64 a0_0, .int .i64 a0_1] 27 ?_; intro gb342 hg w6 hbox hb; have BK342 := Aside0.mk (hbox); have GW342 := sqg HB hg; have GE342 := sqg HB hg; replace HB := sqs HB hb; clear hb hbox hg; obtain ⟨hcz7_0, hcz7_1, hfz7_0, hfz7_1⟩ := sqc2 BK342) | ((with_reducible refine gate_callee (f := 40) rfl ?_); refine sqL (some 6) Try.func40 #[.agg #[.int .i64 a0_0, .int .i64 a0_1]] ?_; (with_reducible refine (spec_RangeOk.calls a0_0 a0_1 true _ A3.out).mono ?_); rintro e w8 ⟨rfl, hb⟩; refine ⟨_, rfl, ?_⟩; replace BK342 := sqb BK342 hb; replace HB := sqs HB hb; (try clear hb); obtain ⟨hcz9_0, hcz9_1, hfz9_0, hfz9_1⟩ := sqc2 BK342) | (go_at_call 67; (with_reducible refine (spec_l1In.calls a1 a0_0 a0_1 t344 _ A5.out).mono ?_); rintro e w' ⟨rfl, ⟨nd, rfl⟩⟩))
    go_ret
    exact sqe HB
  · replace c4 := Bool.eq_false_iff.mpr c4
    subst c4
    have H1 : (some false) = some r := by rw [if_neg (show ¬ (false = true) by decide)] at H; exact H
    clear H
    have H := H1
    clear H1
    obtain rfl := Option.some.inj H
    go_enter Try.func52, Try.ntmps52
    go_wp2_with (first | ((with_reducible refine gate_dst (N := 2) rfl ?_); refine sqx 2 #[.int .i64 a0_0, .int .i64 a0_1] 27 ?_; intro gb342 hg w10 hbox hb; have BK342 := Aside0.mk (hbox); have GW342 := sqg HB hg; have GE342 := sqg HB hg; replace HB := sqs HB hb; clear hb hbox hg; obtain ⟨hcz11_0, hcz11_1, hfz11_0, hfz11_1⟩ := sqc2 BK342) | ((with_reducible refine gate_callee (f := 40) rfl ?_); refine sqL (some 6) Try.func40 #[.agg #[.int .i64 a0_0, .int .i64 a0_1]] ?_; (with_reducible refine (spec_RangeOk.calls a0_0 a0_1 false _ A3.out).mono ?_); rintro e w12 ⟨rfl, hb⟩; refine ⟨_, rfl, ?_⟩; replace BK342 := sqb BK342 hb; replace HB := sqs HB hb; (try clear hb)))
    go_ret
    exact sqe HB

/-! ### laws_has: function 53 -/
theorem laws_has.mono_l : ∀ k, (∀ y0 y1 y2, LeO (laws_has.l0 k y0 y1 y2) (laws_has.l0 (k + 1) y0 y1 y2))
  | 0 => fun _ _ _ r h => by simp [laws_has.l0] at h
  | k + 1 => by
    have ih0 := laws_has.mono_l k
    · intro y0 y1 y2
      unfold laws_has.l0
      repeat' first
      | (with_reducible exact ih0 _ _ _)
      | (with_reducible exact LeO.refl _)
      | (with_reducible exact LeO.none _)
      | (with_reducible refine LeO.ite ?_ ?_)
      | (with_reducible refine LeO.bind ?_ (fun _ => ?_))
      | exact ih0 _ _ _
      | exact LeO.none _
      | refine LeO.ite ?_ ?_
      | refine LeO.bind ?_ (fun _ => ?_)
theorem laws_has.mono : ∀ a0 a1 k, LeO (laws_has.f k a0 a1) (laws_has.f (k + 1) a0 a1) := by
  intro a0 a1 k
  have ih0 := laws_has.mono_l k
  unfold laws_has.f
  repeat' first
      | (with_reducible exact ih0 _ _ _)
      | (with_reducible exact LeO.refl _)
      | (with_reducible exact LeO.none _)
      | (with_reducible refine LeO.ite ?_ ?_)
      | (with_reducible refine LeO.bind ?_ (fun _ => ?_))
      | exact ih0 _ _ _
      | exact LeO.none _
      | refine LeO.ite ?_ ?_
      | refine LeO.bind ?_ (fun _ => ?_)
set_option maxHeartbeats 8000000 in
set_option maxRecDepth 100000 in
theorem laws_has.calls (k : Nat) (A0 : Option Addr) (c0 : Nat) (l0 : List Int) (a1 : Int) (r : Bool) (w : World) (hr0 : Kd.C (Kd.int .i64) w A0 l0.length l0) (hc0 : l0.length ≤ c0) (h : laws_has.f k l0 a1 = some r) :
    Calls Try.prog 53 #[.slice A0 l0.length c0, .int .i64 a1] w fun e w' => e = .returned (.bool r) ∧ Drawn0 w w' := by
  have HR0 := Aside0.mk hr0
  have HC0 := Aside0.mk hc0
  clear hr0 hc0
  have H : (laws_has.l0 k l0 a1 0) = some r := h
  clear h
  have H' := Aside0.mk H
  clear H
  go_enter Try.func53, Try.ntmps53
  go_wp2
  go_loopg [5] k (fun kq v5 w' => ∃ (x5_1 : Int), v5 = .int .i64 x5_1 ∧ Aside0 (laws_has.l0 kq l0 a1 x5_1 = some r) ∧ Aside0 (kq ≤ k) ∧ Drawn0 w w')
  case atStart => exact ⟨(0), (by first | rfl | (simp; done) | (simp [*]; done)), H', ⟨Nat.le_refl _⟩, by repeat (first | exact Drawn0.refl _ | apply Drawn0.step)⟩
  case round =>
    clear H'
    try clear p2
    obtain ⟨x5_1, rfl, HA, HK1, ⟨m1, rfl⟩⟩ := hrel
    cases gk with
    | zero => exact absurd HA.out (by simp [laws_has.l0])
    | succ k1 =>
      have H := HA.out
      clear HA
      simp only [laws_has.l0] at H
      by_cases c3 : x5_1 < (l0.length : Int)
      · rw [if_pos c3] at H
        have c3b0 : decide (x5_1 < (l0.length : Int)) = true := decide_eq_true c3
        clear c3
        by_cases c4 : 0 ≤ x5_1
        · rw [if_pos c4] at H
          have c4b0 : decide (0 ≤ x5_1) = true := decide_eq_true c4
          clear c4
          by_cases c5 : (rd l0 x5_1) = a1
          · rw [if_pos c5] at H
            have c5b0 : ((rd l0 x5_1) == a1) = true := beq_iff_eq.mpr c5
            have c5b1 : ((rd l0 x5_1) != a1) = false := bne_eq_false_iff_eq.mpr c5
            clear c5
            obtain rfl := Option.some.inj H
            have p345 : 0 ≤ (x5_1 : Int) := of_decide_eq_true (by first | (with_reducible assumption) | assumption)
            have q345 : x5_1 < (l0.length : Int) := of_decide_eq_true (by first | (with_reducible assumption) | assumption)
            obtain ⟨ad345, e345, hx345_0⟩ := Kd.at_int HR0.out x5_1 p345 q345
            cases e345
            replace p345 := eq_true p345
            replace q345 := eq_true q345
            go_wp2
            go_ret
            exact ⟨by first | rfl | (simp; done) | (simp [*]; done), by repeat (first | exact Drawn0.refl _ | apply Drawn0.step)⟩
          · rw [if_neg c5] at H
            have c5b0 : ((rd l0 x5_1) == a1) = false := beq_eq_false_iff_ne.mpr c5
            have c5b1 : ((rd l0 x5_1) != a1) = true := bne_iff_ne.mpr c5
            have H' := Aside0.mk H
            clear H
            have p345 : 0 ≤ (x5_1 : Int) := of_decide_eq_true (by first | (with_reducible assumption) | assumption)
            have q345 : x5_1 < (l0.length : Int) := of_decide_eq_true (by first | (with_reducible assumption) | assumption)
            obtain ⟨ad345, e345, hx345_0⟩ := Kd.at_int HR0.out x5_1 p345 q345
            cases e345
            replace p345 := eq_true p345
            replace q345 := eq_true q345
            go_wp2
            go_roundg k1
            case measure => have := HK1.out; omega
            case rel => exact ⟨(wrap64 (x5_1 + 1)), (by first | rfl | (simp; done) | (simp [*]; done)), H', ⟨by have := HK1.out; omega⟩, by repeat (first | exact Drawn0.refl _ | apply Drawn0.step)⟩
        · rw [if_neg c4] at H
          exact absurd H (by simp)
      · rw [if_neg c3] at H
        have c3b0 : decide (x5_1 < (l0.length : Int)) = false := decide_eq_false c3
        clear c3
        obtain rfl := Option.some.inj H
        go_wp2
        go_ret
        exact ⟨by first | rfl | (simp; done) | (simp [*]; done), by repeat (first | exact Drawn0.refl _ | apply Drawn0.step)⟩

end Go.Proofs.Ytmdcgkkkfncieaa.PFnRangeLattice
