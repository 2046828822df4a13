/- Functions of the program as plain Lean functions, and that calls of them come to what these tell. Conditions: those in each law. -/
import Derived.Test.YtkekcenlleebeaaSq
import Derived.Test.YtkekcenlleebeaaDFnGapsBack
import Derived.Test.YtkekcenlleebeaaQFnGapsBackx0
import Derived.Test.YtkekcenlleebeaaQFnGapsBackx3
import Derived.Test.YtkekcenlleebeaaQFnGapsBackx10
namespace Go.Proofs.Ytkekcenlleebeaa.PFnGapsBack
open Go.RowKit Go.Proofs.Ytkekcenlleebeaa.Sq Go.Proofs.YtkekcenlleebeaaW.PrintWords Go.Proofs.YtkekcenlleebeaaW.PrintLast Go.Proofs.YtkekcenlleebeaaW.PrintMore
attribute [local go_sem] max2_int min2_int max_two min_two max_three min_three max_four min_four   -- for this text's walks alone
set_option linter.unusedVariables false
set_option linter.unusedSimpArgs false

/-! ### spec_GapsMove: function 35 -/
theorem spec_GapsMove.mono_l : ∀ k, (∀ y0 y1 y2 y3 y4 y5, LeO (spec_GapsMove.j0 k y0 y1 y2 y3 y4 y5) (spec_GapsMove.j0 (k + 1) y0 y1 y2 y3 y4 y5)) ∧ (∀ y0 y1 y2 y3 y4 y5 y6, LeO (spec_GapsMove.l0 k y0 y1 y2 y3 y4 y5 y6) (spec_GapsMove.l0 (k + 1) y0 y1 y2 y3 y4 y5 y6))
  | 0 => ⟨fun _ _ _ _ _ _ r h => by simp [spec_GapsMove.j0] at h, fun _ _ _ _ _ _ _ r h => by simp [spec_GapsMove.l0] at h⟩
  | k + 1 => by
    obtain ⟨ih0, ih1⟩ := spec_GapsMove.mono_l k
    refine ⟨?_, ?_⟩
    · intro y0 y1 y2 y3 y4 y5
      unfold spec_GapsMove.j0
      repeat' first
      | (with_reducible exact ih0 _ _ _ _ _ _)
      | (with_reducible exact ih1 _ _ _ _ _ _ _)
      | (with_reducible exact spec_GapsForget.mono _ _ _ _)
      | (with_reducible exact spec_GapsOk.mono _ _ _)
      | (with_reducible exact spec_l11Copy.mono _ _ _)
      | (with_reducible exact LeO.refl _)
      | (with_reducible exact LeO.none _)
      | (with_reducible refine LeO.ite ?_ ?_)
      | (with_reducible refine LeO.bind ?_ (fun _ => ?_))
      | exact ih0 _ _ _ _ _ _
      | exact ih1 _ _ _ _ _ _ _
      | exact spec_GapsForget.mono _ _ _ _
      | exact spec_GapsOk.mono _ _ _
      | exact spec_l11Copy.mono _ _ _
      | exact LeO.none _
      | refine LeO.ite ?_ ?_
      | refine LeO.bind ?_ (fun _ => ?_)
    · intro y0 y1 y2 y3 y4 y5 y6
      unfold spec_GapsMove.l0
      repeat' first
      | (with_reducible exact ih0 _ _ _ _ _ _)
      | (with_reducible exact ih1 _ _ _ _ _ _ _)
      | (with_reducible exact spec_GapsForget.mono _ _ _ _)
      | (with_reducible exact spec_GapsOk.mono _ _ _)
      | (with_reducible exact spec_l11Copy.mono _ _ _)
      | (with_reducible exact LeO.refl _)
      | (with_reducible exact LeO.none _)
      | (with_reducible refine LeO.ite ?_ ?_)
      | (with_reducible refine LeO.bind ?_ (fun _ => ?_))
      | exact ih0 _ _ _ _ _ _
      | exact ih1 _ _ _ _ _ _ _
      | exact spec_GapsForget.mono _ _ _ _
      | exact spec_GapsOk.mono _ _ _
      | exact spec_l11Copy.mono _ _ _
      | exact LeO.none _
      | refine LeO.ite ?_ ?_
      | refine LeO.bind ?_ (fun _ => ?_)
theorem spec_GapsMove.mono : ∀ a0 a1 a2 a3 a4 k, LeO (spec_GapsMove.f k a0 a1 a2 a3 a4) (spec_GapsMove.f (k + 1) a0 a1 a2 a3 a4) := by
  intro a0 a1 a2 a3 a4 k
  obtain ⟨ih0, ih1⟩ := spec_GapsMove.mono_l k
  unfold spec_GapsMove.f
  repeat' first
      | (with_reducible exact ih0 _ _ _ _ _ _)
      | (with_reducible exact ih1 _ _ _ _ _ _ _)
      | (with_reducible exact spec_GapsForget.mono _ _ _ _)
      | (with_reducible exact spec_GapsOk.mono _ _ _)
      | (with_reducible exact spec_l11Copy.mono _ _ _)
      | (with_reducible exact LeO.refl _)
      | (with_reducible exact LeO.none _)
      | (with_reducible refine LeO.ite ?_ ?_)
      | (with_reducible refine LeO.bind ?_ (fun _ => ?_))
      | exact ih0 _ _ _ _ _ _
      | exact ih1 _ _ _ _ _ _ _
      | exact spec_GapsForget.mono _ _ _ _
      | exact spec_GapsOk.mono _ _ _
      | exact spec_l11Copy.mono _ _ _
      | exact LeO.none _
      | refine LeO.ite ?_ ?_
      | refine LeO.bind ?_ (fun _ => ?_)
def spec_GapsMove.T13 : Bool × List (List Nat × List Nat) := (true, [([], []), ([], []), ([], []), ([], []), ([], []), ([], []), ([3, 4, 5], [3, 4, 5]), ([], []), ([6, 7, 6], [6, 7]), ([8, 8], [8]), ([0, 1, 2, 9, 9], [0, 1, 2, 9])])
def spec_GapsMove.B13 : List Nat := [0, 0, 0, 0, 0, 0, 56, 0, 248, 504, 1023]
theorem spec_GapsMove.tab13 : rtab .any (opsOf Try.f35 13) = spec_GapsMove.T13 := by kernel_rfl
theorem spec_GapsMove.bits13 : waitsOk spec_GapsMove.T13.2 spec_GapsMove.B13 = true := by kernel_rfl
def spec_GapsMove.T14 : Bool × List (List Nat × List Nat) := (true, [([], []), ([], []), ([], []), ([], []), ([], []), ([], []), ([3, 4, 5], [3, 4, 5]), ([], []), ([7], [7]), ([6, 8, 6], [6, 8]), ([9, 9], [9]), ([0, 1, 2, 10, 10], [0, 1, 2, 10])])
def spec_GapsMove.B14 : List Nat := [0, 0, 0, 0, 0, 0, 56, 0, 128, 504, 1016, 2047]
theorem spec_GapsMove.tab14 : rtab .any (opsOf Try.f35 14) = spec_GapsMove.T14 := by kernel_rfl
theorem spec_GapsMove.bits14 : waitsOk spec_GapsMove.T14.2 spec_GapsMove.B14 = true := by kernel_rfl
set_option maxHeartbeats 8000000 in
set_option maxRecDepth 100000 in
theorem spec_GapsMove.calls (k : Nat) (a0_0 : Int) (A0_1 : Option Addr) (c0_1 : Nat) (l0_1 : List Int) (a1 : Int) (a2 : Int) (a3 : Int) (r1 : Int) (r2 : List Int) (w : World) (hr0_1 : Kd.C (Kd.int .i64) w A0_1 l0_1.length l0_1) (hc0_1 : l0_1.length ≤ c0_1) (h : spec_GapsMove.f k a0_0 l0_1 a1 a2 a3 = some (r1, r2)) :
    Calls Try.prog 35 #[.agg #[.int .i64 a0_0, .slice A0_1 l0_1.length c0_1], .int .i64 a1, .int .i64 a2, .int .i64 a3] w fun e w' => ∃ v1_ : Value, e = .returned (.agg #[.int .i64 r1, v1_]) ∧ Kd.R (Kd.int .i64) 3 w' w.heap.size (fun _ => True) v1_ r2 ∧ Below w.heap.size w w' := by
  have hu41 := Try.underlying41
  have HR0_1 := Aside0.mk hr0_1
  have HC0_1 := Aside0.mk hc0_1
  clear hr0_1 hc0_1
  have HB := Aside0.mk (Below.refl w.heap.size w)
  have H : ((spec_GapsOk.f k a0_0 l0_1).bind fun t333 => (if t333 = true then ((spec_l1In.f a1 1 a0_0).bind fun t334 => (if t334 = true then ((spec_l1In.f a2 0 a0_0).bind fun t335 => (if t335 = true then ((spec_l11C.f a3).bind fun t336 => (spec_GapsMove.j0 k a1 a2 a3 (!t336) a0_0 l0_1)) else (spec_GapsMove.j0 k a1 a2 a3 true a0_0 l0_1))) else (spec_GapsMove.j0 k a1 a2 a3 true a0_0 l0_1))) else (spec_GapsMove.j0 k a1 a2 a3 true a0_0 l0_1))) = some (r1, r2) := h
  clear h
  have HC5 := Aside0.mk H
  clear H
  go_enter Try.func35, Try.ntmps35
  go_upto_region 1 with (first | ((with_reducible refine gate_dst (N := 4) rfl ?_); refine sqx 4 #[.int .i64 a0_0, .slice A0_1 l0_1.length c0_1] 41 ?_; intro gb331 hg w6 hbox hb; have BK331 := Aside0.mk (hbox); have GW331 := sqg HB hg; have GE331 := sqg HB hg; replace HB := sqs HB hb; clear hb hbox hg) | ((with_reducible refine gate_dst (N := 8) rfl ?_); refine sqx 8 #[.int .i64 0, .slice none 0 0] 41 ?_; intro gb332 hg w7 hbox hb; have BK332 := Aside0.mk (hbox); have GW332 := sqg HB hg; have GE332 := sqg HB hg; have NB331_332 := sqn BK331 hg; have NB332_331 := sqm BK331 hg; replace BK331 := sqb BK331 hb; replace HB := sqs HB hb; clear hb hbox hg))
  (try simp only [Act.put, List.setIfInBounds_toArray, List.set_cons_zero, List.set_cons_succ])
  go_cut [33] (fun v33 wc => ∃ (kq : Nat) (x33_4 : Bool), v33 = .bool x33_4 ∧ Aside0 (spec_GapsMove.j0 kq a1 a2 a3 x33_4 a0_0 l0_1 = some (r1, r2)) ∧ Aside0 (kq ≤ k) ∧ Aside0 (wc.heap[gb331]? = some (.cells #[.int .i64 a0_0, (.slice A0_1 l0_1.length c0_1)] 41 (0, 0))) ∧ Aside0 (wc.heap[gb332]? = some (.cells #[.int .i64 0, (.slice none 0 0)] 41 (0, 0))) ∧ Aside0 (Below w.heap.size w wc))
  case first =>
    have H := HC5.out
    clear HC5
    replace H := Option.bind_eq_some_iff.mp H
    obtain ⟨t333, A80, H⟩ := H
    replace H : (if t333 = true then ((spec_l1In.f a1 1 a0_0).bind fun t334 => (if t334 = true then ((spec_l1In.f a2 0 a0_0).bind fun t335 => (if t335 = true then ((spec_l11C.f a3).bind fun t336 => (spec_GapsMove.j0 k a1 a2 a3 (!t336) a0_0 l0_1)) else (spec_GapsMove.j0 k a1 a2 a3 true a0_0 l0_1))) else (spec_GapsMove.j0 k a1 a2 a3 true a0_0 l0_1))) else (spec_GapsMove.j0 k a1 a2 a3 true a0_0 l0_1)) = some (r1, r2) := H
    have A8 := Aside0.mk A80
    clear A80
    by_cases c9 : t333 = true
    · subst c9
      have H1 : ((spec_l1In.f a1 1 a0_0).bind fun t334 => (if t334 = true then ((spec_l1In.f a2 0 a0_0).bind fun t335 => (if t335 = true then ((spec_l11C.f a3).bind fun t336 => (spec_GapsMove.j0 k a1 a2 a3 (!t336) a0_0 l0_1)) else (spec_GapsMove.j0 k a1 a2 a3 true a0_0 l0_1))) else (spec_GapsMove.j0 k a1 a2 a3 true a0_0 l0_1))) = some (r1, r2) := by rw [if_pos rfl] at H; exact H
      clear H
      have H := H1
      clear H1
      replace H := Option.bind_eq_some_iff.mp H
      obtain ⟨t334, A100, H⟩ := H
      replace H : (if t334 = true then ((spec_l1In.f a2 0 a0_0).bind fun t335 => (if t335 = true then ((spec_l11C.f a3).bind fun t336 => (spec_GapsMove.j0 k a1 a2 a3 (!t336) a0_0 l0_1)) else (spec_GapsMove.j0 k a1 a2 a3 true a0_0 l0_1))) else (spec_GapsMove.j0 k a1 a2 a3 true a0_0 l0_1)) = some (r1, r2) := H
      have A10 := Aside0.mk A100
      clear A100
      by_cases c11 : t334 = true
      · subst c11
        have H1 : ((spec_l1In.f a2 0 a0_0).bind fun t335 => (if t335 = true then ((spec_l11C.f a3).bind fun t336 => (spec_GapsMove.j0 k a1 a2 a3 (!t336) a0_0 l0_1)) else (spec_GapsMove.j0 k a1 a2 a3 true a0_0 l0_1))) = some (r1, r2) := by rw [if_pos rfl] at H; exact H
        clear H
        have H := H1
        clear H1
        replace H := Option.bind_eq_some_iff.mp H
        obtain ⟨t335, A120, H⟩ := H
        replace H : (if t335 = true then ((spec_l11C.f a3).bind fun t336 => (spec_GapsMove.j0 k a1 a2 a3 (!t336) a0_0 l0_1)) else (spec_GapsMove.j0 k a1 a2 a3 true a0_0 l0_1)) = some (r1, r2) := H
        have A12 := Aside0.mk A120
        clear A120
        by_cases c13 : t335 = true
        · subst c13
          have H1 : ((spec_l11C.f a3).bind fun t336 => (spec_GapsMove.j0 k a1 a2 a3 (!t336) a0_0 l0_1)) = some (r1, r2) := by rw [if_pos rfl] at H; exact H
          clear H
          have H := H1
          clear H1
          replace H := Option.bind_eq_some_iff.mp H
          obtain ⟨t336, A140, H⟩ := H
          replace H : (spec_GapsMove.j0 k a1 a2 a3 (!t336) a0_0 l0_1) = some (r1, r2) := H
          have A14 := Aside0.mk A140
          clear A140
          have H' := Aside0.mk H
          clear H
          have hnb15 := NB331_332.out
          have hnc15 := NB332_331.out
          obtain ⟨hcz16_0, hcz16_1, hfz16_0, hfz16_1⟩ := sqc2 BK331
          go_wp2_with (first | ((with_reducible refine gate_callee (f := 41) rfl ?_); refine sqL (some 13) Try.func41 #[.agg #[.int .i64 a0_0, .slice A0_1 l0_1.length c0_1]] ?_; (with_reducible refine (spec_GapsOk.calls k a0_0 _ _ l0_1 true _ ?side1 ?side2 A8.out).mono ?_); (case side1 => repeat (first | exact (Kd.C_below HR0_1.out HB.out) | (with_reducible refine Kd.C_alloc ?_ _) | (with_reducible refine Kd.C_drewN ?_ _) | (with_reducible refine Kd.C_drew ?_))); (case side2 => exact HC0_1.out); rintro e w17 ⟨rfl, hb⟩; refine ⟨_, rfl, ?_⟩; replace BK331 := sqb BK331 hb; replace BK332 := sqb BK332 hb; replace HB := sqs HB hb; (try clear hb); obtain ⟨hcz18_0, hcz18_1, hfz18_0, hfz18_1⟩ := sqc2 BK331) | (go_at_call 105; (with_reducible refine (spec_l1In.calls a1 1 a0_0 true _ A10.out).mono ?_); rintro e w' ⟨rfl, ⟨nd, rfl⟩⟩) | (go_at_call 105; (with_reducible refine (spec_l1In.calls a2 0 a0_0 true _ A12.out).mono ?_); rintro e w' ⟨rfl, ⟨nd, rfl⟩⟩) | (go_at_call 121; (with_reducible refine (spec_l11C.calls a3 t336 _ A14.out).mono ?_); rintro e w' ⟨rfl, ⟨nd, rfl⟩⟩))
          go_meet
          case rel => exact ⟨_, (!t336), (by first | rfl | (simp; done) | (simp [*]; done)), H', ⟨by first | omega | exact Nat.le_refl _⟩, sqk BK331, sqk BK332, sqh HB⟩
        · replace c13 := Bool.eq_false_iff.mpr c13
          subst c13
          have H1 : (spec_GapsMove.j0 k a1 a2 a3 true a0_0 l0_1) = some (r1, r2) := by rw [if_neg (show ¬ (false = true) by decide)] at H; exact H
          clear H
          have H := H1
          clear H1
          have H' := Aside0.mk H
          clear H
          have hnb19 := NB331_332.out
          have hnc19 := NB332_331.out
          obtain ⟨hcz20_0, hcz20_1, hfz20_0, hfz20_1⟩ := sqc2 BK331
          go_wp2_with (first | ((with_reducible refine gate_callee (f := 41) rfl ?_); refine sqL (some 13) Try.func41 #[.agg #[.int .i64 a0_0, .slice A0_1 l0_1.length c0_1]] ?_; (with_reducible refine (spec_GapsOk.calls k a0_0 _ _ l0_1 true _ ?side1 ?side2 A8.out).mono ?_); (case side1 => repeat (first | exact (Kd.C_below HR0_1.out HB.out) | (with_reducible refine Kd.C_alloc ?_ _) | (with_reducible refine Kd.C_drewN ?_ _) | (with_reducible refine Kd.C_drew ?_))); (case side2 => exact HC0_1.out); rintro e w21 ⟨rfl, hb⟩; refine ⟨_, rfl, ?_⟩; replace BK331 := sqb BK331 hb; replace BK332 := sqb BK332 hb; replace HB := sqs HB hb; (try clear hb); obtain ⟨hcz22_0, hcz22_1, hfz22_0, hfz22_1⟩ := sqc2 BK331) | (go_at_call 105; (with_reducible refine (spec_l1In.calls a1 1 a0_0 true _ A10.out).mono ?_); rintro e w' ⟨rfl, ⟨nd, rfl⟩⟩) | (go_at_call 105; (with_reducible refine (spec_l1In.calls a2 0 a0_0 false _ A12.out).mono ?_); rintro e w' ⟨rfl, ⟨nd, rfl⟩⟩))
          go_meet
          case rel => exact ⟨_, (true), (by first | rfl | (simp; done) | (simp [*]; done)), H', ⟨by first | omega | exact Nat.le_refl _⟩, sqk BK331, sqk BK332, sqh HB⟩
      · replace c11 := Bool.eq_false_iff.mpr c11
        subst c11
        have H1 : (spec_GapsMove.j0 k a1 a2 a3 true a0_0 l0_1) = some (r1, r2) := by rw [if_neg (show ¬ (false = true) by decide)] at H; exact H
        clear H
        have H := H1
        clear H1
        have H' := Aside0.mk H
        clear H
        have hnb23 := NB331_332.out
        have hnc23 := NB332_331.out
        obtain ⟨hcz24_0, hcz24_1, hfz24_0, hfz24_1⟩ := sqc2 BK331
        go_wp2_with (first | ((with_reducible refine gate_callee (f := 41) rfl ?_); refine sqL (some 13) Try.func41 #[.agg #[.int .i64 a0_0, .slice A0_1 l0_1.length c0_1]] ?_; (with_reducible refine (spec_GapsOk.calls k a0_0 _ _ l0_1 true _ ?side1 ?side2 A8.out).mono ?_); (case side1 => repeat (first | exact (Kd.C_below HR0_1.out HB.out) | (with_reducible refine Kd.C_alloc ?_ _) | (with_reducible refine Kd.C_drewN ?_ _) | (with_reducible refine Kd.C_drew ?_))); (case side2 => exact HC0_1.out); rintro e w25 ⟨rfl, hb⟩; refine ⟨_, rfl, ?_⟩; replace BK331 := sqb BK331 hb; replace BK332 := sqb BK332 hb; replace HB := sqs HB hb; (try clear hb); obtain ⟨hcz26_0, hcz26_1, hfz26_0, hfz26_1⟩ := sqc2 BK331) | (go_at_call 105; (with_reducible refine (spec_l1In.calls a1 1 a0_0 false _ A10.out).mono ?_); rintro e w' ⟨rfl, ⟨nd, rfl⟩⟩))
        go_meet
        case rel => exact ⟨_, (true), (by first | rfl | (simp; done) | (simp [*]; done)), H', ⟨by first | omega | exact Nat.le_refl _⟩, sqk BK331, sqk BK332, sqh HB⟩
    · replace c9 := Bool.eq_false_iff.mpr c9
      subst c9
      have H1 : (spec_GapsMove.j0 k a1 a2 a3 true a0_0 l0_1) = some (r1, r2) := by rw [if_neg (show ¬ (false = true) by decide)] at H; exact H
      clear H
      have H := H1
      clear H1
      have H' := Aside0.mk H
      clear H
      have hnb27 := NB331_332.out
      have hnc27 := NB332_331.out
      obtain ⟨hcz28_0, hcz28_1, hfz28_0, hfz28_1⟩ := sqc2 BK331
      go_wp2_with (first | ((with_reducible refine gate_callee (f := 41) rfl ?_); refine sqL (some 13) Try.func41 #[.agg #[.int .i64 a0_0, .slice A0_1 l0_1.length c0_1]] ?_; (with_reducible refine (spec_GapsOk.calls k a0_0 _ _ l0_1 false _ ?side1 ?side2 A8.out).mono ?_); (case side1 => repeat (first | exact (Kd.C_below HR0_1.out HB.out) | (with_reducible refine Kd.C_alloc ?_ _) | (with_reducible refine Kd.C_drewN ?_ _) | (with_reducible refine Kd.C_drew ?_))); (case side2 => exact HC0_1.out); rintro e w29 ⟨rfl, hb⟩; refine ⟨_, rfl, ?_⟩; replace BK331 := sqb BK331 hb; replace BK332 := sqb BK332 hb; replace HB := sqs HB hb; (try clear hb)))
      go_meet
      case rel => exact ⟨_, (true), (by first | rfl | (simp; done) | (simp [*]; done)), H', ⟨by first | omega | exact Nat.le_refl _⟩, sqk BK331, sqk BK332, sqh HB⟩
  case rest =>
    clear HC5
    obtain ⟨kq, x33_4, rfl, HA, HJ4, BK331, BK332, HB⟩ := hcut
    cases kq with
    | zero => exact absurd HA.out (by simp [spec_GapsMove.j0])
    | succ kj4 =>
      have H := HA.out
      clear HA
      simp only [spec_GapsMove.j0] at H
      by_cases c30 : x33_4 = true
      · subst c30
        have H1 : (some (0, ([] : List Int))) = some (r1, r2) := by rw [if_pos rfl] at H; exact H
        clear H
        have H := H1
        clear H1
        simp only [Option.some.injEq, Prod.mk.injEq] at H
        obtain ⟨rfl, rfl⟩ := H
        have hnb31 := NB332_331.out
        have hnc31 := NB331_332.out
        obtain ⟨hcz32_0, hcz32_1, hfz32_0, hfz32_1⟩ := sqc2 BK332
        go_wp2
        refine bodyPost_ret (results_cell_row rfl _ _ gb332 41 #[.int .i64 0, .slice none 0 0] (0, 0) _ rfl (by refine sqt ?_; refine blk_put (cs := #[.int .i64 0, .slice none 0 0]) ?_ 1 _ rfl; refine sqt ?_; refine blk_put (cs := #[.int .i64 0, .slice none 0 0]) ?_ 0 _ rfl; refine sqt ?_; exact BK332.out) Try.underlying41 rfl (by kernel_rfl)) rfl ?_
        exact ⟨_, by first | rfl | (simp [errW_none, errW_some] <;> rfl) | (simp [*, errW_none, errW_some] <;> rfl), by first | exact Kd.R_nil _ _ _ _ _ | exact Kd.N_nil _ _ _ _ _ | exact Kd.V_nil _ _ _ _ _ | exact Kd.Q_nil _ _ _ _ _ | exact Kd.S_nil _ _ _ _ _, by repeat (first | (with_reducible first | exact HB.out | apply below_alloc | apply pw_below_drewN | apply below_drew1 | refine below_set ?_ GE331.out | refine below_set ?_ GE332.out) | exact HB.out)⟩
      · replace c30 := Bool.eq_false_iff.mpr c30
        subst c30
        have H1 : (if a1 = a2 then ((spec_l11Copy.f kj4 a0_0 l0_1).bind fun bt344 => (spec_GapsMove.l0 kj4 a1 a3 0 a0_0 l0_1 bt344.1 bt344.2)) else ((spec_GapsForget.f kj4 a0_0 l0_1 a1).bind fun bt337 => ((spec_l11Put.f bt337.1 bt337.2 a1 a2 a3).bind fun t342 => ((spec_l11Put.f bt337.1 t342 a2 a1 (wrap64 (-a3))).bind fun t343 => (some (bt337.1, t343)))))) = some (r1, r2) := by rw [if_neg (show ¬ (false = true) by decide)] at H; exact H
        clear H
        have H := H1
        clear H1
        by_cases c33 : a1 = a2
        · rw [if_pos c33] at H
          have c33b0 : (a1 == a2) = true := beq_iff_eq.mpr c33
          have c33b1 : (a1 != a2) = false := bne_eq_false_iff_eq.mpr c33
          clear c33
          replace H := Option.bind_eq_some_iff.mp H
          obtain ⟨⟨t344, t345⟩, A340, H⟩ := H
          replace H : (spec_GapsMove.l0 kj4 a1 a3 0 a0_0 l0_1 t344 t345) = some (r1, r2) := H
          have A34 := Aside0.mk A340
          clear A340
          have H' := Aside0.mk H
          clear H
          have hnb35 := NB331_332.out
          have hnc35 := NB332_331.out
          obtain ⟨hcz36_0, hcz36_1, hfz36_0, hfz36_1⟩ := sqc2 BK331
          go_wp2_with (first | ((with_reducible refine gate_callee (f := 113) rfl ?_); refine sqL (some 54) Try.func113 #[.agg #[.int .i64 a0_0, .slice A0_1 l0_1.length c0_1]] ?_; (with_reducible refine (spec_l11Copy.calls kj4 a0_0 _ _ l0_1 t344 t345 _ ?side1 ?side2 A34.out).mono ?_); (case side1 => repeat (first | exact (Kd.C_below HR0_1.out HB.out) | (with_reducible refine Kd.C_alloc ?_ _) | (with_reducible refine Kd.C_drewN ?_ _) | (with_reducible refine Kd.C_drew ?_))); (case side2 => exact HC0_1.out); rintro e w37 ⟨v346, rfl, ho0, hb⟩; refine ⟨_, rfl, ?_⟩; have HO347 := Aside0.mk (Kd.R_lower ho0 (below_size (by repeat (first | (with_reducible first | exact HB.out | apply below_alloc | apply pw_below_drewN | apply below_drew1 | refine below_set ?_ GE331.out | refine below_set ?_ GE332.out) | exact HB.out)))); replace BK331 := sqb BK331 hb; replace BK332 := sqb BK332 hb; replace HB := sqs HB hb; (try clear hb); (try clear hb2); (try clear hk); (try clear hi); (try clear ho0)) | ((with_reducible refine gate_dst (N := 10) rfl ?_); refine sqx 10 #[.int .i64 0, .slice none 0 0] 41 ?_; intro gb348 hg w38 hbox hb; have n0_ := Aside0.mk (Kd.R_below (by (with_reducible repeat (first | apply Kd.R_alloc | apply Kd.R_drewN | apply Kd.R_drew)); exact HO347.out) hb); have n1_ := sqb BK331 hb; have n2_ := sqb BK332 hb; have n3_ := sqs HB hb; have n4_ := Aside0.mk (hbox); have n5_ := sqg HB hg; have n6_ := sqg HB hg; have n7_ := sqn BK331 hg; have n8_ := sqm BK331 hg; have n9_ := sqn BK332 hg; have n10_ := sqm BK332 hg; clear HO347; clear BK331; clear BK332; clear HB; have HO347 := n0_; have BK331 := n1_; have BK332 := n2_; have HB := n3_; have BK348 := n4_; have GW348 := n5_; have GE348 := n6_; have NB331_348 := n7_; have NB348_331 := n8_; have NB332_348 := n9_; have NB348_332 := n10_; clear n0_ n1_ n2_ n3_ n4_ n5_ n6_ n7_ n8_ n9_ n10_; clear hb hbox hg; have hnb39 := NB348_331.out; have hnc39 := NB331_348.out; have hnb40 := NB348_332.out; have hnc40 := NB332_348.out; obtain ⟨hcz41_0, hcz41_1, hfz41_0, hfz41_1⟩ := sqc2 BK348; obtain ⟨Ao42, co42, eo42⟩ := Kd.R_slice HO347.out; subst eo42))
          go_loopg [11] kj4 (fun kq v11 w' => ∃ (x11_2 : Int) (x349001_2 : List Int) (u349001 : Value), v11 = .int .i64 x11_2 ∧ Aside0 (spec_GapsMove.l0 kq a1 a3 x11_2 a0_0 l0_1 t344 x349001_2 = some (r1, r2)) ∧ Aside0 (kq ≤ kj4) ∧ Aside0 (Kd.R (Kd.int .i64) 3 w' w.heap.size (fun _ => True) u349001 x349001_2) ∧ Aside0 (w'.heap[gb331]? = some (.cells #[.int .i64 a0_0, (.slice A0_1 l0_1.length c0_1)] 41 (0, 0))) ∧ Aside0 (w'.heap[gb332]? = some (.cells #[.int .i64 0, (.slice none 0 0)] 41 (0, 0))) ∧ Aside0 (w'.heap[gb348]? = some (.cells #[.int .i64 t344, u349001] 41 (0, 0))) ∧ Aside0 (Below w.heap.size w w'))
          case atStart => exact ⟨(0), (t345), (.slice Ao42 t345.length co42), (by first | rfl | (simp; done) | (simp [*]; done)), H', ⟨Nat.le_refl _⟩, ⟨by (with_reducible repeat (first | apply Kd.R_alloc | apply Kd.R_drewN | apply Kd.R_drew)); exact Kd.R_mono (Kd.R_far (p := ⟨gb348, 1, none⟩) (Kd.R_far (p := ⟨gb348, 0, none⟩) (Kd.R_types HO347.out BK348.out (by decide)) (fun _ hk => hk.2) (.int .i64 t344)) (fun _ hk => hk.2) (.slice Ao42 t345.length co42)) (fun _ hk => trivial)⟩, ⟨by refine sqt ?_; refine blk_far ?_ NB331_348.out _; refine sqt ?_; refine blk_far ?_ NB331_348.out _; refine sqt ?_; exact BK331.out⟩, ⟨by refine sqt ?_; refine blk_far ?_ NB332_348.out _; refine sqt ?_; refine blk_far ?_ NB332_348.out _; refine sqt ?_; exact BK332.out⟩, ⟨by refine sqt ?_; refine blk_put (cs := #[.int .i64 t344, .slice none 0 0]) ?_ 1 _ rfl; refine sqt ?_; refine blk_put (cs := #[.int .i64 0, .slice none 0 0]) ?_ 0 _ rfl; refine sqt ?_; exact BK348.out⟩, sqh HB⟩
          case round =>
            clear H'
            try clear c1
            try clear c2
            try clear p2
            try clear c3
            try clear c4
            try clear p6
            try clear c9
            try clear c11
            try clear c13
            try clear c15
            try clear c19
            try clear c23
            try clear c27
            try clear c30
            try clear c31
            try clear c33
            try clear c33b0
            try clear c33b1
            try clear c35
            try clear c39
            try clear c40
            try clear c41
            try clear hcz16_0
            try clear hcz16_1
            try clear hcz18_0
            try clear hcz18_1
            try clear hcz20_0
            try clear hcz20_1
            try clear hcz22_0
            try clear hcz22_1
            try clear hcz24_0
            try clear hcz24_1
            try clear hcz26_0
            try clear hcz26_1
            try clear hcz28_0
            try clear hcz28_1
            try clear hcz32_0
            try clear hcz32_1
            try clear hcz36_0
            try clear hcz36_1
            try clear hcz41_0
            try clear hcz41_1
            try clear hfz16_0
            try clear hfz16_1
            try clear hfz18_0
            try clear hfz18_1
            try clear hfz20_0
            try clear hfz20_1
            try clear hfz22_0
            try clear hfz22_1
            try clear hfz24_0
            try clear hfz24_1
            try clear hfz26_0
            try clear hfz26_1
            try clear hfz28_0
            try clear hfz28_1
            try clear hfz32_0
            try clear hfz32_1
            try clear hfz36_0
            try clear hfz36_1
            try clear hfz41_0
            try clear hfz41_1
            try clear p2
            obtain ⟨x11_2, x349001_2, u349001, rfl, HA, HK2, HO_349001, BK331, BK332, BK348, HB⟩ := hrel
            cases gk with
            | zero => exact absurd HA.out (by simp [spec_GapsMove.l0])
            | succ k2 =>
              have H := HA.out
              clear HA
              simp only [spec_GapsMove.l0] at H
              by_cases c43 : x11_2 ≤ a0_0
              · rw [if_pos c43] at H
                have c43b0 : decide (x11_2 ≤ a0_0) = true := decide_eq_true c43
                clear c43
                by_cases c44 : x11_2 = a1
                · rw [if_pos c44] at H
                  have c44b0 : (x11_2 == a1) = true := beq_iff_eq.mpr c44
                  have c44b1 : (x11_2 != a1) = false := bne_eq_false_iff_eq.mpr c44
                  clear c44
                  have H' := Aside0.mk H
                  clear H
                  have hnb45 := NB331_332.out
                  have hnc45 := NB332_331.out
                  have hnb46 := NB331_348.out
                  have hnc46 := NB348_331.out
                  obtain ⟨hcz47_0, hcz47_1, hfz47_0, hfz47_1⟩ := sqc2 BK331
                  go_wp2
                  go_roundg k2
                  case measure => have := HJ4.out; have := HK2.out; omega
                  case rel => exact ⟨(wrap64 (x11_2 + 1)), (x349001_2), (u349001), (by first | rfl | (simp; done) | (simp [*]; done)), H', ⟨by have := HJ4.out; have := HK2.out; omega⟩, ⟨by (with_reducible repeat (first | apply Kd.R_alloc | apply Kd.R_drewN | apply Kd.R_drew)); exact HO_349001.out⟩, sqk BK331, sqk BK332, sqk BK348, sqh HB⟩
                · rw [if_neg c44] at H
                  have c44b0 : (x11_2 == a1) = false := beq_eq_false_iff_ne.mpr c44
                  have c44b1 : (x11_2 != a1) = true := bne_iff_ne.mpr c44
                  replace H := Option.bind_eq_some_iff.mp H
                  obtain ⟨t349, A480, H⟩ := H
                  replace H : ((spec_l11Add.f t349 a3).bind fun t350 => ((spec_l8Max.f (-1099511627776) t350).bind fun t351 => ((spec_l11Put.f t344 x349001_2 a1 x11_2 t351).bind fun t352 => ((spec_l11At.f a0_0 l0_1 x11_2 a1).bind fun t353 => ((spec_l11Add.f t353 (wrap64 (-a3))).bind fun t354 => ((spec_l8Max.f (-1099511627776) t354).bind fun t355 => ((spec_l11Put.f t344 t352 x11_2 a1 t355).bind fun t356 => (spec_GapsMove.l0 k2 a1 a3 (wrap64 (x11_2 + 1)) a0_0 l0_1 t344 t356)))))))) = some (r1, r2) := H
                  have A48 := Aside0.mk A480
                  clear A480
                  replace H := Option.bind_eq_some_iff.mp H
                  obtain ⟨t350, A490, H⟩ := H
                  replace H : ((spec_l8Max.f (-1099511627776) t350).bind fun t351 => ((spec_l11Put.f t344 x349001_2 a1 x11_2 t351).bind fun t352 => ((spec_l11At.f a0_0 l0_1 x11_2 a1).bind fun t353 => ((spec_l11Add.f t353 (wrap64 (-a3))).bind fun t354 => ((spec_l8Max.f (-1099511627776) t354).bind fun t355 => ((spec_l11Put.f t344 t352 x11_2 a1 t355).bind fun t356 => (spec_GapsMove.l0 k2 a1 a3 (wrap64 (x11_2 + 1)) a0_0 l0_1 t344 t356))))))) = some (r1, r2) := H
                  have A49 := Aside0.mk A490
                  clear A490
                  replace H := Option.bind_eq_some_iff.mp H
                  obtain ⟨t351, A500, H⟩ := H
                  replace H : ((spec_l11Put.f t344 x349001_2 a1 x11_2 t351).bind fun t352 => ((spec_l11At.f a0_0 l0_1 x11_2 a1).bind fun t353 => ((spec_l11Add.f t353 (wrap64 (-a3))).bind fun t354 => ((spec_l8Max.f (-1099511627776) t354).bind fun t355 => ((spec_l11Put.f t344 t352 x11_2 a1 t355).bind fun t356 => (spec_GapsMove.l0 k2 a1 a3 (wrap64 (x11_2 + 1)) a0_0 l0_1 t344 t356)))))) = some (r1, r2) := H
                  have A50 := Aside0.mk A500
                  clear A500
                  replace H := Option.bind_eq_some_iff.mp H
                  obtain ⟨t352, A510, H⟩ := H
                  replace H : ((spec_l11At.f a0_0 l0_1 x11_2 a1).bind fun t353 => ((spec_l11Add.f t353 (wrap64 (-a3))).bind fun t354 => ((spec_l8Max.f (-1099511627776) t354).bind fun t355 => ((spec_l11Put.f t344 t352 x11_2 a1 t355).bind fun t356 => (spec_GapsMove.l0 k2 a1 a3 (wrap64 (x11_2 + 1)) a0_0 l0_1 t344 t356))))) = some (r1, r2) := H
                  have A51 := Aside0.mk A510
                  clear A510
                  replace H := Option.bind_eq_some_iff.mp H
                  obtain ⟨t353, A520, H⟩ := H
                  replace H : ((spec_l11Add.f t353 (wrap64 (-a3))).bind fun t354 => ((spec_l8Max.f (-1099511627776) t354).bind fun t355 => ((spec_l11Put.f t344 t352 x11_2 a1 t355).bind fun t356 => (spec_GapsMove.l0 k2 a1 a3 (wrap64 (x11_2 + 1)) a0_0 l0_1 t344 t356)))) = some (r1, r2) := H
                  have A52 := Aside0.mk A520
                  clear A520
                  replace H := Option.bind_eq_some_iff.mp H
                  obtain ⟨t354, A530, H⟩ := H
                  replace H : ((spec_l8Max.f (-1099511627776) t354).bind fun t355 => ((spec_l11Put.f t344 t352 x11_2 a1 t355).bind fun t356 => (spec_GapsMove.l0 k2 a1 a3 (wrap64 (x11_2 + 1)) a0_0 l0_1 t344 t356))) = some (r1, r2) := H
                  have A53 := Aside0.mk A530
                  clear A530
                  replace H := Option.bind_eq_some_iff.mp H
                  obtain ⟨t355, A540, H⟩ := H
                  replace H : ((spec_l11Put.f t344 t352 x11_2 a1 t355).bind fun t356 => (spec_GapsMove.l0 k2 a1 a3 (wrap64 (x11_2 + 1)) a0_0 l0_1 t344 t356)) = some (r1, r2) := H
                  have A54 := Aside0.mk A540
                  clear A540
                  replace H := Option.bind_eq_some_iff.mp H
                  obtain ⟨t356, A550, H⟩ := H
                  replace H : (spec_GapsMove.l0 k2 a1 a3 (wrap64 (x11_2 + 1)) a0_0 l0_1 t344 t356) = some (r1, r2) := H
                  have A55 := Aside0.mk A550
                  clear A550
                  have H' := Aside0.mk H
                  clear H
                  have hnb56 := NB331_332.out
                  have hnc56 := NB332_331.out
                  have hnb57 := NB331_348.out
                  have hnc57 := NB348_331.out
                  obtain ⟨hcz58_0, hcz58_1, hfz58_0, hfz58_1⟩ := sqc2 BK331
                  try go_wp2
                  replace HO_349001 := Aside0.mk (Kd.R_drew HO_349001.out)
                  replace BK331 := Aside0.mk (blk_drew BK331.out)
                  replace BK332 := Aside0.mk (blk_drew BK332.out)
                  replace BK348 := Aside0.mk (blk_drew BK348.out)
                  replace HB := Aside0.mk (below_drew1 HB.out)
                  refine start_ (n := 11) (S := fun w' => w'.cell? ⟨gb348, 0, none⟩ = some (.int .i64 t344) ∧ w'.cell? ⟨gb348, 1, none⟩ = some (u349001) ∧ w'.cell? ⟨gb331, 0, none⟩ = some (.int .i64 a0_0) ∧ w'.cell? ⟨gb331, 1, none⟩ = some (.slice A0_1 l0_1.length c0_1)) (ds := []) #[false, false, false, false, false, false, false, false, false, false, false] (by kernel_rfl) rfl rfl ⟨(blk_cell BK348.out 0).trans rfl, (blk_cell BK348.out 1).trans rfl, (blk_cell BK331.out 0).trans rfl, (blk_cell BK331.out 1).trans rfl⟩ (fun hHeld => ?_); refine with_tabW spec_GapsMove.tab13 spec_GapsMove.bits13 (fun HT_ HW_ => ?_)
                  generalize wr.drew = w59 at HO_349001 BK331 BK332 BK348 HB hHeld ⊢
                  refine sqp HT_ 1 65 ?_
                  refine sqp HT_ 2 66 ?_
                  refine sqp HT_ 4 68 ?_
                  refine sqp HT_ 5 69 ?_
                  refine sqp HT_ 7 71 ?_
                  refine sqw HT_ HW_ 0 64 hHeld ?_
                  refine sqw HT_ HW_ 3 67 hHeld ?_
                  refine sqo HT_ 6 70 (fun K hK => ?_)
                  refine sqG Try.func115 #[.agg #[.int .i64 a0_0, .slice A0_1 l0_1.length c0_1], .int .i64 a1, .int .i64 x11_2] ?_
                  with_reducible refine (spec_l11At.calls a0_0 _ _ l0_1 a1 x11_2 t349 _ ?side1 ?side2 A48.out).mono ?_
                  (case side1 => repeat (first | exact (Kd.C_below HR0_1.out HB.out) | (with_reducible refine Kd.C_alloc ?_ _) | (with_reducible refine Kd.C_drewN ?_ _) | (with_reducible refine Kd.C_drew ?_)))
                  (case side2 => exact HC0_1.out)
                  rintro e w60 ⟨rfl, hb⟩
                  refine ⟨_, rfl, ?_⟩
                  have n0_ := Aside0.mk (Kd.R_below (by (with_reducible repeat (first | apply Kd.R_alloc | apply Kd.R_drewN | apply Kd.R_drew)); exact HO_349001.out) hb)
                  have n1_ := sqb BK331 hb
                  have n2_ := sqb BK332 hb
                  have n3_ := sqb BK348 hb
                  have n4_ := sqs HB hb
                  clear HO_349001
                  clear BK331
                  clear BK332
                  clear BK348
                  clear HB
                  have HO_349001 := n0_
                  have BK331 := n1_
                  have BK332 := n2_
                  have BK348 := n3_
                  have HB := n4_
                  clear n0_ n1_ n2_ n3_ n4_
                  (try clear hb)
                  refine hK.out _ _ sqz (fun hHeld => ?_)
                  clear hK K
                  refine sqnm ?_
                  refine sqo HT_ 8 72 (fun K hK => ?_)
                  refine sqG Try.func114 #[.int .i64 t349, .int .i64 a3] ?_
                  with_reducible refine (spec_l11Add.calls t349 a3 t350 _ A49.out).mono ?_
                  rintro e w' ⟨rfl, ⟨nd, rfl⟩⟩
                  refine ⟨_, rfl, ?_⟩
                  refine hK.out _ _ sqz (fun hHeld => ?_)
                  clear hK K
                  refine sqnm ?_
                  refine sqo HT_ 9 73 (fun K hK => ?_)
                  refine sqG Try.func122 #[.int .i64 (-1099511627776), .int .i64 t350] ?_
                  with_reducible refine (spec_l8Max.calls (-1099511627776) t350 t351 _ A50.out).mono ?_
                  rintro e w' ⟨rfl, ⟨nd, rfl⟩⟩
                  refine ⟨_, rfl, ?_⟩
                  obtain ⟨Ao61, co61, eo61⟩ := Kd.R_slice HO_349001.out
                  (first | subst eo61 | (injection eo61 with f1_ f2_ f3_; have f4_ := f1_.symm; have f5_ := f3_.symm; clear f1_ f2_ f3_; subst f4_; subst f5_))
                  refine hK.out _ _ sqz (fun hHeld => ?_)
                  clear hK K
                  refine sqnm ?_
                  refine sqo HT_ 10 74 (fun K hK => ?_)
                  refine sqG Try.func116 #[.agg #[.int .i64 t344, .slice Ao61 x349001_2.length co61], .int .i64 a1, .int .i64 x11_2, .int .i64 t351] ?_
                  with_reducible refine (spec_l11Put.calls t344 (fun k_ => some k_ = (.slice Ao61 x349001_2.length co61 : Value).ownBlock) (.slice Ao61 x349001_2.length co61) x349001_2 a1 x11_2 t351 t352 w _ ?side1 ?side2 A51.out).mono ?_
                  (case side1 => repeat (first | (with_reducible first | exact HB.out | apply below_alloc | apply pw_below_drewN | apply below_drew1 | refine below_set ?_ GE331.out | refine below_set ?_ GE332.out | refine below_set ?_ GE348.out) | exact HB.out))
                  (case side2 => exact Kd.R_tight rfl HO_349001.out)
                  rintro e w62 ⟨rfl, hy0, hb, hkp⟩
                  refine ⟨_, rfl, ?_⟩
                  have n0_ := Aside0.mk (Kd.R_reok rfl hy0 (fun k_ e_ => HO_349001.out.1 k_ e_))
                  have n1_ := Aside0.mk (blk_kept (by refine sqt ?_; exact BK331.out) hkp (fun hs_ => (fun e_ => (Kd.R_ne HO_349001.out BK331.out (by decide)) e_) hs_))
                  have n2_ := Aside0.mk (blk_kept (by refine sqt ?_; exact BK332.out) hkp (fun hs_ => (fun e_ => (Kd.R_ne HO_349001.out BK332.out (by decide)) e_) hs_))
                  have n3_ := Aside0.mk (blk_kept (by refine sqt ?_; exact BK348.out) hkp (fun hs_ => (fun e_ => (Kd.R_ne HO_349001.out BK348.out (by decide)) e_) hs_))
                  have n4_ := Aside0.mk (hb)
                  clear HO_349001
                  clear BK331
                  clear BK332
                  clear BK348
                  clear HB
                  have HO_349001 := n0_
                  have BK331 := n1_
                  have BK332 := n2_
                  have BK348 := n3_
                  have HB := n4_
                  clear n0_ n1_ n2_ n3_ n4_
                  (try clear hb)
                  (try clear hkp)
                  (try clear hy0)
                  refine hK.out _ _ sqz (fun hHeld => ?_)
                  clear hK K
                  refine sqnm ?_
                  refine done_ (done_of HT_.out (by kernel_rfl)) ?_
                  try go_wp2
                  replace HO_349001 := Aside0.mk (Kd.R_drew HO_349001.out)
                  replace BK331 := Aside0.mk (blk_drew BK331.out)
                  replace BK332 := Aside0.mk (blk_drew BK332.out)
                  replace BK348 := Aside0.mk (blk_drew BK348.out)
                  replace HB := Aside0.mk (below_drew1 HB.out)
                  refine start_ (n := 12) (S := fun w' => w'.cell? ⟨gb348, 0, none⟩ = some (.int .i64 t344) ∧ w'.cell? ⟨gb348, 1, none⟩ = some (.slice Ao61 x349001_2.length co61) ∧ w'.cell? ⟨gb331, 0, none⟩ = some (.int .i64 a0_0) ∧ w'.cell? ⟨gb331, 1, none⟩ = some (.slice A0_1 l0_1.length c0_1)) (ds := []) #[false, false, false, false, false, false, false, false, false, false, false, false] (by kernel_rfl) rfl rfl ⟨(blk_cell BK348.out 0).trans rfl, (blk_cell BK348.out 1).trans rfl, (blk_cell BK331.out 0).trans rfl, (blk_cell BK331.out 1).trans rfl⟩ (fun hHeld => ?_); refine with_tabW spec_GapsMove.tab14 spec_GapsMove.bits14 (fun HT_ HW_ => ?_)
                  generalize w62.drew = w63 at HO_349001 BK331 BK332 BK348 HB hHeld ⊢
                  refine sqp HT_ 1 76 ?_
                  refine sqp HT_ 2 77 ?_
                  refine sqp HT_ 4 79 ?_
                  refine sqp HT_ 5 80 ?_
                  refine sqp HT_ 7 82 ?_
                  refine sqp HT_ 8 83 ?_
                  refine sqw HT_ HW_ 0 75 hHeld ?_
                  refine sqw HT_ HW_ 3 78 hHeld ?_
                  refine sqo HT_ 6 81 (fun K hK => ?_)
                  refine sqG Try.func115 #[.agg #[.int .i64 a0_0, .slice A0_1 l0_1.length c0_1], .int .i64 x11_2, .int .i64 a1] ?_
                  with_reducible refine (spec_l11At.calls a0_0 _ _ l0_1 x11_2 a1 t353 _ ?side1 ?side2 A52.out).mono ?_
                  (case side1 => repeat (first | exact (Kd.C_below HR0_1.out HB.out) | (with_reducible refine Kd.C_alloc ?_ _) | (with_reducible refine Kd.C_drewN ?_ _) | (with_reducible refine Kd.C_drew ?_)))
                  (case side2 => exact HC0_1.out)
                  rintro e w64 ⟨rfl, hb⟩
                  refine ⟨_, rfl, ?_⟩
                  have n0_ := Aside0.mk (Kd.R_below (by (with_reducible repeat (first | apply Kd.R_alloc | apply Kd.R_drewN | apply Kd.R_drew)); exact HO_349001.out) hb)
                  have n1_ := sqb BK331 hb
                  have n2_ := sqb BK332 hb
                  have n3_ := sqb BK348 hb
                  have n4_ := sqs HB hb
                  clear HO_349001
                  clear BK331
                  clear BK332
                  clear BK348
                  clear HB
                  have HO_349001 := n0_
                  have BK331 := n1_
                  have BK332 := n2_
                  have BK348 := n3_
                  have HB := n4_
                  clear n0_ n1_ n2_ n3_ n4_
                  (try clear hb)
                  refine hK.out _ _ sqz (fun hHeld => ?_)
                  clear hK K
                  refine sqnm ?_
                  refine sqo HT_ 9 84 (fun K hK => ?_)
                  refine sqG Try.func114 #[.int .i64 t353, .int .i64 (wrap64 (-a3))] ?_
                  with_reducible refine (spec_l11Add.calls t353 (wrap64 (-a3)) t354 _ A53.out).mono ?_
                  rintro e w' ⟨rfl, ⟨nd, rfl⟩⟩
                  refine ⟨_, rfl, ?_⟩
                  refine hK.out _ _ sqz (fun hHeld => ?_)
                  clear hK K
                  refine sqnm ?_
                  refine sqo HT_ 10 85 (fun K hK => ?_)
                  refine sqG Try.func122 #[.int .i64 (-1099511627776), .int .i64 t354] ?_
                  with_reducible refine (spec_l8Max.calls (-1099511627776) t354 t355 _ A54.out).mono ?_
                  rintro e w' ⟨rfl, ⟨nd, rfl⟩⟩
                  refine ⟨_, rfl, ?_⟩
                  refine hK.out _ _ sqz (fun hHeld => ?_)
                  clear hK K
                  refine sqnm ?_
                  refine sqo HT_ 11 86 (fun K hK => ?_)
                  refine sqG Try.func116 #[.agg #[.int .i64 t344, .slice Ao61 x349001_2.length co61], .int .i64 x11_2, .int .i64 a1, .int .i64 t355] ?_
                  with_reducible refine (spec_l11Put.calls t344 (fun k_ => some k_ = (.slice Ao61 x349001_2.length co61 : Value).ownBlock) (.slice Ao61 x349001_2.length co61) t352 x11_2 a1 t355 t356 w _ ?side1 ?side2 A55.out).mono ?_
                  (case side1 => repeat (first | (with_reducible first | exact HB.out | apply below_alloc | apply pw_below_drewN | apply below_drew1 | refine below_set ?_ GE331.out | refine below_set ?_ GE332.out | refine below_set ?_ GE348.out) | exact HB.out))
                  (case side2 => exact Kd.R_tight rfl HO_349001.out)
                  rintro e w65 ⟨rfl, hy0, hb, hkp⟩
                  refine ⟨_, rfl, ?_⟩
                  have n0_ := Aside0.mk (Kd.R_reok rfl hy0 (fun k_ e_ => HO_349001.out.1 k_ e_))
                  have n1_ := Aside0.mk (blk_kept (by refine sqt ?_; exact BK331.out) hkp (fun hs_ => (fun e_ => (Kd.R_ne HO_349001.out BK331.out (by decide)) e_) hs_))
                  have n2_ := Aside0.mk (blk_kept (by refine sqt ?_; exact BK332.out) hkp (fun hs_ => (fun e_ => (Kd.R_ne HO_349001.out BK332.out (by decide)) e_) hs_))
                  have n3_ := Aside0.mk (blk_kept (by refine sqt ?_; exact BK348.out) hkp (fun hs_ => (fun e_ => (Kd.R_ne HO_349001.out BK348.out (by decide)) e_) hs_))
                  have n4_ := Aside0.mk (hb)
                  clear HO_349001
                  clear BK331
                  clear BK332
                  clear BK348
                  clear HB
                  have HO_349001 := n0_
                  have BK331 := n1_
                  have BK332 := n2_
                  have BK348 := n3_
                  have HB := n4_
                  clear n0_ n1_ n2_ n3_ n4_
                  (try clear hb)
                  (try clear hkp)
                  (try clear hy0)
                  refine hK.out _ _ sqz (fun hHeld => ?_)
                  clear hK K
                  refine sqnm ?_
                  refine done_ (done_of HT_.out (by kernel_rfl)) ?_
                  try go_wp2
                  go_roundg k2
                  case measure => have := HJ4.out; have := HK2.out; omega
                  case rel => exact ⟨(wrap64 (x11_2 + 1)), (t356), (.slice Ao61 x349001_2.length co61), (by first | rfl | (simp; done) | (simp [*]; done)), H', ⟨by have := HJ4.out; have := HK2.out; omega⟩, ⟨by (with_reducible repeat (first | apply Kd.R_alloc | apply Kd.R_drewN | apply Kd.R_drew)); exact HO_349001.out⟩, sqk BK331, sqk BK332, sqk BK348, sqh HB⟩
              · rw [if_neg c43] at H
                have c43b0 : decide (x11_2 ≤ a0_0) = false := decide_eq_false c43
                clear c43
                simp only [Option.some.injEq, Prod.mk.injEq] at H
                obtain ⟨rfl, rfl⟩ := H
                have hnb66 := NB331_332.out
                have hnc66 := NB332_331.out
                have hnb67 := NB331_348.out
                have hnc67 := NB348_331.out
                obtain ⟨hcz68_0, hcz68_1, hfz68_0, hfz68_1⟩ := sqc2 BK331
                have hnb69 := NB348_332.out
                have hnc69 := NB332_348.out
                obtain ⟨hcz70_0, hcz70_1, hfz70_0, hfz70_1⟩ := sqc2 BK348
                obtain ⟨hcz71_0, hcz71_1, hfz71_0, hfz71_1⟩ := sqc2 BK332
                obtain ⟨Ao72, co72, eo72⟩ := Kd.R_slice HO_349001.out
                subst eo72
                go_wp2
                refine bodyPost_ret (results_cell_row rfl _ _ gb332 41 #[.int .i64 t344, .slice Ao72 x349001_2.length co72] (0, 0) _ rfl (by refine sqt ?_; refine blk_put (cs := #[.int .i64 t344, .slice none 0 0]) ?_ 1 _ rfl; refine sqt ?_; refine blk_put (cs := #[.int .i64 0, .slice none 0 0]) ?_ 0 _ rfl; refine sqt ?_; exact BK332.out) Try.underlying41 rfl (by kernel_rfl)) rfl ?_
                exact ⟨_, by first | rfl | (simp [errW_none, errW_some] <;> rfl) | (simp [*, errW_none, errW_some] <;> rfl), by (with_reducible repeat (first | apply Kd.R_alloc | apply Kd.R_drewN | apply Kd.R_drew)); exact Kd.R_mono (Kd.R_far (p := ⟨gb332, 1, none⟩) (Kd.R_far (p := ⟨gb332, 0, none⟩) (Kd.R_types HO_349001.out BK332.out (by decide)) (fun _ hk => hk.2) (.int .i64 t344)) (fun _ hk => hk.2) (.slice Ao72 x349001_2.length co72)) (fun _ hk => trivial), by repeat (first | (with_reducible first | exact HB.out | apply below_alloc | apply pw_below_drewN | apply below_drew1 | refine below_set ?_ GE331.out | refine below_set ?_ GE332.out | refine below_set ?_ GE348.out) | exact HB.out)⟩
        · rw [if_neg c33] at H
          have c33b0 : (a1 == a2) = false := beq_eq_false_iff_ne.mpr c33
          have c33b1 : (a1 != a2) = true := bne_iff_ne.mpr c33
          replace H := Option.bind_eq_some_iff.mp H
          obtain ⟨⟨t337, t338⟩, A730, H⟩ := H
          replace H : ((spec_l11Put.f t337 t338 a1 a2 a3).bind fun t342 => ((spec_l11Put.f t337 t342 a2 a1 (wrap64 (-a3))).bind fun t343 => (some (t337, t343)))) = some (r1, r2) := H
          have A73 := Aside0.mk A730
          clear A730
          replace H := Option.bind_eq_some_iff.mp H
          obtain ⟨t342, A740, H⟩ := H
          replace H : ((spec_l11Put.f t337 t342 a2 a1 (wrap64 (-a3))).bind fun t343 => (some (t337, t343))) = some (r1, r2) := H
          have A74 := Aside0.mk A740
          clear A740
          replace H := Option.bind_eq_some_iff.mp H
          obtain ⟨t343, A750, H⟩ := H
          replace H : (some (t337, t343)) = some (r1, r2) := H
          have A75 := Aside0.mk A750
          clear A750
          simp only [Option.some.injEq, Prod.mk.injEq] at H
          obtain ⟨rfl, rfl⟩ := H
          have hnb76 := NB331_332.out
          have hnc76 := NB332_331.out
          obtain ⟨hcz77_0, hcz77_1, hfz77_0, hfz77_1⟩ := sqc2 BK331
          go_wp2_with (first | ((with_reducible refine gate_callee (f := 51) rfl ?_); refine sqL (some 40) Try.func51 #[.agg #[.int .i64 a0_0, .slice A0_1 l0_1.length c0_1], .int .i64 a1] ?_; (with_reducible refine (spec_GapsForget.calls kj4 a0_0 _ _ l0_1 a1 t337 t338 _ ?side1 ?side2 A73.out).mono ?_); (case side1 => repeat (first | exact (Kd.C_below HR0_1.out HB.out) | (with_reducible refine Kd.C_alloc ?_ _) | (with_reducible refine Kd.C_drewN ?_ _) | (with_reducible refine Kd.C_drew ?_))); (case side2 => exact HC0_1.out); rintro e w78 ⟨v339, rfl, ho0, hb⟩; refine ⟨_, rfl, ?_⟩; have HO340 := Aside0.mk (Kd.R_lower ho0 (below_size (by repeat (first | (with_reducible first | exact HB.out | apply below_alloc | apply pw_below_drewN | apply below_drew1 | refine below_set ?_ GE331.out | refine below_set ?_ GE332.out) | exact HB.out)))); replace BK331 := sqb BK331 hb; replace BK332 := sqb BK332 hb; replace HB := sqs HB hb; (try clear hb); (try clear hb2); (try clear hk); (try clear hi); (try clear ho0)) | ((with_reducible refine gate_dst (N := 9) rfl ?_); refine sqx 9 #[.int .i64 0, .slice none 0 0] 41 ?_; intro gb341 hg w79 hbox hb; have n0_ := Aside0.mk (Kd.R_below (by (with_reducible repeat (first | apply Kd.R_alloc | apply Kd.R_drewN | apply Kd.R_drew)); exact HO340.out) hb); have n1_ := sqb BK331 hb; have n2_ := sqb BK332 hb; have n3_ := sqs HB hb; have n4_ := Aside0.mk (hbox); have n5_ := sqg HB hg; have n6_ := sqg HB hg; have n7_ := sqn BK331 hg; have n8_ := sqm BK331 hg; have n9_ := sqn BK332 hg; have n10_ := sqm BK332 hg; clear HO340; clear BK331; clear BK332; clear HB; have HO340 := n0_; have BK331 := n1_; have BK332 := n2_; have HB := n3_; have BK341 := n4_; have GW341 := n5_; have GE341 := n6_; have NB331_341 := n7_; have NB341_331 := n8_; have NB332_341 := n9_; have NB341_332 := n10_; clear n0_ n1_ n2_ n3_ n4_ n5_ n6_ n7_ n8_ n9_ n10_; clear hb hbox hg; have hnb80 := NB341_331.out; have hnc80 := NB331_341.out; have hnb81 := NB341_332.out; have hnc81 := NB332_341.out; obtain ⟨hcz82_0, hcz82_1, hfz82_0, hfz82_1⟩ := sqc2 BK341; obtain ⟨Ao83, co83, eo83⟩ := Kd.R_slice HO340.out; subst eo83) | ((with_reducible refine gate_store (t := 41) (p := 9) rfl ?_); refine store_event (t := 41) (p := 9) (v := ?vo_w84) (w1 := ((w79.setCell ⟨gb341, 0, none⟩ (.int .i64 t337)).setCell ⟨gb341, 1, none⟩ (.slice Ao83 t338.length co83))) ?hg ?ho ?hn ?hr ?_; (case ho => rfl); (case hg => rfl); (case hn => rfl); (case hr => first | (go_simp; done) | (go_simp; rfl)); intro w84 hw; have n0_ : Aside0 (Kd.R (Kd.int .i64) 3 w84 w.heap.size (fun _ => True) (.slice Ao83 t338.length co83) t338) := ⟨(by rw [hw]; exact (by (with_reducible repeat (first | apply Kd.R_alloc | apply Kd.R_drewN | apply Kd.R_drew)); exact Kd.R_mono (Kd.R_far (p := ⟨gb341, 1, none⟩) (Kd.R_far (p := ⟨gb341, 0, none⟩) (Kd.R_types HO340.out BK341.out (by decide)) (fun _ hk => hk.2) (.int .i64 t337)) (fun _ hk => hk.2) (.slice Ao83 t338.length co83)) (fun _ hk => trivial)))⟩; have n1_ : Aside0 (w84.heap[gb331]? = some (.cells #[.int .i64 a0_0, .slice A0_1 l0_1.length c0_1] 41 (0, 0))) := ⟨(by rw [hw]; exact (by refine sqt ?_; refine blk_far ?_ NB331_341.out _; refine sqt ?_; refine blk_far ?_ NB331_341.out _; refine sqt ?_; exact BK331.out))⟩; have n2_ : Aside0 (w84.heap[gb332]? = some (.cells #[.int .i64 0, .slice none 0 0] 41 (0, 0))) := ⟨(by rw [hw]; exact (by refine sqt ?_; refine blk_far ?_ NB332_341.out _; refine sqt ?_; refine blk_far ?_ NB332_341.out _; refine sqt ?_; exact BK332.out))⟩; have n3_ : Aside0 (w84.heap[gb341]? = some (.cells #[.int .i64 t337, .slice Ao83 t338.length co83] 41 (0, 0))) := ⟨(by rw [hw]; exact (by refine sqt ?_; refine blk_put (cs := #[.int .i64 t337, .slice none 0 0]) ?_ 1 _ rfl; refine sqt ?_; refine blk_put (cs := #[.int .i64 0, .slice none 0 0]) ?_ 0 _ rfl; refine sqt ?_; exact BK341.out))⟩; have n4_ : Aside0 (Below w.heap.size w w84) := ⟨(by rw [hw]; exact (by repeat (first | (with_reducible first | exact HB.out | apply below_alloc | apply pw_below_drewN | apply below_drew1 | refine below_set ?_ GE331.out | refine below_set ?_ GE332.out | refine below_set ?_ GE341.out) | exact HB.out)))⟩; clear hw; clear HO340; clear BK331; clear BK332; clear BK341; clear HB; have HO340 := n0_; have BK331 := n1_; have BK332 := n2_; have BK341 := n3_; have HB := n4_; clear n0_ n1_ n2_ n3_ n4_; obtain ⟨hcz85_0, hcz85_1, hfz85_0, hfz85_1⟩ := sqc2 BK341) | ((with_reducible refine gate_callee (f := 116) rfl ?_); refine sqL (some 45) Try.func116 #[.agg #[.int .i64 t337, .slice Ao83 t338.length co83], .int .i64 a1, .int .i64 a2, .int .i64 a3] ?_; (with_reducible refine (spec_l11Put.calls t337 (fun k_ => some k_ = (.slice Ao83 t338.length co83 : Value).ownBlock) (.slice Ao83 t338.length co83) t338 a1 a2 a3 t342 w _ ?side1 ?side2 A74.out).mono ?_); (case side1 => repeat (first | (with_reducible first | exact HB.out | apply below_alloc | apply pw_below_drewN | apply below_drew1 | refine below_set ?_ GE331.out | refine below_set ?_ GE332.out | refine below_set ?_ GE341.out) | exact HB.out)); (case side2 => exact Kd.R_tight rfl HO340.out); rintro e w86 ⟨rfl, hy0, hb, hkp⟩; refine ⟨_, rfl, ?_⟩; have n0_ := Aside0.mk (blk_kept (by refine sqt ?_; exact BK331.out) hkp (fun hs_ => (fun e_ => (Kd.R_ne HO340.out BK331.out (by decide)) e_) hs_)); have n1_ := Aside0.mk (blk_kept (by refine sqt ?_; exact BK332.out) hkp (fun hs_ => (fun e_ => (Kd.R_ne HO340.out BK332.out (by decide)) e_) hs_)); have n2_ := Aside0.mk (Kd.R_reok rfl hy0 (fun k_ e_ => HO340.out.1 k_ e_)); have n3_ := Aside0.mk (blk_kept (by refine sqt ?_; exact BK341.out) hkp (fun hs_ => (fun e_ => (Kd.R_ne HO340.out BK341.out (by decide)) e_) hs_)); have n4_ := Aside0.mk (hb); clear BK331; clear BK332; clear HO340; clear BK341; clear HB; have BK331 := n0_; have BK332 := n1_; have HO340 := n2_; have BK341 := n3_; have HB := n4_; clear n0_ n1_ n2_ n3_ n4_; (try clear hb); (try clear hkp); (try clear hy0); obtain ⟨hcz87_0, hcz87_1, hfz87_0, hfz87_1⟩ := sqc2 BK341) | ((with_reducible refine gate_callee (f := 116) rfl ?_); refine sqL (some 51) Try.func116 #[.agg #[.int .i64 t337, .slice Ao83 t338.length co83], .int .i64 a2, .int .i64 a1, .int .i64 (wrap64 (-a3))] ?_; (with_reducible refine (spec_l11Put.calls t337 (fun k_ => some k_ = (.slice Ao83 t338.length co83 : Value).ownBlock) (.slice Ao83 t338.length co83) t342 a2 a1 (wrap64 (-a3)) t343 w _ ?side1 ?side2 A75.out).mono ?_); (case side1 => repeat (first | (with_reducible first | exact HB.out | apply below_alloc | apply pw_below_drewN | apply below_drew1 | refine below_set ?_ GE331.out | refine below_set ?_ GE332.out | refine below_set ?_ GE341.out) | exact HB.out)); (case side2 => exact Kd.R_tight rfl HO340.out); rintro e w88 ⟨rfl, hy0, hb, hkp⟩; refine ⟨_, rfl, ?_⟩; have n0_ := Aside0.mk (blk_kept (by refine sqt ?_; exact BK331.out) hkp (fun hs_ => (fun e_ => (Kd.R_ne HO340.out BK331.out (by decide)) e_) hs_)); have n1_ := Aside0.mk (blk_kept (by refine sqt ?_; exact BK332.out) hkp (fun hs_ => (fun e_ => (Kd.R_ne HO340.out BK332.out (by decide)) e_) hs_)); have n2_ := Aside0.mk (Kd.R_reok rfl hy0 (fun k_ e_ => HO340.out.1 k_ e_)); have n3_ := Aside0.mk (blk_kept (by refine sqt ?_; exact BK341.out) hkp (fun hs_ => (fun e_ => (Kd.R_ne HO340.out BK341.out (by decide)) e_) hs_)); have n4_ := Aside0.mk (hb); clear BK331; clear BK332; clear HO340; clear BK341; clear HB; have BK331 := n0_; have BK332 := n1_; have HO340 := n2_; have BK341 := n3_; have HB := n4_; clear n0_ n1_ n2_ n3_ n4_; (try clear hb); (try clear hkp); (try clear hy0); obtain ⟨hcz89_0, hcz89_1, hfz89_0, hfz89_1⟩ := sqc2 BK341; obtain ⟨hcz90_0, hcz90_1, hfz90_0, hfz90_1⟩ := sqc2 BK332))
          refine bodyPost_ret (results_cell_row rfl _ _ gb332 41 #[.int .i64 t337, .slice Ao83 t338.length co83] (0, 0) _ rfl (by refine sqt ?_; refine blk_put (cs := #[.int .i64 t337, .slice none 0 0]) ?_ 1 _ rfl; refine sqt ?_; refine blk_put (cs := #[.int .i64 0, .slice none 0 0]) ?_ 0 _ rfl; refine sqt ?_; exact BK332.out) Try.underlying41 rfl (by kernel_rfl)) rfl ?_
          exact ⟨_, by first | rfl | (simp [errW_none, errW_some] <;> rfl) | (simp [*, errW_none, errW_some] <;> rfl), by (with_reducible repeat (first | apply Kd.R_alloc | apply Kd.R_drewN | apply Kd.R_drew)); exact Kd.R_mono (Kd.R_far (p := ⟨gb332, 1, none⟩) (Kd.R_far (p := ⟨gb332, 0, none⟩) (Kd.R_types HO340.out BK332.out (by decide)) (fun _ hk => hk.2) (.int .i64 t337)) (fun _ hk => hk.2) (.slice Ao83 t338.length co83)) (fun _ hk => trivial), by repeat (first | (with_reducible first | exact HB.out | apply below_alloc | apply pw_below_drewN | apply below_drew1 | refine below_set ?_ GE331.out | refine below_set ?_ GE332.out | refine below_set ?_ GE341.out) | exact HB.out)⟩

end Go.Proofs.Ytkekcenlleebeaa.PFnGapsBack
